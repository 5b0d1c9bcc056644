/- Parts: SlQ SlM PolE SlN PolB SlF -/
import Derived.Test.YteojanlajhebhaaGreatDoorGs0
import Derived.Test.YteojanlajhebhaaGreatDoorGs5
set_option maxRecDepth 100000
set_option maxHeartbeats 12800000
namespace Go.Proofs.YteojanlajhebhaaGreatDoor
open Go.RowKit
theorem ajM (g:FuncId) (lb:Array Value) (eg:Enters Tryz.prog g) (p:jl→Bool) (A:Option Addr) (m c:Nat) (l:List jl) (w:World) (h:dH w 1 anj A m l) (hm:m≤9223372036854775807) (hp:Ko Tryz.prog g lb aoz p l w) :
 Calls Tryz.prog 91 #[.slice A m c,.func (.func g) #[] lb] w fun e w'=>e =.returned (.int .i64 (placeOf p l))∧ah w w':=by
 have hlen:=h.1;unfold Enters at eg;obtain⟨R,hR⟩:∃R,R=placeOf p l:=⟨_,rfl⟩;rw[←hR];replace hR:=ζ hR;replace hp:=ζ hp;replace h:=ζ h;go_enter Tryz.func91,Tryz.ntmps91
 go_wp2;go_loopw [5,8] (fun _ i wr=>∃k:Nat,k≤m∧i =.int .i64 k∧Hid (∀j y,j < k→l[j]? = some y→p y = false)∧Hid (ah w wr)) (fun _ i _=>m - (intOf i).toNat)
 case atStart=>exact⟨0,ω,rfl,fun _ _ h=>absurd h ω,ah.refl _⟩
 case round=>
  obtain⟨k,hk,rfl,hall,hg⟩:=hrel;by_cases hlt:k<m
  ·obtain⟨b,off,x,rfl,_,hx,hcell⟩:=(h.o.keep hg.o).at_ hlt;have c0:wr.cell? ⟨b,off+k,none⟩=some (.slice x.A x.m x.k):=by simpa using hcell 0 _ rfl
   have j_:(k:Int)<(m:Int):=ω;have cI:=hp.o x (List.mem_of_getElem? hx) wr hg.o;unfold aoz at cI;cases hq:p x with
   | false=>
    rw[hq] at cI;replace cI:=ζ cI;have jV:=ζ (show ∀j y,j < k+1→l[j]? = some y→p y = false from fun j y hj hy=>by
     by_cases hjk:j = k
     ·subst hjk;rw[hx] at hy;rw[←Option.some.inj hy];exact hq
     ·exact hall.o j y ω hy)
    clear hcell hq hx hall hR;go_wp2_with fail;refine (cI.out).mono ?_;rintro e w1 ⟨rfl,hb⟩;have hg1:=ζ (hg.o.trans hb);go_wp2;go_roundw
    case rel=>exact⟨k+1,ω,ν,jV,hg1⟩
    case measure=>exact ψ
   | true=>
    rw[hq] at cI;have aQ:Hid (R=(k:Int)):=ζ (by rw[hR.o];exact nZ hx hq hall.o);replace cI:=ζ cI;clear hcell hq hx hall hR;go_wp2_with fail;refine (cI.out).mono ?_;rintro e w1 ⟨rfl,hb⟩;have hg1:=ζ (hg.o.trans hb);go_wp2;go_ret;exact⟨by rw[aQ.o];rfl,hg1.o⟩
  ·obtain rfl:k=m:=ω;have aQ:Hid (R=-1):=ζ (by rw[hR.o];exact lM fun j y hy=>hall.o j y (by have:=(List.getElem?_eq_some_iff.1 hy).1;omega) hy);clear hall hR;go_wp2;go_ret;exact⟨by rw[aQ.o];rfl,hg.o⟩
theorem ala (g:FuncId) (lb:Array Value) (eg:Enters Tryz.prog g) (p:jl→Bool) (A:Option Addr) (m c:Nat) (l:List jl) (w:World) (h:dH w 1 anj A m l) (hm:m≤9223372036854775807) (hp:Ko Tryz.prog g lb aoz p l w) :
 Calls Tryz.prog 54 #[.slice A m c,.func (.func g) #[] lb] w fun e w'=>e =.returned (.bool (l.any p))∧ah w w':=by
 have cI:=ajM (c:=c) g lb eg p A m l w h hm hp;replace cI:=ζ cI;have aQ:=ζ (nG p l);clear h hp;go_enter Tryz.func54,Tryz.ntmps54
 go_wp2_with fail;refine cI.out.mono ?_;rintro e w1 ⟨rfl,hb⟩;go_wp2;go_ret;exact⟨aU aQ.o,hb⟩
theorem ajO (g:FuncId) (lb:Array Value) (eg:Enters Tryz.prog g) (p:jq→Bool) (A:Option Addr) (m c:Nat) (l:List jq) (w:World) (h:dH w 3 Tz A m l) (hm:m≤9223372036854775807) (hp:Ko Tryz.prog g lb Fa p l w) :
 Calls Tryz.prog 121 #[.slice A m c,.func (.func g) #[] lb] w fun e w'=>e =.returned (.int .i64 (placeOf p l))∧ah w w':=by
 have hlen:=h.1;unfold Enters at eg;obtain⟨R,hR⟩:∃R,R=placeOf p l:=⟨_,rfl⟩;rw[←hR];replace hR:=ζ hR;replace hp:=ζ hp;replace h:=ζ h;go_enter Tryz.func121,Tryz.ntmps121
 go_wp2;go_loopw [5,8] (fun _ i wr=>∃k:Nat,k≤m∧i =.int .i64 k∧Hid (∀j y,j < k→l[j]? = some y→p y = false)∧Hid (ah w wr)) (fun _ i _=>m - (intOf i).toNat)
 case atStart=>exact⟨0,ω,rfl,fun _ _ h=>absurd h ω,ah.refl _⟩
 case round=>
  obtain⟨k,hk,rfl,hall,hg⟩:=hrel;by_cases hlt:k<m
  ·obtain⟨b,off,x,rfl,_,hx,hcell⟩:=(h.o.keep hg.o).at_ hlt;have c0:wr.cell? ⟨b,off+k*3,none⟩=some (.string ⟨x.n.toArray⟩):=hcell 0 _ rfl;have c1:wr.cell? ⟨b,off+k*3+1,none⟩=some (.int .i64 x.op):=hcell 1 _ rfl;have c2:wr.cell? ⟨b,off+k*3+2,none⟩=some (.string ⟨x.v.toArray⟩):=hcell 2 _ rfl;have j_:(k:Int)<(m:Int):=ω;have cI:=hp.o x (List.mem_of_getElem? hx) wr hg.o;unfold Fa at cI;cases hq:p x with
   | false=>
    rw[hq] at cI;replace cI:=ζ cI;have jV:=ζ (show ∀j y,j < k+1→l[j]? = some y→p y = false from fun j y hj hy=>by
     by_cases hjk:j = k
     ·subst hjk;rw[hx] at hy;rw[←Option.some.inj hy];exact hq
     ·exact hall.o j y ω hy)
    clear hcell hq hx hall hR;go_wp2_with fail;refine (cI.out).mono ?_;rintro e w1 ⟨rfl,hb⟩;have hg1:=ζ (hg.o.trans hb);go_wp2;go_roundw
    case rel=>exact⟨k+1,ω,ν,jV,hg1⟩
    case measure=>exact ψ
   | true=>
    rw[hq] at cI;have aQ:Hid (R=(k:Int)):=ζ (by rw[hR.o];exact nZ hx hq hall.o);replace cI:=ζ cI;clear hcell hq hx hall hR;go_wp2_with fail;refine (cI.out).mono ?_;rintro e w1 ⟨rfl,hb⟩;have hg1:=ζ (hg.o.trans hb);go_wp2;go_ret;exact⟨by rw[aQ.o];rfl,hg1.o⟩
  ·obtain rfl:k=m:=ω;have aQ:Hid (R=-1):=ζ (by rw[hR.o];exact lM fun j y hy=>hall.o j y (by have:=(List.getElem?_eq_some_iff.1 hy).1;omega) hy);clear hall hR;go_wp2;go_ret;exact⟨by rw[aQ.o];rfl,hg.o⟩
theorem aal (g:FuncId) (lb:Array Value) (eg:Enters Tryz.prog g) (p:jq→Bool) (A:Option Addr) (m c:Nat) (l:List jq) (w:World) (h:dH w 3 Tz A m l) (hm:m≤9223372036854775807) (hp:Ko Tryz.prog g lb Fa p l w) :
 Calls Tryz.prog 90 #[.slice A m c,.func (.func g) #[] lb] w fun e w'=>e =.returned (.bool (l.any p))∧ah w w':=by
 have cI:=ajO (c:=c) g lb eg p A m l w h hm hp;replace cI:=ζ cI;have aQ:=ζ (nG p l);clear h hp;go_enter Tryz.func90,Tryz.ntmps90
 go_wp2_with fail;refine cI.out.mono ?_;rintro e w1 ⟨rfl,hb⟩;go_wp2;go_ret;exact⟨aU aQ.o,hb⟩
end Go.Proofs.YteojanlajhebhaaGreatDoor
namespace Go.Proofs.YteojanlajhebhaaGreatDoor
open Go.RowKit Go.Maps
theorem ah.yR {w w':World} (h:ah w w') (row:Option Nat):w.grownBy w' row:=⟨Below.os h,Below.tape h,Below.output h,h.size,fun k hk _=>Below.block h k hk⟩
theorem lW.grows {P:Program} {k e:TypeId} {w w':World} {b n:Nat} {l:List (List UInt8×Lit)} (h:lW P k e w b n l) (hg:ah w w'):lW P k e w' b n l:=h.kept (hg.yR none) σ
theorem Jf (n lo hi:Int) (w:World) :
 Calls Tryz.prog 49 #[.int .i64 n,.int .i64 lo,.int .i64 hi] w fun e w'=>e =.returned (.bool (decide (lo≤n)&&decide (n≤hi)))∧ah w w':=by
 by_cases h:lo≤n
 ·go_enter Tryz.func49,Tryz.ntmps49
  go_wp2;go_ret;exact⟨aU (by simp[h]),ah.refl _⟩
 ·go_enter Tryz.func49,Tryz.ntmps49
  go_wp2;go_ret;exact⟨aU (by simp;omega),ah.refl _⟩
def Vx (l:List (List UInt8)):List (List UInt8×Lit):=l.map fun s=>(s,.bool true)
theorem RX (s:List UInt8):∀l:List (List UInt8),tV (Vx l) s = if s∈l then some (.bool true) else none
 | []=>rfl
 | x ::r=>by
  show tV ((x,.bool true)::Vx r) s = _
  rw[GI,RX s r];by_cases h:s∈r
  ·simp[h]
  ·by_cases hx:x = s
   ·simp[h,hx]
   ·simp[h,hx,Ne.symm hx]
theorem abT (l:List (List UInt8)) (x:List UInt8):Vx (l ++[x])=Vx l ++[(x,.bool true)]:=by simp[Vx]
abbrev X4 (w:World) (b n:Nat) (l:List (List UInt8)):Prop:=lW Tryz.prog 9 4 w b n (Vx l)
theorem X4.look {w:World} {b n:Nat} {l:List (List UInt8)} (h:X4 w b n l) {s:List UInt8} (hs:s.length≤maxLen) {x:Bool} (hx:decide (s∈l)=x) :
 (Instr.lookup 134 (.map (some b)) (.string ⟨s.toArray⟩) false).run Tryz.prog w =.ok (.bool x) w:=
 lW.agq h Tryz.underlying9 Tryz.underlying134 Tryz.underlying4 κ hs (by
  rw[RX];by_cases hm:s∈l
  ·simp only[hm,decide_true] at hx;subst hx;simp[hm]
  ·simp only[hm,decide_false] at hx;subst hx;simp[hm])
theorem OD {ops:Array Oper} {rest:List Oper} {o:Oper} {a:Act} {Q:Exit→Act→World→Prop} {w:World} {b n:Nat} {l:List (List UInt8)} (h:X4 w b n l)
 (hg:o.guard=none) (m x v:Operand) (hop:o.op=Op.mapUpdate 134 m x v) (hn:n < maxLen) (s:List UInt8) (hs:s.length≤maxLen)
 (hm:a.eval m =.map (some b)) (hx:a.eval x =.string ⟨s.toArray⟩) (hv:a.eval v =.bool true)
 (hK:∀w',X4 w' b (n + 1) (l ++[s])→w.grownBy w' (some b)→wpList Tryz.prog ops Q rest (a.put o.dst undef) w') :
 wpList Tryz.prog ops Q (o ::rest) a w:=
 OE h hg m x v hop Tryz.underlying9 Tryz.underlying134 hn s hs (.bool true) (.bool true) hm hx hv (plainElem_bool Tryz.underlying4 true) (fun w' h1 h2=>hK w' (by unfold X4;rw[abT];exact h1) h2)
def XT (l:List (List UInt8)):Bool:=l.all f_&&decide l.Nodup&&decide (l.length≤8)
theorem aeY {l:List (List UInt8)} {k:Nat} {x:List UInt8} (hx:l[k]? = some x) (h:x∈l.take k∨f_ x = false):XT l = false:=by
 unfold XT;rcases h with h | h
 ·have:¬l.Nodup:=by
   intro hn;obtain⟨i,hi,rfl⟩:=List.getElem_of_mem h;rw[List.getElem_take] at hx;have hik:i < k:=by simp at hi;omega
   obtain⟨hk,he⟩:=List.getElem?_eq_some_iff.1 hx;exact absurd ((List.getElem_inj hn).1 he) ω
  simp[this]
 ·have:l.all f_=false:=by
   rw[←Bool.not_eq_true,List.all_eq_true];intro ha;rw[ha x (List.mem_of_getElem? hx)] at h;cases h
  simp[this]
def adQ (l:List (List UInt8)) (k:Nat):Prop:=(l.take k).all f_=true∧(l.take k).Nodup
theorem adQ.next {l:List (List UInt8)} {k:Nat} {x:List UInt8} (h:adQ l k) (hx:l[k]? = some x) (h1:¬x∈l.take k) (h2:f_ x = true):adQ l (k+1):=by
 unfold adQ;rw[List.take_add_one,hx];refine⟨by rw[List.all_append,h.1];simp[h2],?_⟩;rw[List.nodup_append];refine⟨h.2,by simp,fun a ha b hb=> ?_⟩;simp at hb;subst hb;exact fun e=>h1 (e ▸ ha)
theorem anw {l:List (List UInt8)} {m:Nat} (hm:l.length=m) (h:adQ l m):XT l = decide (m≤8):=by
 unfold adQ at h;rw[List.take_of_length_le ω] at h;unfold XT;rw[h.1,decide_eq_true h.2,hm];simp
theorem alh {A:Option Addr} {m c:Nat} {l:List (List UInt8)} (w:World) (hA:dH w 1 encS A m l) (hm:m≤9223372036854775807) (ht:∀x∈l,x.length≤9223372036854775807) :
 Calls Tryz.prog 50 #[.slice A m c] w fun e w'=>e =.returned (.bool (XT l))∧ah w w':=by
 have qA:=hA.1;obtain⟨R,hR⟩:∃R,R=XT l:=⟨_,rfl⟩;rw[←hR];replace hR:=ζ hR;replace hA:=ζ hA;replace ht:=ζ ht;replace qA:=ζ qA;have U6:= @run_makeMap Tryz.prog;go_enter Tryz.func50,Tryz.ntmps50
 go_wp2;clear U6;go_loopw [5,9] (fun _ i wr=>∃k:Nat,k≤m∧i =.int .i64 k∧Hid (adQ l k)∧Hid (X4 wr w.heap.size k (l.take k))∧Hid (ah w wr)) (fun _ i _=>m - (intOf i).toNat)
 case atStart=>exact⟨0,ω,rfl,⟨by simp,by simp⟩,lW.made w _ _ _,(ah.refl w).alloc _⟩
 case round=>
  obtain⟨k,hk,rfl,oP,hM,hG⟩:=hrel;by_cases nV:k<m
  ·obtain⟨bb,off,x,rfl,JI,hx,hcell⟩:=(hA.o.keep hG.o).at_ nV;have c0:wr.cell? ⟨bb,off+k,none⟩=some (.string ⟨x.toArray⟩):=by simpa using hcell 0 _ rfl
   have j_:(k:Int)<(m:Int):=ω;have yL:x.length≤maxLen:=by have:=ht.o x (List.mem_of_getElem? hx);unfold maxLen;omega
   by_cases Jv:x∈l.take k
   ·have hlk:=hM.o.look yL (x:=true) (by simp[Jv]);have aQ:Hid (R=false):=ζ (by rw[hR.o];exact aeY hx (.inl Jv));clear hR hcell hx Jv yL hM oP;go_wp2;go_ret;exact⟨aU aQ.o.symm,by
     exact γ
    ⟩
   ·have hlk:=hM.o.look yL (x:=false) (by simp[Jv]);have cN:=FC x;have lN:=fun h=>aeY hx (.inr h)
    have hnx:=oP.o.next hx Jv;have xJ:l.take (k+1)=l.take k++[x]:=by rw[List.take_add_one,hx];rfl
    replace xJ:=ζ xJ;generalize f_ x = B at *
    replace cN:=ζ cN;clear hcell hx Jv;cases B
    ·have aQ:Hid (R=false):=ζ (by rw[hR.o];exact lN rfl);clear hR lN hnx hM oP xJ yL;go_wp2_with fail;refine (cN.out _).mono ?_;rintro e w1 ⟨rfl,hb⟩;go_wp2;go_ret;exact⟨aU aQ.o.symm,hG.o.trans hb⟩
    ·have aoZ:=ζ (hnx rfl);clear lN hnx oP;go_wp2_with fail;refine (cN.out _).mono ?_;rintro e w1 ⟨rfl,hb⟩;have hM1:=ζ (hM.o.grows hb);have mX:=ζ (hG.o.trans hb);clear hM hG hb hlk c0;go_wp2_with (at_mapUpdate;refine OD hM1.o rfl _ _ _ rfl (by unfold maxLen;omega) x yL rfl rfl rfl ?_;intro w2 hM2 hby;(have iC:=ζ (mX.o.bH hby (fun g hg=>by injection hg with hg;omega)));(replace hM2:=ζ hM2);clear hby hM1 mX);go_roundw
     case rel=>exact⟨k+1,ω,ν,aoZ,by rw[xJ.o];exact hM2.o,iC.o⟩
     case measure=>exact ψ
  ·obtain rfl:k=m:=ω;have aQ:Hid (R=decide (k≤8)):=ζ (by rw[hR.o];exact anw qA.o oP.o);clear hR hM oP;go_wp2;go_ret;exact⟨aU (by rw[aQ.o];first | rfl | (congr 1;simp;omega) | (rw[Bool.eq_iff_iff];simp;omega)),hG.o⟩
def uF (x:Hl):Bool:=f_ x.n &&dK x.l.lv
def ku (l:List Hl):Bool:=l.all uF&&decide (l.map (·.n)).Nodup
def wJ (l:List Hl):List (List UInt8):=l.map (·.n)
theorem IU {l:List Hl} {k:Nat} {x:Hl} (hx:l[k]? = some x):(wJ l)[k]? = some x.n:=by simp[wJ,hx]
theorem RN {l:List Hl} {k:Nat} {x:Hl} (hx:l[k]? = some x) (h:x.n∈(wJ l).take k∨uF x = false):ku l = false:=by
 unfold ku;rcases h with h | h
 ·have NT:=IU hx;have:¬(l.map (·.n)).Nodup:=by
   intro hn;obtain⟨i,hi,he⟩:=List.getElem_of_mem h;rw[List.getElem_take] at he;have hik:i < k:=by simp at hi;omega
   obtain⟨hk,he2⟩:=List.getElem?_eq_some_iff.1 NT;rw[←he2] at he;exact absurd ((List.getElem_inj hn).1 he) ω
  simp[this]
 ·have:l.all uF=false:=by
   rw[←Bool.not_eq_true,List.all_eq_true];intro ha;rw[ha x (List.mem_of_getElem? hx)] at h;cases h
  simp[this]
def Gw (l:List Hl) (k:Nat):Prop:=(l.take k).all uF=true∧((wJ l).take k).Nodup
theorem Gw.next {l:List Hl} {k:Nat} {x:Hl} (h:Gw l k) (hx:l[k]? = some x) (h1:¬x.n∈(wJ l).take k) (h2:uF x = true):Gw l (k+1):=by
 unfold Gw;rw[List.take_add_one,List.take_add_one,hx,IU hx];refine⟨by rw[List.all_append,h.1];simp[h2],?_⟩;rw[List.nodup_append];refine⟨h.2,by simp,fun a ha b hb=> ?_⟩;simp at hb;subst hb;exact fun e=>h1 (e ▸ ha)
theorem acN {l:List Hl} {m:Nat} (hm:l.length=m) (h:Gw l m):ku l = true:=by
 unfold Gw at h;rw[List.take_of_length_le ω,List.take_of_length_le (by simp[wJ];omega)] at h;unfold ku;rw[h.1,decide_eq_true (show (l.map (·.n)).Nodup from h.2)];rfl
theorem agi {x:jl} (w:World) (hx:x.At w) :
 Calls Tryz.prog 47 #[x.val] w fun e w'=>e =.returned (.bool (ku x.l))∧ah w w':=by
 have hA:=hx.arr;have hm:=hx.le;have ht:=hx.txt;have hlb:=hx.Yu;unfold jl.val;clear hx;obtain⟨l,A,m,c⟩:=x;simp only at hA hm ht hlb ⊢;have qA:=hA.1;obtain⟨R,hR⟩:∃R,R=ku l:=⟨_,rfl⟩;rw[←hR];replace hR:=ζ hR;replace hA:=ζ hA;replace ht:=ζ ht;replace hlb:=ζ hlb;replace qA:=ζ qA;have U6:= @run_makeMap Tryz.prog;go_enter Tryz.func47,Tryz.ntmps47
 go_wp2;clear U6;go_loopw [5,9] (fun _ i wr=>∃k:Nat,k≤m∧i =.int .i64 k∧Hid (Gw l k)∧Hid (X4 wr w.heap.size k ((wJ l).take k))∧Hid (ah w wr)) (fun _ i _=>m - (intOf i).toNat)
 case atStart=>exact⟨0,ω,rfl,⟨by simp,by simp⟩,lW.made w _ _ _,(ah.refl w).alloc _⟩
 case round=>
  obtain⟨k,hk,rfl,oP,hM,hG⟩:=hrel;by_cases nV:k<m
  ·obtain⟨bb,off,x,rfl,JI,hx,hcell⟩:=(hA.o.keep hG.o).at_ nV;have c0:wr.cell? ⟨bb,off+k*3,none⟩=some (.string ⟨x.n.toArray⟩):=hcell 0 _ rfl;have c1:wr.cell? ⟨bb,off+k*3+1,none⟩=some (.int .i64 x.l.lv):=hcell 1 _ rfl;have c2:wr.cell? ⟨bb,off+k*3+2,none⟩=some (.int .u32 (x.l.c:Int)):=hcell 2 _ rfl;have j_:(k:Int)<(m:Int):=ω;have NS:=List.mem_of_getElem? hx;have yL:x.n.length≤maxLen:=by have:=ht.o x NS;unfold maxLen;omega
   have hM1:=ζ ((hM.o.alloc (.cells #[.string ⟨x.n.toArray⟩,.int .i64 x.l.lv,.int .u32 (x.l.c:Int)] 58)));by_cases Jv:x.n∈(wJ l).take k
   ·have hlk:=X4.look hM1.o yL (x:=true) (by simp[Jv]);have aQ:Hid (R=false):=ζ (by rw[hR.o];exact RN hx (.inl Jv));clear hR hcell hx Jv yL hM hM1 oP NS;go_wp2;go_ret;exact⟨aU aQ.o.symm,by
     have:=hG.o;exact γ
    ⟩
   ·have hlk:=X4.look hM1.o yL (x:=false) (by simp[Jv]);have cN:=FC x.n;have cR:=fun W=>sV x.l W
    have lN:=fun h=>RN hx (.inr h)
    have hnx:=oP.o.next hx Jv;have xJ:(wJ l).take (k+1)=(wJ l).take k++[x.n]:=by rw[List.take_add_one,IU hx];rfl
    replace xJ:=ζ xJ;unfold uF at lN hnx;generalize f_ x.n = B at *
    generalize dK x.l.lv=B2 at *
    replace cN:=ζ cN;replace cR:=ζ cR;clear hcell hx Jv NS;have hGa:Hid (ah w (wr.alloc (.cells #[.string ⟨x.n.toArray⟩,.int .i64 x.l.lv,.int .u32 (x.l.c:Int)] 58))):=ζ (hG.o.alloc _);have ba:aS (wr.alloc (.cells #[.string ⟨x.n.toArray⟩,.int .i64 x.l.lv,.int .u32 (x.l.c:Int)] 58)) wr.heap.size 58 #[.string ⟨x.n.toArray⟩,.int .i64 x.l.lv,.int .u32 (x.l.c:Int)]:=aS.new wr _ _;cases B
    ·have aQ:Hid (R=false):=ζ (by rw[hR.o];exact lN σ);clear hR lN hnx hM hM1 oP xJ yL ba;go_wp2_with fail;refine (cN.out _).mono ?_;rintro e w1 ⟨rfl,hb⟩;go_wp2;go_ret;exact⟨aU aQ.o.symm,hGa.o.trans hb⟩
    ·cases B2
     ·have aQ:Hid (R=false):=ζ (by rw[hR.o];exact lN σ);clear hR lN hnx hM hM1 oP xJ yL;go_wp2_with fail;refine (cN.out _).mono ?_;rintro e w1 ⟨rfl,hb⟩;replace ba:=ba.grows hb;have d1:_ = some (Value.int .i64 x.l.lv):=ba.cell 1;have d2:_ = some (Value.int .u32 (x.l.c:Int)):=ba.cell 2;have sa:=ba.lt;have mX:=ζ (hGa.o.trans hb);clear hb ba hGa;go_wp2_with fail;refine (cR.out _).mono ?_;rintro e w2 ⟨rfl,hb2⟩;go_wp2;go_ret;exact⟨aU aQ.o.symm,mX.o.trans hb2⟩
     ·have aoZ:=ζ (hnx σ);clear lN hnx oP hM;go_wp2_with fail;refine (cN.out _).mono ?_;rintro e w1 ⟨rfl,hb⟩;replace ba:=ba.grows hb;have d1:_ = some (Value.int .i64 x.l.lv):=ba.cell 1;have d2:_ = some (Value.int .u32 (x.l.c:Int)):=ba.cell 2;have sa:=ba.lt;have mX:=ζ (hGa.o.trans hb);have hM2:=ζ (hM1.o.grows hb);clear hb hGa hM1 hlk c0 c1 c2;go_wp2_with fail;refine (cR.out _).mono ?_;rintro e w2 ⟨rfl,hb2⟩;replace ba:=ba.grows hb2;have d0:_ = some (Value.string ⟨x.n.toArray⟩):=ba.cell 0;have sa2:=ba.lt;have iC:=ζ (mX.o.trans hb2);have hM3:=ζ (hM2.o.grows hb2);clear hb2 ba mX hM2 d1 d2 sa;go_wp2_with (at_mapUpdate;refine OD hM3.o rfl _ _ _ rfl (by unfold maxLen;omega) x.n yL rfl rfl rfl ?_;intro w3 hM4 hby;(have uj:=ζ (iC.o.bH hby (fun g hg=>by injection hg with hg;omega)));(replace hM4:=ζ hM4);clear hby hM3 iC);go_roundw
      case rel=>exact⟨k+1,ω,ν,aoZ,by rw[xJ.o];exact hM4.o,uj.o⟩
      case measure=>exact ψ
  ·obtain rfl:k=m:=ω;have aQ:Hid (R=true):=ζ (by rw[hR.o];exact acN qA.o oP.o);clear hR hM oP;go_wp2;go_ret;exact⟨aU aQ.o.symm,hG.o⟩
end Go.Proofs.YteojanlajhebhaaGreatDoor
namespace Go.Proofs.YteojanlajhebhaaGreatDoor
open Go.RowKit
theorem ajN (g:FuncId) (lb:Array Value) (eg:Enters Tryz.prog g) (p:Hl→Bool) (A:Option Addr) (m c:Nat) (l:List Hl) (w:World) (h:dH w 3 XL A m l) (hm:m≤9223372036854775807) (hp:Ko Tryz.prog g lb amb p l w) :
 Calls Tryz.prog 80 #[.slice A m c,.func (.func g) #[] lb] w fun e w'=>e =.returned (.int .i64 (placeOf p l))∧ah w w':=by
 have hlen:=h.1;unfold Enters at eg;obtain⟨R,hR⟩:∃R,R=placeOf p l:=⟨_,rfl⟩;rw[←hR];replace hR:=ζ hR;replace hp:=ζ hp;replace h:=ζ h;go_enter Tryz.func80,Tryz.ntmps80
 go_wp2;go_loopw [5,8] (fun _ i wr=>∃k:Nat,k≤m∧i =.int .i64 k∧Hid (∀j y,j < k→l[j]? = some y→p y = false)∧Hid (ah w wr)) (fun _ i _=>m - (intOf i).toNat)
 case atStart=>exact⟨0,ω,rfl,fun _ _ h=>absurd h ω,ah.refl _⟩
 case round=>
  obtain⟨k,hk,rfl,hall,hg⟩:=hrel;by_cases hlt:k<m
  ·obtain⟨b,off,x,rfl,_,hx,hcell⟩:=(h.o.keep hg.o).at_ hlt;have c0:wr.cell? ⟨b,off+k*3,none⟩=some (.string ⟨x.n.toArray⟩):=hcell 0 _ rfl;have c1:wr.cell? ⟨b,off+k*3+1,none⟩=some (.int .i64 x.l.lv):=hcell 1 _ rfl;have c2:wr.cell? ⟨b,off+k*3+2,none⟩=some (.int .u32 (x.l.c:Int)):=hcell 2 _ rfl;have j_:(k:Int)<(m:Int):=ω;have cI:=hp.o x (List.mem_of_getElem? hx) wr hg.o;unfold amb at cI;cases hq:p x with
   | false=>
    rw[hq] at cI;replace cI:=ζ cI;have jV:=ζ (show ∀j y,j < k+1→l[j]? = some y→p y = false from fun j y hj hy=>by
     by_cases hjk:j = k
     ·subst hjk;rw[hx] at hy;rw[←Option.some.inj hy];exact hq
     ·exact hall.o j y ω hy)
    clear hcell hq hx hall hR;go_wp2_with fail;refine (cI.out).mono ?_;rintro e w1 ⟨rfl,hb⟩;have hg1:=ζ (hg.o.trans hb);go_wp2;go_roundw
    case rel=>exact⟨k+1,ω,ν,jV,hg1⟩
    case measure=>exact ψ
   | true=>
    rw[hq] at cI;have aQ:Hid (R=(k:Int)):=ζ (by rw[hR.o];exact nZ hx hq hall.o);replace cI:=ζ cI;clear hcell hq hx hall hR;go_wp2_with fail;refine (cI.out).mono ?_;rintro e w1 ⟨rfl,hb⟩;have hg1:=ζ (hg.o.trans hb);go_wp2;go_ret;exact⟨by rw[aQ.o];rfl,hg1.o⟩
  ·obtain rfl:k=m:=ω;have aQ:Hid (R=-1):=ζ (by rw[hR.o];exact lM fun j y hy=>hall.o j y (by have:=(List.getElem?_eq_some_iff.1 hy).1;omega) hy);clear hall hR;go_wp2;go_ret;exact⟨by rw[aQ.o];rfl,hg.o⟩
theorem ahe (x:Hl) {n:List UInt8} {g:Nat} (w:World) (hc:w.cell? ⟨g,0,none⟩=some (.string ⟨n.toArray⟩)) :
 Calls Tryz.prog 81 #[amb x,.pointer (some ⟨g,0,none⟩)] w fun e w'=>e =.returned (.bool (x.n ==n))∧ah w w':=by
 unfold amb;have hb:=World.block_lt_of_cell? w _ hc;simp only at hb;obtain⟨R,hR⟩:∃R,R=(x.n ==n):=⟨_,rfl⟩;rw[←hR];go_enter Tryz.func81,Tryz.ntmps81
 go_wp2;go_ret;refine⟨aU (by first | rfl | simp[hR]),?_⟩;exact γ
theorem V_ {l:List Hl} {n:List UInt8} (h:l.any (fun x=>x.n ==n)=false):gG l n = none:=by
 unfold gG;rw[List.find?_eq_none.2 (fun x hx=>by have:=List.any_eq_false.1 h x hx;simpa using this)];rfl
theorem Ot {n:List UInt8}:∀{l:List Hl} {i:Nat} {x:Hl},l[i]? = some x→(x.n ==n)=true→(l.take i).any (fun x=>x.n ==n)=false→gG l n = some x.l
 | [],i,x,h,_,_=>by simp at h
 | y ::r,0,x,h,hp,_=>by
  simp at h;subst h;simp only[beq_iff_eq] at hp;simp[gG,List.find?,hp]
 | y ::r,i + 1,x,h,hp,ha=>by
  simp only[List.take_succ_cons,List.any_cons,Bool.or_eq_false_iff] at ha;have h2:=Ot (l:=r) (i:=i) (by simpa using h) hp ha.2;unfold gG at h2 ⊢;rw[List.find?_cons_of_neg (by simpa using ha.1)];exact h2
theorem MW {n:List UInt8} {l:List Hl} {y:Cc} (h:gG l n = some y):∃x∈l,x.l = y:=by
 unfold gG at h;obtain⟨x,hx,rfl⟩:=Option.map_eq_some_iff.1 h;exact⟨x,List.mem_of_find?_eq_some hx,rfl⟩
def AA (o:Option Cc):Cc:=o.getD ⟨0,0⟩
theorem Tv {A:Option Addr} {m c:Nat} {l:List Hl} {n:List UInt8} (w:World) (h:dH w 3 XL A m l) (hm:m≤9223372036854775807) :
 Calls Tryz.prog 42 #[.slice A m c,.string ⟨n.toArray⟩] w fun e w'=>e =.returned (.tuple #[.agg #[.int .i64 (AA (gG l n)).lv,.int .u32 ((AA (gG l n)).c:Int)],.bool (gG l n).isSome])∧ah w w':=by
 have hw2:ah w ((w.alloc (.cells #[.string ⟨n.toArray⟩] 9)).alloc (.cells #[.int .i64 0,.int .u32 0] 40)):=((ah.refl w).alloc _).alloc _;have b0:aS ((w.alloc (.cells #[.string ⟨n.toArray⟩] 9)).alloc (.cells #[.int .i64 0,.int .u32 0] 40)) w.heap.size 9 #[.string ⟨n.toArray⟩]:=(aS.new w _ _).alloc _;have b1:aS ((w.alloc (.cells #[.string ⟨n.toArray⟩] 9)).alloc (.cells #[.int .i64 0,.int .u32 0] 40)) (w.heap.size+1) 40 #[.int .i64 0,.int .u32 0]:=aS.vO w _ _ _;have GZ:=h.keep hw2;have cI:=ajN (c:=c) 81 #[.pointer (some ⟨w.heap.size,0,none⟩)] (enters_of Tryz.func81 κ rfl) (fun x=>x.n ==n) A m l _ GZ hm (fun x _ W hW=>ahe x W (hW.cell (b0.cell 0)));rcases L8 (fun x:Hl=>x.n ==n) l with⟨h1,h2⟩ | ⟨i,x,h1,h2,h3,h4⟩
 ·rw[h1] at cI;rw[V_ h2];replace cI:=ζ cI;replace hw2:=ζ hw2;clear GZ h1 h2 h b0;go_enter Tryz.func42,Tryz.ntmps42
  go_wp2_with fail;refine (cI.out).mono ?_;rintro e w1 ⟨rfl,hb⟩;have d0:=(b1.grows hb).cell 0;have d1:=(b1.grows hb).cell 1;have f0:=(b1.grows hb).frozen 0;have f1:=(b1.grows hb).frozen 1;have s1:=(b1.grows hb).lt;have hg:=hw2.o.trans hb;have hg0:ah w w1:=hg;clear cI hw2;go_wp2_with fail;refine bodyPost_ret (v:=.tuple #[.agg #[.int .i64 0,.int .u32 0],.bool false]) ?_ rfl ⟨rfl,?_⟩
  ·simp[results,Tryz.results42,go_sem,d0,d1]
  ·exact γ
 ·rw[h1] at cI;rw[Ot h2 h3 h4];have hi:i < m:=by have:=(List.getElem?_eq_some_iff.1 h2).1;have:=h.1;omega
  replace cI:=ζ cI;replace hw2:=ζ hw2;replace GZ:=ζ GZ;clear h1 h3 h4 h b0;go_enter Tryz.func42,Tryz.ntmps42
  go_wp2_with fail;refine (cI.out).mono ?_;rintro e w1 ⟨rfl,hb⟩;obtain⟨b,off,x',rfl,_,hx,hcell⟩:=(GZ.o.keep hb).at_ hi;obtain rfl:x'=x:=Option.some.inj (hx.symm.trans h2);have c1:w1.cell? ⟨b,off+i * 3+1,none⟩=some (.int .i64 x'.l.lv):=hcell 1 _ rfl;have c2:w1.cell? ⟨b,off+i * 3+2,none⟩=some (.int .u32 (x'.l.c:Int)):=hcell 2 _ rfl;have d0:=(b1.grows hb).cell 0;have d1:=(b1.grows hb).cell 1;have f0:=(b1.grows hb).frozen 0;have f1:=(b1.grows hb).frozen 1;have s1:=(b1.grows hb).lt;have hg:=hw2.o.trans hb;have hg0:ah w w1:=hg;clear cI hw2 GZ hcell hx h2;go_wp2_with fail;refine bodyPost_ret (v:=.tuple #[.agg #[.int .i64 x'.l.lv,.int .u32 (x'.l.c:Int)],.bool true]) ?_ rfl ⟨rfl,?_⟩
  ·simp[results,Tryz.results42,go_sem,d0,d1]
  ·exact γ
theorem ZN (g:FuncId) (lb:Array Value) (eg:Enters Tryz.prog g) (p:eu→Bool) (A:Option Addr) (m c:Nat) (l:List eu) (w:World) (h:dH w 2 fU A m l) (hm:m≤9223372036854775807) (hp:Ko Tryz.prog g lb QV p l w) :
 Calls Tryz.prog 105 #[.slice A m c,.func (.func g) #[] lb] w fun e w'=>e =.returned (.int .i64 (placeOf p l))∧ah w w':=by
 have hlen:=h.1;unfold Enters at eg;obtain⟨R,hR⟩:∃R,R=placeOf p l:=⟨_,rfl⟩;rw[←hR];replace hR:=ζ hR;replace hp:=ζ hp;replace h:=ζ h;go_enter Tryz.func105,Tryz.ntmps105
 go_wp2;go_loopw [5,8] (fun _ i wr=>∃k:Nat,k≤m∧i =.int .i64 k∧Hid (∀j y,j < k→l[j]? = some y→p y = false)∧Hid (ah w wr)) (fun _ i _=>m - (intOf i).toNat)
 case atStart=>exact⟨0,ω,rfl,fun _ _ h=>absurd h ω,ah.refl _⟩
 case round=>
  obtain⟨k,hk,rfl,hall,hg⟩:=hrel;by_cases hlt:k<m
  ·obtain⟨b,off,x,rfl,_,hx,hcell⟩:=(h.o.keep hg.o).at_ hlt;have c0:wr.cell? ⟨b,off+k*2,none⟩=some (.string ⟨x.n.toArray⟩):=hcell 0 _ rfl;have c1:wr.cell? ⟨b,off+k*2+1,none⟩=some (.string ⟨x.v.toArray⟩):=hcell 1 _ rfl;have j_:(k:Int)<(m:Int):=ω;have cI:=hp.o x (List.mem_of_getElem? hx) wr hg.o;unfold QV at cI;cases hq:p x with
   | false=>
    rw[hq] at cI;replace cI:=ζ cI;have jV:=ζ (show ∀j y,j < k+1→l[j]? = some y→p y = false from fun j y hj hy=>by
     by_cases hjk:j = k
     ·subst hjk;rw[hx] at hy;rw[←Option.some.inj hy];exact hq
     ·exact hall.o j y ω hy)
    clear hcell hq hx hall hR;go_wp2_with fail;refine (cI.out).mono ?_;rintro e w1 ⟨rfl,hb⟩;have hg1:=ζ (hg.o.trans hb);go_wp2;go_roundw
    case rel=>exact⟨k+1,ω,ν,jV,hg1⟩
    case measure=>exact ψ
   | true=>
    rw[hq] at cI;have aQ:Hid (R=(k:Int)):=ζ (by rw[hR.o];exact nZ hx hq hall.o);replace cI:=ζ cI;clear hcell hq hx hall hR;go_wp2_with fail;refine (cI.out).mono ?_;rintro e w1 ⟨rfl,hb⟩;have hg1:=ζ (hg.o.trans hb);go_wp2;go_ret;exact⟨by rw[aQ.o];rfl,hg1.o⟩
  ·obtain rfl:k=m:=ω;have aQ:Hid (R=-1):=ζ (by rw[hR.o];exact lM fun j y hy=>hall.o j y (by have:=(List.getElem?_eq_some_iff.1 hy).1;omega) hy);clear hall hR;go_wp2;go_ret;exact⟨by rw[aQ.o];rfl,hg.o⟩
theorem aam {A:Option Addr} {m c:Nat} {xs:List eu} (w:World) (h:dH w 2 fU A m xs) (hm:m≤65536) :
 Calls Tryz.prog 69 #[.slice A m c] w fun e w'=>∃v,e =.returned v∧Own w' w.heap.size 63 2 fU v xs∧ah w w':=by
 have heq:=fun (w:World)=>Lib.run_eql_slice_nil (P:=Tryz.prog) w 37 63 A m c 0 0 Tryz.underlying37
 have hlen:=h.1;cases A with
 | none=>
  obtain⟨rfl,rfl⟩:=h.anK;clear hlen h;go_enter Tryz.func69,Tryz.ntmps69
  go_wp2;go_ret;exact⟨_,rfl,Own.iH _ _ _ _ _,ah.refl _⟩
 | some ad=>
  have hown:Own (w.alloc (.cells #[] 63)) w.heap.size 63 2 fU (.slice (some ⟨w.heap.size,0,none⟩) ([]:List eu).length 0) []:=
   Own.mk_ (cur:= #[]) JW ω (Nat.le_refl _) (heap_alloc_new w _) σ (by simp[maxLen]) σ (fun q hq=>by simp at hq)
  have sD:=h.keep ((ah.refl w).alloc (.cells #[] 63));replace hlen:=ζ hlen;clear h;go_enter Tryz.func69,Tryz.ntmps69
  go_wp2_with (at_builtin;refine Ht T_F rfl (.tmp 5) (.tmp 6) rfl hown rfl ad rfl sD JW amo σ (by simp;unfold maxLen;omega) (by simp;omega) (fun v1 w1 hown1 hgr hat=> ?_));have hb1:Below w.heap.size w w1:=Own.below hown ((Below.refl _ _).alloc (Nat.le_refl _) _) (Nat.le_refl _) σ hgr;clear hgr hat;go_wp2;go_ret;exact⟨v1,rfl,by simpa using hown1,hb1⟩
theorem aai (g:FuncId) (lb:Array Value) (eg:Enters Tryz.prog g) (p:eu→Bool) (base:Nat) (v:Value) (ws:List eu) (w:World) (h:Own w base 63 2 fU v ws) (hbase:base≤w.heap.size) (hm:ws.length≤65536) (hp:atS Tryz.prog g lb QV p base ws w) :
 Calls Tryz.prog 68 #[v,.func (.func g) #[] lb] w fun e w'=>∃v',e =.returned v'∧Own w' base 63 2 fU v' (ws.filter fun x=> !p x)∧Below base w w':=by
 obtain⟨A,c,rfl,apk,hcm,sD⟩:=h.arr JW;have cI:=ZN (c:=c) g lb eg p A ws.length ws w sD ω (fun x hx W hW=>hp x hx W (hW.below.mono hbase));unfold Enters at eg;rcases L8 p ws with⟨h1,h2⟩ | ⟨i0,x0,h1,h2,h3,h4⟩
 ·rw[h1] at cI;have hf:=uN h2;rw[hf];replace cI:=ζ cI;clear h1 h2 hf hp sD;go_enter Tryz.func68,Tryz.ntmps68
  go_wp2_with fail;refine cI.out.mono ?_;rintro e w1 ⟨rfl,hb⟩;go_wp2;go_ret;exact⟨_,rfl,h.grows hb,hb.below.mono hbase⟩
 ·rw[h1] at cI;have hS:=Hz.start h2 h3 h4;have hi0:i0<ws.length:=(List.getElem?_eq_some_iff.1 h2).1;have asT:∃gb,A=some ⟨gb,0,none⟩:=by
   rcases h.2 with⟨h5,h6⟩ | ⟨gb,_,_,h5,_⟩
   ·omega
   ·simp only[Value.slice.injEq] at h5;exact⟨gb,h5.1⟩
  obtain⟨gb,rfl⟩:=asT;have hgb:base≤gb:=by obtain⟨_,_,hb,_⟩:=h.Ba JW;exact hb
  have hne:((i0:Int)==-1)=false:=by simp
  replace cI:=ζ cI;replace hp:=ζ hp;clear h1 h2 h3 h4 sD;go_enter Tryz.func68,Tryz.ntmps68
  go_wp2_with fail;refine cI.out.mono ?_;rintro e w1 ⟨rfl,hb⟩;obtain⟨n,hn⟩:∃n,n = ws.length:=⟨_,rfl⟩;rw[←hn] at h hm hi0 apk ⊢;replace hn:=ζ hn;unfold maxLen at hcm;go_wp2;go_loopw [5,6] (fun vi vj wr=>∃(i j:Nat) (ys:List eu),vi=.int .i64 i∧vj=.int .i64 j∧i < j∧j≤n∧Hz p ws ys i j∧Own wr base 63 2 fU (.slice (some ⟨gb,0,none⟩) n c) ys∧Below base w wr) (fun _ vj _=>n - (intOf vj).toNat)
  case atStart=>exact⟨i0,i0+1,ws,rfl,ν,ω,ω,hS,h.grows hb,hb.below.mono hbase⟩
  case round=>
   obtain⟨i,j,ys,rfl,rfl,Xx,Xw,hS',hown,hB⟩:=hrel;have hBs:=hB.size;by_cases hlt:j < n
   ·obtain⟨x,hx⟩:∃x,ws[j]? = some x:=⟨_,List.getElem?_eq_getElem (by rw[←hn.o];exact hlt)⟩;have NS:=List.mem_of_getElem? hx;have hy:=hS'.get hx;have hs1:=hS'.atJ hx;have hs2:=hS'.arY hx;obtain⟨x',NT,hcell,_⟩:=hown.at_ JW hlt;obtain rfl:x'=x:=Option.some.inj (NT.symm.trans hy);have c0:wr.cell? ⟨gb,j * 2,none⟩=some (.string ⟨x'.n.toArray⟩):=hcell 0 _ rfl;have c1:wr.cell? ⟨gb,j * 2+1,none⟩=some (.string ⟨x'.v.toArray⟩):=hcell 1 _ rfl;have hgl:gb<wr.heap.size:=World.block_lt_of_cell? wr ⟨gb,j * 2,none⟩ c0;clear hcell NT hx hy;cases hq:p x'
    ·have hs:=hs2 hq;have cP:=fun W hW=>hp.o x' NS W hW
     unfold QV at cP;rw[hq] at cP;replace cP:=ζ cP;clear hs1 hs2 hq;go_wp2_with fail;refine (cP.out _ (by
      repeat (first | assumption | exact Below.refl _ _ | apply Below.drew | apply below_drewN | (refine Below.X0 ?_ (by first | rfl | simp) (by first | omega | (simp;omega) | simp)) | (refine Below.alloc ?_ (by first | omega | (simp;omega) | simp) _) | (refine Below.setCell ?_ (by first | omega | (simp;omega) | simp) _))
     )).mono ?_
     rintro e w2 ⟨rfl,hb2⟩;have hown2:=(hown.alloc (.cells #[.string ⟨x'.n.toArray⟩,.string ⟨x'.v.toArray⟩] 63)).grows hb2;obtain⟨y,_,ak7,aAf⟩:=hown2.at_ JW (i:=i) ω;have d0:w2.cell? ⟨gb,i * 2,none⟩=some (.string ⟨y.n.toArray⟩):=ak7 0 _ rfl;have d1:w2.cell? ⟨gb,i * 2+1,none⟩=some (.string ⟨y.v.toArray⟩):=ak7 1 _ rfl;obtain⟨hc2,hf2⟩:=bW hb2;have aO:=hown2.dO JW ω (i:=i) ω x';have Jv:i < n:=ω;have mY:Below base w w2:=(hB.alloc ω (.cells #[.string ⟨x'.n.toArray⟩,.string ⟨x'.v.toArray⟩] 63)).trans (hb2.below.mono (by simp;omega));replace aO:=ζ aO;clear ak7 hown2 hb2;go_wp2;go_roundw
     case rel=>exact⟨i + 1,j + 1,ys.set i x',ν,ν,ω,ω,hs,aO.o,Below.setCells hgb (fU x') (i * 2) w2 mY⟩
     case measure=>exact ψ
    ·have hs:=hs1 hq;have cP:=fun W hW=>hp.o x' NS W hW
     unfold QV at cP;rw[hq] at cP;replace cP:=ζ cP;clear hs1 hs2 hq;go_wp2_with fail;refine (cP.out _ (by
      repeat (first | assumption | exact Below.refl _ _ | apply Below.drew | apply below_drewN | (refine Below.X0 ?_ (by first | rfl | simp) (by first | omega | (simp;omega) | simp)) | (refine Below.alloc ?_ (by first | omega | (simp;omega) | simp) _) | (refine Below.setCell ?_ (by first | omega | (simp;omega) | simp) _))
     )).mono ?_
     rintro e w2 ⟨rfl,hb2⟩;have hown2:=(hown.alloc (.cells #[.string ⟨x'.n.toArray⟩,.string ⟨x'.v.toArray⟩] 63)).grows hb2;have mY:Below base w w2:=(hB.alloc ω (.cells #[.string ⟨x'.n.toArray⟩,.string ⟨x'.v.toArray⟩] 63)).trans (hb2.below.mono (by simp;omega));go_wp2;go_roundw
     case rel=>exact⟨i,j + 1,ys,rfl,ν,ω,ω,hs,hown2,mY⟩
     case measure=>exact ψ
   ·obtain rfl:j = n:=ω;have hf:ys.take i = ws.filter fun x=> !p x:=by
     have:=hS'.front;rwa [List.take_of_length_le (Nat.le_of_eq hn.o.symm)] at this
    have yO:=fun ty=>hown.afD (P:=Tryz.prog) (t:=37) (ty:=ty) (c:=c - i) (z:=(⟨[],[]⟩:eu)) (zv:=.agg #[.string ⟨#[]⟩,.string ⟨#[]⟩]) JW ω amo Tryz.underlying37 (fun _=>by kernel_rfl) rfl Xx
    obtain⟨zs,hz1,hz2⟩:=Own.clear_ JW ω (⟨[],[]⟩:eu) (j - i) i _ _ hown ω;have aQ:Own (wr.setCells gb (i * 2) (fB fU (List.replicate (j - i) (⟨[],[]⟩:eu)))) base 63 2 fU (.slice (some ⟨gb,0,none⟩) i c) (ws.filter fun x=> !p x):=by
     rw[←hf,←hz2];exact hz1.cut JW ω ω
    have Hy:Below base w (wr.setCells gb (i * 2) (fB fU (List.replicate (j - i) (⟨[],[]⟩:eu)))):=Below.setCells hgb _ _ _ hB;generalize wr.setCells gb (i * 2) (fB fU (List.replicate (j - i) (⟨[],[]⟩:eu)))=w3 at yO aQ Hy;clear hz1 hz2 hf hS' hown hB h hp;go_wp2;go_ret;exact⟨_,rfl,aQ,Hy⟩
end Go.Proofs.YteojanlajhebhaaGreatDoor
