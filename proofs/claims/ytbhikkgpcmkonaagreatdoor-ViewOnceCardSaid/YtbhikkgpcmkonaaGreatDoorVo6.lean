/- Parts: SlM PolE SlN PolB SlF -/
import Derived.Test.YtbhikkgpcmkonaaGreatDoorVo0
import Derived.Test.YtbhikkgpcmkonaaGreatDoorVo5
set_option maxRecDepth 100000
set_option maxHeartbeats 12800000
namespace Go.Proofs.YtbhikkgpcmkonaaGreatDoor
open Go.RowKit
theorem ajE (g:FuncId) (lb:Array Value) (eg:Enters Tryz.prog g) (p:cu→Bool) (A:Option Addr) (m c:Nat) (l:List cu) (w:World) (h:bW w 3 qW A m l) (hm:m≤9223372036854775807) (hp:xZ Tryz.prog g lb Gh p l w) :
 Calls Tryz.prog 187 #[.slice A m c,.func (.func g) #[] lb] w fun e w'=>e =.returned (.int .i64 (placeOf p l))∧ah w w':=by
 have hlen:=h.1;unfold Enters at eg;obtain⟨R,hR⟩:∃R,R=placeOf p l:=⟨_,rfl⟩;rw[←hR];replace hR:=ζ hR;replace hp:=ζ hp;replace h:=ζ h;go_enter Tryz.func187,Tryz.ntmps187
 go_wp2;go_loopw [5,8] (fun _ i wr=>∃k:Nat,k≤m∧i =.int .i64 k∧Hid (∀j y,j < k→l[j]? = some y→p y = false)∧Hid (ah w wr)) (fun _ i _=>m - (intOf i).toNat)
 case atStart=>exact⟨0,ω,rfl,fun _ _ h=>absurd h ω,ah.refl _⟩
 case round=>
  obtain⟨k,hk,rfl,hall,hg⟩:=hrel;by_cases hlt:k<m
  ·obtain⟨b,off,x,rfl,_,hx,hcell⟩:=(h.o.keep hg.o).at_ hlt;have c0:wr.cell? ⟨b,off+k*3,none⟩=some (.string ⟨x.n.toArray⟩):=hcell 0 _ rfl;have c1:wr.cell? ⟨b,off+k*3+1,none⟩=some (.int .i64 x.op):=hcell 1 _ rfl;have c2:wr.cell? ⟨b,off+k*3+2,none⟩=some (.string ⟨x.v.toArray⟩):=hcell 2 _ rfl;have kX:(k:Int)<(m:Int):=ω;have cI:=hp.o x (List.mem_of_getElem? hx) wr hg.o;unfold Gh at cI;cases hq:p x with
   | false=>
    rw[hq] at cI;replace cI:=ζ cI;have f_:=ζ (show ∀j y,j < k+1→l[j]? = some y→p y = false from fun j y hj hy=>by
     by_cases hjk:j = k
     ·subst hjk;rw[hx] at hy;rw[←Option.some.inj hy];exact hq
     ·exact hall.o j y ω hy)
    clear hcell hq hx hall hR;go_wp2_with fail;refine (cI.out).mono ?_;rintro e w1 ⟨rfl,hb⟩;have hg1:=ζ (hg.o.trans hb);go_wp2;go_roundw
    case rel=>exact⟨k+1,ω,ν,f_,hg1⟩
    case measure=>exact ψ
   | true=>
    rw[hq] at cI;have aN:Hid (R=(k:Int)):=ζ (by rw[hR.o];exact jh hx hq hall.o);replace cI:=ζ cI;clear hcell hq hx hall hR;go_wp2_with fail;refine (cI.out).mono ?_;rintro e w1 ⟨rfl,hb⟩;have hg1:=ζ (hg.o.trans hb);go_wp2;go_ret;exact⟨by rw[aN.o];rfl,hg1.o⟩
  ·obtain rfl:k=m:=ω;have aN:Hid (R=-1):=ζ (by rw[hR.o];exact iJ fun j y hy=>hall.o j y (by have:=(List.getElem?_eq_some_iff.1 hy).1;omega) hy);clear hall hR;go_wp2;go_ret;exact⟨by rw[aN.o];rfl,hg.o⟩
theorem Qb (g:FuncId) (lb:Array Value) (eg:Enters Tryz.prog g) (p:cu→Bool) (A:Option Addr) (m c:Nat) (l:List cu) (w:World) (h:bW w 3 qW A m l) (hm:m≤9223372036854775807) (hp:xZ Tryz.prog g lb Gh p l w) :
 Calls Tryz.prog 150 #[.slice A m c,.func (.func g) #[] lb] w fun e w'=>e =.returned (.bool (l.any p))∧ah w w':=by
 have cI:=ajE (c:=c) g lb eg p A m l w h hm hp;replace cI:=ζ cI;have aN:=ζ (iM p l);clear h hp;go_enter Tryz.func150,Tryz.ntmps150
 go_wp2_with fail;refine cI.out.mono ?_;rintro e w1 ⟨rfl,hb⟩;go_wp2;go_ret;exact⟨aJ aN.o,hb⟩
end Go.Proofs.YtbhikkgpcmkonaaGreatDoor
namespace Go.Proofs.YtbhikkgpcmkonaaGreatDoor
open Go.RowKit Go.Maps
theorem ah.uH {w w':World} (h:ah w w') (row:Option Nat):w.grownBy w' row:=⟨Below.os h,Below.tape h,Below.output h,h.size,fun k hk _=>Below.block h k hk⟩
theorem jg.grows {P:Program} {k e:TypeId} {w w':World} {b n:Nat} {l:List (List UInt8×Lit)} (h:jg P k e w b n l) (hg:ah w w'):jg P k e w' b n l:=h.kept (hg.uH none) σ
theorem Du (n lo hi:Int) (w:World) :
 Calls Tryz.prog 116 #[.int .i64 n,.int .i64 lo,.int .i64 hi] w fun e w'=>e =.returned (.bool (decide (lo≤n)&&decide (n≤hi)))∧ah w w':=by
 by_cases h:lo≤n
 ·go_enter Tryz.func116,Tryz.ntmps116
  go_wp2;go_ret;exact⟨aJ (by simp[h]),ah.refl _⟩
 ·go_enter Tryz.func116,Tryz.ntmps116
  go_wp2;go_ret;exact⟨aJ (by simp;omega),ah.refl _⟩
def TQ (l:List (List UInt8)):List (List UInt8×Lit):=l.map fun s=>(s,.bool true)
theorem OW (s:List UInt8):∀l:List (List UInt8),nR (TQ l) s = if s∈l then some (.bool true) else none
 | []=>rfl
 | x ::r=>by
  show nR ((x,.bool true)::TQ r) s = _
  rw[vM,OW s r];by_cases h:s∈r
  ·simp[h]
  ·by_cases hx:x = s
   ·simp[h,hx]
   ·simp[h,hx,Ne.symm hx]
theorem aax (l:List (List UInt8)) (x:List UInt8):TQ (l ++[x])=TQ l ++[(x,.bool true)]:=by simp[TQ]
abbrev Xa (w:World) (b n:Nat) (l:List (List UInt8)):Prop:=jg Tryz.prog 9 4 w b n (TQ l)
theorem Xa.look {w:World} {b n:Nat} {l:List (List UInt8)} (h:Xa w b n l) {s:List UInt8} (hs:s.length≤maxLen) {x:Bool} (hx:decide (s∈l)=x) :
 (Instr.lookup 122 (.map (some b)) (.string ⟨s.toArray⟩) false).run Tryz.prog w =.ok (.bool x) w:=
 jg.Uc h Tryz.underlying9 Tryz.underlying122 Tryz.underlying4 κ hs (by
  rw[OW];by_cases hm:s∈l
  ·simp only[hm,decide_true] at hx;subst hx;simp[hm]
  ·simp only[hm,decide_false] at hx;subst hx;simp[hm])
theorem K_ {ops:Array Oper} {rest:List Oper} {o:Oper} {a:Act} {Q:Exit→Act→World→Prop} {w:World} {b n:Nat} {l:List (List UInt8)} (h:Xa w b n l)
 (hg:o.guard=none) (m x v:Operand) (hop:o.op=Op.mapUpdate 122 m x v) (hn:n < maxLen) (s:List UInt8) (hs:s.length≤maxLen)
 (hm:a.eval m =.map (some b)) (hx:a.eval x =.string ⟨s.toArray⟩) (hv:a.eval v =.bool true)
 (hK:∀w',Xa w' b (n + 1) (l ++[s])→w.grownBy w' (some b)→wpList Tryz.prog ops Q rest (a.put o.dst undef) w') :
 wpList Tryz.prog ops Q (o ::rest) a w:=
 xu h hg m x v hop Tryz.underlying9 Tryz.underlying122 hn s hs (.bool true) (.bool true) hm hx hv (plainElem_bool Tryz.underlying4 true) (fun w' h1 h2=>hK w' (by unfold Xa;rw[aax];exact h1) h2)
def byB (l:List (List UInt8)):Bool:=l.all fG&&decide l.Nodup&&decide (l.length≤8)
theorem ad1 {l:List (List UInt8)} {k:Nat} {x:List UInt8} (hx:l[k]? = some x) (h:x∈l.take k∨fG x = false):byB l = false:=by
 unfold byB;rcases h with h | h
 ·have:¬l.Nodup:=by
   intro hn;obtain⟨i,hi,rfl⟩:=List.getElem_of_mem h;rw[List.getElem_take] at hx;have hik:i < k:=by simp at hi;omega
   obtain⟨hk,he⟩:=List.getElem?_eq_some_iff.1 hx;exact absurd ((List.getElem_inj hn).1 he) ω
  simp[this]
 ·have:l.all fG=false:=by
   rw[←Bool.not_eq_true,List.all_eq_true];intro ha;rw[ha x (List.mem_of_getElem? hx)] at h;cases h
  simp[this]
def acO (l:List (List UInt8)) (k:Nat):Prop:=(l.take k).all fG=true∧(l.take k).Nodup
theorem acO.next {l:List (List UInt8)} {k:Nat} {x:List UInt8} (h:acO l k) (hx:l[k]? = some x) (h1:¬x∈l.take k) (h2:fG x = true):acO l (k+1):=by
 unfold acO;rw[List.take_add_one,hx];refine⟨by rw[List.all_append,h.1];simp[h2],?_⟩;rw[List.nodup_append];refine⟨h.2,by simp,fun a ha b hb=> ?_⟩;simp at hb;subst hb;exact fun e=>h1 (e ▸ ha)
theorem aoz {l:List (List UInt8)} {m:Nat} (hm:l.length=m) (h:acO l m):byB l = decide (m≤8):=by
 unfold acO at h;rw[List.take_of_length_le ω] at h;unfold byB;rw[h.1,decide_eq_true h.2,hm];simp
theorem alv {A:Option Addr} {m c:Nat} {l:List (List UInt8)} (w:World) (hA:bW w 1 encS A m l) (hm:m≤9223372036854775807) (ht:∀x∈l,x.length≤9223372036854775807) :
 Calls Tryz.prog 117 #[.slice A m c] w fun e w'=>e =.returned (.bool (byB l))∧ah w w':=by
 have kN:=hA.1;obtain⟨R,hR⟩:∃R,R=byB l:=⟨_,rfl⟩;rw[←hR];replace hR:=ζ hR;replace hA:=ζ hA;replace ht:=ζ ht;replace kN:=ζ kN;have hmm:= @run_makeMap Tryz.prog;go_enter Tryz.func117,Tryz.ntmps117
 go_wp2;clear hmm;go_loopw [5,9] (fun _ i wr=>∃k:Nat,k≤m∧i =.int .i64 k∧Hid (acO l k)∧Hid (Xa wr w.heap.size k (l.take k))∧Hid (ah w wr)) (fun _ i _=>m - (intOf i).toNat)
 case atStart=>exact⟨0,ω,rfl,⟨by simp,by simp⟩,jg.made w _ _ _,(ah.refl w).alloc _⟩
 case round=>
  obtain⟨k,hk,rfl,oD,hM,hG⟩:=hrel;by_cases qC:k<m
  ·obtain⟨bb,off,x,rfl,CW,hx,hcell⟩:=(hA.o.keep hG.o).at_ qC;have c0:wr.cell? ⟨bb,off+k,none⟩=some (.string ⟨x.toArray⟩):=by simpa using hcell 0 _ rfl
   have kX:(k:Int)<(m:Int):=ω;have H7:x.length≤maxLen:=by have:=ht.o x (List.mem_of_getElem? hx);unfold maxLen;omega
   by_cases IV:x∈l.take k
   ·have hlk:=hM.o.look H7 (x:=true) (by simp[IV]);have aN:Hid (R=false):=ζ (by rw[hR.o];exact ad1 hx (.inl IV));clear hR hcell hx IV H7 hM oD;go_wp2;go_ret;exact⟨aJ aN.o.symm,by
     exact γ
    ⟩
   ·have hlk:=hM.o.look H7 (x:=false) (by simp[IV]);have cN:=uN x;have qR:=fun h=>ad1 hx (.inr h)
    have ZN:=oD.o.next hx IV;have xR:l.take (k+1)=l.take k++[x]:=by rw[List.take_add_one,hx];rfl
    replace xR:=ζ xR;generalize fG x = B at *
    replace cN:=ζ cN;clear hcell hx IV;cases B
    ·have aN:Hid (R=false):=ζ (by rw[hR.o];exact qR rfl);clear hR qR ZN hM oD xR H7;go_wp2_with fail;refine (cN.out _).mono ?_;rintro e w1 ⟨rfl,hb⟩;go_wp2;go_ret;exact⟨aJ aN.o.symm,hG.o.trans hb⟩
    ·have aq5:=ζ (ZN rfl);clear qR ZN oD;go_wp2_with fail;refine (cN.out _).mono ?_;rintro e w1 ⟨rfl,hb⟩;have Xn:=ζ (hM.o.grows hb);have fM:=ζ (hG.o.trans hb);clear hM hG hb hlk c0;go_wp2_with (at_mapUpdate;refine K_ Xn.o rfl _ _ _ rfl (by unfold maxLen;omega) x H7 rfl rfl rfl ?_;intro w2 Z4 hby;(have gK:=ζ (fM.o.aQ hby (fun g hg=>by injection hg with hg;omega)));(replace Z4:=ζ Z4);clear hby Xn fM);go_roundw
     case rel=>exact⟨k+1,ω,ν,aq5,by rw[xR.o];exact Z4.o,gK.o⟩
     case measure=>exact ψ
  ·obtain rfl:k=m:=ω;have aN:Hid (R=decide (k≤8)):=ζ (by rw[hR.o];exact aoz kN.o oD.o);clear hR hM oD;go_wp2;go_ret;exact⟨aJ (by rw[aN.o];first | rfl | (congr 1;simp;omega) | (rw[Bool.eq_iff_iff];simp;omega)),hG.o⟩
def Gv (x:zN):Bool:=fG x.n &&dA x.l.lv
def lG (l:List zN):Bool:=l.all Gv&&decide (l.map (·.n)).Nodup
def rF (l:List zN):List (List UInt8):=l.map (·.n)
theorem CO {l:List zN} {k:Nat} {x:zN} (hx:l[k]? = some x):(rF l)[k]? = some x.n:=by simp[rF,hx]
theorem OO {l:List zN} {k:Nat} {x:zN} (hx:l[k]? = some x) (h:x.n∈(rF l).take k∨Gv x = false):lG l = false:=by
 unfold lG;rcases h with h | h
 ·have zo:=CO hx;have:¬(l.map (·.n)).Nodup:=by
   intro hn;obtain⟨i,hi,he⟩:=List.getElem_of_mem h;rw[List.getElem_take] at he;have hik:i < k:=by simp at hi;omega
   obtain⟨hk,he2⟩:=List.getElem?_eq_some_iff.1 zo;rw[←he2] at he;exact absurd ((List.getElem_inj hn).1 he) ω
  simp[this]
 ·have:l.all Gv=false:=by
   rw[←Bool.not_eq_true,List.all_eq_true];intro ha;rw[ha x (List.mem_of_getElem? hx)] at h;cases h
  simp[this]
def Ag (l:List zN) (k:Nat):Prop:=(l.take k).all Gv=true∧((rF l).take k).Nodup
theorem Ag.next {l:List zN} {k:Nat} {x:zN} (h:Ag l k) (hx:l[k]? = some x) (h1:¬x.n∈(rF l).take k) (h2:Gv x = true):Ag l (k+1):=by
 unfold Ag;rw[List.take_add_one,List.take_add_one,hx,CO hx];refine⟨by rw[List.all_append,h.1];simp[h2],?_⟩;rw[List.nodup_append];refine⟨h.2,by simp,fun a ha b hb=> ?_⟩;simp at hb;subst hb;exact fun e=>h1 (e ▸ ha)
theorem abk {l:List zN} {m:Nat} (hm:l.length=m) (h:Ag l m):lG l = true:=by
 unfold Ag at h;rw[List.take_of_length_le ω,List.take_of_length_le (by simp[rF];omega)] at h;unfold lG;rw[h.1,decide_eq_true (show (l.map (·.n)).Nodup from h.2)];rfl
theorem afr {x:iY} (w:World) (hx:x.At w) :
 Calls Tryz.prog 114 #[x.val] w fun e w'=>e =.returned (.bool (lG x.l))∧ah w w':=by
 have hA:=hx.arr;have hm:=hx.le;have ht:=hx.txt;have hlb:=hx.Jy;unfold iY.val;clear hx;obtain⟨l,A,m,c⟩:=x;simp only at hA hm ht hlb ⊢;have kN:=hA.1;obtain⟨R,hR⟩:∃R,R=lG l:=⟨_,rfl⟩;rw[←hR];replace hR:=ζ hR;replace hA:=ζ hA;replace ht:=ζ ht;replace hlb:=ζ hlb;replace kN:=ζ kN;have hmm:= @run_makeMap Tryz.prog;go_enter Tryz.func114,Tryz.ntmps114
 go_wp2;clear hmm;go_loopw [5,9] (fun _ i wr=>∃k:Nat,k≤m∧i =.int .i64 k∧Hid (Ag l k)∧Hid (Xa wr w.heap.size k ((rF l).take k))∧Hid (ah w wr)) (fun _ i _=>m - (intOf i).toNat)
 case atStart=>exact⟨0,ω,rfl,⟨by simp,by simp⟩,jg.made w _ _ _,(ah.refl w).alloc _⟩
 case round=>
  obtain⟨k,hk,rfl,oD,hM,hG⟩:=hrel;by_cases qC:k<m
  ·obtain⟨bb,off,x,rfl,CW,hx,hcell⟩:=(hA.o.keep hG.o).at_ qC;have c0:wr.cell? ⟨bb,off+k*3,none⟩=some (.string ⟨x.n.toArray⟩):=hcell 0 _ rfl;have c1:wr.cell? ⟨bb,off+k*3+1,none⟩=some (.int .i64 x.l.lv):=hcell 1 _ rfl;have c2:wr.cell? ⟨bb,off+k*3+2,none⟩=some (.int .u32 (x.l.c:Int)):=hcell 2 _ rfl;have kX:(k:Int)<(m:Int):=ω;have wL:=List.mem_of_getElem? hx;have H7:x.n.length≤maxLen:=by have:=ht.o x wL;unfold maxLen;omega
   have Xn:=ζ ((hM.o.alloc (.cells #[.string ⟨x.n.toArray⟩,.int .i64 x.l.lv,.int .u32 (x.l.c:Int)] 41)));by_cases IV:x.n∈(rF l).take k
   ·have hlk:=Xa.look Xn.o H7 (x:=true) (by simp[IV]);have aN:Hid (R=false):=ζ (by rw[hR.o];exact OO hx (.inl IV));clear hR hcell hx IV H7 hM Xn oD wL;go_wp2;go_ret;exact⟨aJ aN.o.symm,by
     have:=hG.o;exact γ
    ⟩
   ·have hlk:=Xa.look Xn.o H7 (x:=false) (by simp[IV]);have cN:=uN x.n;have cR:=fun W=>mF x.l W
    have qR:=fun h=>OO hx (.inr h)
    have ZN:=oD.o.next hx IV;have xR:(rF l).take (k+1)=(rF l).take k++[x.n]:=by rw[List.take_add_one,CO hx];rfl
    replace xR:=ζ xR;unfold Gv at qR ZN;generalize fG x.n = B at *
    generalize dA x.l.lv=B2 at *
    replace cN:=ζ cN;replace cR:=ζ cR;clear hcell hx IV wL;have YS:Hid (ah w (wr.alloc (.cells #[.string ⟨x.n.toArray⟩,.int .i64 x.l.lv,.int .u32 (x.l.c:Int)] 41))):=ζ (hG.o.alloc _);have ba:aG (wr.alloc (.cells #[.string ⟨x.n.toArray⟩,.int .i64 x.l.lv,.int .u32 (x.l.c:Int)] 41)) wr.heap.size 41 #[.string ⟨x.n.toArray⟩,.int .i64 x.l.lv,.int .u32 (x.l.c:Int)]:=aG.new wr _ _;cases B
    ·have aN:Hid (R=false):=ζ (by rw[hR.o];exact qR σ);clear hR qR ZN hM Xn oD xR H7 ba;go_wp2_with fail;refine (cN.out _).mono ?_;rintro e w1 ⟨rfl,hb⟩;go_wp2;go_ret;exact⟨aJ aN.o.symm,YS.o.trans hb⟩
    ·cases B2
     ·have aN:Hid (R=false):=ζ (by rw[hR.o];exact qR σ);clear hR qR ZN hM Xn oD xR H7;go_wp2_with fail;refine (cN.out _).mono ?_;rintro e w1 ⟨rfl,hb⟩;replace ba:=ba.grows hb;have d1:_ = some (Value.int .i64 x.l.lv):=ba.cell 1;have d2:_ = some (Value.int .u32 (x.l.c:Int)):=ba.cell 2;have sa:=ba.lt;have fM:=ζ (YS.o.trans hb);clear hb ba YS;go_wp2_with fail;refine (cR.out _).mono ?_;rintro e w2 ⟨rfl,hb2⟩;go_wp2;go_ret;exact⟨aJ aN.o.symm,fM.o.trans hb2⟩
     ·have aq5:=ζ (ZN σ);clear qR ZN oD hM;go_wp2_with fail;refine (cN.out _).mono ?_;rintro e w1 ⟨rfl,hb⟩;replace ba:=ba.grows hb;have d1:_ = some (Value.int .i64 x.l.lv):=ba.cell 1;have d2:_ = some (Value.int .u32 (x.l.c:Int)):=ba.cell 2;have sa:=ba.lt;have fM:=ζ (YS.o.trans hb);have Z4:=ζ (Xn.o.grows hb);clear hb YS Xn hlk c0 c1 c2;go_wp2_with fail;refine (cR.out _).mono ?_;rintro e w2 ⟨rfl,hb2⟩;replace ba:=ba.grows hb2;have d0:_ = some (Value.string ⟨x.n.toArray⟩):=ba.cell 0;have sa2:=ba.lt;have gK:=ζ (fM.o.trans hb2);have ZY:=ζ (Z4.o.grows hb2);clear hb2 ba fM Z4 d1 d2 sa;go_wp2_with (at_mapUpdate;refine K_ ZY.o rfl _ _ _ rfl (by unfold maxLen;omega) x.n H7 rfl rfl rfl ?_;intro w3 hM4 hby;(have qp:=ζ (gK.o.aQ hby (fun g hg=>by injection hg with hg;omega)));(replace hM4:=ζ hM4);clear hby ZY gK);go_roundw
      case rel=>exact⟨k+1,ω,ν,aq5,by rw[xR.o];exact hM4.o,qp.o⟩
      case measure=>exact ψ
  ·obtain rfl:k=m:=ω;have aN:Hid (R=true):=ζ (by rw[hR.o];exact abk kN.o oD.o);clear hR hM oD;go_wp2;go_ret;exact⟨aJ aN.o.symm,hG.o⟩
end Go.Proofs.YtbhikkgpcmkonaaGreatDoor
namespace Go.Proofs.YtbhikkgpcmkonaaGreatDoor
open Go.RowKit
theorem ajD (g:FuncId) (lb:Array Value) (eg:Enters Tryz.prog g) (p:zN→Bool) (A:Option Addr) (m c:Nat) (l:List zN) (w:World) (h:bW w 3 Y9 A m l) (hm:m≤9223372036854775807) (hp:xZ Tryz.prog g lb amm p l w) :
 Calls Tryz.prog 94 #[.slice A m c,.func (.func g) #[] lb] w fun e w'=>e =.returned (.int .i64 (placeOf p l))∧ah w w':=by
 have hlen:=h.1;unfold Enters at eg;obtain⟨R,hR⟩:∃R,R=placeOf p l:=⟨_,rfl⟩;rw[←hR];replace hR:=ζ hR;replace hp:=ζ hp;replace h:=ζ h;go_enter Tryz.func94,Tryz.ntmps94
 go_wp2;go_loopw [5,8] (fun _ i wr=>∃k:Nat,k≤m∧i =.int .i64 k∧Hid (∀j y,j < k→l[j]? = some y→p y = false)∧Hid (ah w wr)) (fun _ i _=>m - (intOf i).toNat)
 case atStart=>exact⟨0,ω,rfl,fun _ _ h=>absurd h ω,ah.refl _⟩
 case round=>
  obtain⟨k,hk,rfl,hall,hg⟩:=hrel;by_cases hlt:k<m
  ·obtain⟨b,off,x,rfl,_,hx,hcell⟩:=(h.o.keep hg.o).at_ hlt;have c0:wr.cell? ⟨b,off+k*3,none⟩=some (.string ⟨x.n.toArray⟩):=hcell 0 _ rfl;have c1:wr.cell? ⟨b,off+k*3+1,none⟩=some (.int .i64 x.l.lv):=hcell 1 _ rfl;have c2:wr.cell? ⟨b,off+k*3+2,none⟩=some (.int .u32 (x.l.c:Int)):=hcell 2 _ rfl;have kX:(k:Int)<(m:Int):=ω;have cI:=hp.o x (List.mem_of_getElem? hx) wr hg.o;unfold amm at cI;cases hq:p x with
   | false=>
    rw[hq] at cI;replace cI:=ζ cI;have f_:=ζ (show ∀j y,j < k+1→l[j]? = some y→p y = false from fun j y hj hy=>by
     by_cases hjk:j = k
     ·subst hjk;rw[hx] at hy;rw[←Option.some.inj hy];exact hq
     ·exact hall.o j y ω hy)
    clear hcell hq hx hall hR;go_wp2_with fail;refine (cI.out).mono ?_;rintro e w1 ⟨rfl,hb⟩;have hg1:=ζ (hg.o.trans hb);go_wp2;go_roundw
    case rel=>exact⟨k+1,ω,ν,f_,hg1⟩
    case measure=>exact ψ
   | true=>
    rw[hq] at cI;have aN:Hid (R=(k:Int)):=ζ (by rw[hR.o];exact jh hx hq hall.o);replace cI:=ζ cI;clear hcell hq hx hall hR;go_wp2_with fail;refine (cI.out).mono ?_;rintro e w1 ⟨rfl,hb⟩;have hg1:=ζ (hg.o.trans hb);go_wp2;go_ret;exact⟨by rw[aN.o];rfl,hg1.o⟩
  ·obtain rfl:k=m:=ω;have aN:Hid (R=-1):=ζ (by rw[hR.o];exact iJ fun j y hy=>hall.o j y (by have:=(List.getElem?_eq_some_iff.1 hy).1;omega) hy);clear hall hR;go_wp2;go_ret;exact⟨by rw[aN.o];rfl,hg.o⟩
theorem agA (x:zN) {n:List UInt8} {g:Nat} (w:World) (hc:w.cell? ⟨g,0,none⟩=some (.string ⟨n.toArray⟩)) :
 Calls Tryz.prog 95 #[amm x,.pointer (some ⟨g,0,none⟩)] w fun e w'=>e =.returned (.bool (x.n ==n))∧ah w w':=by
 unfold amm;have hb:=World.block_lt_of_cell? w _ hc;simp only at hb;obtain⟨R,hR⟩:∃R,R=(x.n ==n):=⟨_,rfl⟩;rw[←hR];go_enter Tryz.func95,Tryz.ntmps95
 go_wp2;go_ret;refine⟨aJ (by first | rfl | simp[hR]),?_⟩;exact γ
theorem agy {l:List zN} {n:List UInt8} (h:l.any (fun x=>x.n ==n)=false):dY l n = none:=by
 unfold dY;rw[List.find?_eq_none.2 (fun x hx=>by have:=List.any_eq_false.1 h x hx;simpa using this)];rfl
theorem UG {n:List UInt8}:∀{l:List zN} {i:Nat} {x:zN},l[i]? = some x→(x.n ==n)=true→(l.take i).any (fun x=>x.n ==n)=false→dY l n = some x.l
 | [],i,x,h,_,_=>by simp at h
 | y ::r,0,x,h,hp,_=>by
  simp at h;subst h;simp only[beq_iff_eq] at hp;simp[dY,List.find?,hp]
 | y ::r,i + 1,x,h,hp,ha=>by
  simp only[List.take_succ_cons,List.any_cons,Bool.or_eq_false_iff] at ha;have h2:=UG (l:=r) (i:=i) (by simpa using h) hp ha.2;unfold dY at h2 ⊢;rw[List.find?_cons_of_neg (by simpa using ha.1)];exact h2
theorem zC {n:List UInt8} {l:List zN} {y:gy} (h:dY l n = some y):∃x∈l,x.l = y:=by
 unfold dY at h;obtain⟨x,hx,rfl⟩:=Option.map_eq_some_iff.1 h;exact⟨x,List.mem_of_find?_eq_some hx,rfl⟩
def kW (o:Option gy):gy:=o.getD ⟨0,0⟩
theorem zD {A:Option Addr} {m c:Nat} {l:List zN} {n:List UInt8} (w:World) (h:bW w 3 Y9 A m l) (hm:m≤9223372036854775807) :
 Calls Tryz.prog 51 #[.slice A m c,.string ⟨n.toArray⟩] w fun e w'=>e =.returned (.tuple #[.agg #[.int .i64 (kW (dY l n)).lv,.int .u32 ((kW (dY l n)).c:Int)],.bool (dY l n).isSome])∧ah w w':=by
 have hw2:ah w ((w.alloc (.cells #[.string ⟨n.toArray⟩] 9)).alloc (.cells #[.int .i64 0,.int .u32 0] 25)):=((ah.refl w).alloc _).alloc _;have b0:aG ((w.alloc (.cells #[.string ⟨n.toArray⟩] 9)).alloc (.cells #[.int .i64 0,.int .u32 0] 25)) w.heap.size 9 #[.string ⟨n.toArray⟩]:=(aG.new w _ _).alloc _;have b1:aG ((w.alloc (.cells #[.string ⟨n.toArray⟩] 9)).alloc (.cells #[.int .i64 0,.int .u32 0] 25)) (w.heap.size+1) 25 #[.int .i64 0,.int .u32 0]:=aG.kV w _ _ _;have hA2:=h.keep hw2;have cI:=ajD (c:=c) 95 #[.pointer (some ⟨w.heap.size,0,none⟩)] (enters_of Tryz.func95 κ rfl) (fun x=>x.n ==n) A m l _ hA2 hm (fun x _ W hW=>agA x W (hW.cell (b0.cell 0)));rcases zV (fun x:zN=>x.n ==n) l with⟨h1,h2⟩ | ⟨i,x,h1,h2,h3,h4⟩
 ·rw[h1] at cI;rw[agy h2];replace cI:=ζ cI;replace hw2:=ζ hw2;clear hA2 h1 h2 h b0;go_enter Tryz.func51,Tryz.ntmps51
  go_wp2_with fail;refine (cI.out).mono ?_;rintro e w1 ⟨rfl,hb⟩;have d0:=(b1.grows hb).cell 0;have d1:=(b1.grows hb).cell 1;have f0:=(b1.grows hb).frozen 0;have f1:=(b1.grows hb).frozen 1;have s1:=(b1.grows hb).lt;have hg:=hw2.o.trans hb;have hg0:ah w w1:=hg;clear cI hw2;go_wp2_with fail;refine bodyPost_ret (v:=.tuple #[.agg #[.int .i64 0,.int .u32 0],.bool false]) ?_ rfl ⟨rfl,?_⟩
  ·simp[results,Tryz.results51,go_sem,d0,d1]
  ·exact γ
 ·rw[h1] at cI;rw[UG h2 h3 h4];have hi:i < m:=by have:=(List.getElem?_eq_some_iff.1 h2).1;have:=h.1;omega
  replace cI:=ζ cI;replace hw2:=ζ hw2;replace hA2:=ζ hA2;clear h1 h3 h4 h b0;go_enter Tryz.func51,Tryz.ntmps51
  go_wp2_with fail;refine (cI.out).mono ?_;rintro e w1 ⟨rfl,hb⟩;obtain⟨b,off,x',rfl,_,hx,hcell⟩:=(hA2.o.keep hb).at_ hi;obtain rfl:x'=x:=Option.some.inj (hx.symm.trans h2);have c1:w1.cell? ⟨b,off+i * 3+1,none⟩=some (.int .i64 x'.l.lv):=hcell 1 _ rfl;have c2:w1.cell? ⟨b,off+i * 3+2,none⟩=some (.int .u32 (x'.l.c:Int)):=hcell 2 _ rfl;have d0:=(b1.grows hb).cell 0;have d1:=(b1.grows hb).cell 1;have f0:=(b1.grows hb).frozen 0;have f1:=(b1.grows hb).frozen 1;have s1:=(b1.grows hb).lt;have hg:=hw2.o.trans hb;have hg0:ah w w1:=hg;clear cI hw2 hA2 hcell hx h2;go_wp2_with fail;refine bodyPost_ret (v:=.tuple #[.agg #[.int .i64 x'.l.lv,.int .u32 (x'.l.c:Int)],.bool true]) ?_ rfl ⟨rfl,?_⟩
  ·simp[results,Tryz.results51,go_sem,d0,d1]
  ·exact γ
theorem O9 (g:FuncId) (lb:Array Value) (eg:Enters Tryz.prog g) (p:bM→Bool) (A:Option Addr) (m c:Nat) (l:List bM) (w:World) (h:bW w 2 dZ A m l) (hm:m≤9223372036854775807) (hp:xZ Tryz.prog g lb Ip p l w) :
 Calls Tryz.prog 175 #[.slice A m c,.func (.func g) #[] lb] w fun e w'=>e =.returned (.int .i64 (placeOf p l))∧ah w w':=by
 have hlen:=h.1;unfold Enters at eg;obtain⟨R,hR⟩:∃R,R=placeOf p l:=⟨_,rfl⟩;rw[←hR];replace hR:=ζ hR;replace hp:=ζ hp;replace h:=ζ h;go_enter Tryz.func175,Tryz.ntmps175
 go_wp2;go_loopw [5,8] (fun _ i wr=>∃k:Nat,k≤m∧i =.int .i64 k∧Hid (∀j y,j < k→l[j]? = some y→p y = false)∧Hid (ah w wr)) (fun _ i _=>m - (intOf i).toNat)
 case atStart=>exact⟨0,ω,rfl,fun _ _ h=>absurd h ω,ah.refl _⟩
 case round=>
  obtain⟨k,hk,rfl,hall,hg⟩:=hrel;by_cases hlt:k<m
  ·obtain⟨b,off,x,rfl,_,hx,hcell⟩:=(h.o.keep hg.o).at_ hlt;have c0:wr.cell? ⟨b,off+k*2,none⟩=some (.string ⟨x.n.toArray⟩):=hcell 0 _ rfl;have c1:wr.cell? ⟨b,off+k*2+1,none⟩=some (.string ⟨x.v.toArray⟩):=hcell 1 _ rfl;have kX:(k:Int)<(m:Int):=ω;have cI:=hp.o x (List.mem_of_getElem? hx) wr hg.o;unfold Ip at cI;cases hq:p x with
   | false=>
    rw[hq] at cI;replace cI:=ζ cI;have f_:=ζ (show ∀j y,j < k+1→l[j]? = some y→p y = false from fun j y hj hy=>by
     by_cases hjk:j = k
     ·subst hjk;rw[hx] at hy;rw[←Option.some.inj hy];exact hq
     ·exact hall.o j y ω hy)
    clear hcell hq hx hall hR;go_wp2_with fail;refine (cI.out).mono ?_;rintro e w1 ⟨rfl,hb⟩;have hg1:=ζ (hg.o.trans hb);go_wp2;go_roundw
    case rel=>exact⟨k+1,ω,ν,f_,hg1⟩
    case measure=>exact ψ
   | true=>
    rw[hq] at cI;have aN:Hid (R=(k:Int)):=ζ (by rw[hR.o];exact jh hx hq hall.o);replace cI:=ζ cI;clear hcell hq hx hall hR;go_wp2_with fail;refine (cI.out).mono ?_;rintro e w1 ⟨rfl,hb⟩;have hg1:=ζ (hg.o.trans hb);go_wp2;go_ret;exact⟨by rw[aN.o];rfl,hg1.o⟩
  ·obtain rfl:k=m:=ω;have aN:Hid (R=-1):=ζ (by rw[hR.o];exact iJ fun j y hy=>hall.o j y (by have:=(List.getElem?_eq_some_iff.1 hy).1;omega) hy);clear hall hR;go_wp2;go_ret;exact⟨by rw[aN.o];rfl,hg.o⟩
theorem Qc {A:Option Addr} {m c:Nat} {xs:List bM} (w:World) (h:bW w 2 dZ A m xs) (hm:m≤65536) :
 Calls Tryz.prog 81 #[.slice A m c] w fun e w'=>∃v,e =.returned v∧Own w' w.heap.size 88 2 dZ v xs∧ah w w':=by
 have heq:=fun (w:World)=>Lib.run_eql_slice_nil (P:=Tryz.prog) w 22 88 A m c 0 0 Tryz.underlying22
 have hlen:=h.1;cases A with
 | none=>
  obtain⟨rfl,rfl⟩:=h.ado;clear hlen h;go_enter Tryz.func81,Tryz.ntmps81
  go_wp2;go_ret;exact⟨_,rfl,Own.iO _ _ _ _ _,ah.refl _⟩
 | some ad=>
  have hown:Own (w.alloc (.cells #[] 88)) w.heap.size 88 2 dZ (.slice (some ⟨w.heap.size,0,none⟩) ([]:List bM).length 0) []:=
   Own.mk_ (cur:= #[]) JB ω (Nat.le_refl _) (heap_alloc_new w _) σ (by simp[maxLen]) σ (fun q hq=>by simp at hq)
  have kK:=h.keep ((ah.refl w).alloc (.cells #[] 88));replace hlen:=ζ hlen;clear h;go_enter Tryz.func81,Tryz.ntmps81
  go_wp2_with (at_builtin;refine oq T_F rfl (.tmp 5) (.tmp 6) rfl hown rfl ad rfl kK JB auW σ (by simp;unfold maxLen;omega) (by simp;omega) (fun v1 w1 hown1 hgr hat=> ?_));have hb1:Below w.heap.size w w1:=Own.below hown ((Below.refl _ _).alloc (Nat.le_refl _) _) (Nat.le_refl _) σ hgr;clear hgr hat;go_wp2;go_ret;exact⟨v1,rfl,by simpa using hown1,hb1⟩
theorem Za (g:FuncId) (lb:Array Value) (eg:Enters Tryz.prog g) (p:bM→Bool) (base:Nat) (v:Value) (ws:List bM) (w:World) (h:Own w base 88 2 dZ v ws) (hbase:base≤w.heap.size) (hm:ws.length≤65536) (hp:apU Tryz.prog g lb Ip p base ws w) :
 Calls Tryz.prog 135 #[v,.func (.func g) #[] lb] w fun e w'=>∃v',e =.returned v'∧Own w' base 88 2 dZ v' (ws.filter fun x=> !p x)∧Below base w w':=by
 obtain⟨A,c,rfl,akk,hcm,kK⟩:=h.arr JB;have cI:=O9 (c:=c) g lb eg p A ws.length ws w kK ω (fun x hx W hW=>hp x hx W (hW.below.mono hbase));unfold Enters at eg;rcases zV p ws with⟨h1,h2⟩ | ⟨i0,x0,h1,h2,h3,h4⟩
 ·rw[h1] at cI;have hf:=lS h2;rw[hf];replace cI:=ζ cI;clear h1 h2 hf hp kK;go_enter Tryz.func135,Tryz.ntmps135
  go_wp2_with fail;refine cI.out.mono ?_;rintro e w1 ⟨rfl,hb⟩;go_wp2;go_ret;exact⟨_,rfl,h.grows hb,hb.below.mono hbase⟩
 ·rw[h1] at cI;have hS:=xY.start h2 h3 h4;have hi0:i0<ws.length:=(List.getElem?_eq_some_iff.1 h2).1;have ake:∃gb,A=some ⟨gb,0,none⟩:=by
   rcases h.2 with⟨h5,h6⟩ | ⟨gb,_,_,h5,_⟩
   ·omega
   ·simp only[Value.slice.injEq] at h5;exact⟨gb,h5.1⟩
  obtain⟨gb,rfl⟩:=ake;have hgb:base≤gb:=by obtain⟨_,_,hb,_⟩:=h.tJ JB;exact hb
  have hne:((i0:Int)==-1)=false:=by simp
  replace cI:=ζ cI;replace hp:=ζ hp;clear h1 h2 h3 h4 kK;go_enter Tryz.func135,Tryz.ntmps135
  go_wp2_with fail;refine cI.out.mono ?_;rintro e w1 ⟨rfl,hb⟩;obtain⟨n,hn⟩:∃n,n = ws.length:=⟨_,rfl⟩;rw[←hn] at h hm hi0 akk ⊢;replace hn:=ζ hn;unfold maxLen at hcm;go_wp2;go_loopw [5,6] (fun vi vj wr=>∃(i j:Nat) (ys:List bM),vi=.int .i64 i∧vj=.int .i64 j∧i < j∧j≤n∧xY p ws ys i j∧Own wr base 88 2 dZ (.slice (some ⟨gb,0,none⟩) n c) ys∧Below base w wr) (fun _ vj _=>n - (intOf vj).toNat)
  case atStart=>exact⟨i0,i0+1,ws,rfl,ν,ω,ω,hS,h.grows hb,hb.below.mono hbase⟩
  case round=>
   obtain⟨i,j,ys,rfl,rfl,hij,hjn,ZW,hown,hB⟩:=hrel;have hBs:=hB.size;by_cases hlt:j < n
   ·obtain⟨x,hx⟩:∃x,ws[j]? = some x:=⟨_,List.getElem?_eq_getElem (by rw[←hn.o];exact hlt)⟩;have wL:=List.mem_of_getElem? hx;have hy:=ZW.get hx;have hs1:=ZW.apO hx;have hs2:=ZW.ao4 hx;obtain⟨x',zo,hcell,_⟩:=hown.at_ JB hlt;obtain rfl:x'=x:=Option.some.inj (zo.symm.trans hy);have c0:wr.cell? ⟨gb,j * 2,none⟩=some (.string ⟨x'.n.toArray⟩):=hcell 0 _ rfl;have c1:wr.cell? ⟨gb,j * 2+1,none⟩=some (.string ⟨x'.v.toArray⟩):=hcell 1 _ rfl;have Fh:gb<wr.heap.size:=World.block_lt_of_cell? wr ⟨gb,j * 2,none⟩ c0;clear hcell zo hx hy;cases hq:p x'
    ·have hs:=hs2 hq;have cP:=fun W hW=>hp.o x' wL W hW
     unfold Ip at cP;rw[hq] at cP;replace cP:=ζ cP;clear hs1 hs2 hq;go_wp2_with fail;refine (cP.out _ (by
      repeat (first | assumption | exact Below.refl _ _ | apply Below.drew | apply below_drewN | (refine Below.Jm ?_ (by first | rfl | simp) (by first | omega | (simp;omega) | simp)) | (refine Below.alloc ?_ (by first | omega | (simp;omega) | simp) _) | (refine Below.setCell ?_ (by first | omega | (simp;omega) | simp) _))
     )).mono ?_
     rintro e w2 ⟨rfl,hb2⟩;have hown2:=(hown.alloc (.cells #[.string ⟨x'.n.toArray⟩,.string ⟨x'.v.toArray⟩] 88)).grows hb2;obtain⟨y,_,UM,aCb⟩:=hown2.at_ JB (i:=i) ω;have d0:w2.cell? ⟨gb,i * 2,none⟩=some (.string ⟨y.n.toArray⟩):=UM 0 _ rfl;have d1:w2.cell? ⟨gb,i * 2+1,none⟩=some (.string ⟨y.v.toArray⟩):=UM 1 _ rfl;obtain⟨hc2,hf2⟩:=bF hb2;have aK:=hown2.bH JB ω (i:=i) ω x';have IV:i < n:=ω;have r_:Below base w w2:=(hB.alloc ω (.cells #[.string ⟨x'.n.toArray⟩,.string ⟨x'.v.toArray⟩] 88)).trans (hb2.below.mono (by simp;omega));replace aK:=ζ aK;clear UM hown2 hb2;go_wp2;go_roundw
     case rel=>exact⟨i + 1,j + 1,ys.set i x',ν,ν,ω,ω,hs,aK.o,Below.setCells hgb (dZ x') (i * 2) w2 r_⟩
     case measure=>exact ψ
    ·have hs:=hs1 hq;have cP:=fun W hW=>hp.o x' wL W hW
     unfold Ip at cP;rw[hq] at cP;replace cP:=ζ cP;clear hs1 hs2 hq;go_wp2_with fail;refine (cP.out _ (by
      repeat (first | assumption | exact Below.refl _ _ | apply Below.drew | apply below_drewN | (refine Below.Jm ?_ (by first | rfl | simp) (by first | omega | (simp;omega) | simp)) | (refine Below.alloc ?_ (by first | omega | (simp;omega) | simp) _) | (refine Below.setCell ?_ (by first | omega | (simp;omega) | simp) _))
     )).mono ?_
     rintro e w2 ⟨rfl,hb2⟩;have hown2:=(hown.alloc (.cells #[.string ⟨x'.n.toArray⟩,.string ⟨x'.v.toArray⟩] 88)).grows hb2;have r_:Below base w w2:=(hB.alloc ω (.cells #[.string ⟨x'.n.toArray⟩,.string ⟨x'.v.toArray⟩] 88)).trans (hb2.below.mono (by simp;omega));go_wp2;go_roundw
     case rel=>exact⟨i,j + 1,ys,rfl,ν,ω,ω,hs,hown2,r_⟩
     case measure=>exact ψ
   ·obtain rfl:j = n:=ω;have hf:ys.take i = ws.filter fun x=> !p x:=by
     have:=ZW.front;rwa [List.take_of_length_le (Nat.le_of_eq hn.o.symm)] at this
    have qF:=fun ty=>hown.TR (P:=Tryz.prog) (t:=22) (ty:=ty) (c:=c - i) (z:=(⟨[],[]⟩:bM)) (zv:=.agg #[.string ⟨#[]⟩,.string ⟨#[]⟩]) JB ω auW Tryz.underlying22 (fun _=>by kernel_rfl) rfl hij
    obtain⟨zs,hz1,hz2⟩:=Own.clear_ JB ω (⟨[],[]⟩:bM) (j - i) i _ _ hown ω;have aN:Own (wr.setCells gb (i * 2) (dh dZ (List.replicate (j - i) (⟨[],[]⟩:bM)))) base 88 2 dZ (.slice (some ⟨gb,0,none⟩) i c) (ws.filter fun x=> !p x):=by
     rw[←hf,←hz2];exact hz1.cut JB ω ω
    have Xp:Below base w (wr.setCells gb (i * 2) (dh dZ (List.replicate (j - i) (⟨[],[]⟩:bM)))):=Below.setCells hgb _ _ _ hB;generalize wr.setCells gb (i * 2) (dh dZ (List.replicate (j - i) (⟨[],[]⟩:bM)))=w3 at qF aN Xp;clear hz1 hz2 hf ZW hown hB h hp;go_wp2;go_ret;exact⟨_,rfl,aN,Xp⟩
end Go.Proofs.YtbhikkgpcmkonaaGreatDoor
