/- Parts: GrpB SlR SlI PolF PolG PolH GrpC -/
import Derived.Test.YtbhikkgpcmkonaaGreatDoorVo0
import Derived.Test.YtbhikkgpcmkonaaGreatDoorVo10
import Derived.Test.YtbhikkgpcmkonaaGreatDoorVo5
import Derived.Test.YtbhikkgpcmkonaaGreatDoorVo6
import Derived.Test.YtbhikkgpcmkonaaGreatDoorVo7
import Derived.Deep.OwnRows
set_option maxRecDepth 100000
set_option maxHeartbeats 12800000
namespace Go.Proofs.YtbhikkgpcmkonaaGreatDoor
open Go.RowKit Go.Maps
def kF (ids:List Nat) (id:Nat):List Nat:=if id∈ids then ids else putAt ids (qL ids id) id
theorem OH (l:List Nat) (t:Nat):∀(k x:Nat),k<qL l t→l[k]? = some x→x < t:=by
 induction l with
 | nil=>intro k x h;simp[qL] at h
 | cons a r ih=>
  intro k x hk hx;unfold qL at hk ih;by_cases ha:a < t
  ·rw[List.takeWhile_cons_of_pos (by simpa using ha),List.length_cons] at hk;cases k with
   | zero=>simp at hx;subst hx;exact ha
   | succ k=>exact ih k x ω (by simpa using hx)
  ·rw[List.takeWhile_cons_of_neg (by simpa using ha)] at hk;simp at hk
theorem adg (l:List Nat) (t:Nat):∀x:Nat,l[qL l t]? = some x→t≤x:=by
 induction l with
 | nil=>intro x h;simp at h
 | cons a r ih=>
  intro x hx;unfold qL at hx ih;by_cases ha:a < t
  ·rw[List.takeWhile_cons_of_pos (by simpa using ha),List.length_cons,List.getElem?_cons_succ] at hx;exact ih x hx
  ·rw[List.takeWhile_cons_of_neg (by simpa using ha)] at hx;simp at hx;omega
theorem jB.put {l:List Nat} {t:Nat} (h:jB l) (ht:¬t∈l):jB (putAt l (qL l t) t):=by
 have hp:=IC l t;unfold jB;rw[List.pairwise_iff_getElem];intro i j hi hj hij;have hx:=DR hp (List.getElem?_eq_getElem hi);have hy:=DR hp (List.getElem?_eq_getElem hj);generalize (putAt l (qL l t) t)[i]=x at *
 generalize (putAt l (qL l t) t)[j]=y at *
 have YH:∀(q y:Nat),qL l t≤q→l[q]? = some y→t < y:=fun q y hq hy=>by
  have h0:t≤y:=by
   rcases Nat.eq_or_lt_of_le hq with h1 | h1
   ·rw[←h1] at hy;exact adg l t y hy
   ·have hl:qL l t < l.length:=by have:=(List.getElem?_eq_some_iff.1 hy).1;omega
    have h2:=adg l t _ (List.getElem?_eq_getElem hl);have h3:=h.lt h1 (List.getElem?_eq_getElem hl) hy;omega
  have h1:t≠y:=fun e=>ht (by rw[e];exact List.mem_of_getElem? hy)
  omega
 rcases hx with⟨h1,h2⟩ | ⟨h1,h2⟩ | ⟨h1,h2⟩
 ·rcases hy with⟨h3,h4⟩ | ⟨h3,h4⟩ | ⟨h3,h4⟩
  ·exact h.lt hij h2 h4
  ·rw[h4];exact OH l t i x h1 h2
  ·have:=OH l t i x h1 h2;have:=YH (j - 1) y ω h4;omega
 ·rcases hy with⟨h3,h4⟩ | ⟨h3,h4⟩ | ⟨h3,h4⟩
  ·omega
  ·omega
  ·rw[h2];exact YH (j - 1) y ω h4
 ·rcases hy with⟨h3,h4⟩ | ⟨h3,h4⟩ | ⟨h3,h4⟩
  ·omega
  ·omega
  ·exact h.lt (show i - 1<j - 1 by omega) h2 h4
theorem jB.add {l:List Nat} {t:Nat} (h:jB l):jB (kF l t):=by
 unfold kF;split
 ·exact h
 ·rename_i ht;exact h.put ht
theorem U3 (l:List Nat) (t:Nat):(kF l t).length≤l.length+1:=by
 unfold kF;split
 ·omega
 ·rw[uM (IC l t)];omega
theorem Tf {a b:Nat} (h:Lib.decDigits a = Lib.decDigits b):a = b:=by
 have h1:=LU a;rw[h,LU b] at h1;exact (Option.some.inj h1).symm
theorem La (r:Nat) (fs:List bM):(dw r fs).takeWhile (fun b=>decide (b.toNat≠0))=Lib.decDigits r:=by
 unfold dw;have h1:∀b∈Lib.decDigits r,(decide (b.toNat≠0))=true:=fun b hb=>by
  have:=Ti r b hb;simp;omega
 rw[List.takeWhile_append_of_pos h1];cases fs with
 | nil=>simp
 | cons f fs=>
  rw[List.flatMap_cons];unfold yu;rw[List.cons_append,List.takeWhile_cons_of_neg σ];simp
theorem U9 {r r':Nat} {fs fs':List bM} (h:dw r fs=dw r' fs'):r = r':=by
 have h1:=La r fs;rw[h,La r' fs'] at h1;exact (Tf h1).symm
def xP:List (List UInt8×Nat)→List UInt8→Option Nat
 | [],_=>none
 | x ::r,s=>match xP r s with
  | some d=>some d
  | none=>if x.1=s then some x.2 else none
theorem abx (x:List UInt8×Nat) (r:List (List UInt8×Nat)) (s:List UInt8):xP (x ::r) s = match xP r s with
 | some d=>some d
 | none=>if x.1=s then some x.2 else none:=rfl
def nC (l:List (List UInt8×Nat)):List (List UInt8×Lit):=l.map fun x=>(x.1,.int .i64 (x.2:Int))
theorem Lp (s:List UInt8):∀l:List (List UInt8×Nat),nR (nC l) s = (xP l s).map fun k=> .int .i64 (k:Int)
 | []=>rfl
 | x ::r=>by
  show nR ((x.1,.int .i64 (x.2:Int))::nC r) s = _
  rw[vM,Lp s r,abx];cases xP r s with
  | some d=>rfl
  | none=>by_cases h:x.1=s <;> simp[h]
theorem J8 {s:List UInt8} {k:Nat}:∀{l:List (List UInt8×Nat)},xP l s = some k→(s,k)∈l
 | [],h=>by cases h
 | x ::r,h=>by
  unfold xP at h;cases hr:xP r s with
  | some d=>rw[hr] at h;injection h with h;subst h;exact List.mem_cons_of_mem _ (J8 hr)
  | none=>
   rw[hr] at h;simp only at h;split at h
   ·rename_i he;injection h with h;subst h;rw[←he];exact List.mem_cons_self
   ·cases h
theorem X5 (l:List (List UInt8×Nat)) (x:List UInt8×Nat):nC (l ++[x])=nC l ++[(x.1,.int .i64 (x.2:Int))]:=by simp[nC]
structure JJ where
 aW:List (List ni)
 place:List (List UInt8×Nat)
def Kq (rec:List UInt8) (r:Nat) (fP:List bM):Nat:=jS (sha (ig rec r fP)) 8
def nY (aW:List (List ni)) (r k id:Nat):List (List ni):=match aW[r]? with
 | some gs=>match gs[k]? with
  | some g=>aW.set r (gs.set k {g with ids:=kF g.ids id})
  | none=>aW
 | none=>aW
def stepG (rec:List UInt8) (id:Nat) (fs:List bM) (names:Nat→List (List UInt8)) (st:JJ) (r:Nat):JJ:=
 match xP st.place (dw r (jq fs (names r))) with
 | some k=>{st with aW:=nY st.aW r k id}
 | none=>match st.aW[r]? with
  | some gs=>{aW:=nY (st.aW.set r (gs++[⟨r,jq fs (names r),Kq rec r (jq fs (names r)),[]⟩])) r gs.length id,place:=st.place++[(dw r (jq fs (names r)),gs.length)]}
  | none=>st
structure kZ (n j:Nat) (st:JJ):Prop where
 len:st.aW.length=n
 pl:∀s k,(s,k)∈st.place→∀(r:Nat) (fs:List bM) (gs:List ni),dw r fs=s→st.aW[r]? = some gs→k<gs.length
 Xg:∀(r:Nat) (gs:List ni) (k:Nat) (g:ni),st.aW[r]? = some gs→gs[k]? = some g→jB g.ids
 mr:∀(r:Nat) (gs:List ni),st.aW[r]? = some gs→gs.length≤j
 mi:∀(r:Nat) (gs:List ni) (k:Nat) (g:ni),st.aW[r]? = some gs→gs[k]? = some g→g.ids.length≤j
 mp:st.place.length≤j
theorem kZ.start (n:Nat):kZ n 0 ⟨List.replicate n [],[]⟩ where
 len:=by simp
 pl:=fun s k h=>by cases h
 Xg:=fun r gs k g h1 h2=>by
  have:=List.mem_of_getElem? h1;simp at this;rw[this.2] at h2;simp at h2
 mr:=fun r gs h1=>by
  have:=List.mem_of_getElem? h1;simp at this;rw[this.2];simp
 mi:=fun r gs k g h1 h2=>by
  have:=List.mem_of_getElem? h1;simp at this;rw[this.2] at h2;simp at h2
 mp:=by simp
theorem kZ.mono {n j j':Nat} {st:JJ} (h:kZ n j st) (hj:j≤j'):kZ n j' st:=
 ⟨h.len,h.pl,h.Xg,fun r gs h1=>Nat.le_trans (h.mr r gs h1) hj,fun r gs k g h1 h2=>Nat.le_trans (h.mi r gs k g h1 h2) hj,Nat.le_trans h.mp hj⟩
theorem kZ.bump {n j:Nat} {aW:List (List ni)} {place:List (List UInt8×Nat)} (h:kZ n j ⟨aW,place⟩) {r k id:Nat} {gs:List ni} {g:ni} (nD:aW[r]? = some gs) (hg:gs[k]? = some g) :
 kZ n (j + 1) ⟨aW.set r (gs.set k {g with ids:=kF g.ids id}),place⟩:=by
 have hr:r < aW.length:=(List.getElem?_eq_some_iff.1 nD).1;have hk:k<gs.length:=(List.getElem?_eq_some_iff.1 hg).1;have room:∀(s:Nat) (hs:List ni),(aW.set r (gs.set k {g with ids:=kF g.ids id}))[s]? = some hs→∃hs',aW[s]? = some hs'∧hs.length=hs'.length∧∀(i:Nat) (y:ni),hs[i]? = some y→∃y',hs'[i]? = some y'∧(y.ids=y'.ids∨y.ids=kF y'.ids id):=fun s hs h1=>by
  by_cases nS:r = s
  ·subst nS;rw[List.getElem?_set_self hr] at h1;injection h1 with h1;subst h1
   refine⟨gs,nD,by simp,fun i y hy=> ?_⟩;by_cases kX:k=i
   ·subst kX;rw[List.getElem?_set_self hk] at hy;injection hy with hy;subst hy
    exact⟨g,hg,.inr rfl⟩
   ·rw[List.getElem?_set_ne kX] at hy;exact⟨y,hy,.inl rfl⟩
  ·rw[List.getElem?_set_ne nS] at h1;exact⟨hs,h1,rfl,fun i y hy=>⟨y,hy,.inl rfl⟩⟩
 refine⟨by simpa using h.len,fun s q hm r' fs gs' hw hr'=> ?_,fun s hs i y h1 h2=> ?_,fun s hs h1=> ?_,fun s hs i y h1 h2=> ?_,Nat.le_trans h.mp ω⟩
 ·obtain⟨hs',o1,o2,_⟩:=room r' gs' hr';rw[o2];exact h.pl s q hm r' fs hs' hw o1
 ·obtain⟨hs',o1,o2,o3⟩:=room s hs h1;obtain⟨y',o4,o5⟩:=o3 i y h2;have:=h.Xg s hs' i y' o1 o4;rcases o5 with o5 | o5
  ·rw[o5];exact this
  ·rw[o5];exact this.add
 ·obtain⟨hs',o1,o2,_⟩:=room s hs h1;have:=h.mr s hs' o1;omega
 ·obtain⟨hs',o1,o2,o3⟩:=room s hs h1;obtain⟨y',o4,o5⟩:=o3 i y h2;have:=h.mi s hs' i y' o1 o4;rcases o5 with o5 | o5
  ·rw[o5];omega
  ·rw[o5];have:=U3 y'.ids id;omega
theorem kZ.push {n j:Nat} {aW:List (List ni)} {place:List (List UInt8×Nat)} (h:kZ n j ⟨aW,place⟩) {r:Nat} {fs:List bM} {key:Nat} {gs:List ni} (nD:aW[r]? = some gs) :
 kZ n (j + 1) ⟨aW.set r (gs++[⟨r,fs,key,[]⟩]),place++[(dw r fs,gs.length)]⟩:=by
 have hr:r < aW.length:=(List.getElem?_eq_some_iff.1 nD).1;have room:∀(s:Nat) (hs:List ni),(aW.set r (gs++[⟨r,fs,key,[]⟩]))[s]? = some hs→(s = r∧hs=gs++[⟨r,fs,key,[]⟩])∨(s≠r∧aW[s]? = some hs):=fun s hs h1=>by
  by_cases nS:r = s
  ·subst nS;rw[List.getElem?_set_self hr] at h1;injection h1 with h1
   exact .inl ⟨rfl,h1.symm⟩
  ·rw[List.getElem?_set_ne nS] at h1;exact .inr ⟨Ne.symm nS,h1⟩
 have elt:∀(i:Nat) (y:ni),(gs++[⟨r,fs,key,[]⟩])[i]? = some y→gs[i]? = some y∨y.ids=[]:=fun i y hy=>by
  rw[List.getElem?_append] at hy;split at hy
  ·exact .inl hy
  ·have:=List.mem_of_getElem? hy;simp at this;subst this;exact .inr rfl
 refine⟨by simpa using h.len,fun s q hm r' fs' gs' hw hr'=> ?_,fun s hs i y h1 h2=> ?_,fun s hs h1=> ?_,fun s hs i y h1 h2=> ?_,by have:=h.mp;simp at this ⊢;omega⟩
 ·rw[List.mem_append] at hm;rcases hm with hm | hm
  ·rcases room r' gs' hr' with⟨rfl,rfl⟩ | ⟨_,h2⟩
   ·have:=h.pl s q hm r' fs' gs hw nD;simp;omega
   ·exact h.pl s q hm r' fs' gs' hw h2
  ·simp only[List.mem_singleton,Prod.mk.injEq] at hm;obtain⟨rfl,rfl⟩:=hm;have:=U9 hw;subst this;rcases room r' gs' hr' with⟨_,rfl⟩ | ⟨h2,_⟩
   ·simp
   ·exact absurd rfl h2
 ·rcases room s hs h1 with⟨rfl,rfl⟩ | ⟨_,h3⟩
  ·rcases elt i y h2 with h4 | h4
   ·exact h.Xg s gs i y nD h4
   ·rw[h4];exact List.Pairwise.nil
  ·exact h.Xg s hs i y h3 h2
 ·rcases room s hs h1 with⟨rfl,rfl⟩ | ⟨_,h3⟩
  ·have:=h.mr s gs nD;simp;omega
  ·have:=h.mr s hs h3;omega
 ·rcases room s hs h1 with⟨rfl,rfl⟩ | ⟨_,h3⟩
  ·rcases elt i y h2 with h4 | h4
   ·have:=h.mi s gs i y nD h4;omega
   ·rw[h4];simp
  ·have:=h.mi s hs i y h3 h2;omega
theorem wu {aW:List (List ni)} {r k id:Nat} {gs:List ni} {g:ni} (nD:aW[r]? = some gs) (hg:gs[k]? = some g):nY aW r k id=aW.set r (gs.set k {g with ids:=kF g.ids id}):=by
 unfold nY;rw[nD];simp only;rw[hg]
theorem kZ.step {n j:Nat} {st:JJ} (h:kZ n j st) (rec:List UInt8) (id:Nat) (fs:List bM) (names:Nat→List (List UInt8)) (r:Nat):kZ n (j + 2) (stepG rec id fs names st r):=by
 unfold stepG;cases hl:xP st.place (dw r (jq fs (names r))) with
 | some k=>
  simp only;cases hr:st.aW[r]? with
  | none=>unfold nY;rw[hr];exact h.mono ω
  | some gs=>
   have hk:=h.pl _ _ (J8 hl) r _ gs rfl hr;rw[wu hr (List.getElem?_eq_getElem hk)];exact (kZ.bump (place:=st.place) h hr (List.getElem?_eq_getElem hk)).mono ω
 | none=>
  simp only;cases hr:st.aW[r]? with
  | none=>exact h.mono ω
  | some gs=>
   simp only;have qB:r < st.aW.length:=(List.getElem?_eq_some_iff.1 hr).1;have h1:=kZ.push (place:=st.place) h (fs:=jq fs (names r)) (key:=Kq rec r (jq fs (names r))) hr;have h2:(st.aW.set r (gs++[⟨r,jq fs (names r),Kq rec r (jq fs (names r)),[]⟩]))[r]? = some (gs++[⟨r,jq fs (names r),Kq rec r (jq fs (names r)),[]⟩]):=List.getElem?_set_self qB;have h3:(gs++[(⟨r,jq fs (names r),Kq rec r (jq fs (names r)),[]⟩:ni)])[gs.length]? = some ⟨r,jq fs (names r),Kq rec r (jq fs (names r)),[]⟩:=by simp
   rw[wu h2 h3];exact kZ.bump h1 h2 h3
end Go.Proofs.YtbhikkgpcmkonaaGreatDoor
namespace Go.Proofs.YtbhikkgpcmkonaaGreatDoor
open Go.RowKit
theorem ajB (g:FuncId) (lb:Array Value) (eg:Enters Tryz.prog g) (p:BH→Bool) (A:Option Addr) (m c:Nat) (l:List BH) (w:World) (h:bW w 6 encR A m l) (hm:m≤9223372036854775807) (hp:xZ Tryz.prog g lb ahY p l w) :
 Calls Tryz.prog 162 #[.slice A m c,.func (.func g) #[] lb] w fun e w'=>e =.returned (.int .i64 (placeOf p l))∧ah w w':=by
 have hlen:=h.1;unfold Enters at eg;obtain⟨R,hR⟩:∃R,R=placeOf p l:=⟨_,rfl⟩;rw[←hR];replace hR:=ζ hR;replace hp:=ζ hp;replace h:=ζ h;go_enter Tryz.func162,Tryz.ntmps162
 go_wp2;go_loopw [5,8] (fun _ i wr=>∃k:Nat,k≤m∧i =.int .i64 k∧Hid (∀j y,j < k→l[j]? = some y→p y = false)∧Hid (ah w wr)) (fun _ i _=>m - (intOf i).toNat)
 case atStart=>exact⟨0,ω,rfl,fun _ _ h=>absurd h ω,ah.refl _⟩
 case round=>
  obtain⟨k,hk,rfl,hall,hg⟩:=hrel;by_cases hlt:k<m
  ·obtain⟨b,off,x,rfl,_,hx,hcell⟩:=(h.o.keep hg.o).at_ hlt;have c0:wr.cell? ⟨b,off+k*6,none⟩=some (.string ⟨x.r.r.toArray⟩):=hcell 0 _ rfl;have c1:wr.cell? ⟨b,off+k*6+1,none⟩=some (.slice x.bA x.bm x.bk):=hcell 1 _ rfl;have c2:wr.cell? ⟨b,off+k*6+2,none⟩=some (.int .i64 x.r.wait):=hcell 2 _ rfl;have c3:wr.cell? ⟨b,off+k*6+3,none⟩=some (.int .i64 x.r.every):=hcell 3 _ rfl;have c4:wr.cell? ⟨b,off+k*6+4,none⟩=some (.int .i64 x.r.again):=hcell 4 _ rfl;have c5:wr.cell? ⟨b,off+k*6+5,none⟩=some (.slice x.wA x.wm x.wk):=hcell 5 _ rfl;have kX:(k:Int)<(m:Int):=ω;have cI:=hp.o x (List.mem_of_getElem? hx) wr hg.o;unfold ahY at cI;cases hq:p x with
   | false=>
    rw[hq] at cI;replace cI:=ζ cI;have f_:=ζ (show ∀j y,j < k+1→l[j]? = some y→p y = false from fun j y hj hy=>by
     by_cases hjk:j = k
     ·subst hjk;rw[hx] at hy;rw[←Option.some.inj hy];exact hq
     ·exact hall.o j y ω hy)
    clear hcell hq hx hall hR;go_wp2_with fail;refine (cI.out).mono ?_;rintro e w1 ⟨rfl,hb⟩;have hg1:=ζ (hg.o.trans hb);go_wp2;go_roundw
    case rel=>exact⟨k+1,ω,ν,f_,hg1⟩
    case measure=>exact ψ
   | true=>
    rw[hq] at cI;have aN:Hid (R=(k:Int)):=ζ (by rw[hR.o];exact jh hx hq hall.o);replace cI:=ζ cI;clear hcell hq hx hall hR;go_wp2_with fail;refine (cI.out).mono ?_;rintro e w1 ⟨rfl,hb⟩;have hg1:=ζ (hg.o.trans hb);go_wp2;go_ret;exact⟨by rw[aN.o];rfl,hg1.o⟩
  ·obtain rfl:k=m:=ω;have aN:Hid (R=-1):=ζ (by rw[hR.o];exact iJ fun j y hy=>hall.o j y (by have:=(List.getElem?_eq_some_iff.1 hy).1;omega) hy);clear hall hR;go_wp2;go_ret;exact⟨by rw[aN.o];rfl,hg.o⟩
theorem alh (g:FuncId) (lb:Array Value) (eg:Enters Tryz.prog g) (p:BH→Bool) (A:Option Addr) (m c:Nat) (l:List BH) (w:World) (h:bW w 6 encR A m l) (hm:m≤9223372036854775807) (hp:xZ Tryz.prog g lb ahY p l w) :
 Calls Tryz.prog 121 #[.slice A m c,.func (.func g) #[] lb] w fun e w'=>e =.returned (.bool (l.any p))∧ah w w':=by
 have cI:=ajB (c:=c) g lb eg p A m l w h hm hp;replace cI:=ζ cI;have aN:=ζ (iM p l);clear h hp;go_enter Tryz.func121,Tryz.ntmps121
 go_wp2_with fail;refine cI.out.mono ?_;rintro e w1 ⟨rfl,hb⟩;go_wp2;go_ret;exact⟨aJ aN.o,hb⟩
theorem ajG (g:FuncId) (lb:Array Value) (eg:Enters Tryz.prog g) (p:yH→Bool) (A:Option Addr) (m c:Nat) (l:List yH) (w:World) (h:bW w 5 alb A m l) (hm:m≤9223372036854775807) (hp:xZ Tryz.prog g lb XE p l w) :
 Calls Tryz.prog 163 #[.slice A m c,.func (.func g) #[] lb] w fun e w'=>e =.returned (.int .i64 (placeOf p l))∧ah w w':=by
 have hlen:=h.1;unfold Enters at eg;obtain⟨R,hR⟩:∃R,R=placeOf p l:=⟨_,rfl⟩;rw[←hR];replace hR:=ζ hR;replace hp:=ζ hp;replace h:=ζ h;go_enter Tryz.func163,Tryz.ntmps163
 go_wp2;go_loopw [5,8] (fun _ i wr=>∃k:Nat,k≤m∧i =.int .i64 k∧Hid (∀j y,j < k→l[j]? = some y→p y = false)∧Hid (ah w wr)) (fun _ i _=>m - (intOf i).toNat)
 case atStart=>exact⟨0,ω,rfl,fun _ _ h=>absurd h ω,ah.refl _⟩
 case round=>
  obtain⟨k,hk,rfl,hall,hg⟩:=hrel;by_cases hlt:k<m
  ·obtain⟨b,off,x,rfl,_,hx,hcell⟩:=(h.o.keep hg.o).at_ hlt;have c0:wr.cell? ⟨b,off+k*5,none⟩=some (.slice x.bA x.bm x.bk):=hcell 0 _ rfl;have c1:wr.cell? ⟨b,off+k*5+1,none⟩=some (.int .i64 x.i.l.lv):=hcell 1 _ rfl;have c2:wr.cell? ⟨b,off+k*5+2,none⟩=some (.int .u32 (x.i.l.c:Int)):=hcell 2 _ rfl;have c3:wr.cell? ⟨b,off+k*5+3,none⟩=some (.slice x.fA x.fm x.fk):=hcell 3 _ rfl;have c4:wr.cell? ⟨b,off+k*5+4,none⟩=some (.slice x.wA x.wm x.wk):=hcell 4 _ rfl;have kX:(k:Int)<(m:Int):=ω;have cI:=hp.o x (List.mem_of_getElem? hx) wr hg.o;unfold XE at cI;cases hq:p x with
   | false=>
    rw[hq] at cI;replace cI:=ζ cI;have f_:=ζ (show ∀j y,j < k+1→l[j]? = some y→p y = false from fun j y hj hy=>by
     by_cases hjk:j = k
     ·subst hjk;rw[hx] at hy;rw[←Option.some.inj hy];exact hq
     ·exact hall.o j y ω hy)
    clear hcell hq hx hall hR;go_wp2_with fail;refine (cI.out).mono ?_;rintro e w1 ⟨rfl,hb⟩;have hg1:=ζ (hg.o.trans hb);go_wp2;go_roundw
    case rel=>exact⟨k+1,ω,ν,f_,hg1⟩
    case measure=>exact ψ
   | true=>
    rw[hq] at cI;have aN:Hid (R=(k:Int)):=ζ (by rw[hR.o];exact jh hx hq hall.o);replace cI:=ζ cI;clear hcell hq hx hall hR;go_wp2_with fail;refine (cI.out).mono ?_;rintro e w1 ⟨rfl,hb⟩;have hg1:=ζ (hg.o.trans hb);go_wp2;go_ret;exact⟨by rw[aN.o];rfl,hg1.o⟩
  ·obtain rfl:k=m:=ω;have aN:Hid (R=-1):=ζ (by rw[hR.o];exact iJ fun j y hy=>hall.o j y (by have:=(List.getElem?_eq_some_iff.1 hy).1;omega) hy);clear hall hR;go_wp2;go_ret;exact⟨by rw[aN.o];rfl,hg.o⟩
theorem alj (g:FuncId) (lb:Array Value) (eg:Enters Tryz.prog g) (p:yH→Bool) (A:Option Addr) (m c:Nat) (l:List yH) (w:World) (h:bW w 5 alb A m l) (hm:m≤9223372036854775807) (hp:xZ Tryz.prog g lb XE p l w) :
 Calls Tryz.prog 122 #[.slice A m c,.func (.func g) #[] lb] w fun e w'=>e =.returned (.bool (l.any p))∧ah w w':=by
 have cI:=ajG (c:=c) g lb eg p A m l w h hm hp;replace cI:=ζ cI;have aN:=ζ (iM p l);clear h hp;go_enter Tryz.func122,Tryz.ntmps122
 go_wp2_with fail;refine cI.out.mono ?_;rintro e w1 ⟨rfl,hb⟩;go_wp2;go_ret;exact⟨aJ aN.o,hb⟩
end Go.Proofs.YtbhikkgpcmkonaaGreatDoor
namespace Go.Proofs.YtbhikkgpcmkonaaGreatDoor
open Go.RowKit Go.PlainAid Go.Maps
theorem Zb {s:ByteArray} {i:Nat} (h:128≤(s.get! i).toNat):1≤(Utf8.decode s i).2∧∀j,j < (Utf8.decode s i).2→128≤(s.get! (i + j)).toNat:=by
 have h0:∀j,j < 1→128≤(s.get! (i + j)).toNat:=fun j hj=>by
  obtain rfl:j = 0:=ω;exact h
 unfold Utf8.decode;have h':¬(s.get! i).toNat<128:=ω;simp only[Nat.add_zero,h',if_false];split
 ·rename_i hc;simp only[Bool.and_eq_true,decide_eq_true_eq,beq_iff_eq] at hc;split
  ·refine⟨by simp,fun j hj=> ?_⟩;simp only at hj;match j,hj with
   | 0,_=>exact h
   | 1,_=>omega
  ·exact⟨by simp,h0⟩
 ·split
  ·rename_i hc;simp only[Bool.and_eq_true,decide_eq_true_eq,beq_iff_eq] at hc;split
   ·refine⟨by simp,fun j hj=> ?_⟩;simp only at hj;match j,hj with
    | 0,_=>exact h
    | 1,_=>omega
    | 2,_=>omega
   ·exact⟨by simp,h0⟩
  ·split
   ·rename_i hc;simp only[Bool.and_eq_true,decide_eq_true_eq,beq_iff_eq] at hc;split
    ·refine⟨by simp,fun j hj=> ?_⟩;simp only at hj;match j,hj with
     | 0,_=>exact h
     | 1,_=>omega
     | 2,_=>omega
     | 3,_=>omega
    ·exact⟨by simp,h0⟩
   ·exact⟨by simp,h0⟩
theorem FC {α:Type} {q:α→Bool} {l:List α}:∀(d pos:Nat),(∀j x,j < d→l[pos+j]? = some x→q x = false)→(l.drop pos).any q=(l.drop (pos+d)).any q
 | 0,_,_=>rfl
 | d + 1,pos,h=>by
  rw[show pos+(d + 1)=pos+1+d by omega,←FC d (pos+1) (fun j x hj hx=>h (j + 1) x ω (by rw[←hx];congr 1;omega))];by_cases hp:pos<l.length
  ·rw[List.drop_eq_getElem_cons hp,List.any_cons,h 0 l[pos] ω (by simp[hp]),Bool.false_or]
  ·rw[List.drop_of_length_le ω,List.drop_of_length_le ω]
theorem LM {s:ByteArray} {i:Nat} {x:UInt8} (h:s.data.toList[i]? = some x):s.get! i = x:=by
 obtain⟨hi,rfl⟩:=List.getElem?_eq_some_iff.1 h;rw[Array.getElem_toList];show s.data[i]! = _
 exact getElem!_pos s.data i (by simpa using hi)
theorem Yr {p:Nat→Bool} {q:UInt8→Bool} (h1:∀b:UInt8,b.toNat<128→p b.toNat=q b) (h2:∀r,128≤r→p r = false) (h3:∀b:UInt8,128≤b.toNat→q b = false) (s:ByteArray) :
 ∀(f pos:Nat),s.size≤pos+f→decide (0≤Lib.idxFuncFrom p true s f pos)=(s.data.toList.drop pos).any q:=by
 intro f;induction f with
 | zero=>
  intro pos hf;rw[List.drop_of_length_le (by rw[Array.length_toList];exact hf)];rfl
 | succ f ih=>
  intro pos hf;unfold Lib.idxFuncFrom;by_cases hp:pos<s.size
  ·rw[if_pos hp];have hl:pos<s.data.toList.length:=by rw[Array.length_toList];exact hp
   have hg:s.get! pos=s.data.toList[pos]:=LM (List.getElem?_eq_getElem hl);by_cases hb:(s.get! pos).toNat<128
   ·rw[List.drop_eq_getElem_cons hl,List.any_cons];rw[P_ rfl hb,h1 _ hb,hg];cases hq:q s.data.toList[pos]
    ·simp only[Bool.false_eq_true,if_false,Bool.false_or];exact ih (pos+1) ω
    ·simp
   ·have akM:128≤(s.get! pos).toNat:=ω;obtain⟨d1,d2⟩:=Zb akM;rw[h2 _ (decode_high rfl akM),FC (Utf8.decode s pos).2 pos (fun j x hj hx=>h3 x (by rw[←LM hx];exact d2 j hj))];simp only[Bool.false_eq_true,if_false];exact ih _ ω
  ·rw[if_neg hp,List.drop_of_length_le (by rw[Array.length_toList];show s.size≤pos;omega)];rfl
def Qa (r:Nat):Bool:=decide (r < 32)
def aor (s:List UInt8):Bool:=s.any fun b=>Qa b.toNat
theorem aoq (s:List UInt8):decide (0≤Lib.idxFunc Qa true ⟨s.toArray⟩)=aor s:=by
 have:=Yr (p:=Qa) (q:=fun b=>Qa b.toNat) (fun _ _=>rfl) (fun r h=>by unfold Qa;simp;omega) (fun b h=>by unfold Qa;simp;omega) ⟨s.toArray⟩ s.length 0 (by show s.toArray.size≤_;simp);have hs:(⟨s.toArray⟩:ByteArray).size=s.length:=by show s.toArray.size=_;simp
 unfold Lib.idxFunc;rw[hs,this];simp[aor]
theorem ale (w:World):PredAt Tryz.prog 160 #[] Go.Proofs.encR Qa w:=fun W r _=>by
 unfold FnGives;obtain⟨R,hR⟩:∃R,R=Qa r:=⟨_,rfl⟩;rw[←hR];unfold Qa at hR;by_cases h:r < 32
 ·have h':(r:Int)<32:=ω;go_enter Tryz.func160,Tryz.ntmps160
  go_wp2;go_ret;exact⟨by first | rfl | (rw[hR];simp[h]),0,rfl⟩
 ·have h':¬(r:Int)<32:=ω;go_enter Tryz.func160,Tryz.ntmps160
  go_wp2;go_ret;exact⟨by first | rfl | (rw[hR];simp;omega),0,rfl⟩
def afn (fb:cu→Bool) (x:cu):Bool:= !fb x ||aor x.v
theorem ajc {fb:cu→Bool} {x:cu} (h:mX fb x) (w:World) :
 Calls Tryz.prog 158 #[Gh x] w fun e w'=>e =.returned (.bool (afn fb x))∧ah w w':=by
 have cC:=fun W=>Any.strings_ContainsFunc Tryz.Yk 160 #[] (enters_of Tryz.func160 κ rfl) Qa ⟨x.v.toArray⟩ W (ale W)
 have hci:=aoq x.v;unfold mX at h;obtain⟨R,hR⟩:∃R,R=afn fb x:=⟨_,rfl⟩;rw[←hR];unfold afn at hR;change ∀W,Calls Tryz.prog 159 _ W _ at cC
 generalize decide (0≤Lib.idxFunc Qa true ⟨x.v.toArray⟩)=D at *
 subst hci;unfold Gh at h ⊢;generalize fb x = B at *
 generalize aor x.v = D at *
 replace cC:=ζ cC;replace h:=ζ h;cases B
 ·replace hR:R=true:=by rw[hR];rfl
  subst hR;clear cC;go_enter Tryz.func158,Tryz.ntmps158
  go_wp2_with fail;refine (h.o _).mono ?_;rintro e w1 ⟨rfl,hb⟩;go_wp2;go_ret;exact⟨rfl,by
   exact γ
  ⟩
 ·replace hR:R=D:=by rw[hR];rfl
  subst hR;go_enter Tryz.func158,Tryz.ntmps158
  go_wp2_with fail;refine (h.o _).mono ?_;rintro e w1 ⟨rfl,hb⟩;have ba:=(aG.new w 213 #[.string ⟨x.n.toArray⟩,.int .i64 x.op,.string ⟨x.v.toArray⟩]).grows hb;have d2:_ = some (Value.string ⟨x.v.toArray⟩):=ba.cell 2;have sa:=ba.lt;clear ba h;go_wp2_with fail;refine (cC.out _).mono ?_;rintro e w2 ⟨rfl,hb2⟩;have hg2:ah w w2:=(((ah.refl w).alloc _).trans hb).trans hb2;go_wp2;go_ret;exact⟨rfl,by
   exact γ
  ⟩
def Ik (fb:cu→Bool) (l:List cu):Bool:=decide (l.length≤12)&& !(l.any (afn fb))
theorem Oj {fb:cu→Bool} {A:Option Addr} {m c:Nat} {l:List cu} (w:World) (hA:bW w 3 qW A m l) (hm:m≤9223372036854775807) (h:∀x∈l,mX fb x) :
 Calls Tryz.prog 118 #[.slice A m c] w fun e w'=>e =.returned (.bool (Ik fb l))∧ah w w':=by
 have cC:=Qb (c:=c) 158 #[] (enters_of Tryz.func158 κ rfl) (afn fb) A m l w hA hm (fun x hx W _=>ajc (h x hx) W);have kN:=hA.1;obtain⟨R,hR⟩:∃R,R=Ik fb l:=⟨_,rfl⟩;rw[←hR];unfold Ik at hR;rw[kN] at hR;generalize l.any (afn fb)=D at *
 replace cC:=ζ cC;clear hA h kN;by_cases YX:m≤12
 ·rw[decide_eq_true YX,Bool.true_and] at hR;have aB4:(m:Int)≤12:=ω;subst hR;go_enter Tryz.func118,Tryz.ntmps118
  go_wp2_with fail;refine (cC.out).mono ?_;rintro e w1 ⟨rfl,hb⟩;go_wp2;go_ret;exact⟨rfl,hb⟩
 ·rw[decide_eq_false YX,Bool.false_and] at hR;have aB4:¬(m:Int)≤12:=ω;subst hR;clear cC;go_enter Tryz.func118,Tryz.ntmps118
  go_wp2;go_ret;exact⟨rfl,ah.refl _⟩
theorem aov {x:iY} (w:World) (hx:x.At w) :
 Calls Tryz.prog 113 #[x.val] w fun e w'=>e =.returned (.bool (!lG x.l))∧ah w w':=by
 have cN:=afr w hx;generalize lG x.l = B at *
 unfold iY.val at *
 replace cN:=ζ cN;clear hx;go_enter Tryz.func113,Tryz.ntmps113
 go_wp2_with fail;refine (cN.out).mono ?_;rintro e w1 ⟨rfl,hb⟩;go_wp2;go_ret;exact⟨aJ rfl,hb⟩
def aiB (r:Rte):Bool:=(decide (0≤r.wait)&&decide (r.wait≤1000))&&((decide (1≤r.every)&&decide (r.every≤1000))&&(decide (r.every≤r.again)&&decide (r.again≤100000)))
def uY (rs:List zN) (fb:cu→Bool) (r:Rte):Bool:=(dY rs r.r).isNone||(!byB r.fP||(!aiB r || !Ik fb r.wh))
theorem aou {fb:cu→Bool} {rs:iY} {x:BH} {gp:Nat} (w:World) (hx:x.At w) (hr:rs.At w) (hp:w.cell? ⟨gp,1,none⟩=some rs.val) (nG:∀y∈x.r.wh,mX fb y) :
 Calls Tryz.prog 115 #[ahY x,.pointer (some ⟨gp,0,none⟩)] w fun e w'=>e =.returned (.bool (uY rs.l fb x.r))∧ah w w':=by
 have cF:=fun W (hW:ah w W)=>zD (c:=rs.k) (n:=x.r.r) W (hr.arr.keep hW) hr.le
 have c1:=fun W=>Du x.r.wait 0 1000 W
 have c2:=fun W=>Du x.r.every 1 1000 W
 have c3:=fun W=>Du x.r.again x.r.every 100000 W
 have cB:=fun W (hW:ah w W)=>alv (c:=x.bk) W (hx.fP.keep hW) hx.ag2 hx.Zj
 have cW:=fun W (hW:ah w W)=>Oj (c:=x.wk) W (hx.wh.keep hW) hx.aad nG
 have gpl:=World.block_lt_of_cell? w _ hp;simp only at gpl;obtain⟨R,hR⟩:∃R,R=uY rs.l fb x.r:=⟨_,rfl⟩;rw[←hR];unfold uY aiB at hR;have hls:(dY rs.l x.r.r).isNone= !(dY rs.l x.r.r).isSome:=by cases dY rs.l x.r.r <;> rfl
 rw[hls] at hR;unfold iY.val at hp;generalize kW (dY rs.l x.r.r)=FL at *
 generalize (dY rs.l x.r.r).isSome=F at *
 generalize (decide (0≤x.r.wait)&&decide (x.r.wait≤1000))=B1 at *
 generalize (decide (1≤x.r.every)&&decide (x.r.every≤1000))=B2 at *
 generalize (decide (x.r.every≤x.r.again)&&decide (x.r.again≤100000))=B3 at *
 generalize byB x.r.fP=BY at *
 generalize Ik fb x.r.wh=WH at *
 unfold ahY;clear hls hx hr nG;replace cF:=ζ cF;replace c1:=ζ c1;replace c2:=ζ c2;replace c3:=ζ c3;replace cB:=ζ cB;replace cW:=ζ cW;replace hR:=ζ hR;go_enter Tryz.func115,Tryz.ntmps115
 go_wp2_with fail;refine (cF.out _ γ).mono ?_;rintro e w1 ⟨rfl,hb1⟩;have bx:=ζ (((aG.new w 46 #[.string ⟨x.r.r.toArray⟩,.slice x.bA x.bm x.bk,.int .i64 x.r.wait,.int .i64 x.r.every,.int .i64 x.r.again,.slice x.wA x.wm x.wk]).grows hb1).alloc (.cells #[.int .i64 FL.lv,.int .u32 (FL.c:Int)] 25));have hG:Hid (ah w (w1.alloc (.cells #[.int .i64 FL.lv,.int .u32 (FL.c:Int)] 25))):=ζ ((((ah.refl w).alloc _).trans hb1).alloc _);have e0:=((aG.new w 46 #[.string ⟨x.r.r.toArray⟩,.slice x.bA x.bm x.bk,.int .i64 x.r.wait,.int .i64 x.r.every,.int .i64 x.r.again,.slice x.wA x.wm x.wk]).grows hb1).cell 2;have ez:=hb1.lt;clear cF hb1 hp;go_wp2_with fail;refine (c1.out _).mono ?_;rintro e w2 ⟨rfl,hb2⟩;clear e0 ez;have q0:=0;have q1:=0;have q2:=0;have q3:=0;have q4:=0;have q5:=0;have qz:=0;replace bx:=ζ (bx.out.grows hb2);replace hG:=ζ (hG.o.trans hb2);clear hb2 q0 q1 q2 q3 q4 q5 qz;have q0:=bx.out.c0;have q1:=bx.out.c1;have q2:=bx.out.c2;have q3:=bx.out.c3;have q4:=bx.out.c4;have q5:=bx.out.c5;have qz:=bx.out.lt;cases B1
 ·have aN:Hid (R=true):=ζ (by rw[hR.o];simp);clear c1 c2 c3 hR cW;cases F
  ·go_wp2;go_ret;exact⟨aJ aN.o.symm,hG.o⟩
  ·go_wp2_with fail;refine (cB.out _ hG.o).mono ?_;rintro e w5 ⟨rfl,fK⟩;replace bx:=ζ (bx.out.grows fK);replace hG:=ζ (hG.o.trans fK);clear fK q0 q1 q2 q3 q4 q5 qz;have q0:=bx.out.c0;have q1:=bx.out.c1;have q2:=bx.out.c2;have q3:=bx.out.c3;have q4:=bx.out.c4;have q5:=bx.out.c5;have qz:=bx.out.lt;cases BY
   ·go_wp2;go_ret;exact⟨aJ aN.o.symm,hG.o⟩
   ·go_wp2;go_ret;exact⟨aJ aN.o.symm,hG.o⟩
 ·go_wp2_with fail;refine (c2.out _).mono ?_;rintro e w3 ⟨rfl,hb3⟩;replace bx:=ζ (bx.out.grows hb3);replace hG:=ζ (hG.o.trans hb3);clear hb3 q0 q1 q2 q3 q4 q5 qz;have q0:=bx.out.c0;have q1:=bx.out.c1;have q2:=bx.out.c2;have q3:=bx.out.c3;have q4:=bx.out.c4;have q5:=bx.out.c5;have qz:=bx.out.lt;cases B2
  ·have aN:Hid (R=true):=ζ (by rw[hR.o];simp);clear c1 c2 c3 hR cW;cases F
   ·go_wp2;go_ret;exact⟨aJ aN.o.symm,hG.o⟩
   ·go_wp2_with fail;refine (cB.out _ hG.o).mono ?_;rintro e w5 ⟨rfl,fK⟩;replace bx:=ζ (bx.out.grows fK);replace hG:=ζ (hG.o.trans fK);clear fK q0 q1 q2 q3 q4 q5 qz;have q0:=bx.out.c0;have q1:=bx.out.c1;have q2:=bx.out.c2;have q3:=bx.out.c3;have q4:=bx.out.c4;have q5:=bx.out.c5;have qz:=bx.out.lt;cases BY
    ·go_wp2;go_ret;exact⟨aJ aN.o.symm,hG.o⟩
    ·go_wp2;go_ret;exact⟨aJ aN.o.symm,hG.o⟩
  ·go_wp2_with fail;refine (c3.out _).mono ?_;rintro e w4 ⟨rfl,hb4⟩;replace bx:=ζ (bx.out.grows hb4);replace hG:=ζ (hG.o.trans hb4);clear hb4 q0 q1 q2 q3 q4 q5 qz;have q0:=bx.out.c0;have q1:=bx.out.c1;have q2:=bx.out.c2;have q3:=bx.out.c3;have q4:=bx.out.c4;have q5:=bx.out.c5;have qz:=bx.out.lt;clear c1 c2 c3;cases F
   ·have aN:Hid (R=true):=ζ (by rw[hR.o];simp);clear hR cW;cases B3
    ·go_wp2;go_ret;exact⟨aJ aN.o.symm,hG.o⟩
    ·go_wp2;go_ret;exact⟨aJ aN.o.symm,hG.o⟩
   ·go_wp2_with fail;refine (cB.out _ hG.o).mono ?_;rintro e w5 ⟨rfl,fK⟩;replace bx:=ζ (bx.out.grows fK);replace hG:=ζ (hG.o.trans fK);clear fK q0 q1 q2 q3 q4 q5 qz;have q0:=bx.out.c0;have q1:=bx.out.c1;have q2:=bx.out.c2;have q3:=bx.out.c3;have q4:=bx.out.c4;have q5:=bx.out.c5;have qz:=bx.out.lt;cases BY
    ·have aN:Hid (R=true):=ζ (by rw[hR.o];simp);clear hR cW;cases B3
     ·go_wp2;go_ret;exact⟨aJ aN.o.symm,hG.o⟩
     ·go_wp2;go_ret;exact⟨aJ aN.o.symm,hG.o⟩
    ·cases B3
     ·have aN:Hid (R=true):=ζ (by rw[hR.o];simp);clear hR cW;go_wp2;go_ret;exact⟨aJ aN.o.symm,hG.o⟩
     ·have aN:Hid (R= !WH):=ζ (by rw[hR.o];simp);clear hR;go_wp2_with fail;refine (cW.out _ hG.o).mono ?_;rintro e w6 ⟨rfl,Et⟩;go_wp2;go_ret;exact⟨aJ aN.o.symm,hG.o.trans Et⟩
def vP (fb:cu→Bool) (i:Inh):Bool:= !byB i.fP||(!dA i.l.lv||(!Ik fb i.from_|| !Ik fb i.wh))
theorem aot {fb:cu→Bool} {x:yH} (w:World) (hx:x.At w) (hf1:∀y∈x.i.from_,mX fb y) (hf2:∀y∈x.i.wh,mX fb y) :
 Calls Tryz.prog 119 #[XE x] w fun e w'=>e =.returned (.bool (vP fb x.i))∧ah w w':=by
 have cB:=fun W (hW:ah w W)=>alv (c:=x.bk) W (hx.fP.keep hW) hx.ag2 hx.Zj
 have cL:=fun W=>mF x.i.l W
 have cV:=fun W (hW:ah w W)=>Oj (c:=x.fk) W (hx.fr.keep hW) hx.ar_ hf1
 have cW:=fun W (hW:ah w W)=>Oj (c:=x.wk) W (hx.wh.keep hW) hx.aad hf2
 obtain⟨R,hR⟩:∃R,R=vP fb x.i:=⟨_,rfl⟩;rw[←hR];unfold vP at hR;generalize byB x.i.fP=BY at *
 generalize dA x.i.l.lv=BL at *
 generalize Ik fb x.i.from_=BV at *
 generalize Ik fb x.i.wh=BW at *
 unfold XE;clear hx hf1 hf2;replace cB:=ζ cB;replace cL:=ζ cL;replace cV:=ζ cV;replace cW:=ζ cW;replace hR:=ζ hR;go_enter Tryz.func119,Tryz.ntmps119
 go_wp2_with fail;refine (cB.out _ γ).mono ?_;rintro e w1 ⟨rfl,hb1⟩;have bx:=ζ ((aG.new w 77 #[.slice x.bA x.bm x.bk,.int .i64 x.i.l.lv,.int .u32 (x.i.l.c:Int),.slice x.fA x.fm x.fk,.slice x.wA x.wm x.wk]).grows hb1);have hG:Hid (ah w w1):=ζ (((ah.refl w).alloc _).trans hb1);clear cB hb1;have q0:=bx.out.c0;have q1:=bx.out.c1;have q2:=bx.out.c2;have q3:=bx.out.c3;have q4:=bx.out.c4;have qz:=bx.out.lt;cases BY
 ·have aN:Hid (R=true):=ζ (by rw[hR.o];simp);clear hR cL cV cW;go_wp2;go_ret;exact⟨aJ aN.o.symm,hG.o⟩
 ·go_wp2_with fail;refine (cL.out _).mono ?_;rintro e w2 ⟨rfl,hb2⟩;replace bx:=ζ (bx.out.grows hb2);replace hG:=ζ (hG.o.trans hb2);clear hb2 q0 q1 q2 q3 q4 qz;have q0:=bx.out.c0;have q1:=bx.out.c1;have q2:=bx.out.c2;have q3:=bx.out.c3;have q4:=bx.out.c4;have qz:=bx.out.lt;clear cL;cases BL
  ·have aN:Hid (R=true):=ζ (by rw[hR.o];simp);clear hR cV cW;go_wp2;go_ret;exact⟨aJ aN.o.symm,hG.o⟩
  ·go_wp2_with fail;refine (cV.out _ hG.o).mono ?_;rintro e w3 ⟨rfl,hb3⟩;replace bx:=ζ (bx.out.grows hb3);replace hG:=ζ (hG.o.trans hb3);clear hb3 q0 q1 q2 q3 q4 qz;have q0:=bx.out.c0;have q1:=bx.out.c1;have q2:=bx.out.c2;have q3:=bx.out.c3;have q4:=bx.out.c4;have qz:=bx.out.lt;clear cV;cases BV
   ·have aN:Hid (R=true):=ζ (by rw[hR.o];simp);clear hR cW;go_wp2;go_ret;exact⟨aJ aN.o.symm,hG.o⟩
   ·have aN:Hid (R= !BW):=ζ (by rw[hR.o];simp);clear hR;go_wp2_with fail;refine (cW.out _ hG.o).mono ?_;rintro e w4 ⟨rfl,hb4⟩;go_wp2;go_ret;exact⟨aJ aN.o.symm,hG.o.trans hb4⟩
theorem bW.Gt {α:Type} {w:World} {g:Nat} {t:TypeId} {l:List α} {f:α→Value} (h:aG w g t (l.map f).toArray):bW w 1 (fun x=>[f x]) (some ⟨g,0,none⟩) l.length l:=by
 refine⟨rfl,fun _=>⟨g,0,rfl,h.lt,fun i hi j u hu=> ?_⟩⟩;have hj:j = 0:=by have:=(List.getElem?_eq_some_iff.1 hu).1;simp at this;omega
 subst hj;rw[h.cell];simp only[List.getElem?_cons_zero,Option.some.injEq] at hu;simp[hi,hu]
def Am (p:fQ):List (List zN):=[p.sources,p.receivers,p.aqu,p.raises]
def Ud (p:fQ):Bool:=decide (12<max p.routes.length p.jZ.length)||(Am p).any fun l=>decide (12<l.length)
def Zr (fb:cu→Bool) (p:fQ):Bool:=(Am p).any (fun l=> !lG l)||(p.routes.any (uY p.receivers fb)||p.jZ.any (vP fb))
def fE (fb:cu→Bool) (p:fQ):Int:=if Ud p then 4 else if Zr fb p then 1 else 0
def lW (fb:cu→Bool) (x:bQ):Prop:=(∀r∈x.o,∀y∈r.r.wh,mX fb y)∧∀i∈x.i,(∀y∈i.i.from_,mX fb y)∧∀y∈i.i.wh,mX fb y
def bQ.lists (x:bQ):List iY:=[x.s,x.r,x.e,x.a]
def CP (x:bQ) (k:Nat):Bool:=decide (12<max x.om x.im)||(x.lists.take k).any fun q=>decide (12<q.m)
theorem aby {x:bQ} {w:World} (h:x.At w):CP x 4=Ud x.aU:=by
 unfold CP Ud;have h1:x.aU.routes.length=x.om:=by simp[bQ.aU,h.o.1]
 have h2:x.aU.jZ.length=x.im:=by simp[bQ.aU,h.i.1]
 have e1:=h.s.arr.1;have e2:=h.r.arr.1;have e3:=h.e.arr.1;have e4:=h.a.arr.1;rw[h1,h2];simp[bQ.lists,Am,bQ.aU,e1,e2,e3,e4]
theorem Yg {x:bQ} {k:Nat} {q:iY} (h:x.lists[k]? = some q):CP x (k+1)=(CP x k||decide (12<q.m)):=by
 unfold CP;rw[List.take_add_one,h,List.any_append];simp[Bool.or_assoc]
theorem aoC (fb:cu→Bool) (x:bQ):Zr fb x.aU=(x.lists.any (fun q=> !lG q.l)||(x.o.any (fun y=>uY x.r.l fb y.r)||x.i.any (fun y=>vP fb y.i))):=by
 unfold Zr;simp only[bQ.aU,Am,bQ.lists,List.any_map,Function.comp_def];rfl
theorem zI {fb:cu→Bool} {x:bQ} (w:World) (hx:x.At w) (nG:lW fb x) :
 Calls Tryz.prog 76 #[x.val] w fun e w'=>e =.returned (.int .i64 (fE fb x.aU))∧ah w w':=by
 have cQ:=fun (A:Option Addr) (W:World) (hW:ah w W) (hA:bW W 1 aol A 4 x.lists)=>ali (c:=4) 113 #[] (enters_of Tryz.func113 κ rfl) (fun q=> !lG q.l) A 4 x.lists W hA ω (fun q hq W' yI=>aov W' (by
  have h4:x.s.At W'∧x.r.At W'∧x.e.At W'∧x.a.At W':=⟨hx.s.keep (hW.trans yI),hx.r.keep (hW.trans yI),hx.e.keep (hW.trans yI),hx.a.keep (hW.trans yI)⟩;simp only[bQ.lists,List.mem_cons,List.not_mem_nil,or_false] at hq;rcases hq with rfl | rfl | rfl | rfl
  ·exact h4.1
  ·exact h4.2.1
  ·exact h4.2.2.1
  ·exact h4.2.2.2))
 have cO:=fun (W:World) (hW:ah w W) (hp:W.cell? ⟨w.heap.size,1,none⟩=some x.r.val)=>alh (c:=x.ok) 115 #[.pointer (some ⟨w.heap.size,0,none⟩)] (enters_of Tryz.func115 κ rfl) (fun y=>uY x.r.l fb y.r) x.oA x.om x.o W (hx.o.keep hW) hx.ole (fun y hy W' yI=>aou W' ((hx.oAt y hy).keep (hW.trans yI)) (hx.r.keep (hW.trans yI)) (yI.cell hp) (nG.1 y hy))
 have cI:=fun (W:World) (hW:ah w W)=>alj (c:=x.ik) 119 #[] (enters_of Tryz.func119 κ rfl) (fun y=>vP fb y.i) x.iA x.im x.i W (hx.i.keep hW) hx.ile (fun y hy W' yI=>aot W' ((hx.iAt y hy).keep (hW.trans yI)) (nG.2 y hy).1 (nG.2 y hy).2)
 have hend:=aby hx;have f_:=fun k q=>Yg (x:=x) (k:=k) (q:=q)
 have qR:=aoC fb x;obtain⟨R,hR⟩:∃R,R=fE fb x.aU:=⟨_,rfl⟩;rw[←hR];unfold fE at hR;rw[qR,←hend] at hR;have hl0:CP x 0=decide (12<max x.om x.im):=by simp[CP]
 have aj7:x.lists=[x.s,x.r,x.e,x.a]:=rfl;have hl4:x.lists.length=4:=rfl;generalize CP x = LT at *
 generalize x.o.any (fun y=>uY x.r.l fb y.r)=BO at *
 generalize x.i.any (fun y=>vP fb y.i)=BI at *
 generalize x.lists.any (fun q=> !lG q.l)=BQ at *
 generalize hls:x.lists=ls at *
 unfold bQ.val;clear hx nG hend qR hls;obtain⟨⟨sl,sA,sm,sk⟩,⟨rl,rA,rm,rk⟩,⟨el,eA,em,ek⟩,⟨al,aA,am,ak⟩,o,oA,om,ok,i,iA,im,ik⟩:=x;simp only[iY.val] at cQ cO cI hR hl0 aj7 ⊢;replace cQ:=ζ cQ;replace cO:=ζ cO;replace cI:=ζ cI;replace hR:=ζ hR;replace f_:=ζ f_;replace hl4:=ζ hl4;have hmap:ls.map (fun q=>Value.slice q.A q.m q.k)=[.slice sA sm sk,.slice rA rm rk,.slice eA em ek,.slice aA am ak]:=by rw[aj7];rfl
 replace hmap:=ζ hmap;clear aj7;go_enter Tryz.func76,Tryz.ntmps76
 go_wp2_with fail;go_loopw [4,6,29] (fun lg _ i wr=>∃k:Nat,k≤4∧i =.int .i64 k∧lg=.bool (LT k)∧Hid (aG wr w.heap.size 50 #[.slice sA sm sk,.slice rA rm rk,.slice eA em ek,.slice aA am ak,.slice oA om ok,.slice iA im ik])∧Hid (bW wr 1 aol (some ⟨w.heap.size+1,0,none⟩) 4 ls)∧Hid (ah w wr)) (fun _ _ i _=>4-(intOf i).toNat)
 case atStart=>
  refine⟨0,ω,rfl,?_,(aG.new w _ _).alloc _,?_,((ah.refl w).alloc _).alloc _⟩
  ·rw[hl0];congr 1;rw[Bool.eq_iff_iff];simp;omega
  ·have hb:=aG.kV w (.cells #[.slice sA sm sk,.slice rA rm rk,.slice eA em ek,.slice aA am ak,.slice oA om ok,.slice iA im ik] 50) 42 (ls.map (fun q=>Value.slice q.A q.m q.k)).toArray;have:=bW.Gt hb;rw[hl4.o] at this;rw[hmap.o] at this;exact this
 case round=>
  obtain⟨k,hk,rfl,rfl,hP,hL,hG⟩:=hrel;by_cases hk4:k<4
  ·obtain⟨bb,off,q,hbb,CW,hq,hcell⟩:=hL.o.at_ hk4;obtain⟨rfl,rfl⟩:bb=w.heap.size+1∧off=0:=by
    simp only[Option.some.injEq,Addr.mk.injEq,and_true] at hbb;exact⟨hbb.1.symm,hbb.2.symm⟩
   clear hbb;have c0:wr.cell? ⟨w.heap.size+1,k,none⟩=some (.slice q.A q.m q.k):=by simpa using hcell 0 _ rfl
   have ZN:=f_.o k q hq;have kX:(k:Int)<4:=ω;clear hcell;generalize LT k=B at *
   cases B
   ·go_wp2;go_roundw
    case rel=>exact⟨k+1,ω,ν,by rw[ZN];congr 1;rw[Bool.eq_iff_iff];simp;omega,hP,hL,hG⟩
    case measure=>exact ψ
   ·go_wp2;go_roundw
    case rel=>exact⟨k+1,ω,ν,by rw[ZN];rfl,hP,hL,hG⟩
    case measure=>exact ψ
  ·obtain rfl:k=4:=ω;generalize LT 4=B at *
   have bp:=hP;have p0:=bp.out.c0;have p1:=bp.out.c1;have p2:=bp.out.c2;have p3:=bp.out.c3;have p4:=bp.out.c4;have p5:=bp.out.c5;have pz:=bp.out.lt;cases B
   ·have hR':Hid (R=if (BQ||(BO||BI))=true then 1 else 0):=ζ (by rw[hR.o];rfl);clear hR;have cQ':=ζ (cQ.out _ wr hG.o hL.o);clear cQ;go_wp2_with fail;refine (cQ'.out).mono ?_;rintro e w1 ⟨rfl,hb1⟩;replace bp:=ζ (bp.out.grows hb1);replace hG:=ζ (hG.o.trans hb1);clear hb1 cQ' hL hP p0 p1 p2 p3 p4 p5 pz;have p0:=bp.out.c0;have p1:=bp.out.c1;have p2:=bp.out.c2;have p3:=bp.out.c3;have p4:=bp.out.c4;have p5:=bp.out.c5;have pz:=bp.out.lt;cases BQ
    ·go_wp2_with fail;refine (cO.out _ hG.o p1).mono ?_;rintro e w2 ⟨rfl,hb2⟩;replace bp:=ζ (bp.out.grows hb2);replace hG:=ζ (hG.o.trans hb2);clear hb2 cO p0 p1 p2 p3 p4 p5 pz;have p0:=bp.out.c0;have p1:=bp.out.c1;have p2:=bp.out.c2;have p3:=bp.out.c3;have p4:=bp.out.c4;have p5:=bp.out.c5;have pz:=bp.out.lt;cases BO
     ·go_wp2_with fail;refine (cI.out _ hG.o).mono ?_;rintro e w3 ⟨rfl,hb3⟩;replace hG:=ζ (hG.o.trans hb3);clear hb3;cases BI
      ·go_wp2;go_ret;exact⟨by rw[hR'.o];rfl,hG.o⟩
      ·go_wp2;go_ret;exact⟨by rw[hR'.o];rfl,hG.o⟩
     ·go_wp2;go_ret;exact⟨by rw[hR'.o];rfl,hG.o⟩
    ·go_wp2;go_ret;exact⟨by rw[hR'.o];rfl,hG.o⟩
   ·have hR':Hid (R=4):=ζ (by rw[hR.o];rfl);clear hR;go_wp2;go_ret;exact⟨by rw[hR'.o];rfl,hG.o⟩
end Go.Proofs.YtbhikkgpcmkonaaGreatDoor
namespace Go.Proofs.YtbhikkgpcmkonaaGreatDoor
open Go.RowKit Go.Maps
theorem RX (z:Value) (n:Nat):madeCells #[z] n = (List.replicate n z).toArray:=by
 apply Array.ext
 ·simp[madeCells]
 ·intro i h1 h2;simp[madeCells,Nat.mod_one]
def lK (w:World) (b0 g:Nat):Prop:=b0≤g∧∀cur e fz,w.heap[g]? = some (.cells cur e fz)→e = 125∨e = 33∨e = 137
theorem aG.CS {w w':World} {b0 g:Nat} {t:TypeId} {cs:Array Value} {row:Option Nat} (h:aG w g t cs) (hg:w.grownBy w' row) (hr:∀j,row=some j→lK w b0 j) (h1:t≠125) (h2:t≠33) (h3:t≠137):aG w' g t cs:=
 h.aQ hg (fun e=>by
  rcases (hr g e.symm).2 _ _ _ h with h | h | h
  ·exact h1 h
  ·exact h2 h
  ·exact h3 h)
theorem Own.CS {α:Type} {w w':World} {b0 base k:Nat} {t:TypeId} {enc:α→List Value} {v:Value} {xs:List α} {row:Option Nat} (h:Own w base t k enc v xs) (hg:w.grownBy w' row) (hr:∀j,row=some j→lK w b0 j) (h1:t≠125) (h2:t≠33) (h3:t≠137):Own w' base t k enc v xs:=
 h.kept' hg (fun g jD hv=>by
  obtain⟨cur,hc⟩:=bV h hv;rcases (hr g jD).2 _ _ _ hc with h | h | h
  ·exact h1 h
  ·exact h2 h
  ·exact h3 h)
theorem jg.aY {P:Program} {k e:TypeId} {w:World} {b n:Nat} {l:List (List UInt8×Lit)} (h:jg P k e w b n l):∀cur e fz,w.heap[b]?≠some (.cells cur e fz):=by
 obtain⟨es,clock,hb,_⟩:=h;intro cur e fz hc;rw[hb] at hc;cases hc
structure Xe (w0:World) (pc:Array Value) (gc:Nat) (cc:Array Value) (fv:Value) (F:List Nat) (cv:Value) (cf:List bM) (w:World):Prop where
 G:ah w0 w
 B:aG w w0.heap.size 50 pc
 C:aG w gc 57 cc
 F:Own w w0.heap.size 3 1 encI fv F
 f:Own w w0.heap.size 88 2 dZ cv cf
section
variable {w0 w w':World} {pc:Array Value} {gc:Nat} {cc:Array Value} {fv:Value} {F:List Nat} {cv:Value} {cf:List bM}
theorem Xe.grows (h:Xe w0 pc gc cc fv F cv cf w) (hg:ah w w'):Xe w0 pc gc cc fv F cv cf w':=⟨h.G.trans hg,h.B.grows hg,h.C.grows hg,h.F.grows hg,h.f.grows hg⟩
theorem Xe.row (h:Xe w0 pc gc cc fv F cv cf w) {row:Option Nat} (hg:w.grownBy w' row) (hr:∀j,row=some j→lK w w0.heap.size j):Xe w0 pc gc cc fv F cv cf w':=
 ⟨h.G.aQ hg (fun j hj=>(hr j hj).1),h.B.CS hg hr δ δ δ,h.C.CS hg hr δ δ δ,h.F.CS hg hr δ δ δ,h.f.CS hg hr δ δ δ⟩
end
theorem lK.Cm {α:Type} {w:World} {b0 base k:Nat} {t:TypeId} {enc:α→List Value} {v:Value} {xs:List α} (h:Own w base t k enc v xs) (hb:b0≤base) (ht:t = 125∨t = 33):∀j,v.ownBlock=some j→lK w b0 j:=fun j hj=>by
 refine⟨Nat.le_trans hb (World.ownsRow.lt h j hj).1,fun cur e fz hc=> ?_⟩;obtain⟨cur',hc'⟩:=bV h hj;rw[hc'] at hc;simp only[Option.some.injEq,Obj.cells.injEq] at hc;rw[←hc.2.1];rcases ht with h | h
 ·exact .inl h
 ·exact .inr (.inl h)
theorem lK.of_map {P:Program} {k e:TypeId} {w:World} {b0 b n:Nat} {l:List (List UInt8×Lit)} (h:jg P k e w b n l) (hb:b0≤b):∀j,some b = some j→lK w b0 j:=fun j hj=>by
 injection hj with hj;subst hj
 exact⟨hb,fun cur e fz hc=>absurd hc (h.aY cur e fz)⟩
theorem jg.CS {P:Program} {k e:TypeId} {w w':World} {b n g:Nat} {l:List (List UInt8×Lit)} {cur:Array Value} {t:TypeId} {fz:Nat×Nat} (h:jg P k e w b n l) (hg:w.grownBy w' (some g)) (hc:w.heap[g]? = some (.cells cur t fz)):jg P k e w' b n l:=
 h.kept hg (fun e'=>by injection e' with e';subst e';exact h.aY _ _ _ hc)
theorem jg.aju {α:Type} {P:Program} {k e t:TypeId} {w w':World} {b n base kk:Nat} {l:List (List UInt8×Lit)} {enc:α→List Value} {v:Value} {xs:List α} (h:jg P k e w b n l) (hO:Own w base t kk enc v xs) (hg:w.grownBy w' v.ownBlock):jg P k e w' b n l:=
 h.kept hg (fun e'=>by obtain⟨cur,hc⟩:=bV hO e'.symm;exact h.aY _ _ _ hc)
theorem fF.start {w:World} {b0 n RB:Nat} (hB:w.heap[RB]? = some (.cells (madeCells #[.slice none 0 0] n) 137 (0,0))):fF w b0 RB (List.replicate n (.slice none 0 0)) (List.replicate n []) where
 row:=by rw[hB,RX]
 len:=by simp
 own:=fun r v gs h1 h2=>by
  have e1:=List.mem_of_getElem? h1;have e2:=List.mem_of_getElem? h2;simp at e1 e2;rw[e1.2,e2.2];exact Own.iO _ _ _ _ _
 apart:=fun r s v u g h1 h2 _ h3 _=>by
  have e1:=List.mem_of_getElem? h1;simp at e1;rw[e1.2] at h3;cases h3
 ids:=fun r gs k x h1 h2=>by
  have e1:=List.mem_of_getElem? h1;simp at e1;rw[e1.2] at h2;simp at h2
 Ns:=fun r gs k x h1 h2=>by
  have e1:=List.mem_of_getElem? h1;simp at e1;rw[e1.2] at h2;simp at h2
 R_:=fun r s k j gs hs x y g h1 h2=>by
  have e1:=List.mem_of_getElem? h1;simp at e1;rw[e1.2] at h2;simp at h2
end Go.Proofs.YtbhikkgpcmkonaaGreatDoor
