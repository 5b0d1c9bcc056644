/- Parts: GrpB SlR SlI PolF PolG PolH GrpC -/
import Derived.Test.YtbhikkgpcmkonaaGreatDoorVa0
import Derived.Test.YtbhikkgpcmkonaaGreatDoorVa9
import Derived.Test.YtbhikkgpcmkonaaGreatDoorVa5
import Derived.Test.YtbhikkgpcmkonaaGreatDoorVa6
import Derived.Deep.OwnRows
set_option maxRecDepth 100000
set_option maxHeartbeats 12800000
namespace Go.Proofs.YtbhikkgpcmkonaaGreatDoor
open Go.RowKit Go.Maps
def jZ (ids:List Nat) (id:Nat):List Nat:=if id∈ids then ids else putAt ids (qI ids id) id
theorem NS (l:List Nat) (t:Nat):∀(k x:Nat),k<qI l t→l[k]? = some x→x < t:=by
 induction l with
 | nil=>intro k x h;simp[qI] at h
 | cons a r ih=>
  intro k x hk hx;unfold qI at hk ih;by_cases ha:a < t
  ·rw[List.takeWhile_cons_of_pos (by simpa using ha),List.length_cons] at hk;cases k with
   | zero=>simp at hx;subst hx;exact ha
   | succ k=>exact ih k x ω (by simpa using hx)
  ·rw[List.takeWhile_cons_of_neg (by simpa using ha)] at hk;simp at hk
theorem acz (l:List Nat) (t:Nat):∀x:Nat,l[qI l t]? = some x→t≤x:=by
 induction l with
 | nil=>intro x h;simp at h
 | cons a r ih=>
  intro x hx;unfold qI at hx ih;by_cases ha:a < t
  ·rw[List.takeWhile_cons_of_pos (by simpa using ha),List.length_cons,List.getElem?_cons_succ] at hx;exact ih x hx
  ·rw[List.takeWhile_cons_of_neg (by simpa using ha)] at hx;simp at hx;omega
theorem jq.put {l:List Nat} {t:Nat} (h:jq l) (ht:¬t∈l):jq (putAt l (qI l t) t):=by
 have hp:=H6 l t;unfold jq;rw[List.pairwise_iff_getElem];intro i j hi hj hij;have hx:=Dk hp (List.getElem?_eq_getElem hi);have hy:=Dk hp (List.getElem?_eq_getElem hj);generalize (putAt l (qI l t) t)[i]=x at *
 generalize (putAt l (qI l t) t)[j]=y at *
 have XW:∀(q y:Nat),qI l t≤q→l[q]? = some y→t < y:=fun q y hq hy=>by
  have h0:t≤y:=by
   rcases Nat.eq_or_lt_of_le hq with h1 | h1
   ·rw[←h1] at hy;exact acz l t y hy
   ·have hl:qI l t < l.length:=by have:=(List.getElem?_eq_some_iff.1 hy).1;omega
    have h2:=acz l t _ (List.getElem?_eq_getElem hl);have h3:=h.lt h1 (List.getElem?_eq_getElem hl) hy;omega
  have h1:t≠y:=fun e=>ht (by rw[e];exact List.mem_of_getElem? hy)
  omega
 rcases hx with⟨h1,h2⟩ | ⟨h1,h2⟩ | ⟨h1,h2⟩
 ·rcases hy with⟨h3,h4⟩ | ⟨h3,h4⟩ | ⟨h3,h4⟩
  ·exact h.lt hij h2 h4
  ·rw[h4];exact NS l t i x h1 h2
  ·have:=NS l t i x h1 h2;have:=XW (j - 1) y ω h4;omega
 ·rcases hy with⟨h3,h4⟩ | ⟨h3,h4⟩ | ⟨h3,h4⟩
  ·omega
  ·omega
  ·rw[h2];exact XW (j - 1) y ω h4
 ·rcases hy with⟨h3,h4⟩ | ⟨h3,h4⟩ | ⟨h3,h4⟩
  ·omega
  ·omega
  ·exact h.lt (show i - 1<j - 1 by omega) h2 h4
theorem jq.add {l:List Nat} {t:Nat} (h:jq l):jq (jZ l t):=by
 unfold jZ;split
 ·exact h
 ·rename_i ht;exact h.put ht
theorem Ua (l:List Nat) (t:Nat):(jZ l t).length≤l.length+1:=by
 unfold jZ;split
 ·omega
 ·rw[uD (H6 l t)];omega
theorem Rx {a b:Nat} (h:Lib.decDigits a = Lib.decDigits b):a = b:=by
 have h1:=KQ a;rw[h,KQ b] at h1;exact (Option.some.inj h1).symm
theorem J8 (r:Nat) (fs:List bK):(dn r fs).takeWhile (fun b=>decide (b.toNat≠0))=Lib.decDigits r:=by
 unfold dn;have h1:∀b∈Lib.decDigits r,(decide (b.toNat≠0))=true:=fun b hb=>by
  have:=Ry r b hb;simp;omega
 rw[List.takeWhile_append_of_pos h1];cases fs with
 | nil=>simp
 | cons f fs=>
  rw[List.flatMap_cons];unfold xR;rw[List.cons_append,List.takeWhile_cons_of_neg σ];simp
theorem Ug {r r':Nat} {fs fs':List bK} (h:dn r fs=dn r' fs'):r = r':=by
 have h1:=J8 r fs;rw[h,J8 r' fs'] at h1;exact (Rx h1).symm
def xu:List (List UInt8×Nat)→List UInt8→Option Nat
 | [],_=>none
 | x ::r,s=>match xu r s with
  | some d=>some d
  | none=>if x.1=s then some x.2 else none
theorem aaN (x:List UInt8×Nat) (r:List (List UInt8×Nat)) (s:List UInt8):xu (x ::r) s = match xu r s with
 | some d=>some d
 | none=>if x.1=s then some x.2 else none:=rfl
def ni (l:List (List UInt8×Nat)):List (List UInt8×Lit):=l.map fun x=>(x.1,.int .i64 (x.2:Int))
theorem Kv (s:List UInt8):∀l:List (List UInt8×Nat),nM (ni l) s = (xu l s).map fun k=> .int .i64 (k:Int)
 | []=>rfl
 | x ::r=>by
  show nM ((x.1,.int .i64 (x.2:Int))::ni r) s = _
  rw[vC,Kv s r,aaN];cases xu r s with
  | some d=>rfl
  | none=>by_cases h:x.1=s <;> simp[h]
theorem Jt {s:List UInt8} {k:Nat}:∀{l:List (List UInt8×Nat)},xu l s = some k→(s,k)∈l
 | [],h=>by cases h
 | x ::r,h=>by
  unfold xu at h;cases hr:xu r s with
  | some d=>rw[hr] at h;injection h with h;subst h;exact List.mem_cons_of_mem _ (Jt hr)
  | none=>
   rw[hr] at h;simp only at h;split at h
   ·rename_i he;injection h with h;subst h;rw[←he];exact List.mem_cons_self
   ·cases h
theorem Xg (l:List (List UInt8×Nat)) (x:List UInt8×Nat):ni (l ++[x])=ni l ++[(x.1,.int .i64 (x.2:Int))]:=by simp[ni]
structure Ja where
 aV:List (List m_)
 place:List (List UInt8×Nat)
def Jy (rec:List UInt8) (r:Nat) (fH:List bK):Nat:=jM (sha (gQ rec r fH)) 8
def nU (aV:List (List m_)) (r k id:Nat):List (List m_):=match aV[r]? with
 | some gs=>match gs[k]? with
  | some g=>aV.set r (gs.set k {g with ids:=jZ g.ids id})
  | none=>aV
 | none=>aV
def stepG (rec:List UInt8) (id:Nat) (fs:List bK) (names:Nat→List (List UInt8)) (st:Ja) (r:Nat):Ja:=
 match xu st.place (dn r (jh fs (names r))) with
 | some k=>{st with aV:=nU st.aV r k id}
 | none=>match st.aV[r]? with
  | some gs=>{aV:=nU (st.aV.set r (gs++[⟨r,jh fs (names r),Jy rec r (jh fs (names r)),[]⟩])) r gs.length id,place:=st.place++[(dn r (jh fs (names r)),gs.length)]}
  | none=>st
structure kQ (n j:Nat) (st:Ja):Prop where
 len:st.aV.length=n
 pl:∀s k,(s,k)∈st.place→∀(r:Nat) (fs:List bK) (gs:List m_),dn r fs=s→st.aV[r]? = some gs→k<gs.length
 VX:∀(r:Nat) (gs:List m_) (k:Nat) (g:m_),st.aV[r]? = some gs→gs[k]? = some g→jq g.ids
 mr:∀(r:Nat) (gs:List m_),st.aV[r]? = some gs→gs.length≤j
 mi:∀(r:Nat) (gs:List m_) (k:Nat) (g:m_),st.aV[r]? = some gs→gs[k]? = some g→g.ids.length≤j
 mp:st.place.length≤j
theorem kQ.start (n:Nat):kQ n 0 ⟨List.replicate n [],[]⟩ where
 len:=by simp
 pl:=fun s k h=>by cases h
 VX:=fun r gs k g h1 h2=>by
  have:=List.mem_of_getElem? h1;simp at this;rw[this.2] at h2;simp at h2
 mr:=fun r gs h1=>by
  have:=List.mem_of_getElem? h1;simp at this;rw[this.2];simp
 mi:=fun r gs k g h1 h2=>by
  have:=List.mem_of_getElem? h1;simp at this;rw[this.2] at h2;simp at h2
 mp:=by simp
theorem kQ.mono {n j j':Nat} {st:Ja} (h:kQ n j st) (hj:j≤j'):kQ n j' st:=
 ⟨h.len,h.pl,h.VX,fun r gs h1=>Nat.le_trans (h.mr r gs h1) hj,fun r gs k g h1 h2=>Nat.le_trans (h.mi r gs k g h1 h2) hj,Nat.le_trans h.mp hj⟩
theorem kQ.bump {n j:Nat} {aV:List (List m_)} {place:List (List UInt8×Nat)} (h:kQ n j ⟨aV,place⟩) {r k id:Nat} {gs:List m_} {g:m_} (ny:aV[r]? = some gs) (hg:gs[k]? = some g) :
 kQ n (j + 1) ⟨aV.set r (gs.set k {g with ids:=jZ g.ids id}),place⟩:=by
 have hr:r < aV.length:=(List.getElem?_eq_some_iff.1 ny).1;have hk:k<gs.length:=(List.getElem?_eq_some_iff.1 hg).1;have room:∀(s:Nat) (hs:List m_),(aV.set r (gs.set k {g with ids:=jZ g.ids id}))[s]? = some hs→∃hs',aV[s]? = some hs'∧hs.length=hs'.length∧∀(i:Nat) (y:m_),hs[i]? = some y→∃y',hs'[i]? = some y'∧(y.ids=y'.ids∨y.ids=jZ y'.ids id):=fun s hs h1=>by
  by_cases nN:r = s
  ·subst nN;rw[List.getElem?_set_self hr] at h1;injection h1 with h1;subst h1
   refine⟨gs,ny,by simp,fun i y hy=> ?_⟩;by_cases kY:k=i
   ·subst kY;rw[List.getElem?_set_self hk] at hy;injection hy with hy;subst hy
    exact⟨g,hg,.inr rfl⟩
   ·rw[List.getElem?_set_ne kY] at hy;exact⟨y,hy,.inl rfl⟩
  ·rw[List.getElem?_set_ne nN] at h1;exact⟨hs,h1,rfl,fun i y hy=>⟨y,hy,.inl rfl⟩⟩
 refine⟨by simpa using h.len,fun s q hm r' fs gs' hw hr'=> ?_,fun s hs i y h1 h2=> ?_,fun s hs h1=> ?_,fun s hs i y h1 h2=> ?_,Nat.le_trans h.mp ω⟩
 ·obtain⟨hs',o1,o2,_⟩:=room r' gs' hr';rw[o2];exact h.pl s q hm r' fs hs' hw o1
 ·obtain⟨hs',o1,o2,o3⟩:=room s hs h1;obtain⟨y',o4,o5⟩:=o3 i y h2;have:=h.VX s hs' i y' o1 o4;rcases o5 with o5 | o5
  ·rw[o5];exact this
  ·rw[o5];exact this.add
 ·obtain⟨hs',o1,o2,_⟩:=room s hs h1;have:=h.mr s hs' o1;omega
 ·obtain⟨hs',o1,o2,o3⟩:=room s hs h1;obtain⟨y',o4,o5⟩:=o3 i y h2;have:=h.mi s hs' i y' o1 o4;rcases o5 with o5 | o5
  ·rw[o5];omega
  ·rw[o5];have:=Ua y'.ids id;omega
theorem kQ.push {n j:Nat} {aV:List (List m_)} {place:List (List UInt8×Nat)} (h:kQ n j ⟨aV,place⟩) {r:Nat} {fs:List bK} {key:Nat} {gs:List m_} (ny:aV[r]? = some gs) :
 kQ n (j + 1) ⟨aV.set r (gs++[⟨r,fs,key,[]⟩]),place++[(dn r fs,gs.length)]⟩:=by
 have hr:r < aV.length:=(List.getElem?_eq_some_iff.1 ny).1;have room:∀(s:Nat) (hs:List m_),(aV.set r (gs++[⟨r,fs,key,[]⟩]))[s]? = some hs→(s = r∧hs=gs++[⟨r,fs,key,[]⟩])∨(s≠r∧aV[s]? = some hs):=fun s hs h1=>by
  by_cases nN:r = s
  ·subst nN;rw[List.getElem?_set_self hr] at h1;injection h1 with h1
   exact .inl ⟨rfl,h1.symm⟩
  ·rw[List.getElem?_set_ne nN] at h1;exact .inr ⟨Ne.symm nN,h1⟩
 have elt:∀(i:Nat) (y:m_),(gs++[⟨r,fs,key,[]⟩])[i]? = some y→gs[i]? = some y∨y.ids=[]:=fun i y hy=>by
  rw[List.getElem?_append] at hy;split at hy
  ·exact .inl hy
  ·have:=List.mem_of_getElem? hy;simp at this;subst this;exact .inr rfl
 refine⟨by simpa using h.len,fun s q hm r' fs' gs' hw hr'=> ?_,fun s hs i y h1 h2=> ?_,fun s hs h1=> ?_,fun s hs i y h1 h2=> ?_,by have:=h.mp;simp at this ⊢;omega⟩
 ·rw[List.mem_append] at hm;rcases hm with hm | hm
  ·rcases room r' gs' hr' with⟨rfl,rfl⟩ | ⟨_,h2⟩
   ·have:=h.pl s q hm r' fs' gs hw ny;simp;omega
   ·exact h.pl s q hm r' fs' gs' hw h2
  ·simp only[List.mem_singleton,Prod.mk.injEq] at hm;obtain⟨rfl,rfl⟩:=hm;have:=Ug hw;subst this;rcases room r' gs' hr' with⟨_,rfl⟩ | ⟨h2,_⟩
   ·simp
   ·exact absurd rfl h2
 ·rcases room s hs h1 with⟨rfl,rfl⟩ | ⟨_,h3⟩
  ·rcases elt i y h2 with h4 | h4
   ·exact h.VX s gs i y ny h4
   ·rw[h4];exact List.Pairwise.nil
  ·exact h.VX s hs i y h3 h2
 ·rcases room s hs h1 with⟨rfl,rfl⟩ | ⟨_,h3⟩
  ·have:=h.mr s gs ny;simp;omega
  ·have:=h.mr s hs h3;omega
 ·rcases room s hs h1 with⟨rfl,rfl⟩ | ⟨_,h3⟩
  ·rcases elt i y h2 with h4 | h4
   ·have:=h.mi s gs i y ny h4;omega
   ·rw[h4];simp
  ·have:=h.mi s hs i y h3 h2;omega
theorem vT {aV:List (List m_)} {r k id:Nat} {gs:List m_} {g:m_} (ny:aV[r]? = some gs) (hg:gs[k]? = some g):nU aV r k id=aV.set r (gs.set k {g with ids:=jZ g.ids id}):=by
 unfold nU;rw[ny];simp only;rw[hg]
theorem kQ.step {n j:Nat} {st:Ja} (h:kQ n j st) (rec:List UInt8) (id:Nat) (fs:List bK) (names:Nat→List (List UInt8)) (r:Nat):kQ n (j + 2) (stepG rec id fs names st r):=by
 unfold stepG;cases hl:xu st.place (dn r (jh fs (names r))) with
 | some k=>
  simp only;cases hr:st.aV[r]? with
  | none=>unfold nU;rw[hr];exact h.mono ω
  | some gs=>
   have hk:=h.pl _ _ (Jt hl) r _ gs rfl hr;rw[vT hr (List.getElem?_eq_getElem hk)];exact (kQ.bump (place:=st.place) h hr (List.getElem?_eq_getElem hk)).mono ω
 | none=>
  simp only;cases hr:st.aV[r]? with
  | none=>exact h.mono ω
  | some gs=>
   simp only;have qM:r < st.aV.length:=(List.getElem?_eq_some_iff.1 hr).1;have h1:=kQ.push (place:=st.place) h (fs:=jh fs (names r)) (key:=Jy rec r (jh fs (names r))) hr;have h2:(st.aV.set r (gs++[⟨r,jh fs (names r),Jy rec r (jh fs (names r)),[]⟩]))[r]? = some (gs++[⟨r,jh fs (names r),Jy rec r (jh fs (names r)),[]⟩]):=List.getElem?_set_self qM;have h3:(gs++[(⟨r,jh fs (names r),Jy rec r (jh fs (names r)),[]⟩:m_)])[gs.length]? = some ⟨r,jh fs (names r),Jy rec r (jh fs (names r)),[]⟩:=by simp
   rw[vT h2 h3];exact kQ.bump h1 h2 h3
end Go.Proofs.YtbhikkgpcmkonaaGreatDoor
namespace Go.Proofs.YtbhikkgpcmkonaaGreatDoor
open Go.RowKit
theorem aiQ (g:FuncId) (lb:Array Value) (eg:Enters Tryz.prog g) (p:Bc→Bool) (A:Option Addr) (m c:Nat) (l:List Bc) (w:World) (h:bW w 6 encR A m l) (hm:m≤9223372036854775807) (hp:xK Tryz.prog g lb ahc p l w) :
 Calls Tryz.prog 162 #[.slice A m c,.func (.func g) #[] lb] w fun e w'=>e =.returned (.int .i64 (placeOf p l))∧ah w w':=by
 have hlen:=h.1;unfold Enters at eg;obtain⟨R,hR⟩:∃R,R=placeOf p l:=⟨_,rfl⟩;rw[←hR];replace hR:=ζ hR;replace hp:=ζ hp;replace h:=ζ h;go_enter Tryz.func162,Tryz.ntmps162
 go_wp2;go_loopw [5,8] (fun _ i wr=>∃k:Nat,k≤m∧i =.int .i64 k∧Hid (∀j y,j < k→l[j]? = some y→p y = false)∧Hid (ah w wr)) (fun _ i _=>m - (intOf i).toNat)
 case atStart=>exact⟨0,ω,rfl,fun _ _ h=>absurd h ω,ah.refl _⟩
 case round=>
  obtain⟨k,hk,rfl,hall,hg⟩:=hrel;by_cases hlt:k<m
  ·obtain⟨b,off,x,rfl,_,hx,hcell⟩:=(h.o.keep hg.o).at_ hlt;have c0:wr.cell? ⟨b,off+k*6,none⟩=some (.string ⟨x.r.r.toArray⟩):=hcell 0 _ rfl;have c1:wr.cell? ⟨b,off+k*6+1,none⟩=some (.slice x.bA x.bm x.bk):=hcell 1 _ rfl;have c2:wr.cell? ⟨b,off+k*6+2,none⟩=some (.int .i64 x.r.wait):=hcell 2 _ rfl;have c3:wr.cell? ⟨b,off+k*6+3,none⟩=some (.int .i64 x.r.every):=hcell 3 _ rfl;have c4:wr.cell? ⟨b,off+k*6+4,none⟩=some (.int .i64 x.r.again):=hcell 4 _ rfl;have c5:wr.cell? ⟨b,off+k*6+5,none⟩=some (.slice x.wA x.wm x.wk):=hcell 5 _ rfl;have kY:(k:Int)<(m:Int):=ω;have cI:=hp.o x (List.mem_of_getElem? hx) wr hg.o;unfold ahc at cI;cases hq:p x with
   | false=>
    rw[hq] at cI;replace cI:=ζ cI;have iY:=ζ (show ∀j y,j < k+1→l[j]? = some y→p y = false from fun j y hj hy=>by
     by_cases hjk:j = k
     ·subst hjk;rw[hx] at hy;rw[←Option.some.inj hy];exact hq
     ·exact hall.o j y ω hy)
    clear hcell hq hx hall hR;go_wp2_with fail;refine (cI.out).mono ?_;rintro e w1 ⟨rfl,hb⟩;have hg1:=ζ (hg.o.trans hb);go_wp2;go_roundw
    case rel=>exact⟨k+1,ω,ν,iY,hg1⟩
    case measure=>exact ψ
   | true=>
    rw[hq] at cI;have aQ:Hid (R=(k:Int)):=ζ (by rw[hR.o];exact iW hx hq hall.o);replace cI:=ζ cI;clear hcell hq hx hall hR;go_wp2_with fail;refine (cI.out).mono ?_;rintro e w1 ⟨rfl,hb⟩;have hg1:=ζ (hg.o.trans hb);go_wp2;go_ret;exact⟨by rw[aQ.o];rfl,hg1.o⟩
  ·obtain rfl:k=m:=ω;have aQ:Hid (R=-1):=ζ (by rw[hR.o];exact iC fun j y hy=>hall.o j y (by have:=(List.getElem?_eq_some_iff.1 hy).1;omega) hy);clear hall hR;go_wp2;go_ret;exact⟨by rw[aQ.o];rfl,hg.o⟩
theorem akp (g:FuncId) (lb:Array Value) (eg:Enters Tryz.prog g) (p:Bc→Bool) (A:Option Addr) (m c:Nat) (l:List Bc) (w:World) (h:bW w 6 encR A m l) (hm:m≤9223372036854775807) (hp:xK Tryz.prog g lb ahc p l w) :
 Calls Tryz.prog 121 #[.slice A m c,.func (.func g) #[] lb] w fun e w'=>e =.returned (.bool (l.any p))∧ah w w':=by
 have cI:=aiQ (c:=c) g lb eg p A m l w h hm hp;replace cI:=ζ cI;have aQ:=ζ (iE p l);clear h hp;go_enter Tryz.func121,Tryz.ntmps121
 go_wp2_with fail;refine cI.out.mono ?_;rintro e w1 ⟨rfl,hb⟩;go_wp2;go_ret;exact⟨aP aQ.o,hb⟩
theorem aiV (g:FuncId) (lb:Array Value) (eg:Enters Tryz.prog g) (p:Aq→Bool) (A:Option Addr) (m c:Nat) (l:List Aq) (w:World) (h:bW w 5 akk A m l) (hm:m≤9223372036854775807) (hp:xK Tryz.prog g lb WJ p l w) :
 Calls Tryz.prog 163 #[.slice A m c,.func (.func g) #[] lb] w fun e w'=>e =.returned (.int .i64 (placeOf p l))∧ah w w':=by
 have hlen:=h.1;unfold Enters at eg;obtain⟨R,hR⟩:∃R,R=placeOf p l:=⟨_,rfl⟩;rw[←hR];replace hR:=ζ hR;replace hp:=ζ hp;replace h:=ζ h;go_enter Tryz.func163,Tryz.ntmps163
 go_wp2;go_loopw [5,8] (fun _ i wr=>∃k:Nat,k≤m∧i =.int .i64 k∧Hid (∀j y,j < k→l[j]? = some y→p y = false)∧Hid (ah w wr)) (fun _ i _=>m - (intOf i).toNat)
 case atStart=>exact⟨0,ω,rfl,fun _ _ h=>absurd h ω,ah.refl _⟩
 case round=>
  obtain⟨k,hk,rfl,hall,hg⟩:=hrel;by_cases hlt:k<m
  ·obtain⟨b,off,x,rfl,_,hx,hcell⟩:=(h.o.keep hg.o).at_ hlt;have c0:wr.cell? ⟨b,off+k*5,none⟩=some (.slice x.bA x.bm x.bk):=hcell 0 _ rfl;have c1:wr.cell? ⟨b,off+k*5+1,none⟩=some (.int .i64 x.i.l.lv):=hcell 1 _ rfl;have c2:wr.cell? ⟨b,off+k*5+2,none⟩=some (.int .u32 (x.i.l.c:Int)):=hcell 2 _ rfl;have c3:wr.cell? ⟨b,off+k*5+3,none⟩=some (.slice x.fA x.fm x.fk):=hcell 3 _ rfl;have c4:wr.cell? ⟨b,off+k*5+4,none⟩=some (.slice x.wA x.wm x.wk):=hcell 4 _ rfl;have kY:(k:Int)<(m:Int):=ω;have cI:=hp.o x (List.mem_of_getElem? hx) wr hg.o;unfold WJ at cI;cases hq:p x with
   | false=>
    rw[hq] at cI;replace cI:=ζ cI;have iY:=ζ (show ∀j y,j < k+1→l[j]? = some y→p y = false from fun j y hj hy=>by
     by_cases hjk:j = k
     ·subst hjk;rw[hx] at hy;rw[←Option.some.inj hy];exact hq
     ·exact hall.o j y ω hy)
    clear hcell hq hx hall hR;go_wp2_with fail;refine (cI.out).mono ?_;rintro e w1 ⟨rfl,hb⟩;have hg1:=ζ (hg.o.trans hb);go_wp2;go_roundw
    case rel=>exact⟨k+1,ω,ν,iY,hg1⟩
    case measure=>exact ψ
   | true=>
    rw[hq] at cI;have aQ:Hid (R=(k:Int)):=ζ (by rw[hR.o];exact iW hx hq hall.o);replace cI:=ζ cI;clear hcell hq hx hall hR;go_wp2_with fail;refine (cI.out).mono ?_;rintro e w1 ⟨rfl,hb⟩;have hg1:=ζ (hg.o.trans hb);go_wp2;go_ret;exact⟨by rw[aQ.o];rfl,hg1.o⟩
  ·obtain rfl:k=m:=ω;have aQ:Hid (R=-1):=ζ (by rw[hR.o];exact iC fun j y hy=>hall.o j y (by have:=(List.getElem?_eq_some_iff.1 hy).1;omega) hy);clear hall hR;go_wp2;go_ret;exact⟨by rw[aQ.o];rfl,hg.o⟩
theorem akr (g:FuncId) (lb:Array Value) (eg:Enters Tryz.prog g) (p:Aq→Bool) (A:Option Addr) (m c:Nat) (l:List Aq) (w:World) (h:bW w 5 akk A m l) (hm:m≤9223372036854775807) (hp:xK Tryz.prog g lb WJ p l w) :
 Calls Tryz.prog 122 #[.slice A m c,.func (.func g) #[] lb] w fun e w'=>e =.returned (.bool (l.any p))∧ah w w':=by
 have cI:=aiV (c:=c) g lb eg p A m l w h hm hp;replace cI:=ζ cI;have aQ:=ζ (iE p l);clear h hp;go_enter Tryz.func122,Tryz.ntmps122
 go_wp2_with fail;refine cI.out.mono ?_;rintro e w1 ⟨rfl,hb⟩;go_wp2;go_ret;exact⟨aP aQ.o,hb⟩
end Go.Proofs.YtbhikkgpcmkonaaGreatDoor
namespace Go.Proofs.YtbhikkgpcmkonaaGreatDoor
open Go.RowKit Go.PlainAid Go.Maps
theorem Yw {s:ByteArray} {i:Nat} (h:128≤(s.get! i).toNat):1≤(Utf8.decode s i).2∧∀j,j < (Utf8.decode s i).2→128≤(s.get! (i + j)).toNat:=by
 have h0:∀j,j < 1→128≤(s.get! (i + j)).toNat:=fun j hj=>by
  obtain rfl:j = 0:=ω;exact h
 unfold Utf8.decode;have h':¬(s.get! i).toNat<128:=ω;simp only[Nat.add_zero,h',if_false];split
 ·rename_i hc;simp only[Bool.and_eq_true,decide_eq_true_eq,beq_iff_eq] at hc;split
  ·refine⟨by simp,fun j hj=> ?_⟩;simp only at hj;match j,hj with
   | 0,_=>exact h
   | 1,_=>omega
  ·exact⟨by simp,h0⟩
 ·split
  ·rename_i hc;simp only[Bool.and_eq_true,decide_eq_true_eq,beq_iff_eq] at hc;split
   ·refine⟨by simp,fun j hj=> ?_⟩;simp only at hj;match j,hj with
    | 0,_=>exact h
    | 1,_=>omega
    | 2,_=>omega
   ·exact⟨by simp,h0⟩
  ·split
   ·rename_i hc;simp only[Bool.and_eq_true,decide_eq_true_eq,beq_iff_eq] at hc;split
    ·refine⟨by simp,fun j hj=> ?_⟩;simp only at hj;match j,hj with
     | 0,_=>exact h
     | 1,_=>omega
     | 2,_=>omega
     | 3,_=>omega
    ·exact⟨by simp,h0⟩
   ·exact⟨by simp,h0⟩
theorem ER {α:Type} {q:α→Bool} {l:List α}:∀(d pos:Nat),(∀j x,j < d→l[pos+j]? = some x→q x = false)→(l.drop pos).any q=(l.drop (pos+d)).any q
 | 0,_,_=>rfl
 | d + 1,pos,h=>by
  rw[show pos+(d + 1)=pos+1+d by omega,←ER d (pos+1) (fun j x hj hx=>h (j + 1) x ω (by rw[←hx];congr 1;omega))];by_cases hp:pos<l.length
  ·rw[List.drop_eq_getElem_cons hp,List.any_cons,h 0 l[pos] ω (by simp[hp]),Bool.false_or]
  ·rw[List.drop_of_length_le ω,List.drop_of_length_le ω]
theorem KN {s:ByteArray} {i:Nat} {x:UInt8} (h:s.data.toList[i]? = some x):s.get! i = x:=by
 obtain⟨hi,rfl⟩:=List.getElem?_eq_some_iff.1 h;rw[Array.getElem_toList];show s.data[i]! = _
 exact getElem!_pos s.data i (by simpa using hi)
theorem XG {p:Nat→Bool} {q:UInt8→Bool} (h1:∀b:UInt8,b.toNat<128→p b.toNat=q b) (h2:∀r,128≤r→p r = false) (h3:∀b:UInt8,128≤b.toNat→q b = false) (s:ByteArray) :
 ∀(f pos:Nat),s.size≤pos+f→decide (0≤Lib.idxFuncFrom p true s f pos)=(s.data.toList.drop pos).any q:=by
 intro f;induction f with
 | zero=>
  intro pos hf;rw[List.drop_of_length_le (by rw[Array.length_toList];exact hf)];rfl
 | succ f ih=>
  intro pos hf;unfold Lib.idxFuncFrom;by_cases hp:pos<s.size
  ·rw[if_pos hp];have hl:pos<s.data.toList.length:=by rw[Array.length_toList];exact hp
   have hg:s.get! pos=s.data.toList[pos]:=KN (List.getElem?_eq_getElem hl);by_cases hb:(s.get! pos).toNat<128
   ·rw[List.drop_eq_getElem_cons hl,List.any_cons];rw[O4 rfl hb,h1 _ hb,hg];cases hq:q s.data.toList[pos]
    ·simp only[Bool.false_eq_true,if_false,Bool.false_or];exact ih (pos+1) ω
    ·simp
   ·have ajV:128≤(s.get! pos).toNat:=ω;obtain⟨d1,d2⟩:=Yw ajV;rw[h2 _ (decode_high rfl ajV),ER (Utf8.decode s pos).2 pos (fun j x hj hx=>h3 x (by rw[←KN hx];exact d2 j hj))];simp only[Bool.false_eq_true,if_false];exact ih _ ω
  ·rw[if_neg hp,List.drop_of_length_le (by rw[Array.length_toList];show s.size≤pos;omega)];rfl
def O5 (r:Nat):Bool:=decide (r < 32)
def anq (s:List UInt8):Bool:=s.any fun b=>O5 b.toNat
theorem anp (s:List UInt8):decide (0≤Lib.idxFunc O5 true ⟨s.toArray⟩)=anq s:=by
 have:=XG (p:=O5) (q:=fun b=>O5 b.toNat) (fun _ _=>rfl) (fun r h=>by unfold O5;simp;omega) (fun b h=>by unfold O5;simp;omega) ⟨s.toArray⟩ s.length 0 (by show s.toArray.size≤_;simp);have hs:(⟨s.toArray⟩:ByteArray).size=s.length:=by show s.toArray.size=_;simp
 unfold Lib.idxFunc;rw[hs,this];simp[anq]
theorem akm (w:World):PredAt Tryz.prog 160 #[] Go.Proofs.encR O5 w:=fun W r _=>by
 unfold FnGives;obtain⟨R,hR⟩:∃R,R=O5 r:=⟨_,rfl⟩;rw[←hR];unfold O5 at hR;by_cases h:r < 32
 ·have h':(r:Int)<32:=ω;go_enter Tryz.func160,Tryz.ntmps160
  go_wp2;go_ret;exact⟨by first | rfl | (rw[hR];simp[h]),0,rfl⟩
 ·have h':¬(r:Int)<32:=ω;go_enter Tryz.func160,Tryz.ntmps160
  go_wp2;go_ret;exact⟨by first | rfl | (rw[hR];simp;omega),0,rfl⟩
def aeE (fb:cZ→Bool) (x:cZ):Bool:= !fb x ||anq x.v
theorem air {fb:cZ→Bool} {x:cZ} (h:mO fb x) (w:World) :
 Calls Tryz.prog 158 #[Fv x] w fun e w'=>e =.returned (.bool (aeE fb x))∧ah w w':=by
 have cC:=fun W=>Any.strings_ContainsFunc Tryz.Xz 160 #[] (enters_of Tryz.func160 κ rfl) O5 ⟨x.v.toArray⟩ W (akm W)
 have hci:=anp x.v;unfold mO at h;obtain⟨R,hR⟩:∃R,R=aeE fb x:=⟨_,rfl⟩;rw[←hR];unfold aeE at hR;change ∀W,Calls Tryz.prog 159 _ W _ at cC
 generalize decide (0≤Lib.idxFunc O5 true ⟨x.v.toArray⟩)=D at *
 subst hci;unfold Fv at h ⊢;generalize fb x = B at *
 generalize anq x.v = D at *
 replace cC:=ζ cC;replace h:=ζ h;cases B
 ·replace hR:R=true:=by rw[hR];rfl
  subst hR;clear cC;go_enter Tryz.func158,Tryz.ntmps158
  go_wp2_with fail;refine (h.o _).mono ?_;rintro e w1 ⟨rfl,hb⟩;go_wp2;go_ret;exact⟨rfl,by
   exact γ
  ⟩
 ·replace hR:R=D:=by rw[hR];rfl
  subst hR;go_enter Tryz.func158,Tryz.ntmps158
  go_wp2_with fail;refine (h.o _).mono ?_;rintro e w1 ⟨rfl,hb⟩;have ba:=(aF.new w 213 #[.string ⟨x.n.toArray⟩,.int .i64 x.op,.string ⟨x.v.toArray⟩]).grows hb;have d2:_ = some (Value.string ⟨x.v.toArray⟩):=ba.cell 2;have sa:=ba.lt;clear ba h;go_wp2_with fail;refine (cC.out _).mono ?_;rintro e w2 ⟨rfl,hb2⟩;have hg2:ah w w2:=(((ah.refl w).alloc _).trans hb).trans hb2;go_wp2;go_ret;exact⟨rfl,by
   exact γ
  ⟩
def Hl (fb:cZ→Bool) (l:List cZ):Bool:=decide (l.length≤12)&& !(l.any (aeE fb))
theorem Nv {fb:cZ→Bool} {A:Option Addr} {m c:Nat} {l:List cZ} (w:World) (hA:bW w 3 qU A m l) (hm:m≤9223372036854775807) (h:∀x∈l,mO fb x) :
 Calls Tryz.prog 118 #[.slice A m c] w fun e w'=>e =.returned (.bool (Hl fb l))∧ah w w':=by
 have cC:=O6 (c:=c) 158 #[] (enters_of Tryz.func158 κ rfl) (aeE fb) A m l w hA hm (fun x hx W _=>air (h x hx) W);have lJ:=hA.1;obtain⟨R,hR⟩:∃R,R=Hl fb l:=⟨_,rfl⟩;rw[←hR];unfold Hl at hR;rw[lJ] at hR;generalize l.any (aeE fb)=D at *
 replace cC:=ζ cC;clear hA h lJ;by_cases h12:m≤12
 ·rw[decide_eq_true h12,Bool.true_and] at hR;have aAN:(m:Int)≤12:=ω;subst hR;go_enter Tryz.func118,Tryz.ntmps118
  go_wp2_with fail;refine (cC.out).mono ?_;rintro e w1 ⟨rfl,hb⟩;go_wp2;go_ret;exact⟨rfl,hb⟩
 ·rw[decide_eq_false h12,Bool.false_and] at hR;have aAN:¬(m:Int)≤12:=ω;subst hR;clear cC;go_enter Tryz.func118,Tryz.ntmps118
  go_wp2;go_ret;exact⟨rfl,ah.refl _⟩
theorem anv {x:iO} (w:World) (hx:x.At w) :
 Calls Tryz.prog 113 #[x.val] w fun e w'=>e =.returned (.bool (!pG x.l))∧ah w w':=by
 have cN:=aeI w hx;generalize pG x.l = B at *
 unfold iO.val at *
 replace cN:=ζ cN;clear hx;go_enter Tryz.func113,Tryz.ntmps113
 go_wp2_with fail;refine (cN.out).mono ?_;rintro e w1 ⟨rfl,hb⟩;go_wp2;go_ret;exact⟨aP rfl,hb⟩
def ahM (r:Rte):Bool:=(decide (0≤r.wait)&&decide (r.wait≤1000))&&((decide (1≤r.every)&&decide (r.every≤1000))&&(decide (r.every≤r.again)&&decide (r.again≤100000)))
def uQ (rs:List Bo) (fb:cZ→Bool) (r:Rte):Bool:=(eu rs r.r).isNone||(!byB r.fH||(!ahM r || !Hl fb r.wh))
theorem anu {fb:cZ→Bool} {rs:iO} {x:Bc} {gp:Nat} (w:World) (hx:x.At w) (hr:rs.At w) (hp:w.cell? ⟨gp,1,none⟩=some rs.val) (oO:∀y∈x.r.wh,mO fb y) :
 Calls Tryz.prog 115 #[ahc x,.pointer (some ⟨gp,0,none⟩)] w fun e w'=>e =.returned (.bool (uQ rs.l fb x.r))∧ah w w':=by
 have cF:=fun W (hW:ah w W)=>yT (c:=rs.k) (n:=x.r.r) W (hr.arr.keep hW) hr.le
 have c1:=fun W=>CW x.r.wait 0 1000 W
 have c2:=fun W=>CW x.r.every 1 1000 W
 have c3:=fun W=>CW x.r.again x.r.every 100000 W
 have cB:=fun W (hW:ah w W)=>akB (c:=x.bk) W (hx.fH.keep hW) hx.agh hx.YE
 have cW:=fun W (hW:ah w W)=>Nv (c:=x.wk) W (hx.wh.keep hW) hx.Zo oO
 have gpl:=World.block_lt_of_cell? w _ hp;simp only at gpl;obtain⟨R,hR⟩:∃R,R=uQ rs.l fb x.r:=⟨_,rfl⟩;rw[←hR];unfold uQ ahM at hR;have hls:(eu rs.l x.r.r).isNone= !(eu rs.l x.r.r).isSome:=by cases eu rs.l x.r.r <;> rfl
 rw[hls] at hR;unfold iO.val at hp;generalize kN (eu rs.l x.r.r)=FL at *
 generalize (eu rs.l x.r.r).isSome=F at *
 generalize (decide (0≤x.r.wait)&&decide (x.r.wait≤1000))=B1 at *
 generalize (decide (1≤x.r.every)&&decide (x.r.every≤1000))=B2 at *
 generalize (decide (x.r.every≤x.r.again)&&decide (x.r.again≤100000))=B3 at *
 generalize byB x.r.fH=BY at *
 generalize Hl fb x.r.wh=WH at *
 unfold ahc;clear hls hx hr oO;replace cF:=ζ cF;replace c1:=ζ c1;replace c2:=ζ c2;replace c3:=ζ c3;replace cB:=ζ cB;replace cW:=ζ cW;replace hR:=ζ hR;go_enter Tryz.func115,Tryz.ntmps115
 go_wp2_with fail;refine (cF.out _ γ).mono ?_;rintro e w1 ⟨rfl,hb1⟩;have bx:=ζ (((aF.new w 46 #[.string ⟨x.r.r.toArray⟩,.slice x.bA x.bm x.bk,.int .i64 x.r.wait,.int .i64 x.r.every,.int .i64 x.r.again,.slice x.wA x.wm x.wk]).grows hb1).alloc (.cells #[.int .i64 FL.lv,.int .u32 (FL.c:Int)] 25));have hG:Hid (ah w (w1.alloc (.cells #[.int .i64 FL.lv,.int .u32 (FL.c:Int)] 25))):=ζ ((((ah.refl w).alloc _).trans hb1).alloc _);have e0:=((aF.new w 46 #[.string ⟨x.r.r.toArray⟩,.slice x.bA x.bm x.bk,.int .i64 x.r.wait,.int .i64 x.r.every,.int .i64 x.r.again,.slice x.wA x.wm x.wk]).grows hb1).cell 2;have ez:=hb1.lt;clear cF hb1 hp;go_wp2_with fail;refine (c1.out _).mono ?_;rintro e w2 ⟨rfl,hb2⟩;clear e0 ez;have q0:=0;have q1:=0;have q2:=0;have q3:=0;have q4:=0;have q5:=0;have qz:=0;replace bx:=ζ (bx.out.grows hb2);replace hG:=ζ (hG.o.trans hb2);clear hb2 q0 q1 q2 q3 q4 q5 qz;have q0:=bx.out.c0;have q1:=bx.out.c1;have q2:=bx.out.c2;have q3:=bx.out.c3;have q4:=bx.out.c4;have q5:=bx.out.c5;have qz:=bx.out.lt;cases B1
 ·have aQ:Hid (R=true):=ζ (by rw[hR.o];simp);clear c1 c2 c3 hR cW;cases F
  ·go_wp2;go_ret;exact⟨aP aQ.o.symm,hG.o⟩
  ·go_wp2_with fail;refine (cB.out _ hG.o).mono ?_;rintro e w5 ⟨rfl,fM⟩;replace bx:=ζ (bx.out.grows fM);replace hG:=ζ (hG.o.trans fM);clear fM q0 q1 q2 q3 q4 q5 qz;have q0:=bx.out.c0;have q1:=bx.out.c1;have q2:=bx.out.c2;have q3:=bx.out.c3;have q4:=bx.out.c4;have q5:=bx.out.c5;have qz:=bx.out.lt;cases BY
   ·go_wp2;go_ret;exact⟨aP aQ.o.symm,hG.o⟩
   ·go_wp2;go_ret;exact⟨aP aQ.o.symm,hG.o⟩
 ·go_wp2_with fail;refine (c2.out _).mono ?_;rintro e w3 ⟨rfl,hb3⟩;replace bx:=ζ (bx.out.grows hb3);replace hG:=ζ (hG.o.trans hb3);clear hb3 q0 q1 q2 q3 q4 q5 qz;have q0:=bx.out.c0;have q1:=bx.out.c1;have q2:=bx.out.c2;have q3:=bx.out.c3;have q4:=bx.out.c4;have q5:=bx.out.c5;have qz:=bx.out.lt;cases B2
  ·have aQ:Hid (R=true):=ζ (by rw[hR.o];simp);clear c1 c2 c3 hR cW;cases F
   ·go_wp2;go_ret;exact⟨aP aQ.o.symm,hG.o⟩
   ·go_wp2_with fail;refine (cB.out _ hG.o).mono ?_;rintro e w5 ⟨rfl,fM⟩;replace bx:=ζ (bx.out.grows fM);replace hG:=ζ (hG.o.trans fM);clear fM q0 q1 q2 q3 q4 q5 qz;have q0:=bx.out.c0;have q1:=bx.out.c1;have q2:=bx.out.c2;have q3:=bx.out.c3;have q4:=bx.out.c4;have q5:=bx.out.c5;have qz:=bx.out.lt;cases BY
    ·go_wp2;go_ret;exact⟨aP aQ.o.symm,hG.o⟩
    ·go_wp2;go_ret;exact⟨aP aQ.o.symm,hG.o⟩
  ·go_wp2_with fail;refine (c3.out _).mono ?_;rintro e w4 ⟨rfl,hb4⟩;replace bx:=ζ (bx.out.grows hb4);replace hG:=ζ (hG.o.trans hb4);clear hb4 q0 q1 q2 q3 q4 q5 qz;have q0:=bx.out.c0;have q1:=bx.out.c1;have q2:=bx.out.c2;have q3:=bx.out.c3;have q4:=bx.out.c4;have q5:=bx.out.c5;have qz:=bx.out.lt;clear c1 c2 c3;cases F
   ·have aQ:Hid (R=true):=ζ (by rw[hR.o];simp);clear hR cW;cases B3
    ·go_wp2;go_ret;exact⟨aP aQ.o.symm,hG.o⟩
    ·go_wp2;go_ret;exact⟨aP aQ.o.symm,hG.o⟩
   ·go_wp2_with fail;refine (cB.out _ hG.o).mono ?_;rintro e w5 ⟨rfl,fM⟩;replace bx:=ζ (bx.out.grows fM);replace hG:=ζ (hG.o.trans fM);clear fM q0 q1 q2 q3 q4 q5 qz;have q0:=bx.out.c0;have q1:=bx.out.c1;have q2:=bx.out.c2;have q3:=bx.out.c3;have q4:=bx.out.c4;have q5:=bx.out.c5;have qz:=bx.out.lt;cases BY
    ·have aQ:Hid (R=true):=ζ (by rw[hR.o];simp);clear hR cW;cases B3
     ·go_wp2;go_ret;exact⟨aP aQ.o.symm,hG.o⟩
     ·go_wp2;go_ret;exact⟨aP aQ.o.symm,hG.o⟩
    ·cases B3
     ·have aQ:Hid (R=true):=ζ (by rw[hR.o];simp);clear hR cW;go_wp2;go_ret;exact⟨aP aQ.o.symm,hG.o⟩
     ·have aQ:Hid (R= !WH):=ζ (by rw[hR.o];simp);clear hR;go_wp2_with fail;refine (cW.out _ hG.o).mono ?_;rintro e w6 ⟨rfl,Bj⟩;go_wp2;go_ret;exact⟨aP aQ.o.symm,hG.o.trans Bj⟩
def vI (fb:cZ→Bool) (i:Inh):Bool:= !byB i.fH||(!dX i.l.lv||(!Hl fb i.from_|| !Hl fb i.wh))
theorem ant {fb:cZ→Bool} {x:Aq} (w:World) (hx:x.At w) (hf1:∀y∈x.i.from_,mO fb y) (hf2:∀y∈x.i.wh,mO fb y) :
 Calls Tryz.prog 119 #[WJ x] w fun e w'=>e =.returned (.bool (vI fb x.i))∧ah w w':=by
 have cB:=fun W (hW:ah w W)=>akB (c:=x.bk) W (hx.fH.keep hW) hx.agh hx.YE
 have cL:=fun W=>lX x.i.l W
 have cV:=fun W (hW:ah w W)=>Nv (c:=x.fk) W (hx.fr.keep hW) hx.aqY hf1
 have cW:=fun W (hW:ah w W)=>Nv (c:=x.wk) W (hx.wh.keep hW) hx.Zo hf2
 obtain⟨R,hR⟩:∃R,R=vI fb x.i:=⟨_,rfl⟩;rw[←hR];unfold vI at hR;generalize byB x.i.fH=BY at *
 generalize dX x.i.l.lv=BL at *
 generalize Hl fb x.i.from_=BV at *
 generalize Hl fb x.i.wh=BW at *
 unfold WJ;clear hx hf1 hf2;replace cB:=ζ cB;replace cL:=ζ cL;replace cV:=ζ cV;replace cW:=ζ cW;replace hR:=ζ hR;go_enter Tryz.func119,Tryz.ntmps119
 go_wp2_with fail;refine (cB.out _ γ).mono ?_;rintro e w1 ⟨rfl,hb1⟩;have bx:=ζ ((aF.new w 77 #[.slice x.bA x.bm x.bk,.int .i64 x.i.l.lv,.int .u32 (x.i.l.c:Int),.slice x.fA x.fm x.fk,.slice x.wA x.wm x.wk]).grows hb1);have hG:Hid (ah w w1):=ζ (((ah.refl w).alloc _).trans hb1);clear cB hb1;have q0:=bx.out.c0;have q1:=bx.out.c1;have q2:=bx.out.c2;have q3:=bx.out.c3;have q4:=bx.out.c4;have qz:=bx.out.lt;cases BY
 ·have aQ:Hid (R=true):=ζ (by rw[hR.o];simp);clear hR cL cV cW;go_wp2;go_ret;exact⟨aP aQ.o.symm,hG.o⟩
 ·go_wp2_with fail;refine (cL.out _).mono ?_;rintro e w2 ⟨rfl,hb2⟩;replace bx:=ζ (bx.out.grows hb2);replace hG:=ζ (hG.o.trans hb2);clear hb2 q0 q1 q2 q3 q4 qz;have q0:=bx.out.c0;have q1:=bx.out.c1;have q2:=bx.out.c2;have q3:=bx.out.c3;have q4:=bx.out.c4;have qz:=bx.out.lt;clear cL;cases BL
  ·have aQ:Hid (R=true):=ζ (by rw[hR.o];simp);clear hR cV cW;go_wp2;go_ret;exact⟨aP aQ.o.symm,hG.o⟩
  ·go_wp2_with fail;refine (cV.out _ hG.o).mono ?_;rintro e w3 ⟨rfl,hb3⟩;replace bx:=ζ (bx.out.grows hb3);replace hG:=ζ (hG.o.trans hb3);clear hb3 q0 q1 q2 q3 q4 qz;have q0:=bx.out.c0;have q1:=bx.out.c1;have q2:=bx.out.c2;have q3:=bx.out.c3;have q4:=bx.out.c4;have qz:=bx.out.lt;clear cV;cases BV
   ·have aQ:Hid (R=true):=ζ (by rw[hR.o];simp);clear hR cW;go_wp2;go_ret;exact⟨aP aQ.o.symm,hG.o⟩
   ·have aQ:Hid (R= !BW):=ζ (by rw[hR.o];simp);clear hR;go_wp2_with fail;refine (cW.out _ hG.o).mono ?_;rintro e w4 ⟨rfl,hb4⟩;go_wp2;go_ret;exact⟨aP aQ.o.symm,hG.o.trans hb4⟩
theorem bW.FN {α:Type} {w:World} {g:Nat} {t:TypeId} {l:List α} {f:α→Value} (h:aF w g t (l.map f).toArray):bW w 1 (fun x=>[f x]) (some ⟨g,0,none⟩) l.length l:=by
 refine⟨rfl,fun _=>⟨g,0,rfl,h.lt,fun i hi j u hu=> ?_⟩⟩;have hj:j = 0:=by have:=(List.getElem?_eq_some_iff.1 hu).1;simp at this;omega
 subst hj;rw[h.cell];simp only[List.getElem?_cons_zero,Option.some.injEq] at hu;simp[hi,hu]
def H9 (p:fU):List (List Bo):=[p.sources,p.receivers,p.apq,p.raises]
def SH (p:fU):Bool:=decide (12<max p.routes.length p.jT.length)||(H9 p).any fun l=>decide (12<l.length)
def ab2 (fb:cZ→Bool) (p:fU):Bool:=(H9 p).any (fun l=> !pG l)||(p.routes.any (uQ p.receivers fb)||p.jT.any (vI fb))
def fP (fb:cZ→Bool) (p:fU):Int:=if SH p then 4 else if ab2 fb p then 1 else 0
def lQ (fb:cZ→Bool) (x:bU):Prop:=(∀r∈x.o,∀y∈r.r.wh,mO fb y)∧∀i∈x.i,(∀y∈i.i.from_,mO fb y)∧∀y∈i.i.wh,mO fb y
def bU.lists (x:bU):List iO:=[x.s,x.r,x.e,x.a]
def BN (x:bU) (k:Nat):Bool:=decide (12<max x.om x.im)||(x.lists.take k).any fun q=>decide (12<q.m)
theorem aaO {x:bU} {w:World} (h:x.At w):BN x 4=SH x.aU:=by
 unfold BN SH;have h1:x.aU.routes.length=x.om:=by simp[bU.aU,h.o.1]
 have h2:x.aU.jT.length=x.im:=by simp[bU.aU,h.i.1]
 have e1:=h.s.arr.1;have e2:=h.r.arr.1;have e3:=h.e.arr.1;have e4:=h.a.arr.1;rw[h1,h2];simp[bU.lists,H9,bU.aU,e1,e2,e3,e4]
theorem Xv {x:bU} {k:Nat} {q:iO} (h:x.lists[k]? = some q):BN x (k+1)=(BN x k||decide (12<q.m)):=by
 unfold BN;rw[List.take_add_one,h,List.any_append];simp[Bool.or_assoc]
theorem anE (fb:cZ→Bool) (x:bU):ab2 fb x.aU=(x.lists.any (fun q=> !pG q.l)||(x.o.any (fun y=>uQ x.r.l fb y.r)||x.i.any (fun y=>vI fb y.i))):=by
 unfold ab2;simp only[bU.aU,H9,bU.lists,List.any_map,Function.comp_def];rfl
theorem yV {fb:cZ→Bool} {x:bU} (w:World) (hx:x.At w) (oO:lQ fb x) :
 Calls Tryz.prog 76 #[x.val] w fun e w'=>e =.returned (.int .i64 (fP fb x.aU))∧ah w w':=by
 have cQ:=fun (A:Option Addr) (W:World) (hW:ah w W) (hA:bW W 1 ani A 4 x.lists)=>akq (c:=4) 113 #[] (enters_of Tryz.func113 κ rfl) (fun q=> !pG q.l) A 4 x.lists W hA ω (fun q hq W' yg=>anv W' (by
  have h4:x.s.At W'∧x.r.At W'∧x.e.At W'∧x.a.At W':=⟨hx.s.keep (hW.trans yg),hx.r.keep (hW.trans yg),hx.e.keep (hW.trans yg),hx.a.keep (hW.trans yg)⟩;simp only[bU.lists,List.mem_cons,List.not_mem_nil,or_false] at hq;rcases hq with rfl | rfl | rfl | rfl
  ·exact h4.1
  ·exact h4.2.1
  ·exact h4.2.2.1
  ·exact h4.2.2.2))
 have cO:=fun (W:World) (hW:ah w W) (hp:W.cell? ⟨w.heap.size,1,none⟩=some x.r.val)=>akp (c:=x.ok) 115 #[.pointer (some ⟨w.heap.size,0,none⟩)] (enters_of Tryz.func115 κ rfl) (fun y=>uQ x.r.l fb y.r) x.oA x.om x.o W (hx.o.keep hW) hx.ole (fun y hy W' yg=>anu W' ((hx.oAt y hy).keep (hW.trans yg)) (hx.r.keep (hW.trans yg)) (yg.cell hp) (oO.1 y hy))
 have cI:=fun (W:World) (hW:ah w W)=>akr (c:=x.ik) 119 #[] (enters_of Tryz.func119 κ rfl) (fun y=>vI fb y.i) x.iA x.im x.i W (hx.i.keep hW) hx.ile (fun y hy W' yg=>ant W' ((hx.iAt y hy).keep (hW.trans yg)) (oO.2 y hy).1 (oO.2 y hy).2)
 have hend:=aaO hx;have iY:=fun k q=>Xv (x:=x) (k:=k) (q:=q)
 have qP:=anE fb x;obtain⟨R,hR⟩:∃R,R=fP fb x.aU:=⟨_,rfl⟩;rw[←hR];unfold fP at hR;rw[qP,←hend] at hR;have hl0:BN x 0=decide (12<max x.om x.im):=by simp[BN]
 have ajj:x.lists=[x.s,x.r,x.e,x.a]:=rfl;have hl4:x.lists.length=4:=rfl;generalize BN x = LT at *
 generalize x.o.any (fun y=>uQ x.r.l fb y.r)=BO at *
 generalize x.i.any (fun y=>vI fb y.i)=BI at *
 generalize x.lists.any (fun q=> !pG q.l)=BQ at *
 generalize hls:x.lists=ls at *
 unfold bU.val;clear hx oO hend qP hls;obtain⟨⟨sl,sA,sm,sk⟩,⟨rl,rA,rm,rk⟩,⟨el,eA,em,ek⟩,⟨al,aA,am,ak⟩,o,oA,om,ok,i,iA,im,ik⟩:=x;simp only[iO.val] at cQ cO cI hR hl0 ajj ⊢;replace cQ:=ζ cQ;replace cO:=ζ cO;replace cI:=ζ cI;replace hR:=ζ hR;replace iY:=ζ iY;replace hl4:=ζ hl4;have hmap:ls.map (fun q=>Value.slice q.A q.m q.k)=[.slice sA sm sk,.slice rA rm rk,.slice eA em ek,.slice aA am ak]:=by rw[ajj];rfl
 replace hmap:=ζ hmap;clear ajj;go_enter Tryz.func76,Tryz.ntmps76
 go_wp2_with fail;go_loopw [4,6,29] (fun lg _ i wr=>∃k:Nat,k≤4∧i =.int .i64 k∧lg=.bool (LT k)∧Hid (aF wr w.heap.size 50 #[.slice sA sm sk,.slice rA rm rk,.slice eA em ek,.slice aA am ak,.slice oA om ok,.slice iA im ik])∧Hid (bW wr 1 ani (some ⟨w.heap.size+1,0,none⟩) 4 ls)∧Hid (ah w wr)) (fun _ _ i _=>4-(intOf i).toNat)
 case atStart=>
  refine⟨0,ω,rfl,?_,(aF.new w _ _).alloc _,?_,((ah.refl w).alloc _).alloc _⟩
  ·rw[hl0];congr 1;rw[Bool.eq_iff_iff];simp;omega
  ·have hb:=aF.kW w (.cells #[.slice sA sm sk,.slice rA rm rk,.slice eA em ek,.slice aA am ak,.slice oA om ok,.slice iA im ik] 50) 42 (ls.map (fun q=>Value.slice q.A q.m q.k)).toArray;have:=bW.FN hb;rw[hl4.o] at this;rw[hmap.o] at this;exact this
 case round=>
  obtain⟨k,hk,rfl,rfl,hP,hL,hG⟩:=hrel;by_cases hk4:k<4
  ·obtain⟨bb,off,q,hbb,GV,hq,hcell⟩:=hL.o.at_ hk4;obtain⟨rfl,rfl⟩:bb=w.heap.size+1∧off=0:=by
    simp only[Option.some.injEq,Addr.mk.injEq,and_true] at hbb;exact⟨hbb.1.symm,hbb.2.symm⟩
   clear hbb;have c0:wr.cell? ⟨w.heap.size+1,k,none⟩=some (.slice q.A q.m q.k):=by simpa using hcell 0 _ rfl
   have Y5:=iY.o k q hq;have kY:(k:Int)<4:=ω;clear hcell;generalize LT k=B at *
   cases B
   ·go_wp2;go_roundw
    case rel=>exact⟨k+1,ω,ν,by rw[Y5];congr 1;rw[Bool.eq_iff_iff];simp;omega,hP,hL,hG⟩
    case measure=>exact ψ
   ·go_wp2;go_roundw
    case rel=>exact⟨k+1,ω,ν,by rw[Y5];rfl,hP,hL,hG⟩
    case measure=>exact ψ
  ·obtain rfl:k=4:=ω;generalize LT 4=B at *
   have bp:=hP;have p0:=bp.out.c0;have p1:=bp.out.c1;have p2:=bp.out.c2;have p3:=bp.out.c3;have p4:=bp.out.c4;have p5:=bp.out.c5;have pz:=bp.out.lt;cases B
   ·have hR':Hid (R=if (BQ||(BO||BI))=true then 1 else 0):=ζ (by rw[hR.o];rfl);clear hR;have cQ':=ζ (cQ.out _ wr hG.o hL.o);clear cQ;go_wp2_with fail;refine (cQ'.out).mono ?_;rintro e w1 ⟨rfl,hb1⟩;replace bp:=ζ (bp.out.grows hb1);replace hG:=ζ (hG.o.trans hb1);clear hb1 cQ' hL hP p0 p1 p2 p3 p4 p5 pz;have p0:=bp.out.c0;have p1:=bp.out.c1;have p2:=bp.out.c2;have p3:=bp.out.c3;have p4:=bp.out.c4;have p5:=bp.out.c5;have pz:=bp.out.lt;cases BQ
    ·go_wp2_with fail;refine (cO.out _ hG.o p1).mono ?_;rintro e w2 ⟨rfl,hb2⟩;replace bp:=ζ (bp.out.grows hb2);replace hG:=ζ (hG.o.trans hb2);clear hb2 cO p0 p1 p2 p3 p4 p5 pz;have p0:=bp.out.c0;have p1:=bp.out.c1;have p2:=bp.out.c2;have p3:=bp.out.c3;have p4:=bp.out.c4;have p5:=bp.out.c5;have pz:=bp.out.lt;cases BO
     ·go_wp2_with fail;refine (cI.out _ hG.o).mono ?_;rintro e w3 ⟨rfl,hb3⟩;replace hG:=ζ (hG.o.trans hb3);clear hb3;cases BI
      ·go_wp2;go_ret;exact⟨by rw[hR'.o];rfl,hG.o⟩
      ·go_wp2;go_ret;exact⟨by rw[hR'.o];rfl,hG.o⟩
     ·go_wp2;go_ret;exact⟨by rw[hR'.o];rfl,hG.o⟩
    ·go_wp2;go_ret;exact⟨by rw[hR'.o];rfl,hG.o⟩
   ·have hR':Hid (R=4):=ζ (by rw[hR.o];rfl);clear hR;go_wp2;go_ret;exact⟨by rw[hR'.o];rfl,hG.o⟩
end Go.Proofs.YtbhikkgpcmkonaaGreatDoor
namespace Go.Proofs.YtbhikkgpcmkonaaGreatDoor
open Go.RowKit Go.Maps
theorem QT (z:Value) (n:Nat):madeCells #[z] n = (List.replicate n z).toArray:=by
 apply Array.ext
 ·simp[madeCells]
 ·intro i h1 h2;simp[madeCells,Nat.mod_one]
def lD (w:World) (b0 g:Nat):Prop:=b0≤g∧∀cur e fz,w.heap[g]? = some (.cells cur e fz)→e = 125∨e = 33∨e = 137
theorem aF.BR {w w':World} {b0 g:Nat} {t:TypeId} {cs:Array Value} {row:Option Nat} (h:aF w g t cs) (hg:w.grownBy w' row) (hr:∀j,row=some j→lD w b0 j) (h1:t≠125) (h2:t≠33) (h3:t≠137):aF w' g t cs:=
 h.aO hg (fun e=>by
  rcases (hr g e.symm).2 _ _ _ h with h | h | h
  ·exact h1 h
  ·exact h2 h
  ·exact h3 h)
theorem Own.BR {α:Type} {w w':World} {b0 base k:Nat} {t:TypeId} {enc:α→List Value} {v:Value} {xs:List α} {row:Option Nat} (h:Own w base t k enc v xs) (hg:w.grownBy w' row) (hr:∀j,row=some j→lD w b0 j) (h1:t≠125) (h2:t≠33) (h3:t≠137):Own w' base t k enc v xs:=
 h.kept' hg (fun g jw hv=>by
  obtain⟨cur,hc⟩:=bV h hv;rcases (hr g jw).2 _ _ _ hc with h | h | h
  ·exact h1 h
  ·exact h2 h
  ·exact h3 h)
theorem iV.aX {P:Program} {k e:TypeId} {w:World} {b n:Nat} {l:List (List UInt8×Lit)} (h:iV P k e w b n l):∀cur e fz,w.heap[b]?≠some (.cells cur e fz):=by
 obtain⟨es,clock,hb,_⟩:=h;intro cur e fz hc;rw[hb] at hc;cases hc
structure VU (w0:World) (pc:Array Value) (gc:Nat) (cc:Array Value) (fv:Value) (F:List Nat) (cv:Value) (cf:List bK) (w:World):Prop where
 G:ah w0 w
 B:aF w w0.heap.size 50 pc
 C:aF w gc 57 cc
 F:Own w w0.heap.size 3 1 encI fv F
 f:Own w w0.heap.size 88 2 dW cv cf
section
variable {w0 w w':World} {pc:Array Value} {gc:Nat} {cc:Array Value} {fv:Value} {F:List Nat} {cv:Value} {cf:List bK}
theorem VU.grows (h:VU w0 pc gc cc fv F cv cf w) (hg:ah w w'):VU w0 pc gc cc fv F cv cf w':=⟨h.G.trans hg,h.B.grows hg,h.C.grows hg,h.F.grows hg,h.f.grows hg⟩
theorem VU.row (h:VU w0 pc gc cc fv F cv cf w) {row:Option Nat} (hg:w.grownBy w' row) (hr:∀j,row=some j→lD w w0.heap.size j):VU w0 pc gc cc fv F cv cf w':=
 ⟨h.G.aO hg (fun j hj=>(hr j hj).1),h.B.BR hg hr δ δ δ,h.C.BR hg hr δ δ δ,h.F.BR hg hr δ δ δ,h.f.BR hg hr δ δ δ⟩
end
theorem lD.BH {α:Type} {w:World} {b0 base k:Nat} {t:TypeId} {enc:α→List Value} {v:Value} {xs:List α} (h:Own w base t k enc v xs) (hb:b0≤base) (ht:t = 125∨t = 33):∀j,v.ownBlock=some j→lD w b0 j:=fun j hj=>by
 refine⟨Nat.le_trans hb (World.ownsRow.lt h j hj).1,fun cur e fz hc=> ?_⟩;obtain⟨cur',hc'⟩:=bV h hj;rw[hc'] at hc;simp only[Option.some.injEq,Obj.cells.injEq] at hc;rw[←hc.2.1];rcases ht with h | h
 ·exact .inl h
 ·exact .inr (.inl h)
theorem lD.of_map {P:Program} {k e:TypeId} {w:World} {b0 b n:Nat} {l:List (List UInt8×Lit)} (h:iV P k e w b n l) (hb:b0≤b):∀j,some b = some j→lD w b0 j:=fun j hj=>by
 injection hj with hj;subst hj
 exact⟨hb,fun cur e fz hc=>absurd hc (h.aX cur e fz)⟩
theorem iV.BR {P:Program} {k e:TypeId} {w w':World} {b n g:Nat} {l:List (List UInt8×Lit)} {cur:Array Value} {t:TypeId} {fz:Nat×Nat} (h:iV P k e w b n l) (hg:w.grownBy w' (some g)) (hc:w.heap[g]? = some (.cells cur t fz)):iV P k e w' b n l:=
 h.kept hg (fun e'=>by injection e' with e';subst e';exact h.aX _ _ _ hc)
theorem iV.aiJ {α:Type} {P:Program} {k e t:TypeId} {w w':World} {b n base kk:Nat} {l:List (List UInt8×Lit)} {enc:α→List Value} {v:Value} {xs:List α} (h:iV P k e w b n l) (hO:Own w base t kk enc v xs) (hg:w.grownBy w' v.ownBlock):iV P k e w' b n l:=
 h.kept hg (fun e'=>by obtain⟨cur,hc⟩:=bV hO e'.symm;exact h.aX _ _ _ hc)
theorem fD.start {w:World} {b0 n RB:Nat} (hB:w.heap[RB]? = some (.cells (madeCells #[.slice none 0 0] n) 137 (0,0))):fD w b0 RB (List.replicate n (.slice none 0 0)) (List.replicate n []) where
 row:=by rw[hB,QT]
 len:=by simp
 own:=fun r v gs h1 h2=>by
  have e1:=List.mem_of_getElem? h1;have e2:=List.mem_of_getElem? h2;simp at e1 e2;rw[e1.2,e2.2];exact Own.iH _ _ _ _ _
 apart:=fun r s v u g h1 h2 _ h3 _=>by
  have e1:=List.mem_of_getElem? h1;simp at e1;rw[e1.2] at h3;cases h3
 ids:=fun r gs k x h1 h2=>by
  have e1:=List.mem_of_getElem? h1;simp at e1;rw[e1.2] at h2;simp at h2
 L_:=fun r gs k x h1 h2=>by
  have e1:=List.mem_of_getElem? h1;simp at e1;rw[e1.2] at h2;simp at h2
 QW:=fun r s k j gs hs x y g h1 h2=>by
  have e1:=List.mem_of_getElem? h1;simp at e1;rw[e1.2] at h2;simp at h2
end Go.Proofs.YtbhikkgpcmkonaaGreatDoor
