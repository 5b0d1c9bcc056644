/- Parts: CatG GrpA PatA PatB PatC PatQ PatD PatE -/
import Derived.Test.YteojanlajhebhaaGreatDoorGs0
import Derived.Lib.AppendZeros
import Derived.Test.YteojanlajhebhaaGreatDoorGs11
import Derived.Laws.ShiftsVarLaws
import Derived.Test.YteojanlajhebhaaGreatDoorGs10
set_option maxRecDepth 100000
set_option maxHeartbeats 12800000
namespace Go.Proofs.YteojanlajhebhaaGreatDoor
open Go.RowKit
structure bM where
 r:Nat
 key:Nat
 iM:List eu
 bA:Option Addr
 bm:Nat
 bk:Nat
 ids:List Nat
 iA:Option Addr
 im:Nat
 ik:Nat
def bM.bv (x:bM):Value:=.slice x.bA x.bm x.bk
def bM.iv (x:bM):Value:=.slice x.iA x.im x.ik
def bM.g (x:bM):oh:=⟨x.r,x.iM,x.key,x.ids⟩
def KX (x:bM):List Value:=[.int .i64 (x.r:Int),.slice x.bA x.bm x.bk,.int .u64 (x.key:Int),.slice x.iA x.im x.ik]
def amc (x:bM):Value:=.agg #[.int .i64 (x.r:Int),.slice x.bA x.bm x.bk,.int .u64 (x.key:Int),.slice x.iA x.im x.ik]
theorem N7 (x:bM):(KX x).length=4:=rfl
theorem amn (x:bM):∀u∈KX x,u.oneCell'=true:=by intro u hu;simp[KX] at hu;rcases hu with rfl | rfl | rfl | rfl <;> rfl
theorem ap9:iK Tryz.prog 45 53 4 64:=iK.mk' (z:=.agg #[.int .i64 0,.slice none 0 0,.int .u64 0,.slice none 0 0]) Tryz.underlying45 κ rfl ω
abbrev TU (w:World) (base:Nat) (v:Value) (gs:List bM):Prop:=Own w base 53 4 KX v gs
theorem afB {n:Nat} (w:World) (h0:0<n) (hn:n≤1000000000) (ty:TypeId) :
 ∃g cap w',(Builtin.append_ #[45,3] ty #[.slice none 0 0,.int .i64 n]).run Tryz.prog w =.ok (.slice (some ⟨g,0,none⟩) n cap) w'∧n≤cap∧cap≤maxLen∧TU w' w.heap.size (.slice (some ⟨g,0,none⟩) 0 cap) []∧ah w w':=by
 obtain⟨i,z,hi,hz,hsz,hby,hzs⟩:=ap9.info;have hr:=Lib.run_append_nil_zeros (P:=Tryz.prog) w 45 3 ty 53 i z .i64 .i64 Tryz.underlying45 Tryz.underlying3 hi hz n h0 ω ω (by rw[hby];omega);have N9:=grownCap_ge w n 0 53;have hcm:=grownCap_le_maxLen w n 0 53 (by unfold maxLen;omega);refine⟨_,_,_,hr,N9,hcm,⟨rfl,.inr ⟨w.heap.size,_,_,rfl,Nat.le_refl _,heap_alloc_new w.drew _,Nat.zero_le _,hcm,?_,by simp[fB]⟩⟩,(ah.refl w).drew.alloc _⟩;simp only[Array.size_append,size_zeroCells,hzs];rw[←Nat.add_mul,Nat.add_sub_cancel' N9]
theorem ag1 {n:Nat} (w:World) (hn:n≤1000000000) :
 Calls Tryz.prog 77 #[.slice none 0 0,.int .i64 n] w fun e w'=>∃v,e =.returned v∧TU w' w.heap.size v []∧ah w w':=by
 by_cases h0:n = 0
 ·subst h0;go_enter Tryz.func77,Tryz.ntmps77
  go_wp2;go_ret;exact⟨_,rfl,Own.iH _ _ _ _ _,ah.refl _⟩
 ·have hi:(0:Int)<(n:Int):=ω;have hi2:¬((n:Int)<0):=ω;have hb:0≤(n:Int)∧(n:Int)≤1000000000:=ω;have h1:0<n:=ω;replace h1:=ζ h1;go_enter Tryz.func77,Tryz.ntmps77
  obtain⟨g,cap,w1,hr,N9,hcm,hO,hG⟩:=afB w h1.o hn 45;have MI:=hcm;replace hO:=ζ hO;replace hG:=ζ hG;go_wp2_with (at_builtin;(refine Lib.wpList_append_run _ rfl (.tmp 20) (.tmp 21) _ _ rfl _ _ rfl rfl _ _ hr ?_));go_ret;exact⟨_,rfl,hO.o,hG.o⟩
structure Gsl where
 A:Option Addr
 n:Nat
 c:Nat
 xs:List bM
def aeT (b:Gsl):List Value:=[.slice b.A b.n b.c]
def CX (bs:List Gsl):List bM:=bs.flatMap (·.xs)
theorem Wu {bs:List Gsl} {k:Nat} {b:Gsl} (h:bs[k]? = some b):CX (bs.take (k+1))=CX (bs.take k)++b.xs:=by
 rw[List.take_add_one,h];simp[CX]
theorem aeX (bs:List Gsl) (k:Nat):(CX (bs.take k)).length≤(CX bs).length:=by
 have:CX bs=CX (bs.take k)++CX (bs.drop k):=by
  unfold CX;rw[←List.flatMap_append,List.take_append_drop]
 rw[this,List.length_append];omega
theorem aak {A:Option Addr} {L c:Nat} {bs:List Gsl} (w:World) (hA:dH w 1 aeT A L bs) (hb:∀b∈bs,dH w 4 KX b.A b.n b.xs) (ht:(CX bs).length≤1000000000) (hL2:L≤1000) :
 Calls Tryz.prog 30 #[.slice A L c] w fun e w'=>∃v,e =.returned v∧TU w' w.heap.size v (CX bs)∧ah w w':=by
 have hL:=hA.1;have cG:=fun n W h=>ag1 (n:=n) W h
 replace cG:=ζ cG;replace hA:=ζ hA;replace hb:=ζ hb;go_enter Tryz.func30,Tryz.ntmps30
 go_wp2;go_loopw [3,11] (fun n i wr=>∃k:Nat,k≤L∧i =.int .i64 k∧n =.int .i64 ((CX (bs.take k)).length:Nat)∧w = wr) (fun _ i _=>L-(intOf i).toNat)
 case atStart=>exact⟨0,ω,rfl,rfl,rfl⟩
 case round=>
  obtain⟨k,hk,rfl,rfl,rfl⟩:=hrel;by_cases hlt:k<L
  ·obtain⟨bb,off,b,rfl,hs0,hx,hcell⟩:=hA.o.at_ hlt;have c0:w.cell? ⟨bb,off+k,none⟩=some (.slice b.A b.n b.c):=by simpa using hcell 0 _ rfl
   have h1:=Wu hx;have h2:=aeX bs (k+1);have h3:=(hb.o b (List.mem_of_getElem? hx)).1;rw[h1,List.length_append,h3] at h2;have h4:(CX (bs.take (k+1))).length=(CX (bs.take k)).length+b.n:=by rw[h1,List.length_append,h3]
   generalize hY:(CX (bs.take (k+1))).length=Y at *
   replace hY:=ζ hY;generalize (CX (bs.take k)).length=X at *
   have j_:(k:Int)<(L:Int):=ω;have h5:¬((X:Int)+(b.n:Int)<0):=ω;have h6:0≤(X:Int)∧(X:Int)≤1000000000∧(b.n:Int)≤1000000000:=ω;replace h4:=ζ h4;clear h1 hx hcell h3;go_wp2;go_roundw
   case rel=>exact⟨k+1,ω,ν,by rw[hY.o,h4.o,Int.natCast_add],trivial⟩
   case measure=>exact ψ
  ·obtain rfl:k=L:=ω;rw[List.take_of_length_le ω];go_wp2_with fail;refine (cG.out _ _ ω).mono ?_;rintro e w1 ⟨v1,rfl,hO,hG⟩;have Pg:Hid (TU w1 w.heap.size v1 (CX (bs.take 0))):=hO;replace hG:=ζ hG;clear hO cG;go_wp2;go_loopw [6,27] (fun v i wx=>∃j:Nat,j≤k∧i =.int .i64 j∧Hid (TU wx w.heap.size v (CX (bs.take j)))∧Hid (ah w wx)) (fun _ i _=>k-(intOf i).toNat)
   case atStart=>exact⟨0,ω,rfl,Pg,hG⟩
   case round=>
    clear Pg hG;obtain⟨j,hj,rfl,hO,hG⟩:=hrel;by_cases hjl:j < k
    ·obtain⟨bb,off,b,rfl,hs0,hx,hcell⟩:=(hA.o.keep hG.o).at_ hjl;have c0:wr.cell? ⟨bb,off+j,none⟩=some (.slice b.A b.n b.c):=by simpa using hcell 0 _ rfl
     have h1:=Wu hx;have h2:=aeX bs (j + 1);have Oa:=(hb.o b (List.mem_of_getElem? hx)).keep hG.o;have h3:=Oa.1;rw[h1,List.length_append,h3] at h2;have j_:(j:Int)<(k:Int):=ω;replace h1:=ζ h1;replace Oa:=ζ Oa;clear hx hcell h3;go_wp2_with (at_builtin;(refine fZ ap9 rfl (.tmp 31) (.tmp 32) rfl hO.o rfl rfl Oa.o N7 amn hG.o.size (by unfold maxLen;omega) ω ?_;intro v2 w2 pY nM hv2;clear hv2;(have iC:=ζ (hG.o.bH nM hO.o.eH));(replace pY:=ζ pY);clear nM));go_roundw
     case rel=>exact⟨j + 1,ω,ν,by rw[h1.o];exact pY,iC⟩
     case measure=>exact ψ
    ·obtain rfl:j = k:=ω;have dS:=hO.o;rw[List.take_of_length_le ω] at dS;go_wp2;go_ret;exact⟨_,rfl,dS,hG.o⟩
theorem iZ {α:Type} {w:World} {b0 k g:Nat} {e e':TypeId} {enc:α→List Value} {v:Value} {xs:List α} {cur:Array Value} {fz:Nat×Nat} (h:Own w b0 e k enc v xs) (hg:w.heap[g]? = some (.cells cur e' fz)) (hne:e≠e'):v.ownBlock≠some g:=by
 intro hv;rcases h.2 with⟨h5,_⟩ | ⟨g',cap,cur',h5,_,hh,_⟩
 ·rw[h5] at hv;cases hv
 ·rw[h5] at hv;simp only[Value.ownBlock,Option.some.injEq] at hv;subst hv;rw[hh] at hg;simp only[Option.some.injEq,Obj.cells.injEq] at hg;exact hne hg.2.1
theorem fP {α:Type} {w:World} {b0 k g:Nat} {e:TypeId} {enc:α→List Value} {v:Value} {xs:List α} (h:Own w b0 e k enc v xs) (hv:v.ownBlock=some g):∃cur,w.heap[g]? = some (.cells cur e (0,0)):=by
 rcases h.2 with⟨h5,_⟩ | ⟨g',cap,cur',h5,_,hh,_⟩
 ·rw[h5] at hv;cases hv
 ·rw[h5] at hv;simp only[Value.ownBlock,Option.some.injEq] at hv;subst hv;exact⟨_,hh⟩
theorem Own.kept' {α:Type} {w w':World} {b0 k:Nat} {e:TypeId} {enc:α→List Value} {v:Value} {xs:List α} {row:Option Nat} (h:Own w b0 e k enc v xs) (hg:w.grownBy w' row) (hne:∀g,row=some g→v.ownBlock≠some g):Own w' b0 e k enc v xs:=by
 refine World.ownsRow.kept h hg ?_;cases hv:v.ownBlock with
 | none=>exact .inl rfl
 | some g=>exact .inr (fun hr=>hne g hr.symm hv)
theorem Own.abQ {α:Type} {w:World} {base k n g cap:Nat} {e:TypeId} {enc:α→List Value} {xs:List α} (h:Own w base e k enc (.slice (some ⟨g,0,none⟩) n cap) xs) (hk:∀x,(enc x).length=k) (T_:0<k) {i j:Nat} (hi:i < n) (hj:j < k) {x:α} {u:Value}
 (hx:∀y,xs[i]? = some y→enc x = (enc y).set j u):Own (w.setCell ⟨g,i * k+j,none⟩ u) base e k enc (.slice (some ⟨g,0,none⟩) n cap) (xs.set i x):=by
 obtain⟨cur,hl,hb,hh,yc,hcm,hcs,hc⟩:=h.Ba hk;have hlt:i * k+k≤cap*k:=by have:=Nat.mul_le_mul_right k (show i + 1≤cap by omega);rw[Nat.add_mul] at this;omega
 have hh2:(w.setCell ⟨g,i * k+j,none⟩ u).heap[g]? = some (.cells (cur.setIfInBounds (i * k+j) u) e (0,0)):=by
  simp[World.setCell,Array.getElem?_modify,hh]
 have hl':(xs.set i x).length=n:=by rw[List.length_set];exact hl
 have:=Own.mk_ (xs:=xs.set i x) (cap:=cap) hk T_ hb hh2 ω hcm (by simpa using hcs) (fun q hq r hr=>by
  rw[List.getElem_set];by_cases hq':i = q
  ·subst hq';rw[if_pos rfl,hx _ (List.getElem?_eq_getElem ω),List.getElem?_set];by_cases hr':j = r
   ·subst hr';rw[if_pos rfl,if_pos (by rw[hk];exact hr),Array.getElem?_setIfInBounds];simp;omega
   ·rw[if_neg hr',Array.getElem?_setIfInBounds,if_neg ω];exact hc i ω r hr
  ·rw[if_neg hq',Array.getElem?_setIfInBounds,if_neg (by
    intro h4;rcases Nat.lt_or_ge q i with h6 | h6
    ·have:=Nat.mul_le_mul_right k (show q+1≤i from h6);rw[Nat.add_mul] at this;omega
    ·have:=Nat.mul_le_mul_right k (show i + 1≤q by omega);rw[Nat.add_mul] at this;omega)]
   exact hc q ω r hr)
 rwa [hl'] at this
structure iE (w:World) (b0 RB:Nat) (vs:List Value) (rs:List (List bM)):Prop where
 row:w.heap[RB]? = some (.cells vs.toArray 45 (0,0))
 len:vs.length=rs.length
 own:∀(r:Nat) v gs,vs[r]? = some v→rs[r]? = some gs→TU w b0 v gs
 apart:∀(r s:Nat) v u g,vs[r]? = some v→vs[s]? = some u→r≠s→v.ownBlock=some g→u.ownBlock≠some g
 ids:∀(r:Nat) (gs:List bM) (k:Nat) (x:bM),rs[r]? = some gs→gs[k]? = some x→Own w b0 50 1 lU x.iv x.ids
 Ql:∀(r:Nat) (gs:List bM) (k:Nat) (x:bM),rs[r]? = some gs→gs[k]? = some x→Own w b0 63 2 fU x.bv x.iM
 U3:∀(r s k j:Nat) (gs hs:List bM) (x y:bM) (g:Nat),rs[r]? = some gs→gs[k]? = some x→rs[s]? = some hs→hs[j]? = some y→(r≠s∨k≠j)→x.iv.ownBlock=some g→y.iv.ownBlock≠some g
section
variable {w w':World} {b0 RB:Nat} {vs:List Value} {rs:List (List bM)}
theorem iE.lt (h:iE w b0 RB vs rs):RB<w.heap.size:=(Array.getElem?_eq_some_iff.1 h.row).1
theorem iE.grows (h:iE w b0 RB vs rs) (hg:ah w w'):iE w' b0 RB vs rs where
 row:=(hg.below.block RB h.lt).trans h.row
 len:=h.len
 own:=fun r v gs h1 h2=>(h.own r v gs h1 h2).grows hg
 apart:=h.apart
 ids:=fun r gs k x h1 h2=>(h.ids r gs k x h1 h2).grows hg
 Ql:=fun r gs k x h1 h2=>(h.Ql r gs k x h1 h2).grows hg
 U3:=h.U3
theorem iE.other (h:iE w b0 RB vs rs) {m:Nat} (hg:w.grownBy w' (some m)) (hm:∀cur e fz,w.heap[m]?≠some (.cells cur e fz)):iE w' b0 RB vs rs where
 row:=(hg.block RB h.lt (by intro hh;injection hh with hh;subst hh;exact hm _ _ _ h.row)).trans h.row
 len:=h.len
 own:=fun r v gs h1 h2=>(h.own r v gs h1 h2).kept' hg (fun g pU hv=>by injection pU with pU;subst pU;obtain⟨cur,hc⟩:=fP (h.own r v gs h1 h2) hv;exact hm _ _ _ hc)
 apart:=h.apart
 ids:=fun r gs k x h1 h2=>(h.ids r gs k x h1 h2).kept' hg (fun g pU hv=>by injection pU with pU;subst pU;obtain⟨cur,hc⟩:=fP (h.ids r gs k x h1 h2) hv;exact hm _ _ _ hc)
 Ql:=fun r gs k x h1 h2=>(h.Ql r gs k x h1 h2).kept' hg (fun g pU hv=>by injection pU with pU;subst pU;obtain⟨cur,hc⟩:=fP (h.Ql r gs k x h1 h2) hv;exact hm _ _ _ hc)
 U3:=h.U3
theorem RF {α:Type} {w:World} {b0 k g:Nat} {e:TypeId} {enc:α→List Value} {v:Value} {xs:List α} (h:Own w b0 e k enc v xs) (hv:v.ownBlock=some g):g < w.heap.size:=(World.ownsRow.lt h g hv).2
theorem iE.push (h:iE w b0 RB vs rs) {r:Nat} {v v':Value} {gs:List bM} {x:bM} (hv:vs[r]? = some v) (oQ:rs[r]? = some gs) {w1:World} (hO:TU w1 b0 v' (gs++[x])) (hg:w.grownBy w1 v.ownBlock) (hv':v'.ownBlock=v.ownBlock∨∃j,v'.ownBlock=some j∧w.heap.size≤j)
 (hid:x.iv=.slice none 0 0∧x.ids=[]) (hby:Own w b0 63 2 fU x.bv x.iM) :
 iE (w1.setCell ⟨RB,r,none⟩ v') b0 RB (vs.set r v') (rs.set r (gs++[x])):=by
 have jU:r < vs.length:=(List.getElem?_eq_some_iff.1 hv).1;have hOv:=h.own r v gs hv oQ;have awh:∀g,v.ownBlock=some g→g≠RB:=fun g hg e=>iZ hOv h.row δ (by rw[hg,e])
 have JU:w1.heap[RB]? = some (.cells vs.toArray 45 (0,0)):=(hg.block RB h.lt (fun e=>awh RB e.symm rfl)).trans h.row;have aO:=aj w1 ⟨RB,r,none⟩ v';have avZ:Own w1 b0 63 2 fU x.bv x.iM:=hby.kept' hg (fun g pU hv2=>by obtain⟨cur,hc⟩:=fP hOv pU;exact iZ hby hc δ hv2);have auV:(vs.set r v').length=(rs.set r (gs++[x])).length:=by simp[h.len]
 refine⟨?_,auV,?_,?_,?_,?_,?_⟩
 ·simp[World.setCell,Array.getElem?_modify,JU]
 ·intro s u hs h1 h2;by_cases pR:r = s
  ·subst pR;rw[List.getElem?_set_self jU] at h1;rw[List.getElem?_set_self (by rw[←h.len];exact jU)] at h2;injection h1 with h1;injection h2 with h2
   subst h1 h2;exact hO.kept' aO (fun g pU hv2=>by injection pU with pU;subst pU;exact iZ hO JU δ hv2)
  ·rw[List.getElem?_set_ne pR] at h1 h2;have h3:=h.own s u hs h1 h2;have h4:TU w1 b0 u hs:=h3.kept' hg (fun g pU hv2=>h.apart r s v u g hv h1 pR pU hv2);exact h4.kept' aO (fun g pU hv2=>by injection pU with pU;subst pU;exact iZ h4 JU δ hv2)
 ·intro s t u1 u2 g h1 h2 hst hg1 hg2;have key:∀(t:Nat) u2,vs[t]? = some u2→t≠r→v'.ownBlock=some g→u2.ownBlock=some g→False:=fun t u2 h2 htr hg1 hg2=>by
   have h2l:=RF (h.own t u2 _ h2 (List.getElem?_eq_getElem (by rw[←h.len];exact (List.getElem?_eq_some_iff.1 h2).1))) hg2;rcases hv' with hv' | ⟨j,hj,hjs⟩
   ·rw[hv'] at hg1;exact h.apart r t v u2 g hv h2 (Ne.symm htr) hg1 hg2
   ·rw[hj] at hg1;injection hg1 with hg1;omega
  by_cases pR:r = s
  ·subst pR;rw[List.getElem?_set_self jU] at h1;rw[List.getElem?_set_ne hst] at h2;injection h1 with h1;subst h1
   exact key t u2 h2 (Ne.symm hst) hg1 hg2
  ·rw[List.getElem?_set_ne pR] at h1;by_cases hrt:r = t
   ·subst hrt;rw[List.getElem?_set_self jU] at h2;injection h2 with h2;subst h2
    exact key s u1 h1 (Ne.symm pR) hg2 hg1
   ·rw[List.getElem?_set_ne hrt] at h2;exact h.apart s t u1 u2 g h1 h2 hst hg1 hg2
 ·intro s hs k y h1 h2;have key:Own w b0 50 1 lU y.iv y.ids:=by
   by_cases pR:r = s
   ·subst pR;rw[List.getElem?_set_self (by rw[←h.len];exact jU)] at h1;injection h1 with h1;subst h1
    rw[List.getElem?_append] at h2;split at h2
    ·exact h.ids r gs k y oQ h2
    ·have:y = x:=by have:=List.mem_of_getElem? h2;simpa using this
     subst this;rw[hid.1,hid.2];exact Own.iH _ _ _ _ _
   ·rw[List.getElem?_set_ne pR] at h1;exact h.ids s hs k y h1 h2
  have Sm:Own w1 b0 50 1 lU y.iv y.ids:=key.kept' hg (fun g pU hv2=>by obtain⟨cur,hc⟩:=fP hOv pU;exact iZ key hc δ hv2);exact Sm.kept' aO (fun g pU hv2=>by injection pU with pU;subst pU;exact iZ Sm JU δ hv2)
 ·intro s hs k y h1 h2;have Sm:Own w1 b0 63 2 fU y.bv y.iM:=by
   by_cases pR:r = s
   ·subst pR;rw[List.getElem?_set_self (by rw[←h.len];exact jU)] at h1;injection h1 with h1;subst h1
    rw[List.getElem?_append] at h2;split at h2
    ·have:=h.Ql r gs k y oQ h2;exact this.kept' hg (fun g pU hv2=>by obtain⟨cur,hc⟩:=fP hOv pU;exact iZ this hc δ hv2)
    ·have:y = x:=by have:=List.mem_of_getElem? h2;simpa using this
     subst this;exact avZ
   ·rw[List.getElem?_set_ne pR] at h1;have:=h.Ql s hs k y h1 h2;exact this.kept' hg (fun g pU hv2=>by obtain⟨cur,hc⟩:=fP hOv pU;exact iZ this hc δ hv2)
  exact Sm.kept' aO (fun g pU hv2=>by injection pU with pU;subst pU;exact iZ Sm JU δ hv2)
 ·have old:∀(s:Nat) (hs:List bM) (k:Nat) (y:bM) (g:Nat),(rs.set r (gs++[x]))[s]? = some hs→hs[k]? = some y→y.iv.ownBlock=some g→∃hs',rs[s]? = some hs'∧hs'[k]? = some y:=fun s hs k y g h1 h2 h3=>by
   by_cases pR:r = s
   ·subst pR;rw[List.getElem?_set_self (by rw[←h.len];exact jU)] at h1;injection h1 with h1;subst h1
    rw[List.getElem?_append] at h2;split at h2
    ·exact⟨gs,oQ,h2⟩
    ·have:y = x:=by have:=List.mem_of_getElem? h2;simpa using this
     subst this;rw[hid.1] at h3;cases h3
   ·rw[List.getElem?_set_ne pR] at h1;exact⟨hs,h1,h2⟩
  intro s t k j gs1 hs1 a b g h1 h2 h3 h4 hne hg1 hg2;obtain⟨am9,o1,o2⟩:=old s gs1 k a g h1 h2 hg1;obtain⟨ajW,o3,o4⟩:=old t hs1 j b g h3 h4 hg2;exact h.U3 s t k j am9 ajW a b g o1 o2 o3 o4 hne hg1 hg2
theorem iE.upd (h:iE w b0 RB vs rs) {r k gb n cap:Nat} {gs:List bM} {x x':bM} (hv:vs[r]? = some (.slice (some ⟨gb,0,none⟩) n cap)) (oQ:rs[r]? = some gs) (hx:gs[k]? = some x) {w1:World}
 (hO:Own w1 b0 50 1 lU x'.iv x'.ids) (hg:w.grownBy w1 x.iv.ownBlock) (hv':x'.iv.ownBlock=x.iv.ownBlock∨∃j,x'.iv.ownBlock=some j∧w.heap.size≤j) (hbv:x'.bv=x.bv∧x'.iM=x.iM) (akl:KX x'=(KX x).set 3 x'.iv) :
 iE (w1.setCell ⟨gb,k*4+3,none⟩ x'.iv) b0 RB vs (rs.set r (gs.set k x')):=by
 have jU:r < rs.length:=(List.getElem?_eq_some_iff.1 oQ).1;have AO:k<gs.length:=(List.getElem?_eq_some_iff.1 hx).1;have hOx:=h.ids r gs k x oQ hx;have hOv:=h.own r _ gs hv oQ;have hnl:=hOv.len N7;obtain⟨apX,hcv⟩:=fP hOv (g:=gb) rfl;have hne:∀g,x.iv.ownBlock=some g→∀(α:Type) (v:Value) (e:TypeId) (kk:Nat) (enc:α→List Value) (xs:List α),Own w b0 e kk enc v xs→e≠50→v.ownBlock≠some g:=fun g hg α v e kk enc xs ho he=>by
  obtain⟨cur,hc⟩:=fP hOx hg;exact iZ ho hc he
 have JU:w1.heap[RB]? = some (.cells vs.toArray 45 (0,0)):=(hg.block RB h.lt (fun e=>iZ hOx h.row δ e.symm)).trans h.row;have adl:w1.heap[gb]? = some (.cells apX 53 (0,0)):=(hg.block gb (Array.getElem?_eq_some_iff.1 hcv).1 (fun e=>iZ hOx hcv δ e.symm)).trans hcv;have aO:=aj w1 ⟨gb,k*4+3,none⟩ x'.iv;have asN:gb≠RB:=fun e=>by subst e;rw[h.row] at hcv;simp only[Option.some.injEq,Obj.cells.injEq] at hcv;exact absurd hcv.2.1 δ
 refine⟨?_,by simp[h.len],?_,h.apart,?_,?_,?_⟩
 ·exact (aO.block RB (Array.getElem?_eq_some_iff.1 JU).1 (by simpa using Ne.symm asN)).trans JU
 ·intro s u hs h1 h2;by_cases pR:r = s
  ·subst pR;rw[hv] at h1;rw[List.getElem?_set_self jU] at h2;injection h1 with h1;injection h2 with h2
   subst h1 h2;have FN:TU w1 b0 (.slice (some ⟨gb,0,none⟩) n cap) gs:=hOv.kept' hg (fun g pU hv2=>hne g pU _ _ _ _ _ _ hOv δ hv2);exact FN.abQ N7 ω ω ω (fun y hy=>by rw[hx] at hy;injection hy with hy;subst hy;exact akl)
  ·rw[List.getElem?_set_ne pR] at h2;have h3:=h.own s u hs h1 h2;have h4:TU w1 b0 u hs:=h3.kept' hg (fun g pU hv2=>hne g pU _ _ _ _ _ _ h3 δ hv2);exact h4.kept' aO (fun g pU hv2=>by injection pU with pU;subst pU;exact h.apart r s _ u gb hv h1 pR rfl hv2)
 ·intro s hs j y h1 h2;have Sm:Own w1 b0 50 1 lU y.iv y.ids:=by
   by_cases pR:r = s
   ·subst pR;rw[List.getElem?_set_self jU] at h1;injection h1 with h1;subst h1
    by_cases hkj:k=j
    ·subst hkj;rw[List.getElem?_set_self AO] at h2;injection h2 with h2;subst h2
     exact hO
    ·rw[List.getElem?_set_ne hkj] at h2;exact (h.ids r gs j y oQ h2).kept' hg (fun g pU hv2=>h.U3 r r k j gs gs x y g oQ hx oQ h2 (.inr hkj) pU hv2)
   ·rw[List.getElem?_set_ne pR] at h1;exact (h.ids s hs j y h1 h2).kept' hg (fun g pU hv2=>h.U3 r s k j gs hs x y g oQ hx h1 h2 (.inl pR) pU hv2)
  exact Sm.kept' aO (fun g pU hv2=>by injection pU with pU;subst pU;exact iZ Sm adl δ hv2)
 ·intro s hs j y h1 h2;have arX:Own w b0 63 2 fU y.bv y.iM:=by
   by_cases pR:r = s
   ·subst pR;rw[List.getElem?_set_self jU] at h1;injection h1 with h1;subst h1
    by_cases hkj:k=j
    ·subst hkj;rw[List.getElem?_set_self AO] at h2;injection h2 with h2;subst h2
     rw[hbv.1,hbv.2];exact h.Ql r gs k x oQ hx
    ·rw[List.getElem?_set_ne hkj] at h2;exact h.Ql r gs j y oQ h2
   ·rw[List.getElem?_set_ne pR] at h1;exact h.Ql s hs j y h1 h2
  have Sm:Own w1 b0 63 2 fU y.bv y.iM:=arX.kept' hg (fun g pU hv2=>hne g pU _ _ _ _ _ _ arX δ hv2);exact Sm.kept' aO (fun g pU hv2=>by injection pU with pU;subst pU;exact iZ Sm adl δ hv2)
 ·have old:∀(s:Nat) (hs:List bM) (j:Nat) (y:bM),(rs.set r (gs.set k x'))[s]? = some hs→hs[j]? = some y→(s = r∧j = k∧y = x')∨((s≠r∨j≠k)∧∃hs',rs[s]? = some hs'∧hs'[j]? = some y):=fun s hs j y h1 h2=>by
   by_cases pR:r = s
   ·subst pR;rw[List.getElem?_set_self jU] at h1;injection h1 with h1;subst h1
    by_cases hkj:k=j
    ·subst hkj;rw[List.getElem?_set_self AO] at h2;injection h2 with h2
     exact .inl ⟨rfl,rfl,h2.symm⟩
    ·rw[List.getElem?_set_ne hkj] at h2;exact .inr ⟨.inr (Ne.symm hkj),gs,oQ,h2⟩
   ·rw[List.getElem?_set_ne pR] at h1;exact .inr ⟨.inl (Ne.symm pR),hs,h1,h2⟩
  have key:∀(t:Nat) (hs:List bM) (j:Nat) (y:bM) (g:Nat),(t≠r∨j≠k)→rs[t]? = some hs→hs[j]? = some y→x'.iv.ownBlock=some g→y.iv.ownBlock=some g→False:=fun t hs j y g KO o1 o2 hg1 hg2=>by
   have hlt:=RF (h.ids t hs j y o1 o2) hg2;rcases hv' with hv' | ⟨q,hq,hqs⟩
   ·rw[hv'] at hg1;exact h.U3 r t k j gs hs x y g oQ hx o1 o2 (KO.imp Ne.symm Ne.symm) hg1 hg2
   ·rw[hq] at hg1;injection hg1 with hg1;omega
  intro s t i j gs1 hs1 a b g h1 h2 h3 h4 KO hg1 hg2;rcases old s gs1 i a h1 h2 with⟨rfl,rfl,rfl⟩ | ⟨n1,am9,o1,o2⟩
  ·rcases old t hs1 j b h3 h4 with⟨rfl,rfl,rfl⟩ | ⟨n2,ajW,o3,o4⟩
   ·rcases KO with h5 | h5 <;> exact h5 rfl
   ·exact key t ajW j b g n2 o3 o4 hg1 hg2
  ·rcases old t hs1 j b h3 h4 with⟨rfl,rfl,rfl⟩ | ⟨n2,ajW,o3,o4⟩
   ·exact key s am9 i a g n1 o1 o2 hg2 hg1
   ·exact h.U3 s t i j am9 ajW a b g o1 o2 o3 o4 KO hg1 hg2
end
def aoA (ws:List Nat):List Value:=ws.map fun (x:Nat)=> .int .u64 (x:Int)
def iD (w:World) (g:Nat) (ws:List Nat):Prop:=aS w g 237 (aoA ws).toArray∧ws.length=4∧∀x∈ws,x < 18446744073709551616
theorem iD.cell {w:World} {g:Nat} {ws:List Nat} (h:iD w g ws) {i x:Nat} (hx:ws[i]? = some x):w.cell? ⟨g,i,none⟩=some (.int .u64 (x:Int)):=by
 rw[h.1.cell];simp[aoA,hx]
theorem ahu (x k:Nat) (hx:x < 18446744073709551616):(bits .and .u64 ((x:Int) / 2 ^ k) 1==1)=x.testBit k:=by
 have h0:x / 2 ^ k<18446744073709551616:=Nat.lt_of_le_of_lt (Nat.div_le_self _ _) hx;have h1:=u64_and_nat (x / 2 ^ k) 1 h0 δ;have h2:((x / 2 ^ k:Nat):Int)=(x:Int) / 2 ^ k:=by simp
 rw[h2] at h1;rw[show bits .and .u64 ((x:Int) / 2 ^ k) 1=bits .and .u64 ((x:Int) / 2 ^ k) ((1:Nat):Int) from rfl,h1,Nat.and_one_is_mod,OL,Bool.eq_iff_iff,beq_iff_eq,decide_eq_true_eq];omega
theorem akt {w:World} {g:Nat} {ws:List Nat} {c:Nat} (h:iD w g ws) (hc:c < 256) :
 Calls Tryz.prog 170 #[.pointer (some ⟨g,0,none⟩),.int .u8 (c:Int)] w fun e w'=>e =.returned (.bool (qC ws c))∧w'=w:=by
 obtain⟨x,hx⟩:∃x,ws[c / 64]? = some x:=⟨_,List.getElem?_eq_getElem (by rw[h.2.1];omega)⟩;have c0:=h.cell hx;have hl:=World.block_lt_of_cell? w _ c0;simp only at hl;have Yz:0≤(c:Int)∧(c:Int)≤255:=ω;have hd:((c:Int) / 64).toNat=c / 64:=ω;have hc4:(c:Int) / 64<4:=ω;have hc0:0≤(c:Int) / 64:=ω;replace hc:=ζ hc;go_enter Tryz.func170,Tryz.ntmps170
 have hb:=ahu x (c % 64) (h.2.2 x (List.mem_of_getElem? hx));go_wp2;go_ret;refine⟨?_,rfl⟩;simp[qC,hx]
theorem iD.put {w:World} {g:Nat} {ws:List Nat} (h:iD w g ws) {i x:Nat} (hx:x < 18446744073709551616):iD (w.setCell ⟨g,i,none⟩ (.int .u64 (x:Int))) g (ws.set i x):=by
 refine⟨?_,by rw[List.length_set];exact h.2.1,?_⟩
 ·have:=h.1;unfold aS at *
  simp[World.setCell,Array.getElem?_modify,this,aoA,List.map_set]
 ·intro y hy;rcases List.mem_or_eq_of_mem_set hy with hy | rfl
  ·exact h.2.2 y hy
  ·exact hx
theorem agA (n:Int):bits .and .i64 n 63=n % 64:=by
 have h63:(BitVec.ofInt 64 63).toNat=2 ^ 6-1:=δ;have key:(BitVec.ofInt 64 n &&&BitVec.ofInt 64 63).toNat=(n % ((2 ^ 64:Nat):Int)).toNat % 2 ^ 6:=by
  rw[BitVec.toNat_and,BitVec.toNat_ofInt,h63,Nat.and_two_pow_sub_one_eq_mod]
 show IntKind.i64.wrap ((BitVec.ofInt 64 n &&&BitVec.ofInt 64 63).toNat:Nat)=n % 64
 rw[key,IntKind.wrap_i64];omega
theorem af9 {x j:Nat} (hx:x < 18446744073709551616) (hj:j < 64):x |||2 ^ j < 18446744073709551616:=Nat.or_lt_two_pow (n:=64) hx (Nat.pow_lt_pow_right δ hj)
theorem ahx {ws:List Nat} {c x:Nat} (h:ws[c / 64]? = some x):nU ws c = ws.set (c / 64) (x |||2 ^ (c % 64)):=by
 apply List.ext_getElem?;intro i;rw[nU,List.getElem?_modify,List.getElem?_set];by_cases hi:c / 64=i
 ·subst hi;obtain⟨hl,rfl⟩:=List.getElem?_eq_some_iff.1 h;simp[hl]
 ·simp[hi]
theorem oI {w:World} {g:Nat} {ws:List Nat} {lo hi:Nat} (h:iD w g ws) (I4:lo<256) (Iu:hi<256) :
 Calls Tryz.prog 183 #[.pointer (some ⟨g,0,none⟩),.int .u8 (lo:Int),.int .u8 (hi:Int)] w fun e w'=>e =.returned (.tuple #[])∧iD w' g (oJ ws lo hi)∧w.grownBy w' (some g):=by
 have hl:g < w.heap.size:=World.block_lt_of_cell? w _ (h.cell (i:=0) (List.getElem?_eq_getElem (by rw[h.2.1];omega)));have hli:0≤(lo:Int)∧(lo:Int)≤255:=ω;have azs:0≤(hi:Int)∧(hi:Int)≤255:=ω;replace I4:=ζ I4;replace Iu:=ζ Iu;replace h:=ζ h;go_enter Tryz.func183,Tryz.ntmps183
 go_wp2;go_loopw [6] (fun i wr=>∃k:Nat,lo+k≤256∧(k=0∨lo+k≤hi+1)∧i =.int .i64 ((lo+k:Nat):Int)∧iD wr g ((List.range' lo k).foldl nU ws)∧w.grownBy wr (some g)) (fun i _=>256-(intOf i).toNat)
 case atStart=>exact⟨0,by have:=I4.o;omega,.inl rfl,by simp,h.o,World.grownBy.refl _ _⟩
 case round=>
  obtain⟨k,hk,hk2,rfl,hs,hg⟩:=hrel;by_cases hlt:lo+k≤hi
  ·have akp:lo+k<256:=by have:=Iu.o;omega
   obtain⟨x,hx⟩:∃x,((List.range' lo k).foldl nU ws)[(lo+k) / 64]? = some x:=⟨_,List.getElem?_eq_getElem (by rw[hs.2.1];omega)⟩;have yL:=hs.2.2 x (List.mem_of_getElem? hx);have I5:(List.range' lo (k+1)).foldl nU ws=((List.range' lo k).foldl nU ws).set ((lo+k) / 64) (x |||2 ^ ((lo+k) % 64)):=by
    rw[←ahx hx,List.range'_concat,List.foldl_append];simp
   have c0:=hs.cell hx;have hlw:=World.block_lt_of_cell? wr _ c0;simp only at hlw;have hor:=u64_or_nat x (2 ^ ((lo+k) % 64)) yL (Nat.pow_lt_pow_right δ (Nat.mod_lt (lo+k) (by decide:0<64)):2 ^ ((lo+k) % 64)<2 ^ 64);have hn:lo+(k+1)=lo+k+1:=ω;have Yz:0≤((lo+k:Nat):Int)∧((lo+k:Nat):Int)≤hi:=ω;replace I5:=ζ I5;replace hs:=ζ hs;generalize GU:lo+k=c at *
   have hd:((c:Int) / 64).toNat=c / 64:=ω;have hA:bits .and .i64 (c:Int) 63=(c:Int) % 64:=agA c;have h6:((c:Int) % 64).toNat=c % 64:=ω;have hW:IntKind.u64.wrap (2 ^ (c % 64))=2 ^ (c % 64):=by
    have h8:(2:Int) ^ (c % 64)<2 ^ 64:=by
     have:=Nat.pow_lt_pow_right (a:=2) δ (Nat.mod_lt c (by decide:0<64));exact_mod_cast this
    have h9:(0:Int)<2 ^ (c % 64):=Int.pow_pos δ;simp only[IntKind.wrap,IntKind.bits,IntKind.signed];simp;omega
   rw[show ((2 ^ (c % 64):Nat):Int)=2 ^ (c % 64) by simp] at hor;have VY:=af9 yL (Nat.mod_lt c (by decide:0<64));generalize x |||2 ^ (c % 64)=y at *
   have hc4:(c:Int) / 64<4:=ω;have hc0:0≤(c:Int) / 64:=ω;replace GU:=ζ GU;replace akp:=ζ akp;replace hk:=ζ hk;replace hk2:=ζ hk2;go_wp2;refine aJ κ ?_;refine rK (.range 12) 1 ?_;iterate 12 refine aB ?_
   refine ay ?_;refine dI (i:=12) rfl κ κ (fun wN hN hS K' hK=> ?_);clear hS;have hsN:iD wN g _:=⟨(hN.below.block g hlw).trans hs.o.1,hs.o.2⟩;have c0N:=hsN.cell hx;have f0N:=hsN.1.frozen (c / 64);have Rn:=World.block_lt_of_cell? wN _ c0N;simp only at Rn;have hput:=hsN.put (i:=c / 64) VY;rw[←I5.o] at hput;replace hput:=ζ hput;have hgN:Hid (w.grownBy _ (some g)):=ζ ((hg.trans (hN.yR (some g))).trans (aj wN ⟨g,c / 64,none⟩ (.int .u64 (y:Int))));clear hsN;go_simp;refine hK.o _ _ ?_;clear hK;go_wp2;go_roundw
   case rel=>exact⟨k+1,by rw[hn];exact akp.o,.inr ω,by rw[hn];simp,hput.o,hgN.o⟩
   case measure=>exact ψ
  ·have asC:¬((lo+k:Nat):Int)≤hi:=ω;have vT:k=hi+1-lo:=ω;have hsz:=hg.size;have Yz:0≤((lo+k:Nat):Int)∧((lo+k:Nat):Int)≤256:=ω;replace hk:=ζ hk;replace hk2:=ζ hk2;replace hlt:=ζ hlt;replace vT:=ζ vT;go_wp2;go_end0;refine⟨rfl,?_,hg⟩;rw[oJ,←vT.o];exact hs
theorem ad5 {x:Nat} (hx:x < 18446744073709551616):18446744073709551615 ^^^ x = 18446744073709551615-x:=by
 have:=congrArg BitVec.toNat (BitVec.allOnes_xor (x:=BitVec.ofNat 64 x));rw[BitVec.toNat_xor,BitVec.toNat_not,BitVec.toNat_ofNat,BitVec.toNat_allOnes,Nat.mod_eq_of_lt hx] at this;simpa using this
def vH (k:Nat) (ws:List Nat):List Nat:=(ws.take k).map (fun x=>18446744073709551615-x)++ws.drop k
theorem QY {k:Nat} {ws:List Nat}:(vH k ws)[k]? = ws[k]? :=by
 unfold vH;by_cases hk:k≤ws.length
 ·rw[List.getElem?_append_right (by simp;omega)];simp[List.length_take,Nat.min_eq_left hk]
 ·rw[List.drop_of_length_le ω,List.append_nil,List.getElem?_eq_none (by simp;omega),List.getElem?_eq_none ω]
theorem OI {k x:Nat} {ws:List Nat} (h:ws[k]? = some x):vH (k+1) ws=(vH k ws).set k (18446744073709551615-x):=by
 obtain⟨hl,rfl⟩:=List.getElem?_eq_some_iff.1 h;unfold vH;rw[List.set_append_right _ _ (by simp;omega),List.length_map,List.length_take,Nat.min_eq_left ω,Nat.sub_self,List.take_succ_eq_append_getElem hl,List.map_append];simp only[List.map_cons,List.map_nil,List.append_assoc,List.singleton_append];rw[List.drop_eq_getElem_cons hl];rfl
theorem YR {w:World} {g:Nat} {ws:List Nat} (h:iD w g ws) :
 Calls Tryz.prog 182 #[.pointer (some ⟨g,0,none⟩)] w fun e w'=>e =.returned (.tuple #[])∧iD w' g (lI ws)∧w.grownBy w' (some g):=by
 have hl:g < w.heap.size:=World.block_lt_of_cell? w _ (h.cell (i:=0) (List.getElem?_eq_getElem (by rw[h.2.1];omega)));have O7:=ζ h.2.1;replace h:=ζ h;go_enter Tryz.func182,Tryz.ntmps182
 go_wp2;go_loopw [3] (fun i wr=>∃k:Nat,k≤4∧i =.int .i64 (k:Int)∧iD wr g (vH k ws)∧w.grownBy wr (some g)) (fun i _=>4-(intOf i).toNat)
 case atStart=>exact⟨0,ω,rfl,by simpa[vH] using h.o,World.grownBy.refl _ _⟩
 case round=>
  obtain⟨k,hk,rfl,hs,hg⟩:=hrel;by_cases hlt:k<4
  ·obtain⟨x,hx⟩:∃x,ws[k]? = some x:=⟨_,List.getElem?_eq_getElem (by rw[O7.o];omega)⟩;have I5:=OI hx;rw[←QY] at hx;have yL:=hs.2.2 x (List.mem_of_getElem? hx);have c0:=hs.cell hx;have hlw:=World.block_lt_of_cell? wr _ c0;simp only at hlw;have j_:(k:Int)<4:=ω;have ac_:((18446744073709551615-x:Nat):Int)=18446744073709551615-(x:Int):=ω;have VY:18446744073709551615-x < 18446744073709551616:=ω;replace I5:=ζ I5;replace hs:=ζ hs;replace hk:=ζ hk;replace ac_:=ζ ac_;have hX:bits BinOp.xor IntKind.u64 (if IntKind.u64.signed=true then -1 else IntKind.u64.max) (x:Int)=((18446744073709551615-x:Nat):Int):=by
    rw[←ad5 yL];exact u64_xor_nat 18446744073709551615 x δ yL
   replace hX:=ζ hX;go_wp2;refine aJ κ ?_;refine rK (.range 10) 1 ?_;iterate 10 refine aB ?_
   refine ay ?_;refine dI (i:=10) rfl κ κ (fun wN hN hS K' hK=> ?_);clear hS;have hsN:iD wN g _:=⟨(hN.below.block g hlw).trans hs.o.1,hs.o.2⟩;have c0N:=hsN.cell hx;have f0N:=hsN.1.frozen k;have Rn:=World.block_lt_of_cell? wN _ c0N;simp only at Rn;have hput:=hsN.put (i:=k) VY;rw[←I5.o] at hput;replace hput:=ζ hput;have hgN:Hid (w.grownBy _ (some g)):=ζ ((hg.trans (hN.yR (some g))).trans (aj wN ⟨g,k,none⟩ (.int .u64 ((18446744073709551615-x:Nat):Int))));clear hsN;go_simp;refine hK.o _ _ ?_;clear hK;go_wp2;go_roundw
   case rel=>exact⟨k+1,ω,by simp,by rw[hX.o];exact hput.o,by rw[hX.o];exact hgN.o⟩
   case measure=>exact ψ
  ·have asC:¬(k:Int)<4:=ω;have vT:k=4:=ω;replace hk:=ζ hk;replace hlt:=ζ hlt;replace vT:=ζ vT;go_wp2;go_end0;refine⟨rfl,?_,hg⟩;have:vH k ws=lI ws:=by
    rw[vT.o,vH,lI,List.take_of_length_le (by rw[O7.o];omega),List.drop_of_length_le (by rw[O7.o];omega),List.append_nil]
   rw[←this];exact hs
structure DI where
 pv:Value
 next:Nat
 fv:Value
def MX (x:DI):List Value:=[x.pv,.int .i64 (x.next:Int),x.fv]
def Qo (w:World) (base:Nat) (v:Value):Option (List Nat)→Prop
 | none=>v =.pointer none
 | some ws=>∃g,v =.pointer (some ⟨g,0,none⟩)∧base≤g∧iD w g ws
structure ni (w:World) (base gB:Nat) (s:List UInt8) (b:PB) (xs:List DI) (sv:Value):Prop where
 blk:aS w gB 206 #[.string ⟨s.toArray⟩,.int .i64 (b.at_:Int),.int .i64 (b.err:Int),sv]
 le:base≤gB
 own:Own w base 225 3 MX sv xs
 len:xs.length=b.aT.length
 st:∀(i:Nat) x y,xs[i]? = some x→b.aT[i]? = some y→x.next=y.next∧Qo w base x.pv y.set∧Own w base 3 1 encI x.fv y.free
 apart:∀(i j:Nat) x y g,xs[i]? = some x→xs[j]? = some y→i≠j→x.fv.ownBlock=some g→y.fv.ownBlock≠some g
theorem iD.grows {w w':World} {g:Nat} {ws:List Nat} (h:iD w g ws) (hg:ah w w'):iD w' g ws:=⟨(hg.below.block g h.1.lt).trans h.1,h.2⟩
theorem Qo.grows {w w':World} {base:Nat} {v:Value} {o:Option (List Nat)} (h:Qo w base v o) (hg:ah w w'):Qo w' base v o:=by
 cases o with
 | none=>exact h
 | some ws=>obtain⟨g,h1,h2,h3⟩:=h;exact⟨g,h1,h2,h3.grows hg⟩
theorem ni.grows {w w':World} {base gB:Nat} {s:List UInt8} {b:PB} {xs:List DI} {sv:Value} (h:ni w base gB s b xs sv) (hg:ah w w'):ni w' base gB s b xs sv where
 blk:=(hg.below.block gB h.blk.lt).trans h.blk
 le:=h.le
 own:=h.own.grows hg
 len:=h.len
 st:=fun i x y h1 h2=>⟨(h.st i x y h1 h2).1,(h.st i x y h1 h2).2.1.grows hg,(h.st i x y h1 h2).2.2.grows hg⟩
 apart:=h.apart
def iV (s:List UInt8) (b:PB):Value:=.tuple (match kK s b with | none=> #[.int .u8 0,.bool false] | some c=> #[.int .u8 (c.toNat:Int),.bool true])
theorem g_ {w:World} {base gB:Nat} {s:List UInt8} {b:PB} {xs:List DI} {sv:Value} (h:ni w base gB s b xs sv) :
 Calls Tryz.prog 167 #[.pointer (some ⟨gB,0,none⟩)] w fun e w'=>e =.returned (iV s b)∧ah w w':=by
 have c0:w.cell? ⟨gB,0,none⟩=some (.string ⟨s.toArray⟩):=(h.blk.cell 0).trans rfl;have c1:w.cell? ⟨gB,1,none⟩=some (.int .i64 (b.at_:Int)):=(h.blk.cell 1).trans rfl;have c2:w.cell? ⟨gB,2,none⟩=some (.int .i64 (b.err:Int)):=(h.blk.cell 2).trans rfl;have hl:=h.blk.lt;have hG:ah w w:=ah.refl w;by_cases he:b.err=0
 ·rw[he] at c2;by_cases ha:b.at_<s.length
  ·have hai:¬((s.length:Nat):Int)≤(b.at_:Int):=ω;have Il:s[b.at_]? = some s[b.at_]:=List.getElem?_eq_getElem ha;have hv:iV s b =.tuple #[.int .u8 (s[b.at_].toNat:Int),.bool true]:=by simp[iV,kK,he,Il]
   rw[hv];clear hv;replace h:=ζ h;go_enter Tryz.func167,Tryz.ntmps167
   go_wp2;refine aJ κ ?_;refine rK (.range 17) 0 ?_;iterate 17 refine aB ?_
   refine ay ?_;refine aP κ (fun wN hN hS=> ?_);clear hS;have d0:=(Below.cell (p:=⟨gB,0,none⟩) hN.below hl).trans c0;have d1:=(Below.cell (p:=⟨gB,1,none⟩) hN.below hl).trans c1;have hl1:=World.block_lt_of_cell? _ _ d0;simp only at hl1;replace hG:=hG.trans hN;clear hN c0 c1 c2 hl;go_wp2;refine aJ κ ?_;refine rK (.range 11) 0 ?_;iterate 11 refine aB ?_
   refine ay ?_;refine aP κ (fun wN hN hS=> ?_);go_wp2;go_ret2;exact⟨rfl,hG.trans hN⟩
  ·have hai:((s.length:Nat):Int)≤(b.at_:Int):=ω;have Il:s[b.at_]? = none:=List.getElem?_eq_none ω;have hv:iV s b =.tuple #[.int .u8 0,.bool false]:=by simp[iV,kK,he,Il]
   rw[hv];clear hv;replace h:=ζ h;go_enter Tryz.func167,Tryz.ntmps167
   go_wp2;refine aJ κ ?_;refine rK (.range 17) 0 ?_;iterate 17 refine aB ?_
   refine ay ?_;refine aP κ (fun wN hN hS=> ?_);go_wp2;go_ret2;exact⟨rfl,hG.trans hN⟩
 ·have hei:¬(b.err:Int)=0:=ω;have hv:iV s b =.tuple #[.int .u8 0,.bool false]:=by simp[iV,kK,he]
  rw[hv];clear hv;replace h:=ζ h;go_enter Tryz.func167,Tryz.ntmps167
  go_wp2;refine aJ κ ?_;refine rK (.range 17) 0 ?_;iterate 17 refine aB ?_
  refine ay ?_;refine aP κ (fun wN hN hS=> ?_);go_wp2;go_ret2;exact⟨rfl,hG.trans hN⟩
theorem wG {α:Type} {w w':World} {base k m:Nat} {e te:TypeId} {enc:α→List Value} {v:Value} {xs:List α} {cs:Array Value} (h:Own w base e k enc v xs) (hm:aS w m te cs) (hne:e≠te) (hg:w.grownBy w' (some m)):Own w' base e k enc v xs:=
 h.kept' hg (fun g pU hv=>by
  injection pU with pU
  subst pU;obtain⟨cur,hc⟩:=fP h hv;unfold aS at hm;rw[hm] at hc;simp only[Option.some.injEq,Obj.cells.injEq] at hc;exact hne hc.2.1.symm)
theorem iD.off {w w':World} {g m:Nat} {ws:List Nat} {te:TypeId} {cs:Array Value} (h:iD w g ws) (hm:aS w m te cs) (hne:237≠te) (hg:w.grownBy w' (some m)):iD w' g ws:=by
 refine⟨(hg.block g h.1.lt (fun hh=> ?_)).trans h.1,h.2⟩;injection hh with hh
 subst hh;have h1:=h.1;unfold aS at h1 hm;rw[hm] at h1;simp only[Option.some.injEq,Obj.cells.injEq] at h1;exact hne h1.2.1.symm
theorem Qo.off {w w':World} {base m:Nat} {v:Value} {o:Option (List Nat)} {te:TypeId} {cs:Array Value} (h:Qo w base v o) (hm:aS w m te cs) (hne:237≠te) (hg:w.grownBy w' (some m)):Qo w' base v o:=by
 cases o with
 | none=>exact h
 | some ws=>obtain⟨g,h1,h2,h3⟩:=h;exact⟨g,h1,h2,h3.off hm hne hg⟩
theorem ni.turn {w w':World} {base gB:Nat} {s:List UInt8} {b b':PB} {xs:List DI} {sv:Value} (h:ni w base gB s b xs sv) (hg:w.grownBy w' (some gB)) (hb:b'.aT=b.aT)
 (hc:aS w' gB 206 #[.string ⟨s.toArray⟩,.int .i64 (b'.at_:Int),.int .i64 (b'.err:Int),sv]):ni w' base gB s b' xs sv where
 blk:=hc
 le:=h.le
 own:=wG h.own h.blk δ hg
 len:=by rw[hb];exact h.len
 st:=fun i x y h1 h2=>by
  rw[hb] at h2;obtain⟨a1,a2,a3⟩:=h.st i x y h1 h2;exact⟨a1,a2.off h.blk δ hg,wG a3 h.blk δ hg⟩
 apart:=h.apart
theorem nS {w:World} {base gB e:Nat} {s:List UInt8} {b:PB} {xs:List DI} {sv:Value} (h:ni w base gB s b xs sv) :
 Calls Tryz.prog 153 #[.pointer (some ⟨gB,0,none⟩),.int .i64 (e:Int)] w fun r w'=>r =.returned (.tuple #[])∧ni w' base gB s (aW e b) xs sv∧w.grownBy w' (some gB):=by
 have c2:w.cell? ⟨gB,2,none⟩=some (.int .i64 (b.err:Int)):=(h.blk.cell 2).trans rfl;have f2:=h.blk.frozen 2;have hl:=h.blk.lt;by_cases he:b.err=0
 ·rw[he] at c2;have hf:aW e b = {b with err:=e}:=by simp[aW,he]
  have aO:=aj w ⟨gB,2,none⟩ (.int .i64 (e:Int));have hB:ni (w.setCell ⟨gB,2,none⟩ (.int .i64 (e:Int))) base gB s (aW e b) xs sv:=by
   refine h.turn aO (by rw[hf]) ?_;rw[hf];have:=h.blk;unfold aS at *
   simp[World.setCell,Array.getElem?_modify,this]
  replace hB:=ζ hB;replace aO:=ζ aO;clear hf h;go_enter Tryz.func153,Tryz.ntmps153
  go_wp2;go_end0;exact⟨rfl,hB.o,aO.o⟩
 ·have hei:¬(b.err:Int)=0:=ω;have hf:aW e b = b:=by simp[aW,he]
  rw[hf];clear hf;replace h:=ζ h;go_enter Tryz.func153,Tryz.ntmps153
  go_wp2;go_end0;exact⟨rfl,h.o,World.grownBy.refl _ _⟩
end Go.Proofs.YteojanlajhebhaaGreatDoor
namespace Go.Proofs.YteojanlajhebhaaGreatDoor
def lS (l:List mW):Nat:=(l.map fun x=>x.free.length).sum
def gJ (b:PB):Nat:=b.aT.length+lS b.aT
theorem MR (l:List mW):∀(i j:Nat),lS (l.modify i fun x=>{x with free:=x.free++[j]})≤lS l + 1:=by
 induction l with
 | nil=>intro i j;simp[lS]
 | cons a l ih=>
  intro i j;cases i with
  | zero=>simp[lS];omega
  | succ i=>
   have:=ih i j;simp only[lS,List.modify_succ_cons,List.map_cons,List.sum_cons] at this ⊢;omega
theorem ag5 (l:List mW) (ws:List Nat) (n:Nat):∀(i:Nat),lS (l.modify i fun x=>{x with set:=some ws,next:=n})=lS l:=by
 induction l with
 | nil=>intro i;simp[lS]
 | cons a l ih=>
  intro i;cases i with
  | zero=>simp[lS]
  | succ i=>
   have:=ih i;simp only[lS,List.modify_succ_cons,List.map_cons,List.sum_cons] at this ⊢;omega
theorem XJ (l m:List mW):lS (l ++m)=lS l + lS m:=by simp[lS]
theorem ag6 {l:List mW} {i:Nat} {y:mW} (h:l[i]? = some y):y.free.length≤lS l:=by
 have hm:y∈l:=List.mem_of_getElem? h;clear h;induction l with
 | nil=>cases hm
 | cons a l ih=>
  simp only[lS,List.map_cons,List.sum_cons] at ih ⊢;rcases List.mem_cons.1 hm with rfl | hm
  ·omega
  ·have:=ih hm;omega
structure PT (b b':PB) (c:Int):Prop where
 at_:b.at_≤b'.at_
 len:b.aT.length≤b'.aT.length
 cost:(gJ b':Int)-8*b'.at_≤gJ b - 8*b.at_+c
theorem PT.refl (b:PB):PT b b 0:=⟨Nat.le_refl _,Nat.le_refl _,ω⟩
theorem PT.trans {a b c:PB} {m n k:Int} (h:PT a b m) (h':PT b c n) (hk:m + n≤k):PT a c k:=
 ⟨Nat.le_trans h.at_ h'.at_,Nat.le_trans h.len h'.len,by have:=h.cost;have:=h'.cost;omega⟩
theorem PT.weak {a b:PB} {m k:Int} (h:PT a b m) (hk:m≤k):PT a b k:=⟨h.at_,h.len,by have:=h.cost;omega⟩
def WP (s:List UInt8) (k:Nat) (b:PB):Prop:=b.at_≤s.length+k∧(b.err=0→b.at_≤s.length)
theorem WP.weak {s:List UInt8} {k m:Nat} {b:PB} (h:WP s k b) (hm:k≤m):WP s m b:=⟨by have:=h.1;omega,h.2⟩
theorem WP.of_le {s:List UInt8} {k:Nat} {b:PB} (h:b.at_≤s.length):WP s k b:=⟨ω,fun _=>h⟩
theorem dN {s:List UInt8} {b:PB} {c:UInt8} (h:kK s b = some c):b.err=0∧b.at_<s.length∧s[b.at_]? = some c:=by
 unfold kK at h;split at h
 ·rename_i he;exact⟨he,(List.getElem?_eq_some_iff.1 h).1,h⟩
 ·cases h
theorem bD (e:Nat) (b:PB):(aW e b).at_=b.at_:=by unfold aW;split <;> rfl
theorem fC (e:Nat) (b:PB):(aW e b).aT=b.aT:=by unfold aW;split <;> rfl
theorem iQ {e:Nat} (he:e≠0) (b:PB):(aW e b).err≠0:=by unfold aW;split <;> assumption
theorem kD {e k:Nat} {s:List UInt8} (he:e≠0) {b:PB} (h:b.at_≤s.length+k):WP s k (aW e b):=⟨by rw[bD];exact h,fun h0=>absurd h0 (iQ he b)⟩
theorem sH (e:Nat) (b:PB):PT b (aW e b) 0:=⟨by rw[bD];exact Nat.le_refl _,by rw[fC];exact Nat.le_refl _,by unfold gJ;rw[bD,fC];omega⟩
theorem ng (b:PB):PT b (aH b) (-8):=⟨by simp[aH],by simp[aH],by simp[aH,gJ];omega⟩
theorem IL (b:PB):PT b (bg b) 1:=⟨by simp[bg],by simp[bg],by simp[bg,gJ,lS,fD];omega⟩
theorem FU (i j:Nat) (b:PB):PT b (bG i j b) 1:=⟨by simp[bG],by simp[bG],by have:=MR b.aT i j;simp[bG,gJ];omega⟩
theorem d_ (b:PB):(bg b).aT.length=b.aT.length+1:=by simp[bg]
theorem cu (i j:Nat) (b:PB):(bG i j b).aT.length=b.aT.length:=by simp[bG]
theorem akU {s:List UInt8} {k i j:Nat} {b:PB} (h:WP s k b):WP s k (bG i j b):=h
def Nk (x:qW) (b:PB):Prop:=x.1<b.aT.length∧x.2<b.aT.length
theorem Nk.mono {x:qW} {b b':PB} (h:Nk x b) (hl:b.aT.length≤b'.aT.length):Nk x b':=⟨Nat.lt_of_lt_of_le h.1 hl,Nat.lt_of_lt_of_le h.2 hl⟩
theorem Dl (ws:List Nat) (b:PB):PT b (nI ws b).1 2∧Nk (nI ws b).2 (nI ws b).1∧(nI ws b).1.at_=b.at_∧(nI ws b).1.err=b.err:=by
 refine⟨⟨Nat.le_refl _,by simp[nI,bg],?_⟩,⟨by simp[nI,bg],by simp[nI,bg]⟩,rfl,rfl⟩;have:gJ (nI ws b).1=gJ b + 2:=by
  unfold gJ nI;simp only[List.length_modify,ag5,bg,XJ,List.length_append];simp[lS,fD];omega
 have h2:(nI ws b).1.at_=b.at_:=rfl;rw[this,h2];omega
theorem Gs {s:List UInt8} {k:Nat} {b:PB} {ws:List Nat} (h:WP s k b):WP s k (nI ws b).1:=h
theorem wU {s:List UInt8} {b:PB} (h:b.at_<s.length):PT b (cZ s b).1 (-8)∧WP s 2 (cZ s b).1∧(cZ s b).1.aT=b.aT∧b.at_<(cZ s b).1.at_:=by
 unfold cZ;split
 ·split
  ·refine⟨((ng b).trans (ng _) (Int.le_refl _)).trans (sH _ _) ω,kD δ (by simp[aH];omega),by rw[fC];rfl,by rw[bD];simp[aH];omega⟩
  ·rename_i hc;have:=(dN hc).2.1;refine⟨(ng b).trans (ng _) ω,WP.of_le (by simp[aH] at this ⊢;omega),rfl,by simp[aH];omega⟩
 ·split
  ·exact⟨(ng b).trans (sH _ _) ω,kD δ (by simp[aH];omega),by rw[fC];rfl,by rw[bD];simp[aH]⟩
  ·exact⟨ng b,WP.of_le (by simp[aH];omega),rfl,by simp[aH]⟩
def dP (s:List UInt8) (r:PB×UInt8):PB×UInt8:=if kK s r.1=some 45∧r.1.at_+1<s.length∧s[r.1.at_+1]?≠some 93 then cZ s (aH r.1) else r
theorem VK {s:List UInt8} {b:PB} {r:PB×UInt8} (h:PT b r.1 (-8)∧WP s 2 r.1∧r.1.aT=b.aT∧b.at_<r.1.at_):PT b (dP s r).1 (-8)∧WP s 2 (dP s r).1∧(dP s r).1.aT=b.aT∧b.at_<(dP s r).1.at_:=by
 unfold dP;split
 ·rename_i hc;have h1:=wU (s:=s) (b:=aH r.1) (by simp[aH];omega);have h2:=h1.1.at_;exact⟨(h.1.trans (ng _) (Int.le_refl _)).trans h1.1 ω,h1.2.1,by rw[h1.2.2.1];exact h.2.2.1,by have:=h.2.2.2;have h3:(aH r.1).at_=r.1.at_+1:=rfl;omega⟩
 ·exact h
theorem aao {s:List UInt8} {f:Nat} {first:Bool} {b:PB} {ws:List Nat} (hf:s.length≤f + b.at_):mP s f first b ws=match kK s b with
 | none=>(aW 2 b,ws)
 | some d=>
  if d = 93∧first=true then (aW 2 b,ws)
  else if d = 93 then (aH b,ws)
  else
   let r:=cZ s b
   let q:=dP s r
   mP s (f - 1) false (if q.2.toNat<r.2.toNat then aW 2 q.1 else q.1) (oJ ws r.2.toNat q.2.toNat):=by
 cases f with
 | zero=>
  rw[mP];split
  ·rfl
  ·rename_i hc;have:=(dN hc).2.1;omega
 | succ f=>rfl
theorem anc {s:List UInt8} {b:PB} {q:PB} {p:Prop} [Decidable p] (h:PT b q (-8)∧WP s 2 q∧q.aT=b.aT∧b.at_<q.at_) :
 PT b (if p then aW 2 q else q) (-8)∧WP s 2 (if p then aW 2 q else q)∧(if p then aW 2 q else q).aT=b.aT∧b.at_<(if p then aW 2 q else q).at_:=by
 split
 ·exact⟨h.1.trans (sH _ _) ω,kD δ h.2.1.1,by rw[fC];exact h.2.2.1,by rw[bD];exact h.2.2.2⟩
 ·exact h
theorem Wp (s:List UInt8):∀(f:Nat) (first:Bool) (b:PB) (ws:List Nat),WP s 2 b→PT b (mP s f first b ws).1 0∧WP s 2 (mP s f first b ws).1∧(mP s f first b ws).1.aT=b.aT:=by
 intro f;induction f with
 | zero=>intro first b ws hW;exact⟨sH _ _,kD δ hW.1,fC _ _⟩
 | succ f ih=>
  intro first b ws hW;rw[mP];split
  ·exact⟨sH _ _,kD δ hW.1,fC _ _⟩
  ·rename_i d hd;split
   ·exact⟨sH _ _,kD δ hW.1,fC _ _⟩
   ·split
    ·exact⟨(ng b).weak ω,WP.of_le (by have:=(dN hd).2.1;simp[aH];omega),rfl⟩
    ·have h1:=VK (wU (dN hd).2.1);have h2:=anc (p:=(dP s (cZ s b)).2.toNat<(cZ s b).2.toNat) h1;have h3:=ih false _ (oJ ws (cZ s b).2.toNat (dP s (cZ s b)).2.toNat) h2.2.1;exact⟨h2.1.trans h3.1 ω,h3.2.1,h3.2.2.trans h2.2.2.1⟩
theorem Jw {s:List UInt8} {b:PB} (hW:WP s 2 b):PT b (kG s b).1 0∧WP s 2 (kG s b).1∧(kG s b).1.aT=b.aT:=by
 unfold kG;split
 ·rename_i h;have h1:=Wp s (s.length+1) true (aH b) gV (WP.of_le (by have:=(dN h).2.1;simp[aH];omega));exact⟨(ng b).trans h1.1 ω,h1.2.1,h1.2.2⟩
 ·exact Wp s _ true b gV hW
def Lp (s:List UInt8) (k:Nat) (sub:Option (PB→PB×qW)):Prop:=∀f,sub=some f→∀b,b.at_≤s.length→PT b (f b).1 5∧WP s k (f b).1∧Nk (f b).2 (f b).1
theorem TM {s:List UInt8} {k:Nat} {sub:Option (PB→PB×qW)} {c:UInt8} {b:PB} (hs:Lp s k sub) (hk:2≤k) (hb:b.at_<s.length) :
 PT b (dh s sub c b).1 (-6)∧WP s (k+1) (dh s sub c b).1∧Nk (dh s sub c b).2 (dh s sub c b).1:=by
 have ha:=ng b;have wL:(aH b).at_≤s.length:=by simp[aH];omega
 unfold dh;split
 ·split
  ·have h1:=Dl gV (aW 3 (aH b));exact⟨(ha.trans (sH _ _) (Int.le_refl _)).trans h1.1 ω,Gs (kD δ ω),h1.2.1⟩
  ·rename_i f;have h1:=hs f rfl (aH b) wL;simp only;split
   ·rename_i hp;refine⟨(ha.trans h1.1 (Int.le_refl _)).trans (ng _) ω,WP.of_le ?_,h1.2.2⟩;have:=(dN hp).2.1;simp[aH] at this ⊢;omega
   ·refine⟨((ha.trans h1.1 (Int.le_refl _)).trans (sH 2 _) (Int.le_refl _)).trans (ng _) ω,?_,?_⟩
    ·have h2:=h1.2.1.1;refine⟨by simp only[aH,bD] at h2 ⊢;omega,fun h0=>absurd h0 ?_⟩;exact iQ (e:=2) δ (f (aH b)).1
    ·have:=h1.2.2;refine this.mono ?_;simp[aH,fC]
 ·split
  ·have h1:=Jw (s:=s) (b:=aH b) (WP.of_le wL);have h2:=Dl (kG s (aH b)).2 (kG s (aH b)).1;exact⟨(ha.trans h1.1 (Int.le_refl _)).trans h2.1 ω,(Gs h1.2.1).weak ω,h2.2.1⟩
  ·split
   ·have h2:=Dl (lI gV) (aH b);exact⟨ha.trans h2.1 ω,Gs (WP.of_le wL),h2.2.1⟩
   ·split
    ·split
     ·have h2:=Dl (oJ gV 0 0) (aH (aW 2 (aH b)));refine⟨((ha.trans (sH 2 _) (Int.le_refl _)).trans (ng _) (Int.le_refl _)).trans h2.1 ω,?_,h2.2.1⟩;refine Gs ⟨by simp only[aH,bD] at wL ⊢;omega,fun h0=>absurd h0 (iQ (e:=2) δ (aH b))⟩
     ·rename_i d hd;have h2:=Dl (oJ gV d.toNat d.toNat) (aH (aH b));refine⟨(ha.trans (ng _) (Int.le_refl _)).trans h2.1 ω,Gs (WP.of_le ?_),h2.2.1⟩;have:=(dN hd).2.1;simp[aH] at this ⊢;omega
    ·split
     ·have h1:=Dl gV (aW 2 (aH b));exact⟨(ha.trans (sH _ _) (Int.le_refl _)).trans h1.1 ω,Gs (kD δ ω),h1.2.1⟩
     ·have h2:=Dl (oJ gV c.toNat c.toNat) (aH b);exact⟨ha.trans h2.1 ω,Gs (WP.of_le wL),h2.2.1⟩
theorem Nu {s:List UInt8} {k:Nat} {b:PB} {x:qW} (hW:WP s k b) (hx:Nk x b):PT b (eX s b x).1 0∧WP s k (eX s b x).1∧Nk (eX s b x).2 (eX s b x).1:=by
 unfold eX;split
 ·exact⟨PT.refl b,hW,hx⟩
 ·rename_i c hc;split
  ·have h0:=(((((ng b).trans (IL _) (Int.le_refl _)).trans (IL _) (Int.le_refl _)).trans (FU b.aT.length x.1 _) (Int.le_refl _)).trans (FU x.2 (b.aT.length+1) _) (Int.le_refl _));have XB:WP s k (aH b):=WP.of_le (by have:=(dN hc).2.1;simp[aH];omega);have hI:b.aT.length+1<(bG x.2 (b.aT.length+1) (bG b.aT.length x.1 (bg (bg (aH b))))).aT.length:=by
    simp only[cu,d_,aH];omega
   simp only;have hp:∀(p:Prop) [Decidable p] (i j:Nat) (z:PB),WP s k z→PT z (if p then z else bG i j z) 1∧WP s k (if p then z else bG i j z)∧(if p then z else bG i j z).aT.length=z.aT.length:=by
    intro p _ i j z hz;split
    ·exact⟨(PT.refl z).weak ω,hz,rfl⟩
    ·exact⟨FU _ _ _,hz,cu _ _ _⟩
   have h1:=hp (c = 43) b.aT.length (b.aT.length+1) _ (show WP s k (bG x.2 (b.aT.length+1) (bG b.aT.length x.1 (bg (bg (aH b))))) from XB);have h2:=hp (c = 63) x.2 x.1 _ h1.2.1;refine⟨(h0.trans h1.1 (Int.le_refl _)).trans h2.1 ω,h2.2.1,?_,?_⟩
   ·rw[h2.2.2,h1.2.2];omega
   ·rw[h2.2.2,h1.2.2];exact hI
  ·exact⟨PT.refl b,hW,hx⟩
theorem afJ {s:List UInt8} {sub:Option (PB→PB×qW)} {f:Nat} {p:qW} {b:PB} (hf:s.length≤f + b.at_):Ah s sub f p b = match kK s b with
 | none=>(b,p)
 | some c=>if c = 124∨c = 41 then (b,p) else
  let r:=dh s sub c b
  let q:=eX s r.1 r.2
  Ah s sub (f - 1) (p.1,q.2.2) (bG p.2 q.2.1 q.1):=by
 cases f with
 | zero=>
  rw[Ah];split
  ·rfl
  ·rename_i hc;have:=(dN hc).2.1;omega
 | succ f=>rfl
theorem amh {s:List UInt8} {k:Nat} {sub:Option (PB→PB×qW)} (hs:Lp s k sub) (hk:2≤k):∀(f:Nat) (p:qW) (b:PB),WP s (k+1) b→Nk p b→
 PT b (Ah s sub f p b).1 0∧WP s (k+1) (Ah s sub f p b).1∧Nk (Ah s sub f p b).2 (Ah s sub f p b).1:=by
 intro f;induction f with
 | zero=>intro p b hW hI;exact⟨PT.refl b,hW,hI⟩
 | succ f ih=>
  intro p b hW hI;rw[Ah];split
  ·exact⟨PT.refl b,hW,hI⟩
  ·rename_i c hc;split
   ·exact⟨PT.refl b,hW,hI⟩
   ·have h1:=TM (c:=c) hs hk (dN hc).2.1;have h2:=Nu h1.2.1 h1.2.2;have h3:=ih (p.1,(eX s (dh s sub c b).1 (dh s sub c b).2).2.2) (bG p.2 (eX s (dh s sub c b).1 (dh s sub c b).2).2.1 (eX s (dh s sub c b).1 (dh s sub c b).2).1) h2.2.1
     ⟨by rw[cu];exact Nat.lt_of_lt_of_le hI.1 (Nat.le_trans h1.1.len h2.1.len),by rw[cu];exact h2.2.2.2⟩
    exact⟨((h1.1.trans h2.1 (Int.le_refl _)).trans (FU _ _ _) (Int.le_refl _)).trans h3.1 ω,h3.2⟩
theorem WZ {s:List UInt8} {k:Nat} {sub:Option (PB→PB×qW)} (hs:Lp s k sub) (hk:2≤k) {b:PB} (hW:WP s (k+1) b) :
 PT b (iO s sub b).1 1∧WP s (k+1) (iO s sub b).1∧Nk (iO s sub b).2 (iO s sub b).1:=by
 have h1:=amh hs hk (s.length+1) (b.aT.length,b.aT.length) (bg b) hW ⟨by rw[d_];simp,by rw[d_];simp⟩;exact⟨(IL b).trans h1.1 ω,h1.2⟩
theorem adJ {s:List UInt8} {k:Nat} {sub:Option (PB→PB×qW)} (hs:Lp s k sub) (hk:2≤k):∀(f:Nat) (p:qW) (b:PB),WP s (k+1) b→Nk p b→
 PT b (iy s sub f p b).1 3∧WP s (k+1) (iy s sub f p b).1∧Nk (iy s sub f p b).2 (iy s sub f p b).1:=by
 intro f;induction f with
 | zero=>intro p b hW hI;exact⟨(PT.refl b).weak ω,hW,hI⟩
 | succ f ih=>
  intro p b hW hI;rw[iy];have h1:=WZ hs hk hW;have h2:PT b (bG (iO s sub b).2.2 p.2 (bG p.1 (iO s sub b).2.1 (iO s sub b).1)) 3:=(h1.1.trans (FU _ _ _) (Int.le_refl _)).trans (FU _ _ _) ω;have hI2:Nk p (bG (iO s sub b).2.2 p.2 (bG p.1 (iO s sub b).2.1 (iO s sub b).1)):=hI.mono h2.len;split
  ·rename_i hp;have h3:=ih p (aH (bG (iO s sub b).2.2 p.2 (bG p.1 (iO s sub b).2.1 (iO s sub b).1))) (WP.of_le (by have:=(dN hp).2.1;simp[aH,bG] at this ⊢;omega)) hI2;exact⟨(h2.trans (ng _) (Int.le_refl _)).trans h3.1 ω,h3.2⟩
  ·exact⟨h2,h1.2.1,hI2⟩
theorem K_ (s:List UInt8):∀(d:Nat) (b:PB),b.at_≤s.length→PT b (jB s d b).1 5∧WP s (3+d) (jB s d b).1∧Nk (jB s d b).2 (jB s d b).1:=by
 have hst:∀(sub:Option (PB→PB×qW)) (k:Nat) (b:PB),Lp s k sub→2≤k→b.at_≤s.length→PT b (iy s sub (s.length+1) (b.aT.length,b.aT.length+1) (bg (bg b))).1 5∧WP s (k+1) (iy s sub (s.length+1) (b.aT.length,b.aT.length+1) (bg (bg b))).1∧Nk (iy s sub (s.length+1) (b.aT.length,b.aT.length+1) (bg (bg b))).2 (iy s sub (s.length+1) (b.aT.length,b.aT.length+1) (bg (bg b))).1:=by
  intro sub k b hs hk hb;have h1:=adJ hs hk (s.length+1) (b.aT.length,b.aT.length+1) (bg (bg b)) (WP.of_le hb) ⟨by simp only[d_];omega,by simp only[d_];omega⟩;exact⟨((IL b).trans (IL _) (Int.le_refl _)).trans h1.1 ω,h1.2⟩
 intro d;induction d with
 | zero=>intro b hb;exact hst none 2 b (fun f hf=>by cases hf) ω hb
 | succ d ih=>
  intro b hb;have:=hst (some (jB s d)) (3+d) b (fun f hf b hb=>by injection hf with hf;subst hf;exact ih b hb) ω hb;exact⟨this.1,this.2.1.weak ω,this.2.2⟩
end Go.Proofs.YteojanlajhebhaaGreatDoor
namespace Go.Proofs.YteojanlajhebhaaGreatDoor
open Go.RowKit
theorem awY:iK Tryz.prog 204 225 3 40:=iK.mk' (z:=.agg #[.pointer none,.int .i64 0,.slice none 0 0]) Tryz.underlying204 κ rfl ω
def yB:DI:=⟨.pointer none,0,.slice none 0 0⟩
theorem arR:∀u∈MX yB,u.oneCell'=true:=by intro u hu;simp[MX,yB] at hu;rcases hu with rfl | rfl | rfl <;> rfl
theorem Xv:∀x,(MX x).length=3:=fun _=>rfl
structure aC (T:List TypeId) (base:Nat) (w w':World):Prop where
 below:Below base w w'
 kept:∀(g:Nat) (cur:Array Value) (te:TypeId) (fz:Nat×Nat),w.heap[g]? = some (Obj.cells cur te fz)→te∉T→w'.heap[g]? = w.heap[g]?
theorem aC.refl (T:List TypeId) (base:Nat) (w:World):aC T base w w:=⟨Below.refl _ _,fun _ _ _ _ _ _=>rfl⟩
theorem aC.trans {T:List TypeId} {base:Nat} {a b c:World} (h:aC T base a b) (k:aC T base b c):aC T base a c:=
 ⟨h.below.trans k.below,fun g cur te fz hg ht=>(k.kept g cur te fz ((h.kept g cur te fz hg ht).trans hg) ht).trans (h.kept g cur te fz hg ht)⟩
theorem aC.mono {T T':List TypeId} {base:Nat} {a b:World} (h:aC T base a b) (hT:∀t∈T,t∈T'):aC T' base a b:=
 ⟨h.below,fun g cur te fz hg ht=>h.kept g cur te fz hg fun hh=>ht (hT _ hh)⟩
theorem jP {w:World} {g:Nat} {o:Obj} (h:w.heap[g]? = some o):g < w.heap.size:=(Array.getElem?_eq_some_iff.1 h).1
theorem aC.grows {T:List TypeId} {base:Nat} {a b:World} (hg:ah a b) (hb:base≤a.heap.size):aC T base a b:=
 ⟨Below.mono hg.below hb,fun g _ _ _ h _=>hg.below.block g (jP h)⟩
theorem aC.size {T:List TypeId} {base:Nat} {a b:World} (h:aC T base a b):a.heap.size≤b.heap.size:=h.below.size
theorem aC.blk {T:List TypeId} {base g:Nat} {a b:World} {te:TypeId} {cs:Array Value} (h:aC T base a b) (hb:aS a g te cs) (ht:te∉T):aS b g te cs:=(h.kept g _ _ _ hb ht).trans hb
theorem aC.row {T:List TypeId} {base:Nat} {w w':World} {row:Option Nat} (hg:w.grownBy w' row) (hb:base≤w.heap.size) (hr:∀m,row=some m→base≤m∧∃te cs,te∈T∧aS w m te cs):aC T base w w':=by
 refine⟨⟨hg.os,hg.tape,hg.output,hg.size,fun k hk=>hg.block k (Nat.lt_of_lt_of_le hk hb) (fun e=> ?_)⟩,fun g cur te fz h ht=>hg.block g (jP h) (fun e=> ?_)⟩
 ·have:=(hr k e.symm).1;omega
 ·obtain⟨_,te',cs,hT,hB⟩:=hr g e.symm;unfold aS at hB;rw[h] at hB;simp only[Option.some.injEq,Obj.cells.injEq] at hB;exact ht (hB.2.1 ▸ hT)
theorem aC.setCell {T:List TypeId} {base g i:Nat} {w:World} {te:TypeId} {cs:Array Value} (hB:aS w g te cs) (hb:base≤g) (ht:te∈T) (u:Value):aC T base w (w.setCell ⟨g,i,none⟩ u):=
 aC.row (aj w ⟨g,i,none⟩ u) (by have:=hB.lt;omega) (fun m hm=>by injection hm with hm;subst hm;exact⟨hb,te,cs,ht,hB⟩)
theorem Own.kY {α:Type} {w:World} {base k:Nat} {e:TypeId} {enc:α→List Value} {v:Value} {xs:List α} (h:Own w base e k enc v xs):∀m,v.ownBlock=some m→base≤m∧∃cs,aS w m e cs:=fun m hm=>by
 obtain⟨cur,hc⟩:=fP h hm;exact⟨(World.ownsRow.lt h m hm).1,cur,hc⟩
theorem nH {α:Type} {w:World} {b0 k:Nat} {e:TypeId} {enc:α→List Value} {v:Value} {xs:List α} (h:Own w b0 e k enc v xs) (h0:0<xs.length):∃gb cap,v =.slice (some ⟨gb,0,none⟩) xs.length cap:=by
 rcases h.2 with⟨_,h6⟩ | ⟨g,cap,_,h5,_⟩
 ·omega
 ·exact⟨g,cap,h5⟩
theorem Qo.kept {w w':World} {base:Nat} {v:Value} {o:Option (List Nat)} {row:Option Nat} (h:Qo w base v o) (hg:w.grownBy w' row) (hr:∀m,row=some m→∃te cs,237≠te∧aS w m te cs):Qo w' base v o:=by
 cases row with
 | none=>
  cases o with
  | none=>exact h
  | some ws=>obtain⟨g,h1,h2,h3⟩:=h;exact⟨g,h1,h2,(hg.block g h3.1.lt σ).trans h3.1,h3.2⟩
 | some m=>obtain⟨te,cs,hne,hB⟩:=hr m rfl;exact h.off hB hne hg
theorem Own.aeA {α:Type} {w w':World} {base k:Nat} {e:TypeId} {enc:α→List Value} {v:Value} {xs:List α} {row:Option Nat} (h:Own w base e k enc v xs) (hg:w.grownBy w' row) (hr:∀m,row=some m→∃te cs,e≠te∧aS w m te cs):Own w' base e k enc v xs:=
 h.kept' hg (fun g pU=>by obtain⟨te,cs,hne,hB⟩:=hr g pU;exact iZ h hB hne)
theorem ni.push {w w2:World} {base gB:Nat} {s:List UInt8} {b:PB} {xs:List DI} {sv sv':Value} (h:ni w base gB s b xs sv) (hO:Own w2 base 225 3 MX sv' (xs++[yB])) (hg:w.grownBy w2 sv.ownBlock) :
 ni (w2.setCell ⟨gB,3,none⟩ sv') base gB s (bg b) (xs++[yB]) sv':=by
 have hrow:∀(e:TypeId),e≠225→∀m,sv.ownBlock=some m→∃te cs,e≠te∧aS w m te cs:=fun e he m hm=>by
  obtain⟨_,cs,hB⟩:=h.own.kY m hm;exact⟨_,cs,he,hB⟩
 have hb2:aS w2 gB 206 #[.string ⟨s.toArray⟩,.int .i64 (b.at_:Int),.int .i64 (b.err:Int),sv]:=(hg.block gB h.blk.lt (fun e=>iZ h.own h.blk δ e.symm)).trans h.blk;have aO:=aj w2 ⟨gB,3,none⟩ sv';refine⟨?_,h.le,wG hO hb2 δ aO,by simp[bg,h.len],?_,?_⟩
 ·have:=hb2.dO 3 sv';simpa[bg] using this
 ·intro i x y h1 h2;rcases Nat.lt_or_ge i xs.length with hi | hi
  ·rw[List.getElem?_append_left hi] at h1;simp only[bg] at h2;rw[List.getElem?_append_left (by rw[←h.len];exact hi)] at h2;obtain⟨a1,a2,a3⟩:=h.st i x y h1 h2;exact⟨a1,(a2.kept hg (hrow _ δ)).off hb2 δ aO,wG (a3.aeA hg (hrow _ δ)) hb2 δ aO⟩
  ·have hi':i = xs.length:=by
    have:=(List.getElem?_eq_some_iff.1 h1).1;simp at this;omega
   subst hi';simp only[bg] at h2;rw[List.getElem?_append_right (Nat.le_refl _)] at h1;rw[h.len,List.getElem?_append_right (Nat.le_refl _)] at h2;simp at h1 h2;subst h1 h2;exact⟨rfl,rfl,Own.iH _ _ _ _ _⟩
 ·have old:∀(i:Nat) x,(xs++[yB])[i]? = some x→xs[i]? = some x∨x = yB:=fun i x h1=>by
   rcases Nat.lt_or_ge i xs.length with hi | hi
   ·rw[List.getElem?_append_left hi] at h1;exact .inl h1
   ·rw[List.getElem?_append_right hi] at h1;right
    have:=List.mem_of_getElem? h1;simpa using this
  intro i j x y g h1 h2 hne hg1 hg2;rcases old i x h1 with h1 | rfl
  ·rcases old j y h2 with h2 | rfl
   ·exact h.apart i j x y g h1 h2 hne hg1 hg2
   ·cases hg2
  ·cases hg1
theorem ni.upd {w w1:World} {base gB g n cap i j:Nat} {s:List UInt8} {b:PB} {xs:List DI} {x x':DI} {y y':mW} {u:Value} {row:Option Nat} (h:ni w base gB s b xs (.slice (some ⟨g,0,none⟩) n cap))
 (hx:xs[i]? = some x) (hy:b.aT[i]? = some y) (hj:j < 3) (hg:w.grownBy w1 row) (hrow:row=none∨row=x.fv.ownBlock)
 (hn:x'.next=y'.next) (hS:Qo w1 base x'.pv y'.set) (hO:Own w1 base 3 1 encI x'.fv y'.free) (hf:x'.fv.ownBlock=x.fv.ownBlock∨∃m,x'.fv.ownBlock=some m∧w.heap.size≤m) (akl:MX x'=(MX x).set j u) :
 ni (w1.setCell ⟨g,i * 3+j,none⟩ u) base gB s {b with aT:=b.aT.set i y'} (xs.set i x') (.slice (some ⟨g,0,none⟩) n cap):=by
 have ZW:i < xs.length:=(List.getElem?_eq_some_iff.1 hx).1;obtain⟨ax,bx,cx⟩:=h.st i x y hx hy;have hnl:=h.own.len Xv;have hr:∀(e:TypeId),e≠3→∀m,row=some m→∃te cs,e≠te∧aS w m te cs:=fun e he m hm=>by
  rcases hrow with h0 | h0
  ·rw[h0] at hm;cases hm
  ·rw[h0] at hm;obtain⟨_,cs,hB⟩:=cx.kY m hm;exact⟨_,cs,he,hB⟩
 obtain⟨_,apX,hcv⟩:=h.own.kY g rfl;have aj6:∀m te cs,aS w m te cs→te≠3→some m≠row:=fun m te cs hB ht e=>by
  obtain⟨te',cs',hne,Iy⟩:=hr te ht m e.symm;unfold aS at hB Iy;rw[hB] at Iy;simp only[Option.some.injEq,Obj.cells.injEq] at Iy;exact hne Iy.2.1
 have hb1:aS w1 gB 206 #[.string ⟨s.toArray⟩,.int .i64 (b.at_:Int),.int .i64 (b.err:Int),.slice (some ⟨g,0,none⟩) n cap]:=(hg.block gB h.blk.lt (aj6 _ _ _ h.blk δ)).trans h.blk;have adl:aS w1 g 225 apX:=(hg.block g hcv.lt (aj6 _ _ _ hcv δ)).trans hcv;have aO:=aj w1 ⟨g,i * 3+j,none⟩ u;have hgB:gB≠g:=fun e=>by
  subst e;have:=h.blk;unfold aS at this hcv;rw[this] at hcv;simp only[Option.some.injEq,Obj.cells.injEq] at hcv;exact absurd hcv.2.1 δ
 have FN:=h.own.aeA hg (hr _ δ);refine⟨hb1.far (by simpa using hgB) u,h.le,FN.abQ Xv ω ω hj (fun z hz=>by rw[hx] at hz;injection hz with hz;subst hz;exact akl),by simp[h.len],?_,?_⟩
 ·intro k a c h1 h2;by_cases j_:i = k
  ·subst j_;rw[List.getElem?_set_self ZW] at h1;rw[List.getElem?_set_self (by rw[←h.len];exact ZW)] at h2;injection h1 with h1;injection h2 with h2
   subst h1 h2;exact⟨hn,hS.off adl δ aO,wG hO adl δ aO⟩
  ·rw[List.getElem?_set_ne j_] at h1 h2;obtain⟨a1,a2,a3⟩:=h.st k a c h1 h2;refine⟨a1,(a2.kept hg (hr _ δ)).off adl δ aO,wG (a3.kept' hg (fun m hm hv=> ?_)) adl δ aO⟩;rcases hrow with h0 | h0
   ·rw[h0] at hm;cases hm
   ·rw[h0] at hm;exact h.apart i k x a m hx h1 j_ hm hv
 ·have far:∀(k:Nat) a m,xs[k]? = some a→k≠i→x'.fv.ownBlock=some m→a.fv.ownBlock≠some m:=fun k a m h1 j_ hm hv=>by
   rcases hf with h0 | ⟨m',h0,hle⟩
   ·rw[h0] at hm;exact h.apart i k x a m hx h1 (Ne.symm j_) hm hv
   ·rw[h0] at hm;injection hm with hm
    subst hm;obtain⟨c,hc⟩:∃c,b.aT[k]? = some c:=⟨_,List.getElem?_eq_getElem (by rw[←h.len];exact (List.getElem?_eq_some_iff.1 h1).1)⟩;have:=RF (h.st k a c h1 hc).2.2 hv;omega
  intro k l a c m h1 h2 AO hm1 hm2;by_cases j_:i = k
  ·subst j_;rw[List.getElem?_set_self ZW] at h1;injection h1 with h1;subst h1
   rw[List.getElem?_set_ne AO] at h2;exact far l c m h2 (Ne.symm AO) hm1 hm2
  ·rw[List.getElem?_set_ne j_] at h1;by_cases hli:i = l
   ·subst hli;rw[List.getElem?_set_self ZW] at h2;injection h2 with h2;subst h2
    exact far k a m h1 (Ne.symm j_) hm2 hm1
   ·rw[List.getElem?_set_ne hli] at h2;exact h.apart k l a c m h1 h2 AO hm1 hm2
def TB:List TypeId:=[206,225,3]
theorem Au {w:World} {base gB:Nat} {s:List UInt8} {b:PB} {xs:List DI} {sv:Value} (h:ni w base gB s b xs sv) (hb:base≤w.heap.size) (hn:b.aT.length<1000000000) :
 Calls Tryz.prog 164 #[.pointer (some ⟨gB,0,none⟩)] w fun r w'=>r =.returned (.int .i64 (b.aT.length:Int))∧∃sv',ni w' base gB s (bg b) (xs++[yB]) sv'∧aC TB base w w':=by
 have c3:w.cell? ⟨gB,3,none⟩=some sv:=(h.blk.cell 3).trans rfl;have f3:=h.blk.frozen 3;have hl:=h.blk.lt;have hO:=h.own;have hlen:=h.len;replace h:=ζ h;replace hO:=ζ hO;go_enter Tryz.func164,Tryz.ntmps164
 have hrow:∀m,sv.ownBlock=some m→some gB≠some m:=fun m hm e=>by injection e with e;subst e;exact iZ hO.o h.o.blk δ hm
 replace hrow:=ζ hrow;go_wp2_with (at_builtin;refine dM (x:=yB) awY rfl (.tmp 7) (.tmp 9) rfl (hO.o.alloc _) rfl ⟨w.heap.size,0,none⟩ rfl rfl (h_ (by exact heap_alloc_new w _)) arR (by simp;omega) (by unfold maxLen;omega) ω (fun v8 w8 MK hgr hat=> ?_);obtain⟨A8,c8,rfl,-⟩:=MK.arr Xv;(have hP:=ζ (ni.push (h.o.grows ((ah.refl w).alloc _)) MK hgr));(have hK8:=ζ (aC.row (T:=TB) (base:=base) hgr (by simp;omega) (fun m hm=>by obtain⟨a1,cs,a2⟩:=(hO.o.alloc _).kY m hm;exact⟨a1,_,cs,δ,a2⟩)));(have QC:aS w8 gB _ _:=(hgr.block gB (by simp;omega) (fun e=>hrow.o gB e.symm rfl)).trans (h.o.blk.alloc _));(have c8:=QC.cell 3);(have f8:=QC.frozen 3);(have l8:=QC.lt);(replace QC:=ζ QC);(replace MK:=ζ MK);(replace hgr:=ζ hgr);clear hat);go_ret;have hP2:=hP.o;rw[show (xs++[yB]).length=b.aT.length+1 by simp[hlen]] at hP2;refine⟨by simp,_,hP2,?_⟩;exact ((aC.grows ((ah.refl w).alloc _) hb).trans hK8.o).trans (aC.setCell QC.o h.o.le δ _)
theorem WE:iK Tryz.prog 35 3 1 8:=iK.mk' (z:=.int .i64 0) Tryz.underlying35 κ rfl ω
theorem akT {b:PB} {i j:Nat} {y:mW} (hy:b.aT[i]? = some y):bG i j b = {b with aT:=b.aT.set i {y with free:=y.free++[j]}}:=by
 obtain⟨hl,rfl⟩:=List.getElem?_eq_some_iff.1 hy;unfold bG;congr 1
 apply List.ext_getElem?;intro k;rw[List.getElem?_modify,List.getElem?_set];by_cases hk:i = k
 ·subst hk;simp[hl]
 ·simp[hk]
theorem uK {w:World} {base gB i j:Nat} {s:List UInt8} {b:PB} {xs:List DI} {sv:Value} (h:ni w base gB s b xs sv) (hb:base≤w.heap.size) (hi:i < b.aT.length) (hn:gJ b < 1000000000) :
 Calls Tryz.prog 166 #[.pointer (some ⟨gB,0,none⟩),.int .i64 (i:Int),.int .i64 (j:Int)] w fun r w'=>r =.returned (.tuple #[])∧∃xs',ni w' base gB s (bG i j b) xs' sv∧aC TB base w w':=by
 obtain⟨y,hy⟩:∃y,b.aT[i]? = some y:=⟨_,List.getElem?_eq_getElem hi⟩;obtain⟨x,hx⟩:∃x,xs[i]? = some x:=⟨_,List.getElem?_eq_getElem (by rw[h.len];exact hi)⟩;have ZW:i < xs.length:=by rw[h.len];exact hi
 obtain⟨g,cap,Yv⟩:=nH h.own ω;generalize yL:xs.length=n at *
 subst Yv;obtain⟨x',NT,hcell,avP⟩:=h.own.at_ Xv ZW;rw[hx] at NT;injection NT with NT
 subst NT;have c3:w.cell? ⟨gB,3,none⟩=some (.slice (some ⟨g,0,none⟩) n cap):=(h.blk.cell 3).trans rfl;have c2:w.cell? ⟨g,i * 3+2,none⟩=some x.fv:=hcell 2 _ rfl;have hl:=h.blk.lt;have hgl:=World.block_lt_of_cell? w _ c2;simp only at hgl;obtain⟨hs1,hs2,hs3⟩:=h.st i x y hx hy;have VY:y.free.length<1000000000:=by have:=ag6 hy;unfold gJ at hn;omega
 obtain⟨apY,N_⟩:=fP h.own (g:=g) rfl;have hr1:some gB≠x.fv.ownBlock:=fun e=>iZ hs3 h.blk δ e.symm
 have hr2:some g≠x.fv.ownBlock:=fun e=>iZ hs3 N_ δ e.symm
 have hii:(i:Int)<(n:Int):=ω;generalize hrow:x.fv.ownBlock=row at *
 replace hrow:=ζ hrow;replace yL:=ζ yL;replace hs1:=ζ hs1;replace hs2:=ζ hs2;replace hs3:=ζ hs3;replace VY:=ζ VY;replace hx:=ζ hx;replace hy:=ζ hy;replace hn:=ζ hn;replace N_:=ζ N_;replace hb:=ζ hb;have hG:=ζ (ah.refl w);replace h:=ζ h;clear hcell avP hi ZW;go_enter Tryz.func166,Tryz.ntmps166
 go_wp2;refine qK (row) κ ?_;refine rK (up:=oK) (.range 14) 5 ?_;iterate 14 refine jX ?_
 refine ay ?_;refine aY [14] κ σ (fun wN hN hS=>(aK.cons rfl (fun K' hK=> ?_) aK.nil));try replace h:=ζ (h.o.grows hN)
 try replace hs2:=ζ (hs2.o.grows hN)
 try replace hs3:=ζ (hs3.o.grows hN)
 try replace N_:=ζ ((hN.below.block _ (jP N_.o)).trans N_.o)
 try replace hG:=ζ (hG.o.trans hN)
 try replace dR:=ζ (dR.o.grows hN)
 try replace gu:=ζ (gu.o.grows hN)
 try replace fV:=ζ (oD fV.o hN)
 clear hN;go_simp;refine hK.o _ _ ?_ (fun hS=> ?_)
 ·exact oD (by assumption) ((ah.refl _).alloc _)
 have dR:=ζ (aS.new wN 3 #[.int .i64 (j:Int)]);have dF:ah wN (wN.alloc (.cells #[.int .i64 (j:Int)] 3)):=(ah.refl _).alloc _;replace h:=ζ (h.o.grows dF);replace hs2:=ζ (hs2.o.grows dF);replace hs3:=ζ (hs3.o.grows dF);replace N_:=ζ ((dF.below.block _ (jP N_.o)).trans N_.o);replace hG:=ζ (hG.o.trans dF);clear dF;clear hK hS;refine aY [15] κ σ (fun wN hN hS=>(aK.cons rfl (fun K' hK=> ?_) aK.nil));try replace h:=ζ (h.o.grows hN)
 try replace hs2:=ζ (hs2.o.grows hN)
 try replace hs3:=ζ (hs3.o.grows hN)
 try replace N_:=ζ ((hN.below.block _ (jP N_.o)).trans N_.o)
 try replace hG:=ζ (hG.o.trans hN)
 try replace dR:=ζ (dR.o.grows hN)
 try replace gu:=ζ (gu.o.grows hN)
 try replace fV:=ζ (oD fV.o hN)
 clear hN;have jY:=Nat.le_trans hb.o hG.o.size;refine Own.grown (x:=j) WE rfl (.tmp 18) (.tmp 20) rfl hs3.o rfl ⟨_,0,none⟩ rfl rfl (h_ dR.o) (fun u hu=>by simp[encI] at hu;subst hu;rfl) jY (by have:=VY.o;unfold maxLen;omega) (by have:=VY.o;omega) (fun v4 w4 gu fV hv4=> ?_);have Xq:=hs3.o.kY;rw[hrow.o] at Xq;rw[hrow.o] at fV;obtain⟨gb4,awM,agB⟩:=nH gu σ;obtain⟨L4,hL4⟩:∃L,L=(y.free++[j]).length:=⟨_,rfl⟩;rw[←hL4] at agB;subst agB;clear hL4;have hA:=h;have Yw:=hs2;have hcA:=N_;have gU:=hG;replace gu:=ζ gu;replace hv4:=ζ hv4;replace Xq:=ζ Xq;clear jY hs3 dR h hs2 N_ hG;go_simp;refine hK.o _ _ ?_ (fun hS=> ?_)
 ·exact World.grownBy.trans (by assumption) fV
 replace fV:=ζ fV;clear hK hS;refine rK (up:=oK) [16,17] 1 ?_;iterate 2 refine jX ?_
 refine ay ?_;refine dI (i:=18) rfl κ κ (fun wN hN hS K' hK=> ?_);try replace h:=ζ (h.o.grows hN)
 try replace hs2:=ζ (hs2.o.grows hN)
 try replace hs3:=ζ (hs3.o.grows hN)
 try replace N_:=ζ ((hN.below.block _ (jP N_.o)).trans N_.o)
 try replace hG:=ζ (hG.o.trans hN)
 try replace dR:=ζ (dR.o.grows hN)
 try replace gu:=ζ (gu.o.grows hN)
 try replace fV:=ζ (oD fV.o hN)
 clear hS;have NG:=(fV.o.block g (jP hcA.o) hr2).trans hcA.o;have hBN:aS wN g _ _:=NG;have rfN:=hBN.frozen (i * 3+2);have Rn:=hBN.lt;have c2N:=(World.cell?_of_block (a:=⟨g,i * 3+2,none⟩) (fV.o.block g (jP hcA.o) hr2)).trans (gU.o.cell c2);go_simp;refine hK.o _ _ ?_;clear hK;go_wp2;go_end0;have akg:=(hA.o.own.kY g rfl).1;have hU:=ni.upd (x':={x with fv:=.slice (some ⟨gb4,0,none⟩) L4 awM}) (y':={y with free:=y.free++[j]}) (j:=2) hA.o hx.o hy.o ω fV.o (.inr hrow.o.symm) hs1.o (Yw.o.kept fV.o (fun m hm=>by obtain⟨_,cs,h⟩:=Xq.o m hm;exact⟨_,cs,δ,h⟩)) gu.o (hv4.o.imp (fun h=>h) (fun h=>⟨_,h,Nat.le_refl _⟩)) rfl;rw[←akT hy.o] at hU;refine⟨rfl,_,hU,?_⟩;exact ((aC.grows gU.o hb.o).trans (aC.row fV.o (Nat.le_trans hb.o gU.o.size) (fun m hm=>by obtain⟨h1,cs,h⟩:=Xq.o m hm;exact⟨h1,_,cs,δ,h⟩))).trans (aC.setCell hBN akg δ _)
end Go.Proofs.YteojanlajhebhaaGreatDoor
