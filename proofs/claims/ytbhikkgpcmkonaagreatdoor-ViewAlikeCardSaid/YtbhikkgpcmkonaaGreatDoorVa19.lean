/- Parts: MatA MatB InhA InhB InhC SeqBox SeqRO InhD InhE InhF SeqRB InhG -/
import Derived.Test.YtbhikkgpcmkonaaGreatDoorVa0
import Derived.Test.YtbhikkgpcmkonaaGreatDoorVa18
import Derived.Test.YtbhikkgpcmkonaaGreatDoorVa5
import Derived.Test.YtbhikkgpcmkonaaGreatDoorVa8
import Derived.Test.YtbhikkgpcmkonaaGreatDoorVa17
import Derived.Test.YtbhikkgpcmkonaaGreatDoorVa11
import Derived.RangeFuncNested
import Derived.RangeFuncBound
import Derived.RangeFuncCalls
import Derived.RangeFuncLeaves
import Derived.Shelf.Abstract
import Derived.OwnWalkIn
import Derived.TacticsInMore
import Derived.LoopNIn
import Derived.LoopIn
import Derived.Test.YtbhikkgpcmkonaaGreatDoorVa1
import Derived.RangeFuncBox
import Derived.Test.YtbhikkgpcmkonaaGreatDoorVa3
set_option maxRecDepth 100000
set_option maxHeartbeats 12800000
namespace Go.Proofs.YtbhikkgpcmkonaaGreatDoor
open Go.RowKit
def OL (x:cZ):Bool:=iF x.n &&decide (0≤x.op)&&decide (x.op≤3)&&decide (x.v.length≤200)&&(decide (x.op<2)||decide (uY x.v = 0))
theorem Yk (x:cZ):mO OL x:=by
 intro w;obtain⟨R,hR⟩:∃R,R=OL x:=⟨_,rfl⟩;rw[←hR];obtain⟨n,op,v⟩:=x;have cN:=ζ (fun W=>uF n W);have cR:=ζ (fun W=>aeb W v);unfold OL at hR;simp only at hR;unfold Fv;simp only;cases hn:iF n with
 | false=>
  rw[hn] at cN hR;have aQ:Hid (R=false):=ζ (by rw[hR];rfl);clear hR cR hn;go_enter Tryz.func154,Tryz.ntmps154
  go_wp2_with fail;refine (cN.out _).mono ?_;rintro e w1 ⟨rfl,hg⟩;go_wp2;go_ret;exact⟨by rw[aQ.o];rfl,((ah.refl w).alloc _).trans hg⟩
 | true=>
  rw[hn] at cN hR;by_cases h0:op<0
  ·have aQ:Hid (R=false):=ζ (by rw[hR];simp[show ¬0≤op by omega]);clear hR cR hn;go_enter Tryz.func154,Tryz.ntmps154
   go_wp2_with fail;refine (cN.out _).mono ?_;rintro e w1 ⟨rfl,hg⟩;have hB:=(aF.new w 213 #[.string ⟨n.toArray⟩,.int .i64 op,.string ⟨v.toArray⟩]).grows hg;have d1:=hB.c1;have dl:=hB.lt;go_wp2;go_ret;exact⟨by rw[aQ.o];rfl,((ah.refl w).alloc _).trans hg⟩
  ·by_cases h3:3<op
   ·have aQ:Hid (R=false):=ζ (by rw[hR];simp[show ¬op≤3 by omega]);clear hR cR hn;go_enter Tryz.func154,Tryz.ntmps154
    go_wp2_with fail;refine (cN.out _).mono ?_;rintro e w1 ⟨rfl,hg⟩;have hB:=(aF.new w 213 #[.string ⟨n.toArray⟩,.int .i64 op,.string ⟨v.toArray⟩]).grows hg;have d1:=hB.c1;have d2:=hB.c2;have dl:=hB.lt;clear hB;go_wp2;go_ret;exact⟨by rw[aQ.o];rfl,((ah.refl w).alloc _).trans hg⟩
   ·by_cases hl:200<v.length
    ·have aQ:Hid (R=false):=ζ (by rw[hR];simp[show ¬v.length≤200 by omega]);have hli:(200:Int)<(v.length:Int):=ω;clear hR cR hn;go_enter Tryz.func154,Tryz.ntmps154
     go_wp2_with fail;refine (cN.out _).mono ?_;rintro e w1 ⟨rfl,hg⟩;have hB:=(aF.new w 213 #[.string ⟨n.toArray⟩,.int .i64 op,.string ⟨v.toArray⟩]).grows hg;have d1:=hB.c1;have d2:=hB.c2;have dl:=hB.lt;clear hB;go_wp2;go_ret;exact⟨by rw[aQ.o];rfl,((ah.refl w).alloc _).trans hg⟩
    ·have hli:¬(200:Int)<(v.length:Int):=ω;by_cases h2:op<2
     ·have aQ:Hid (R=true):=ζ (by rw[hR];simp[h2,show 0≤op by omega,show op≤3 by omega,show v.length≤200 by omega]);clear hR cR hn;go_enter Tryz.func154,Tryz.ntmps154
      go_wp2_with fail;refine (cN.out _).mono ?_;rintro e w1 ⟨rfl,hg⟩;have hB:=(aF.new w 213 #[.string ⟨n.toArray⟩,.int .i64 op,.string ⟨v.toArray⟩]).grows hg;have d1:=hB.c1;have d2:=hB.c2;have dl:=hB.lt;clear hB;go_wp2;go_ret;exact⟨by rw[aQ.o];rfl,((ah.refl w).alloc _).trans hg⟩
     ·have aQ:Hid (R=decide (uY v = 0)):=ζ (by rw[hR];simp[h2,show 0≤op by omega,show op≤3 by omega,show v.length≤200 by omega]);clear hR hn;generalize uY v = pe at *
      go_enter Tryz.func154,Tryz.ntmps154
      go_wp2_with fail;refine (cN.out _).mono ?_;rintro e w1 ⟨rfl,hg⟩;have hB:=(aF.new w 213 #[.string ⟨n.toArray⟩,.int .i64 op,.string ⟨v.toArray⟩]).grows hg;have d1:=hB.c1;have d2:=hB.c2;have dl:=hB.lt;clear hB;go_wp2_with fail;refine (cR.out _).mono ?_;rintro e w2 ⟨rfl,hg2⟩;have hpd:((pe:Int)==0)=decide (pe=0):=by
       rw[Bool.eq_iff_iff,beq_iff_eq,decide_eq_true_eq];omega
      replace hpd:=ζ hpd;go_wp2;go_ret;refine⟨?_,(((ah.refl w).alloc _).trans hg).trans hg2⟩;rw[aQ.o];exact aP (by rw[show decide (op<2)=false from decide_eq_false ω,Bool.false_or,hpd.o])
def kU (l:List bK) (n:List UInt8):List UInt8:=match l.find? (fun f=>f.n ==n) with
 | some f=>f.v
 | none=>[]
theorem ahe {n:List UInt8} {g:Nat} (w:World) (hc:w.cell? ⟨g,0,none⟩=some (.string ⟨n.toArray⟩)) (x:bK) :
 Calls Tryz.prog 223 #[Hr x,.pointer (some ⟨g,0,none⟩)] w fun e w'=>e =.returned (.bool (x.n ==n))∧ah w w':=by
 have hl:=World.block_lt_of_cell? w _ hc;simp only at hl;obtain⟨xn,xv⟩:=x;unfold Hr;simp only;generalize hx:(xn==n)=B at *
 cases B with
 | true=>
  go_enter Tryz.func223,Tryz.ntmps223
  go_wp2;go_ret;exact⟨rfl,(ah.refl w).alloc _⟩
 | false=>
  go_enter Tryz.func223,Tryz.ntmps223
  go_wp2;go_ret;exact⟨rfl,(ah.refl w).alloc _⟩
theorem abL {α:Type} (p:α→Bool) (l:List α):(placeOf p l =-1∧l.find? p = none)∨∃(i:Nat) (x:α),placeOf p l = (i:Int)∧l[i]? = some x∧l.find? p = some x:=by
 unfold placeOf;cases h:l.findIdx? p with
 | none=>
  left
  refine⟨rfl,?_⟩;rw[List.find?_eq_none];intro x hx;have:=List.findIdx?_eq_none_iff.1 h x hx;simp[this]
 | some i=>
  right
  obtain⟨h1,h2,h3⟩:=List.findIdx?_eq_some_iff_getElem.1 h;refine⟨i,l[i],rfl,List.getElem?_eq_getElem h1,?_⟩;rw[List.find?_eq_some_iff_getElem];exact⟨h2,i,h1,rfl,fun j hj=>by simpa using h3 j hj⟩
theorem Jh {A:Option Addr} {m c:Nat} {l:List bK} (w:World) (hA:bW w 2 dW A m l) (hm:m≤9223372036854775807) (n:List UInt8) :
 Calls Tryz.prog 191 #[.slice A m c,.string ⟨n.toArray⟩] w fun e w'=>e =.returned (.string ⟨(kU l n).toArray⟩)∧ah w w':=by
 have cC:=fun (W:World) (hW:ah w W) (hc:W.cell? ⟨w.heap.size,0,none⟩=some (.string ⟨n.toArray⟩))=>Ol 223 #[.pointer (some ⟨w.heap.size,0,none⟩)] (enters_of Tryz.func223 κ rfl) (fun f=>f.n ==n) A m c l W (hA.keep hW) hm (fun x _ W' yg=>ahe W' (yg.cell hc) x)
 replace cC:=ζ cC;have lJ:=hA.1;obtain⟨R,hR⟩:∃R,R=kU l n:=⟨_,rfl⟩;rw[←hR];unfold kU at hR;rcases abL (fun f:bK=>f.n ==n) l with⟨h1,h2⟩ | ⟨i,x,h1,h2,h3⟩
 ·rw[h2] at hR;simp only at hR;subst hR;rw[h1] at cC;clear h1 h2 hA;go_enter Tryz.func191,Tryz.ntmps191
  go_wp2_with fail;refine (cC.out _ γ ((aF.new w _ _).cell 0)).mono ?_;rintro e w1 ⟨rfl,hb⟩;have hG:ah w w1:=((ah.refl w).alloc _).trans hb;go_wp2;go_ret;exact⟨rfl,hG⟩
 ·rw[h3] at hR;simp only at hR;rw[h1] at cC;have hi:i < m:=by rw[←lJ];exact (List.getElem?_eq_some_iff.1 h2).1
  obtain⟨bb,off,x',rfl,hs0,yN,hcell⟩:=hA.at_ hi;rw[h2] at yN;injection yN with yN
  subst yN;have c1:w.cell? ⟨bb,off+i * 2+1,none⟩=some (.string ⟨x.v.toArray⟩):=hcell 1 _ rfl;have hii:(i:Int)<(m:Int):=ω;rw[←hR] at c1;replace c1:=ζ c1;clear h1 h2 h3 hcell hA hR;go_enter Tryz.func191,Tryz.ntmps191
  go_wp2_with fail;refine (cC.out _ γ ((aF.new w _ _).cell 0)).mono ?_;rintro e w1 ⟨rfl,hb⟩;have hG:ah w w1:=((ah.refl w).alloc _).trans hb;have d1:=hG.cell c1.out;go_wp2;go_ret;exact⟨rfl,hG⟩
theorem ace {ga gb:Nat} {A A2:Option Addr} {m c m2 c2:Nat} {fa fb:List bK} (w:World) (h1:w.cell? ⟨ga,0,none⟩=some (.slice A m c)) (h2:w.cell? ⟨gb,0,none⟩=some (.slice A2 m2 c2)) (hA:bW w 2 dW A m fa) (hB:bW w 2 dW A2 m2 fb) (hm:m≤1000000) (Q_:m2≤1000000) (n:List UInt8) :
 Calls Tryz.prog 217 #[.string ⟨n.toArray⟩,.pointer (some ⟨ga,0,none⟩),.pointer (some ⟨gb,0,none⟩)] w fun e w'=>e =.returned (.bool (!decide (kU fa n = kU fb n)))∧ah w w':=by
 have cA:=ζ (fun W (hW:ah w W)=>Jh (c:=c) W (hA.keep hW) ω n);have cB:=ζ (fun W (hW:ah w W)=>Jh (c:=c2) W (hB.keep hW) ω n);have l1:ga<w.heap.size:=World.block_lt_of_cell? w _ h1;have l2:gb<w.heap.size:=World.block_lt_of_cell? w _ h2;clear hA hB hm Q_;generalize kU fa n = x at *
 generalize kU fb n = y at *
 have eG:=ah.refl w;go_enter Tryz.func217,Tryz.ntmps217
 go_wp2_with fail;refine aG κ ?_;refine rK (.range 8) 0 ?_;iterate 2 refine aC ?_
 refine aY (.string ⟨x.toArray⟩) rfl χ (fun wq eG=> ?_) ?_
 ·obtain⟨nR,mY⟩:=bQ eG;go_simp;exact Calls.mono (cA.out wq eG) (fun e w'' h=>h)
 go_simp;iterate 2 refine aC ?_
 refine aY (.string ⟨y.toArray⟩) rfl χ (fun wq eG=> ?_) ?_
 ·obtain⟨nR,mY⟩:=bQ eG;go_simp;exact Calls.mono (cB.out wq eG) (fun e w'' h=>h)
 go_simp;iterate 2 refine aC ?_
 refine aB ?_;refine aJ κ (fun wN hN hS=> ?_);go_wp2;go_ret;exact⟨aP (by by_cases h:x = y <;> simp[h]),hN⟩
theorem WE (l:List bK) (n:List UInt8):kU l n = xU l n:=by
 unfold kU xU;have e:(fun f:bK=>f.n ==n)=fun x=>decide (x.n = n):=by
  funext f
  by_cases h:f.n = n <;> simp[h]
 rw[e];cases l.find? fun x=>decide (x.n = n) <;> rfl
theorem agt {A A2 A0:Option Addr} {m c m2 c2 m0 c0:Nat} {fa fb:List bK} {names:List (List UInt8)} (w:World) (hN:bW w 1 encS A0 m0 names) (hA:bW w 2 dW A m fa) (hB:bW w 2 dW A2 m2 fb) (Bg:m0≤1000000) (hm:m≤1000000) (Q_:m2≤1000000) :
 Calls Tryz.prog 183 #[.slice A0 m0 c0,.slice A m c,.slice A2 m2 c2] w fun e w'=>e =.returned (.bool (Gn names fa fb))∧ah w w':=by
 obtain⟨w0,hw0,h1,h2,Vw⟩:∃w0,w0=(w.alloc (.cells #[.slice A m c] 22)).alloc (.cells #[.slice A2 m2 c2] 22)∧aF w0 w.heap.size 22 #[.slice A m c]∧aF w0 (w.heap.size+1) 22 #[.slice A2 m2 c2]∧ah w w0:=
  ⟨_,rfl,(aF.new w _ _).alloc _,aF.kW w _ _ _,((ah.refl w).alloc _).alloc _⟩
 have cC:=ζ (ako (c:=c0) 217 #[.pointer (some ⟨w.heap.size,0,none⟩),.pointer (some ⟨w.heap.size+1,0,none⟩)] (enters_of Tryz.func217 κ rfl) (fun n=> !decide (xU fa n = xU fb n)) A0 m0 names w0 (hN.keep Vw) ω (fun n _ W hW=>by
  have h:=ace W (hW.cell (h1.cell 0)) (hW.cell (h2.cell 0)) (hA.keep (Vw.trans hW)) (hB.keep (Vw.trans hW)) hm Q_ n;rw[WE,WE] at h;exact h))
 have hR:Gn names fa fb= !(names.any fun n=> !decide (xU fa n = xU fb n)):=by unfold Gn;rw[List.all_eq_not_any_not]
 rw[hR];generalize (names.any fun n=> !decide (xU fa n = xU fb n))=R at *
 clear hR hN hA hB h1 h2;go_enter Tryz.func183,Tryz.ntmps183
 go_wp2_with fail;rw[←hw0];refine cC.out.mono ?_;rintro e w1 ⟨rfl,hb⟩;have hG:=ζ (Vw.trans hb);clear hw0 hb;go_wp2;go_ret;exact⟨rfl,hG.o⟩
theorem qj.form {w:World} {b:Nat} {o:Option iD} {v:Value} (h:qj w b o v):∃(s:ByteArray) (A:Option Addr) (m k:Nat) (lv c f t:Int),v =.agg #[.string s,.slice A m k,.int .i64 lv,.int .u32 c,.int .i64 f,.int .i64 t]:=by
 cases o with
 | none=>
  obtain rfl:v = jI:=h;exact⟨_,_,_,_,_,_,_,_,rfl⟩
 | some a=>
  obtain⟨A,k,rfl,_⟩:=h;exact⟨_,_,_,_,_,_,_,_,rfl⟩
def xW (p:fU) (l:List iD) (tO:fZ) (now:Int) (k:Nat):List Nat:=(List.range k).filter fun i=>match l[i]? with | some a=>zo p tO now a | none=>false
theorem WS {p:fU} {l:List iD} {tO:fZ} {now:Int} {k:Nat} {a:iD} {b:Bool} (hr:l[k]? = some a) (h:zo p tO now a = b):xW p l tO now (k+1)=if b then xW p l tO now k++[k] else xW p l tO now k:=by
 unfold xW;rw[List.range_succ,List.filter_append];cases b <;> simp[hr,h]
theorem Zy (p:fU) (l:List iD) (tO:fZ) (now:Int) (k:Nat):(xW p l tO now k).length≤k:=by
 unfold xW;exact Nat.le_trans (List.length_filter_le _ _) σ
theorem ahL {p:bU} {tO:fZ} {lA:Option Addr} {lm lk:Nat} {xs:List dA} {now:Int} (w:World) (hp:p.At w) (hA:bW w 6 tq lA lm xs) (hat:∀a∈xs,a.At w) (JG:lm≤1000) (mP:tO.ok) :
 Calls Tryz.prog 97 #[p.val,.slice lA lm lk,.agg #[.int .i64 tO.lv,.int .u32 (tO.c:Int)],.int .i64 now] w fun e w'=>∃v,e =.returned v∧Own w' w.heap.size 3 1 encI v (wU p.aU (xs.map (·.a)) tO now)∧ah w w':=by
 have lJ:=hA.1;have cC:=ζ (fun (a:dA) (ha:a∈xs) W (hW:ah w W)=>Dq W (hp.keep hW) ((hat a ha).keep hW) mP);have cR:=ζ (fun (a:dA) (ha:a∈xs) W (hW:ah w W)=>vU W ((hat a ha).keep hW));have aQ:wU p.aU (xs.map (·.a)) tO now=xW p.aU (xs.map (·.a)) tO now lm:=by
  show xW p.aU (xs.map (·.a)) tO now (xs.map (·.a)).length=_
  rw[List.length_map,lJ]
 rw[aQ];have hst:=ζ (fun k (x:dA) b (hr:xs[k]? = some x) (h:zo p.aU tO now x.a = b)=>WS (l:=xs.map (·.a)) (k:=k) (by rw[List.getElem?_map,hr];rfl) h);have hlen:=ζ (Zy p.aU (xs.map (·.a)) tO now);have L8:xW p.aU (xs.map (·.a)) tO now 0=[]:=rfl;unfold zo at hst;generalize xW p.aU (xs.map (·.a)) tO now=F at *
 clear aQ hp hat lJ;replace hA:=ζ hA;generalize hpp:p.aU=aU at *
 unfold bU.val at *
 clear hpp;obtain⟨⟨sl,sA,sm,sk⟩,⟨rl,rA,rm,rk⟩,⟨el,eA,em,ek⟩,⟨al,aA,am,ak⟩,o,oA,om,ok,i,iA,im,ik⟩:=p;simp only at cC ⊢;go_enter Tryz.func97,Tryz.ntmps97
 go_wp2;go_loopw [9,10,11,12,13,16] (fun v _ _ _ _ i wr=>∃k:Nat,k≤lm∧i =.int .i64 k∧Hid (Own wr (w.heap.size+2) 3 1 encI v (F k))∧Hid (aF wr w.heap.size 50 #[.slice sA sm sk,.slice rA rm rk,.slice eA em ek,.slice aA am ak,.slice oA om ok,.slice iA im ik])∧Hid (aF wr (w.heap.size+1) 25 #[.int .i64 tO.lv,.int .u32 (tO.c:Int)])∧Hid (ah w wr)) (fun _ _ _ _ _ i _=>lm-(intOf i).toNat)
 case atStart=>exact⟨0,ω,rfl,by rw[L8];exact Own.iH _ _ _ _ _,(aF.new w _ _).alloc _,aF.kW w _ _ _,((ah.refl w).alloc _).alloc _⟩
 case round=>
  obtain⟨k,hk,rfl,Oz,hB,hL,hG⟩:=hrel;by_cases wB:k<lm
  ·obtain⟨bb,off,x,rfl,GV,hx,hcell⟩:=(hA.o.keep hG.o).at_ wB;have c0:wr.cell? ⟨bb,off+k*6,none⟩=some (.string ⟨x.a.src.toArray⟩):=hcell 0 _ rfl;have c1:wr.cell? ⟨bb,off+k*6+1,none⟩=some (.slice x.A x.m x.k):=hcell 1 _ rfl;have c2:wr.cell? ⟨bb,off+k*6+2,none⟩=some (.int .i64 x.a.l.lv):=hcell 2 _ rfl;have c3:wr.cell? ⟨bb,off+k*6+3,none⟩=some (.int .u32 (x.a.l.c:Int)):=hcell 3 _ rfl;have c4:wr.cell? ⟨bb,off+k*6+4,none⟩=some (.int .i64 x.a.f):=hcell 4 _ rfl;have c5:wr.cell? ⟨bb,off+k*6+5,none⟩=some (.int .i64 x.a.t):=hcell 5 _ rfl;have kY:(k:Int)<(lm:Int):=ω;have wu:=List.mem_of_getElem? hx;have hs1:=hst.o k x;have TU:=cC.out x wu;have TT:=cR.out x wu;have J3:=Dn x now;have Tj:=hB.o;have hLc:=hL.o;have hlk:=hlen.o k;have p0:=Tj.cell 0;have p1:=Tj.cell 1;have p2:=Tj.cell 2;have p3:=Tj.cell 3;have p4:=Tj.cell 4;have p5:=Tj.cell 5;have q0:=hLc.cell 0;have q1:=hLc.cell 1;simp only[List.getElem?_toArray,List.getElem?_cons_zero,List.getElem?_cons_succ] at p0 p1 p2 p3 p4 p5 q0 q1;have pz:=Tj.lt;have qz:=hLc.lt;have hsz:=hG.o.size;unfold je at TU TT J3;generalize iJ aU x.a tO=CU at *
   generalize bH x.a = AB at *
   generalize eP x.a now=FB at *
   replace hs1:=ζ (hs1 _ hx rfl);replace TU:=ζ TU;replace TT:=ζ TT;replace J3:=ζ J3;replace hlk:=ζ hlk;clear hcell Tj hLc hx wu;go_wp2_with fail;refine (TU.out _ (by
    have hG:=hG.o;exact γ
   )).mono ?_
   rintro e w1 ⟨v,rfl,hcut,hb⟩;have fF:=ζ ((hG.o.alloc _).trans hb);have wH:=ζ ((Oz.o.alloc _).grows hb);have xG:=ζ ((hB.o.alloc _).grows hb);have Ya:=ζ ((hL.o.alloc _).grows hb);have AZ:=ζ ((aF.new wr 57 #[.string ⟨x.a.src.toArray⟩,.slice x.A x.m x.k,.int .i64 x.a.l.lv,.int .u32 (x.a.l.c:Int),.int .i64 x.a.f,.int .i64 x.a.t]).grows hb);obtain⟨vs,vA,vm,vk,Zr,vc,vf,vt,rfl⟩:=qj.form hcut;clear hcut hb c0 c1 c2 c3 c4 c5 p0 p1 p2 p3 p4 p5 q0 q1 pz qz hG Oz hB hL TU;generalize CU.isSome=OK at *
   have x0:=AZ.o.cell 0;have x1:=AZ.o.cell 1;have x2:=AZ.o.cell 2;have x3:=AZ.o.cell 3;have x4:=AZ.o.cell 4;have x5:=AZ.o.cell 5;simp only[List.getElem?_toArray,List.getElem?_cons_zero,List.getElem?_cons_succ] at x0 x1 x2 x3 x4 x5;have xz:=AZ.o.lt;cases OK with
   | false=>
    have hF:Hid (F (k+1)=F k):=ζ (by rw[hs1.o];simp);go_wp2;go_roundw
    case rel=>exact⟨k+1,ω,ν,by rw[hF.o];exact wH.o.alloc _,xG.o.alloc _,Ya.o.alloc _,fF.o.alloc _⟩
    case measure=>exact ψ
   | true=>
    go_wp2_with fail;refine (TT.out _ (fF.o.alloc _)).mono ?_;rintro e w2 ⟨rfl,hb2⟩;have fQ:=ζ ((fF.o.alloc _).trans hb2);have nI:=ζ ((wH.o.alloc _).grows hb2);have rZ:=ζ ((xG.o.alloc _).grows hb2);have hL2:=ζ ((Ya.o.alloc _).grows hb2);have F8:=ζ ((AZ.o.alloc _).grows hb2);clear hb2 x0 x1 x2 x3 x4 x5 xz fF wH xG Ya AZ TT;have x0:=F8.o.cell 0;have x1:=F8.o.cell 1;have x2:=F8.o.cell 2;have x3:=F8.o.cell 3;have x4:=F8.o.cell 4;have x5:=F8.o.cell 5;simp only[List.getElem?_toArray,List.getElem?_cons_zero,List.getElem?_cons_succ] at x0 x1 x2 x3 x4 x5;have xz:=F8.o.lt;cases AB with
    | false=>
     have hF:Hid (F (k+1)=F k):=ζ (by rw[hs1.o];simp);go_wp2;go_roundw
     case rel=>exact⟨k+1,ω,ν,by rw[hF.o];exact nI.o,rZ.o,hL2.o,fQ.o⟩
     case measure=>exact ψ
    | true=>
     go_wp2_with fail;refine (J3.out _).mono ?_;rintro e w4 ⟨rfl,hb4⟩;have rH:=ζ (fQ.o.trans hb4);have lq:=ζ (nI.o.grows hb4);have Vy:=ζ (rZ.o.grows hb4);have hL4:=ζ (hL2.o.grows hb4);have amk:=hL4.o.lt;clear hb4 x0 x1 x2 x3 x4 x5 xz fQ nI rZ hL2 F8 J3;cases FB with
     | false=>
      have hF:Hid (F (k+1)=F k):=ζ (by rw[hs1.o];simp);go_wp2;go_roundw
      case rel=>exact⟨k+1,ω,ν,by rw[hF.o];exact lq.o,Vy.o,hL4.o,rH.o⟩
      case measure=>exact ψ
     | true=>
      have hF:Hid (F (k+1)=F k++[k]):=ζ (by rw[hs1.o];simp);go_wp2_with (at_builtin;refine dH (x:=k) ari rfl (.tmp 38) (.tmp 40) rfl (lq.o.alloc _) rfl ⟨w4.heap.size,0,none⟩ rfl rfl (iK (by exact heap_alloc_new w4 _)) (Xl k) (by simp;omega) (by have:=hlk.o;unfold maxLen;omega) (by have:=hlk.o;omega) (fun v5 w5 lZ hgr qQ=> ?_);(have oL:=ζ ((rH.o.alloc _).aO hgr (fun g hg=>by have:=lq.o.gY g hg;omega)));(have OD:=ζ ((Vy.o.alloc _).aO hgr (fun e=>by have:=lq.o.gY _ e.symm;omega)));(have hL5:=ζ ((hL4.o.alloc _).aO hgr (fun e=>by have:=lq.o.gY _ e.symm;omega)));(replace lZ:=ζ lZ);clear hgr qQ);go_roundw
      case rel=>exact⟨k+1,ω,ν,by rw[hF.o];exact lZ.o,OD.o,hL5.o,oL.o⟩
      case measure=>exact ψ
  ·obtain rfl:k=lm:=ω;go_wp2;go_ret;exact⟨_,rfl,Oz.o.bJ ω,hG.o⟩
def tC (keep:Nat→Prop) (A B:World):Prop:=∃row,A.grownBy B row∧∀r,row=some r→¬keep r
def Same (bs:List Nat) (A B:World):Prop:=∀b∈bs,B.heap[b]? = A.heap[b]?
theorem Same.trans {bs:List Nat} {A B C:World} (h:Same bs A B) (k:Same bs B C):Same bs A C:=fun b hb=>(k b hb).trans (h b hb)
theorem tC.alloc (keep:Nat→Prop) (A:World) (o:Obj):tC keep A (A.alloc o):=⟨none,World.grownBy_alloc A o none,fun r e=>by cases e⟩
theorem tC.put {keep:Nat→Prop} {l:Nat} (A:World) (o:Obj) (h:¬keep l):tC keep A (A.putObj l o):=⟨some l,grownBy_putObj' A l o,fun r e=>by cases e;exact h⟩
def aoQ {α:Type} (bs:List Nat) (J:List α→World→Prop):Prop:=∀s A B row,J s A→A.grownBy B row→(∀r,row=some r→r∈bs)→J s B
def Po {α:Type} (B:Nat) (bs:List Nat) (I Ix:List α→World→Prop) (xs:List α) (W:World):Exit→Act→World→Prop
 | .normal,_,W'=>KeepsFrom B W W'∧Same bs W W'∧I xs W'
 | .ret,_,W'=>KeepsFrom B W W'∧Ix xs W'
 | _,_,_=>False
section
variable {P:Program} {α:Type}
end
def akZ {α:Type} (Z:World→Prop) (P:Program) (n gf:Nat) (lb:Array Value) (encs:α→Array Value) (xs:List α) (bs:List Nat) (w:World):Prop:=
 ∀(l:Nat) (J Jx:List α→World→Prop) (W:World),Same bs w W→w.heap.size≤W.heap.size→aoQ bs J→aoQ bs Jx→(∀s W,J s W→Z W)→
  (∀pre x W1,J pre W1→(pre++[x]) <+: xs→YieldAt Fence.wide n P l (encs x) W1 fun e W'=>(e =.returned (.bool true)∧J (pre++[x]) W'∧Same bs W1 W')∨(e =.returned (.bool false)∧Jx (pre++[x]) W'))→
  J [] W→CallsIn Fence.wide (n + 1) P gf (#[.func (.yield l) #[] #[]]++lb) W fun e W'=>(∃v,e =.returned v)∧(J xs W'∨∃pre,pre <+: xs∧Jx pre W')
section
variable {P:Program} {α:Type}
end
attribute [local go_sem] Oper.semAt_some
structure Y1 (B:Nat) (lA:Option Addr) (lm lk:Nat) (xs:List dA) (now:Int) (W:World):Prop where
 l:aF W B 59 #[.slice lA lm lk]
 n:aF W (B+1) 3 #[.int .i64 now]
 arr:bW W 6 tq lA lm xs
 at_:∀a∈xs,a.At W
theorem Y1.grows {B:Nat} {lA:Option Addr} {lm lk:Nat} {xs:List dA} {now:Int} {W W':World} (h:Y1 B lA lm lk xs now W) (hg:ah W W'):Y1 B lA lm lk xs now W':=
 ⟨h.l.grows hg,h.n.grows hg,h.arr.keep hg,fun a ha=>(h.at_ a ha).keep hg⟩
theorem abJ (n B:Nat) {lA:Option Addr} {lm lk:Nat} {xs:List dA} {now:Int} (JG:lm≤1000) (w:World) :
 akZ (Y1 B lA lm lk xs now) Tryz.prog n 215 #[.pointer (some ⟨B,0,none⟩),.pointer (some ⟨B+1,0,none⟩)] (fun x:dA=> #[je x]) (xs.filter fun a=>bH a.a &&eP a.a now) [] w:=by
 intro l J Jx W hS hsz hJ hJx hZ hY h0;have hZ0:=hZ _ _ h0;have p0:=hZ0.l.c0;have lJ:=ζ hZ0.arr.1;have hJg:∀s A C,J s A→ah A C→J s C:=fun s A C h hg=>hJ s A C none h (hg.keeps none) σ
 replace hJg:=ζ hJg;replace hY:=ζ hY;replace hZ:=ζ hZ;clear hS hZ0 hJ hJx;refine callsIn_of_wp Tryz.func215 rfl trivial ?_ rfl;simp only[Tryz.ntmps215,List.size_toArray,List.length_cons,List.length_nil,Nat.reduceAdd,Nat.reduceSub,Array.replicate_succ,Array.replicate_zero,List.push_toArray,List.append_toArray,List.nil_append,List.cons_append];gi_wp2_with fail
 gi_loopw [5,8] (fun _ i wr=>∃k:Nat,k≤lm∧i =.int .i64 k∧Hid (J ((xs.take k).filter fun a=>bH a.a &&eP a.a now) wr)) (fun _ i _=>lm-(intOf i).toNat)
 case atStart=>exact⟨0,ω,rfl,h0⟩
 case round=>
  obtain⟨k,hk,rfl,hj⟩:=hrel;have hz:=hZ.o _ _ hj.o;by_cases wB:k<lm
  ·obtain⟨bb,off,x,rfl,GV,hx,hcell⟩:=hz.arr.at_ wB;have c0:wr.cell? ⟨bb,off+k*6,none⟩=some (.string ⟨x.a.src.toArray⟩):=hcell 0 _ rfl;have c1:wr.cell? ⟨bb,off+k*6+1,none⟩=some (.slice x.A x.m x.k):=hcell 1 _ rfl;have c2:wr.cell? ⟨bb,off+k*6+2,none⟩=some (.int .i64 x.a.l.lv):=hcell 2 _ rfl;have c3:wr.cell? ⟨bb,off+k*6+3,none⟩=some (.int .u32 (x.a.l.c:Int)):=hcell 3 _ rfl;have c4:wr.cell? ⟨bb,off+k*6+4,none⟩=some (.int .i64 x.a.f):=hcell 4 _ rfl;have c5:wr.cell? ⟨bb,off+k*6+5,none⟩=some (.int .i64 x.a.t):=hcell 5 _ rfl;have kY:(k:Int)<(lm:Int):=ω;have wu:=List.mem_of_getElem? hx;have TT:=ζ (fun W (hW:ah wr W)=>vU W ((hz.at_ x wu).keep hW));have J3:=ζ (fun W=>Dn x now W);have xC:xs.take (k+1)=xs.take k++[x]:=by rw[List.take_add_one,hx];rfl
   have ae7:(xs.take (k+1)).filter (fun a=>bH a.a &&eP a.a now) <+: xs.filter fun a=>bH a.a &&eP a.a now:=(List.take_prefix _ _).filter _
   rw[xC,List.filter_append] at ae7;replace ae7:=ζ ae7;replace xC:=ζ xC;have hzh:=ζ hz;clear hcell hx hz wu;unfold je at TT J3;generalize hAB:bH x.a = AB at *
   generalize hFB:eP x.a now=FB at *
   gi_wp2_with fail
   refine⟨trivial,(callsIn_wide.2 (TT.out _ ((ah.refl wr).alloc _))).mono ?_⟩;rintro e w2 ⟨rfl,hb2⟩;have fQ:=ζ (((ah.refl wr).alloc _).trans hb2);have F8:=ζ ((aF.new wr 57 #[.string ⟨x.a.src.toArray⟩,.slice x.A x.m x.k,.int .i64 x.a.l.lv,.int .u32 (x.a.l.c:Int),.int .i64 x.a.f,.int .i64 x.a.t]).grows hb2);clear hb2 c0 c1 c2 c3 c4 c5 TT;have x0:=F8.o.cell 0;have x1:=F8.o.cell 1;have x2:=F8.o.cell 2;have x3:=F8.o.cell 3;have x4:=F8.o.cell 4;have x5:=F8.o.cell 5;simp only[List.getElem?_toArray,List.getElem?_cons_zero,List.getElem?_cons_succ] at x0 x1 x2 x3 x4 x5;have xz:=F8.o.lt;have Y6:w2.cell? ⟨B+1,0,none⟩=some (.int .i64 now):=(hzh.o.grows fQ.o).n.cell 0;cases AB with
   | false=>
    have hF:Hid (((xs.take (k+1)).filter fun a=>bH a.a &&eP a.a now)=(xs.take k).filter fun a=>bH a.a &&eP a.a now):=ζ (by rw[xC.o,List.filter_append];simp[hAB]);gi_wp2_with fail
    refine⟨trivial,?_⟩;gi_wp2_with fail
    refine⟨(fun _ h=>by cases h),?_⟩;gi_wp2_with fail
    go_roundw
    case rel=>exact⟨k+1,ω,ν,ζ (by rw[hF.o];exact hJg.o _ _ _ hj.o fQ.o)⟩
    case measure=>exact ψ
   | true=>
    gi_wp2_with fail
    refine⟨trivial,(callsIn_wide.2 (J3.out _)).mono ?_⟩;rintro e w4 ⟨rfl,hb4⟩;have rH:=ζ (fQ.o.trans hb4);have hX4:=ζ (F8.o.grows hb4);clear hb4 x0 x1 x2 x3 x4 x5 xz fQ F8 Y6 J3;cases FB with
    | false=>
     have hF:Hid (((xs.take (k+1)).filter fun a=>bH a.a &&eP a.a now)=(xs.take k).filter fun a=>bH a.a &&eP a.a now):=ζ (by rw[xC.o,List.filter_append];simp[hFB]);gi_wp2_with fail
     refine⟨(fun _ h=>by cases h),?_⟩;gi_wp2_with fail
     go_roundw
     case rel=>exact⟨k+1,ω,ν,ζ (by rw[hF.o];exact hJg.o _ _ _ hj.o rH.o)⟩
     case measure=>exact ψ
    | true=>
     have hF:Hid (((xs.take (k+1)).filter fun a=>bH a.a &&eP a.a now)=((xs.take k).filter fun a=>bH a.a &&eP a.a now)++[x]):=ζ (by rw[xC.o,List.filter_append];simp[hAB,hFB]);have hpr:Hid (((xs.take k).filter fun a=>bH a.a &&eP a.a now)++[x] <+: xs.filter fun a=>bH a.a &&eP a.a now):=ζ (by have h:=ae7.o;simpa[hAB,hFB] using h);have x0:=hX4.o.cell 0;have x1:=hX4.o.cell 1;have x2:=hX4.o.cell 2;have x3:=hX4.o.cell 3;have x4:=hX4.o.cell 4;have x5:=hX4.o.cell 5;simp only[List.getElem?_toArray,List.getElem?_cons_zero,List.getElem?_cons_succ] at x0 x1 x2 x3 x4 x5;have xz:=hX4.o.lt;obtain⟨fn,tmps,assign,body,hy,hR⟩:=hY.o _ x w4 (hJg.o _ _ _ hj.o rH.o) hpr.o;unfold je at hy;gi_wp2_with fail
     refine hR.mono ?_;rintro e W3 (⟨rfl,hJ3,-⟩ | ⟨rfl,aAr⟩)
     ·gi_wp2_with fail
      go_roundw
      case rel=>exact⟨k+1,ω,ν,ζ (by rw[hF.o];exact hJ3)⟩
      case measure=>exact ψ
     ·gi_wp2_with fail
      refine bodyPost_ret (results_none rfl _ _ _) rfl ?_;exact⟨⟨_,rfl⟩,.inr ⟨_,hpr.o,aAr⟩⟩
  ·obtain rfl:k=lm:=ω;have hall:Hid (xs.take k=xs):=ζ (by rw[←lJ.o,List.take_length]);rw[hall.o] at hj;gi_wp2_with fail
   go_end0;exact⟨⟨_,rfl⟩,.inl hj.o⟩
theorem abK {lA:Option Addr} {lm lk:Nat} {xs:List dA} {now:Int} (w:World) (hA:bW w 6 tq lA lm xs) (hat:∀a∈xs,a.At w) :
 Calls Tryz.prog 182 #[.slice lA lm lk,.int .i64 now] w fun e w'=>
  e =.returned (.func (.func 215) #[] #[.pointer (some ⟨w.heap.size,0,none⟩),.pointer (some ⟨w.heap.size+1,0,none⟩)])∧Y1 w.heap.size lA lm lk xs now w'∧ah w w':=by
 have hG:Hid (ah w ((w.alloc (.cells #[.slice lA lm lk] 59)).alloc (.cells #[.int .i64 now] 3))):=ζ (((ah.refl w).alloc _).alloc _);have hZ:Hid (Y1 w.heap.size lA lm lk xs now ((w.alloc (.cells #[.slice lA lm lk] 59)).alloc (.cells #[.int .i64 now] 3))):=
  ζ ⟨(aF.new w _ _).alloc _,aF.kW w _ _ _,hA.keep hG.o,fun a ha=>(hat a ha).keep hG.o⟩
 clear hA hat;go_enter Tryz.func182,Tryz.ntmps182
 go_wp2;go_ret;exact⟨rfl,hZ.o,hG.o⟩
def aqc (ft:List bK→cZ→Bool) (r:Inh) (id:Nat) (c:iD) (a:iD):Bool:=r.from_.all (ft a.fs)&&(Gn r.fH a.fs c.fs&& !decide (BU a = id))
theorem anA (ft:List bK→cZ→Bool) (r:Inh) (l:List iD) (id:Nat) (c:iD) (now:Int):byI ft r l id c now=(r.wh.all (ft c.fs)&&(l.filter fun a=>bH a &&eP a now).any (aqc ft r id c)):=by
 unfold byI aqc;rw[List.any_filter]
def EG (ft:List bK→cZ→Bool) (p:fU) (l:List iD) (id:Nat) (c:iD) (tO:fZ) (now:Int) (k:Nat):List Nat:=(List.range k).filter (SL ft p l id c tO now)
theorem aaU {ft:List bK→cZ→Bool} {p:fU} {l:List iD} {id:Nat} {c:iD} {tO:fZ} {now:Int} {k:Nat} {b:Bool} (h:SL ft p l id c tO now k=b):EG ft p l id c tO now (k+1)=if b then EG ft p l id c tO now k++[k] else EG ft p l id c tO now k:=by
 unfold EG;rw[List.range_succ,List.filter_append];cases b <;> simp[h]
theorem aeX (ft:List bK→cZ→Bool) (p:fU) (l:List iD) (id:Nat) (c:iD) (tO:fZ) (now:Int) (k:Nat):(EG ft p l id c tO now k).length≤k:=by
 unfold EG;exact Nat.le_trans (List.length_filter_le _ _) σ
section
variable {P:Program} {α:Type}
theorem adu {n:Nat} {W:World} {l D:Nat} {fn:FuncId} {tmps:Array Value} {ps:Array Tmp} {assign body:Code} {args:Array Value} {B:Nat} {I Ix:List α→World→Prop} {xs:List α} {a₁:Nat→Act} {keep:Nat→Prop} {tB:TypeId} {cs:Array Value}
 (hI:∀A C,I xs A→tC keep A C→I xs C) (hIx:∀A C,Ix xs A→tC keep A C→Ix xs C) (hB:B≤l) (hD:B≤D) (hDl:D≠l) (IY:¬keep l)
 (hl:W.heap[l]? = some (.loop {state:=.ready,pending:=none,fn,tmps,params:=ps,assign,body,defers:=D})) (hd:W.heap[D]? = some (.deferred (some []))) (hps:args.size=ps.size)
 (Ik:∀(K:Act→World→Prop),(∀WA,ah W WA→aF WA W.heap.size tB cs→K (a₁ W.heap.size) WA)→assign.wpIn (Fence.wide.inRound l) n P (Exit.then K (fun _ _ _=>False)) {tmps:=(ps.zip args).foldl (fun t (p,v)=>t.setIfInBounds p v) tmps,defers:=[]} W)
 (X6:∀V,tC keep W V→aF V W.heap.size tB cs→body.wpIn (Fence.wide.inRound l) n P (Po B [] I Ix xs V) (a₁ W.heap.size) V) :
 YieldAt Fence.wide n P l args W fun e W'=>
  (e =.returned (.bool true)∧(I xs W'∧W'.heap[l]? = some (.loop {state:=.ready,pending:=none,fn,tmps,params:=ps,assign,body,defers:=D})∧W'.heap[D]? = some (.deferred (some [])))∧Same [] W W')∨
  (e =.returned (.bool false)∧(Ix xs W'∧W'.heap[l]? = some (.loop {state:=.done,pending:=some .ret,fn,tmps,params:=ps,assign,body,defers:=D})∧W'.heap[D]? = some (.deferred (some [])))):=by
 have hy:=run_yield (P:=P) (args:=args) hl hps;refine⟨fn,_,assign,body,hy,roundIn_of_wpIn trivial (Ik _ ?_)⟩;intro WA nC hBA;have auz:=(Array.getElem?_eq_some_iff.1 hl).1;have hlA:=(nC.below.block l auz).trans hl;have hdA:=(nC.below.block D (Array.getElem?_eq_some_iff.1 hd).1).trans hd;refine⟨_,run_beginRound hlA rfl,?_⟩;have hlt:=(Array.getElem?_eq_some_iff.1 hlA).1;obtain⟨V,hV⟩:∃V,WA.putObj l (.loop {state:=.busy,pending:=none,fn,tmps,params:=ps,assign,body,defers:=D})=V:=⟨_,rfl⟩;have hVl:V.heap[l]? = some (.loop {state:=.busy,pending:=none,fn,tmps,params:=ps,assign,body,defers:=D}):=by rw[←hV];exact World.putObj_heap_same hlt
 have hVd:V.heap[D]? = some (.deferred (some [])):=by rw[←hV];exact (World.putObj_heap_other hDl).trans hdA
 have hVt:tC keep W V:=by
  rw[←hV];obtain⟨row,hg,hr⟩:=tC.put (keep:=keep) WA (.loop {state:=.busy,pending:=none,fn,tmps,params:=ps,assign,body,defers:=D}) IY;exact⟨row,(nC.keeps row).trans hg,hr⟩
 have hVb:aF V W.heap.size tB cs:=by rw[←hV];exact (World.putObj_heap_other (Ne.symm (Nat.ne_of_lt auz))).trans hBA
 rw[hV];refine wpIn_mono (X6 V hVt hVb) ?_;rintro e a3 W3 hp;cases e with
 | normal=>
  obtain⟨hk,hs,hi⟩:=hp;have h3:=hk.same _ _ hB hVl rfl;have h3d:=hk.same _ _ hD hVd rfl;have ap5:=(Array.getElem?_eq_some_iff.1 h3).1;exact⟨_,_,run_endRound (P:=P) none h3,.inl ⟨rfl,⟨hI _ _ hi (tC.put W3 _ IY),World.putObj_heap_same ap5,(World.putObj_heap_other hDl).trans h3d⟩,fun b hb=>by cases hb⟩⟩
 | ret=>
  obtain⟨hk,hi⟩:=hp;have h3:=hk.same _ _ hB hVl rfl;have h3d:=hk.same _ _ hD hVd rfl;have ap5:=(Array.getElem?_eq_some_iff.1 h3).1;exact⟨_,_,run_endRound (P:=P) (some .ret) h3,.inr ⟨rfl,hIx _ _ hi (tC.put W3 _ IY),World.putObj_heap_same ap5,(World.putObj_heap_other hDl).trans h3d⟩⟩
 | exit id=>exact hp.elim
 | goto t=>exact hp.elim
 | panic ch=>exact hp.elim
 | outgrown=>exact hp.elim
theorem ah9 {n:Nat} {g:Operand} {ps:Array Tmp} {assign body:Code} {Q:Exit→Act→World→Prop} {a:Act} {w:World}
 {gf:Nat} {lb:Array Value} (hg:a.eval g =.func (.func gf) #[] lb) (eg:∀args w,(callFunc gf args).run P w =.ok (.enter gf args) w)
 {encs:α→Array Value} (hps:∀x,(encs x).size=ps.size) {xs:List α} (Z:World→Prop) (hseq:akZ Z P n gf lb encs xs [] w)
 (keep:Nat→Prop) (hk2:∀r,w.heap.size≤r→¬keep r)
 (I Ix:List α→World→Prop) (hIZ:∀s W,I s W→Z W) (hI:∀s A B,I s A→tC keep A B→I s B) (hIx:∀s A B,Ix s A→tC keep A B→Ix s B) (h0:I [] w) (a₁:α→Nat→Act) (tB:TypeId) (cs:α→Array Value)
 (Ik:∀(l:Nat) (x:α) (W:World) (K:Act→World→Prop),(∀WA,ah W WA→aF WA W.heap.size tB (cs x)→K (a₁ x W.heap.size) WA)→
  assign.wpIn (Fence.wide.inRound l) n P (Exit.then K (fun _ _ _=>False)) {tmps:=(ps.zip (encs x)).foldl (fun t (p,v)=>t.setIfInBounds p v) a.tmps,defers:=[]} W)
 (X6:∀(l b:Nat) (pre:List α) (x:α) (W:World),I pre W→(pre++[x]) <+: xs→aF W b tB (cs x)→body.wpIn (Fence.wide.inRound l) n P (Po w.heap.size [] I Ix (pre++[x]) W) (a₁ x b) W)
 (hdone:∀(D:Nat) (W:World),w.heap.size≤D→I xs W→W.heap[D]? = some (.deferred (some []))→Q .normal {a with defers:={target:=.collected D,args:= #[]}::a.defers} W)
 (ai5:∀(D:Nat) (pre:List α) (W:World),w.heap.size≤D→pre <+: xs→Ix pre W→W.heap[D]? = some (.deferred (some []))→Code.ret.wpIn Fence.wide (n + 2) P Q {a with defers:={target:=.collected D,args:= #[]}::a.defers} W) :
 (Code.rangeFunc g ps assign body).wpIn Fence.wide (n + 2) P Q a w:=by
 refine wpIn_rangeFunc ?_;intro fn _;obtain⟨R,hR⟩:∃R:LoopState→Option Code→Loop,R=fun st pe=>{state:=st,pending:=pe,fn,tmps:=a.tmps,params:=ps,assign,body,defers:=w.heap.size}:=⟨_,rfl⟩
 obtain⟨W1,hW1⟩:∃W1,(w.alloc (.deferred (some []))).alloc (.loop (R .ready none))=W1:=⟨_,rfl⟩;have z1:(w.alloc (.deferred (some []))).heap.size=w.heap.size+1:=World.size_alloc _ _;have Y9:W1.heap[w.heap.size+1]? = some (.loop (R .ready none)):=by
  rw[←hW1,←z1];exact heap_alloc_new _ _
 have hd1:W1.heap[w.heap.size]? = some (.deferred (some [])):=by
  rw[←hW1];exact (Below.heap_alloc _ _ _ σ).trans (heap_alloc_new w _)
 have hI1:I [] W1:=by rw[←hW1];exact hI _ _ _ (hI _ _ _ h0 (tC.alloc keep _ _)) (tC.alloc keep _ _)
 have hs1:Same [] w W1:=fun b hb=>by cases hb
 have hz1:w.heap.size≤W1.heap.size:=by rw[←hW1];simp;omega
 have Vd:∀{A B:World} {row:Option Nat} {k:Nat} {o:Obj},A.grownBy B row→(∀r,row=some r→r∈([]:List Nat))→A.heap[k]? = some o→B.heap[k]? = some o:=fun hg hr h=>
  (hg.block _ (Array.getElem?_eq_some_iff.1 h).1 (fun e=>by have:=hr _ e.symm;cases this)).trans h
 have hturn:∀{A B:World} {row:Option Nat},A.grownBy B row→(∀r,row=some r→r∈([]:List Nat))→tC keep A B:=fun hg hr=>⟨_,hg,fun r e=>by have:=hr r e;cases this⟩
 refine⟨w.heap.size+1,[{target:=.collected w.heap.size,args:= #[]}],W1,{target:=.fn (.func gf) lb,args:= #[.func (.yield (w.heap.size+1)) #[] #[]]},W1,gf,
  #[.func (.yield (w.heap.size+1)) #[] #[]]++lb,W1,?_,?_,?_,?_,(fun h=>by cases h),?_⟩
 ·rw[←hW1,hR];exact run_enterLoop_outer _ _ _ _ _
 ·simp only[resolve,hg];simp[go_sem]
 ·intro f' _;trivial
 ·simp[invoke,go_sem,eg]
 ·refine (hseq (w.heap.size+1)
   (fun pre W=>I pre W∧W.heap[w.heap.size+1]? = some (.loop (R .ready none))∧W.heap[w.heap.size]? = some (.deferred (some [])))
   (fun pre W=>Ix pre W∧W.heap[w.heap.size+1]? = some (.loop (R .done (some .ret)))∧W.heap[w.heap.size]? = some (.deferred (some [])))
   W1 hs1 hz1
   (fun s A B row hs hg' hr=>⟨hI s A B hs.1 (hturn hg' hr),Vd hg' hr hs.2.1,Vd hg' hr hs.2.2⟩)
   (fun s A B row hs hg' hr=>⟨hIx s A B hs.1 (hturn hg' hr),Vd hg' hr hs.2.1,Vd hg' hr hs.2.2⟩)
   (fun s W hs=>hIZ s W hs.1) ?_ ⟨hI1,Y9,hd1⟩).mono ?_
  ·rintro pre x W ⟨hi,hl,hd⟩ hpx;rw[hR] at hl ⊢;exact adu (keep:=keep) (B:=w.heap.size) (hI _) (hIx _) ω (Nat.le_refl _) ω (hk2 _ ω) hl hd (hps x) (fun K hK=>Ik _ x W K hK) (fun V hV hb=>X6 _ _ pre x V (hI _ _ _ hi hV) hpx hb)
  ·rintro e W2 ⟨⟨v,rfl⟩,(⟨hi,hl,hd⟩ | ⟨pre,ae7,hi,hl,hd⟩)⟩
   ·rw[hR] at hl;exact⟨none,_,run_endLoop (P:=P) hl σ,hdone _ _ (Nat.le_refl _) (hI _ _ _ hi (tC.put W2 _ (hk2 _ ω))) ((World.putObj_heap_other ω).trans hd)⟩
   ·rw[hR] at hl;exact⟨some .ret,_,run_endLoop (P:=P) hl σ,ai5 _ pre _ (Nat.le_refl _) ae7 (hIx _ _ _ hi (tC.put W2 _ (hk2 _ ω))) ((World.putObj_heap_other ω).trans hd)⟩
theorem aae {n:Nat} {g:Operand} {ps:Array Tmp} {assign body:Code} {Q:Exit→Act→World→Prop} {a:Act} {w:World} (f:Array Value→α→Nat→Array Value)
 {gf:Nat} {lb:Array Value} (hg:a.eval g =.func (.func gf) #[] lb) (eg:∀args w,(callFunc gf args).run P w =.ok (.enter gf args) w)
 {encs:α→Array Value} (hps:∀x,(encs x).size=ps.size) {xs:List α} (Z:World→Prop) (hseq:akZ Z P n gf lb encs xs [] w)
 (keep:Nat→Prop) (hk2:∀r,w.heap.size≤r→¬keep r)
 (I Ix:List α→World→Prop) (hIZ:∀s W,I s W→Z W) (hI:∀s A B,I s A→tC keep A B→I s B) (hIx:∀s A B,Ix s A→tC keep A B→Ix s B) (h0:I [] w) (tB:TypeId) (cs:α→Array Value)
 (Ik:∀(l:Nat) (x:α) (W:World) (K:Act→World→Prop),(∀WA,ah W WA→aF WA W.heap.size tB (cs x)→K {tmps:=f a.tmps x W.heap.size,defers:=[]} WA)→
  assign.wpIn (Fence.wide.inRound l) n P (Exit.then K (fun _ _ _=>False)) {tmps:=(ps.zip (encs x)).foldl (fun t (p,v)=>t.setIfInBounds p v) a.tmps,defers:=[]} W)
 (X6:∀(l b:Nat) (pre:List α) (x:α) (W:World),I pre W→(pre++[x]) <+: xs→aF W b tB (cs x)→body.wpIn (Fence.wide.inRound l) n P (Po w.heap.size [] I Ix (pre++[x]) W) {tmps:=f a.tmps x b,defers:=[]} W)
 (hdone:∀(D:Nat) (W:World),w.heap.size≤D→I xs W→W.heap[D]? = some (.deferred (some []))→Q .normal {a with defers:={target:=.collected D,args:= #[]}::a.defers} W)
 (ai5:∀(D:Nat) (pre:List α) (W:World),w.heap.size≤D→pre <+: xs→Ix pre W→W.heap[D]? = some (.deferred (some []))→Code.ret.wpIn Fence.wide (n + 2) P Q {a with defers:={target:=.collected D,args:= #[]}::a.defers} W) :
 (Code.rangeFunc g ps assign body).wpIn Fence.wide (n + 2) P Q a w:=
 ah9 hg eg hps Z hseq keep hk2 I Ix hIZ hI hIx h0 (fun x b=>{tmps:=f a.tmps x b,defers:=[]}) tB cs Ik X6 hdone ai5
end
section
variable {P:Program} {ops:Array Oper} {S:World→Prop} {Q:Exit→Act→World→Prop}
theorem Xa {l n:Nat} {row:String} {args:Array Value} {w:World} {R:Value→World→Prop} (h:Rows P row args w R):RowsIn (Fence.wide.inRound l) n P row args w R:=
 fun c cs _=>let ⟨v,w',r,s⟩:=h c cs;⟨v,w',r,stepsIn_wide.2 s⟩
def MK (l:List Oper):Bool:=l.all fun o=>match o.op with | .defer _=>false | _=>true
theorem aax {l:List Oper} (h:MK l = true) {i:Nat} {o:Oper} (hi:l.toArray[i]? = some o):∀c,o.op≠.defer c:=fun c e=>by
 have hm:o∈l:=by rw[List.getElem?_toArray] at hi;exact List.mem_of_getElem? hi
 have:=List.all_eq_true.1 h o hm;rw[e] at this;cases this
theorem alp {l n:Nat} {L:List Oper} (SV:¬LetsOut Q) (hnd:MK L=true) {i:Nat} {a:Act} {w:World} {K K':Act→World→Prop} (hK:∀a w,K a w→K' a w) (h:wpOp P L.toArray Q i K a w):wpOpIn (Fence.wide.inRound l) n P L.toArray Q i K' a w:=by
 unfold wpOp at h;unfold wpOpIn;cases ho:L.toArray[i]? with
 | none=>
  rw[ho] at h;exact hK _ _ h
 | some o=>
  rw[ho] at h;simp only at h ⊢;split at h
  ·rename_i hw;rw[if_pos hw];rcases h with h | h
   ·refine⟨fun _ _=>trivial,?_⟩;rw[Oper.semAt_plain _ _ _ (aax hnd ho)];unfold Oper.wp at h;generalize (execOp a.eval o).run P w = r at *
    cases r with
    | ok x w'=>
     cases x <;> simp only[Oper.upon,Oper.uponIn] at h ⊢ <;>
      first
       | exact hK _ _ h
       | exact⟨fun h=>(by cases h),CallsIn.inRound l (callsIn_wide.2 (Calls.mono h (fun e w'' he=>by cases e <;> first | exact hK _ _ he | exact he)))⟩
       | exact⟨fun h=>(by cases h),Xa (Rows.mono h (fun _ _ he=>hK _ _ he))⟩
       | exact h.elim
    | halt x w'=>cases x <;> simp only[Oper.upon,Oper.uponIn] at h ⊢ <;> exact h
   ·exact absurd h.2 SV
  ·rename_i hw;rw[if_neg hw];exact⟨fun _ _=>trivial,hK _ _ h⟩
theorem Wv {l n:Nat} {L:List Oper} (SV:¬LetsOut Q) (hnd:MK L=true):∀(fuel:Nat) (listed:Array Bool) (a:Act) (w:World),wpAny P .any L.toArray Q fuel listed a w→wpAnyIn (Fence.wide.inRound l) n P .any L.toArray Q fuel listed a w
 | 0,_,_,_,h=>h
 | fuel+1,_,_,_,h=>⟨h.1,fun i hi=>alp SV hnd (fun a w hk=>Wv SV hnd fuel _ a w hk) (h.2 i hi)⟩
theorem ru {lo n id:Nat} {a:Act} {w:World} {l:List Oper} (SV:¬LetsOut Q) (hnd:MK l = true) (hm:P.follows .mixedOrders=true)
 (h:jQ P l.toArray Q (ah w) l.length (Array.replicate l.length false) a w):(Code.region id l.toArray true).wpIn (Fence.wide.inRound lo) n P Q a w:=by
 refine wpIn_region_any hm (Wv SV hnd _ _ _ _ (yZ (S:=ah w) _ _ _ _ (CQ _) (ah.refl w).drew ?_));have:=oU (ah.refl w).drew h;simpa using this
end
attribute [local go_sem] Oper.semAt_some
theorem ah.U1 {W W':World} (h:ah W W') (B:Nat):KeepsFrom B W W':=⟨h.size,fun k _ _ hk _=>(h.below.block k (Array.getElem?_eq_some_iff.1 hk).1).trans hk⟩
theorem aF.BA {keep:Nat→Prop} {A B:World} {g:Nat} {t:TypeId} {cs:Array Value} (h:aF A g t cs) (hk:keep g) (ht:tC keep A B):aF B g t cs:=by
 obtain⟨row,hg,hr⟩:=ht;exact (hg.block g h.lt (fun e=>hr g e.symm hk)).trans h
theorem ah.BA {keep:Nat→Prop} {w A B:World} (h:ah w A) (hk:∀r,r < w.heap.size→keep r) (ht:tC keep A B):ah w B:=by
 obtain⟨row,hg,hr⟩:=ht;exact h.aO hg (fun g e=>Nat.le_of_not_lt (fun hl=>hr g e (hk g hl)))
theorem tC.size {keep:Nat→Prop} {A B:World} (h:tC keep A B):A.heap.size≤B.heap.size:=by
 obtain⟨row,hg,hr⟩:=h;exact hg.size
theorem aaP {F:Fence} {n:Nat} {P:Program} {fn:Func} {R:Ending→World→Prop} {a:Act} {w:World} {v:Value} (hr:(results fn a.tmps).run P w =.ok v w) (hd:a.defers=[]) (hR:R (.returned v) w):bodyPostM F n P fn R .ret a w:=by
 show LeavesInM F n P fn a.tmps R a.defers .returning w
 rw[hd];exact⟨v,hr,hR⟩
theorem Ob {F:Fence} {n D:Nat} {P:Program} {fn:Func} {R:Ending→World→Prop} {a:Act} {w:World} {v:Value} (hd:a.defers=[{target:=.collected D,args:= #[]}]) (hK:w.heap[D]? = some (.deferred (some [])))
 (hr:(results fn a.tmps).run P (w.putObj D (.deferred none))=.ok v (w.putObj D (.deferred none))) (hR:R (.returned v) (w.putObj D (.deferred none))):bodyPostM F n P fn R .ret a w:=by
 show LeavesInM F n P fn a.tmps R a.defers .returning w
 rw[hd];exact⟨by simp,.inl ⟨_,_,rfl,run_takeDeferred hK,v,hr,hR⟩⟩
theorem aF.ah_ {A:World} {g:Nat} {t:TypeId} {cs:Array Value} {l:Nat} (h:aF A g t cs) (o:Obj) (hne:g≠l):aF (A.putObj l o) g t cs:=(World.putObj_heap_other hne).trans h
theorem ah.ah_ {w W:World} {D:Nat} (h:ah w W) (o:Obj) (hD:w.heap.size≤D):ah w (W.putObj D o):=
 ah.BA (keep:=fun r=>r < w.heap.size) h (fun _ h=>h) (tC.put _ _ ω)
theorem anh {w w5:World} {D g:Nat} {u r:Value} {t:TypeId} (bR:aF w5 g t #[r]) (hg:ah w w5) (dN:w.heap.size≤g) (hK:w5.heap[D]? = some (.deferred (some []))) (hD:g < D) :
 (w5.setCell ⟨g,0,none⟩ u).heap[D]? = some (.deferred (some []))∧aF ((w5.setCell ⟨g,0,none⟩ u).putObj D (.deferred none)) g t #[u]∧ah w ((w5.setCell ⟨g,0,none⟩ u).putObj D (.deferred none)):=by
 have h1:aF (w5.setCell ⟨g,0,none⟩ u) g t #[u]:=bR.bD 0 u;have h3:(w5.setCell ⟨g,0,none⟩ u).heap[D]? = some (.deferred (some [])):=(Below.heap_setCell _ _ _ _ (by simp;omega)).trans hK;exact⟨h3,h1.ah_ _ ω,ah.ah_ (ah.setCell hg dN _) _ ω⟩
theorem fV {a:iD} (h:bH a = true):a.src.length≤12∧a.fs.length≤8∧∀f∈a.fs,f.n.length+f.v.length≤1000∧f.v.length≤200:=by
 unfold bH at h;simp only[Bool.and_eq_true] at h;have uf:=yJ h.1.1.1.1.1;have I4:=IB h.1.1.1.2;refine⟨uf.2,I4.1,fun f hf=> ?_⟩;have:=I4.2 f hf;have:=yJ this.1;omega
theorem aeY {ft:List bK→cZ→Bool} {x:Aq} {c:dA} {lA:Option Addr} {lm lk:Nat} {xs:List dA} {id:Nat} {now:Int} (w:World) (hx:x.At w) (hbm:x.bm≤1000000) (hc:bW w 2 dW c.A c.m c.a.fs) (hcm:c.m≤1000) (hcT:∀f∈c.a.fs,f.v.length≤1000000)
 (hA:bW w 6 tq lA lm xs) (hat:∀a∈xs,a.At w) (JG:lm≤1000) (hfw:∀y∈x.i.wh,lN ft y) (hff:∀y∈x.i.from_,lN ft y) :
 Calls Tryz.prog 147 #[WJ x,.slice lA lm lk,.int .u64 (id:Int),je c,.int .i64 now] w fun e w'=>e =.returned (.bool (byI ft x.i (xs.map (·.a)) id c.a now))∧ah w w':=by
 have cW:=ζ (fun W (hW:ah w W)=>Nc (c:=c.k) (c2:=x.wk) W (hc.keep hW) ω (hx.wh.keep hW) hx.Zo hcT hfw);have cF:=ζ (fun (a:dA) (ha:a∈xs) (hr:bH a.a = true) W (hW:ah w W)=>Nc (c:=a.k) (c2:=x.fk) W ((hat a ha).arr.keep hW) (by have:=(hat a ha).le;omega) (hx.fr.keep hW) hx.aqY (fun f hf=>by have:=((fV hr).2.2 f hf).2;omega) hff);have cL:=ζ (fun (a:dA) (ha:a∈xs) W (hW:ah w W)=>agt (c0:=x.bk) (c:=a.k) (c2:=c.k) W (hx.fH.keep hW) ((hat a ha).arr.keep hW) (hc.keep hW) hbm (by have:=(hat a ha).le;omega) ω);have cI:=ζ (fun (a:dA) (ha:a∈xs) (hr:bH a.a = true) W (hW:ah w W)=>U2 W ((hat a ha).arr.keep hW) (by have:=(fV hr).1;omega) (by have:=(fV hr).2.1;have h2:=(hat a ha).arr.1;omega) (fun f hf=>((fV hr).2.2 f hf).1));have cG:=ζ (fun W (hW:ah w W)=>abK (lk:=lk) (now:=now) W (hA.keep hW) (fun a ha=>(hat a ha).keep hW));have amR:=ζ (fun B W=>abJ (lA:=lA) (lk:=lk) (xs:=xs) (now:=now) 1 B JG W);have hZg:=ζ (fun W B (hW:ah w W) (h1:aF W B 59 #[.slice lA lm lk]) (h2:aF W (B+1) 3 #[.int .i64 now])=>(⟨h1,h2,hA.keep hW,fun a ha=>(hat a ha).keep hW⟩:Y1 B lA lm lk xs now W));obtain⟨hit,afc,hR⟩:∃hit:dA→Bool,(∀a:dA,hit a = (x.i.from_.all (ft a.a.fs)&&(Gn x.i.fH a.a.fs c.a.fs&& !decide (BU a.a = id))))∧byI ft x.i (xs.map (·.a)) id c.a now=(x.i.wh.all (ft c.a.fs)&&(xs.filter fun a=>bH a.a &&eP a.a now).any hit):=
  ⟨fun a=>aqc ft x.i id c.a a.a,fun a=>rfl,by rw[anA,List.filter_map,List.any_map];rfl⟩
 have JA:∀a∈xs.filter (fun a=>bH a.a &&eP a.a now),a∈xs∧bH a.a = true:=fun a ha=>by
  have h:=List.mem_filter.1 ha;simp only[Bool.and_eq_true] at h;exact⟨h.1,h.2.1⟩
 rw[hR];clear hR hx hc hcT hA hat hfw hff hcm hbm JG;replace afc:=ζ afc;generalize (xs.filter fun a=>bH a.a &&eP a.a now)=ys at *
 generalize x.i.wh.all (ft c.a.fs)=FW at *
 replace JA:=ζ JA;obtain⟨⟨II,Na,⟨clv,cc⟩,cf,ct⟩,cA,cm,ck⟩:=c;obtain⟨⟨xb,⟨xlv,xc⟩,xf,xw⟩,xbA,xbm,xbk,xfA,xfm,xfk,xwA,xwm,xwk⟩:=x;unfold WJ je at *
 simp only at *
 refine (callsIn_wide (n:=3)).1 ?_;refine callsIn_of_wp_marks Tryz.func147 rfl trivial ?_ rfl;simp only[Tryz.ntmps147,List.size_toArray,List.length_cons,List.length_nil,Nat.reduceAdd,Nat.reduceSub,Array.replicate_succ,Array.replicate_zero,List.push_toArray,List.append_toArray,List.nil_append,List.cons_append];gi_wp2_with fail
 refine⟨trivial,(callsIn_wide.2 (cW.out _ γ)).mono ?_⟩;rintro e w1 ⟨rfl,hb1⟩;have bR:aF w1 w.heap.size 77 #[.slice xbA xbm xbk,.int .i64 xlv,.int .u32 (xc:Int),.slice xfA xfm xfk,.slice xwA xwm xwk]:=((((aF.new w _ _).alloc _).alloc _).alloc _).grows hb1;have bI:aF w1 (w.heap.size+1) 33 #[.int .u64 (id:Int)]:=(((aF.kW w _ _ _).alloc _).alloc _).grows hb1;have bC:aF w1 (w.heap.size+1+1) 57 #[.string ⟨II.toArray⟩,.slice cA cm ck,.int .i64 clv,.int .u32 (cc:Int),.int .i64 cf,.int .i64 ct]:=((aF.zK w _ _ _ _).alloc _).grows hb1;have bT:aF w1 (w.heap.size+1+1+1) 4 #[.bool false]:=(aF.aaA w _ _ _ _ _).grows hb1;have hg1:ah w w1:=(((((ah.refl w).alloc _).alloc _).alloc _).alloc _).trans hb1;have hz1:=hb1.size;simp only[World.size_alloc] at hz1;clear hb1 cW;cases FW with
 | false=>
  have t0:=bT.c0;have tf:=bT.frozen 0;have tl:=bT.lt;clear bR bI bC;gi_wp2_with fail
  refine aaP (v:=.bool false) ?_ rfl ⟨rfl,hg1.setCell (by simp;omega) _⟩;simp[results,Tryz.results147,go_sem,t0]
 | true=>
  gi_wp2_with fail
  refine⟨trivial,(callsIn_wide.2 (cG.out _ hg1)).mono ?_⟩;rintro e w2 ⟨rfl,hZ,hb2⟩;have bR2:=bR.grows hb2;have bI2:=bI.grows hb2;have bC2:=bC.grows hb2;have bT2:=bT.grows hb2;have hg2:ah w w2:=hg1.trans hb2;have hz2:=hZ.n.lt;obtain⟨BZ,hBZ⟩:∃BZ,BZ=w1.heap.size:=⟨_,rfl⟩;rw[←hBZ] at hZ hz2 ⊢;have hbz:w.heap.size+4≤BZ:=ω;replace hBZ:=ζ hBZ;clear bR bI bC bT hg1 hb2 cG;gi_wp2_with fail
  refine aae (n:=1) (fun t x b=>(t.setIfInBounds 21 (je x)).setIfInBounds 11 (.pointer (some ⟨b,0,none⟩))) (gf:=215) (lb:= #[.pointer (some ⟨BZ,0,none⟩),.pointer (some ⟨BZ+1,0,none⟩)]) rfl (enters_of Tryz.func215 κ rfl)
   (encs:=fun a:dA=> #[je a]) (fun _=>rfl) (xs:=ys) (Y1 BZ lA lm lk xs now) (amR.o BZ w2)
   (fun r=>r < w2.heap.size) (by intro r hr;omega)
   (fun pre W=>Hid (pre.any hit=false)∧Hid (aF W w.heap.size 77 #[.slice xbA xbm xbk,.int .i64 xlv,.int .u32 (xc:Int),.slice xfA xfm xfk,.slice xwA xwm xwk])∧Hid (aF W (w.heap.size+1) 33 #[.int .u64 (id:Int)])∧Hid (aF W (w.heap.size+1+1) 57 #[.string ⟨II.toArray⟩,.slice cA cm ck,.int .i64 clv,.int .u32 (cc:Int),.int .i64 cf,.int .i64 ct])∧Hid (aF W (w.heap.size+1+1+1) 4 #[.bool false])∧Hid (aF W BZ 59 #[.slice lA lm lk])∧Hid (aF W (BZ+1) 3 #[.int .i64 now])∧Hid (ah w W)∧Hid (w2.heap.size≤W.heap.size))
   (fun pre W=>Hid (pre.any hit=true)∧Hid (aF W (w.heap.size+1+1+1) 4 #[.bool true])∧Hid (ah w W))
   ?hIZ ?hI ?hIx ?h0 57 (fun x:dA=> #[.string ⟨x.a.src.toArray⟩,.slice x.A x.m x.k,.int .i64 x.a.l.lv,.int .u32 (x.a.l.c:Int),.int .i64 x.a.f,.int .i64 x.a.t]) ?assign ?body ?done ?stop
  case hIZ=>
   rintro pre W ⟨-,-,-,-,-,h1,h2,h3,-⟩;exact hZg.o W BZ h3.o h1.o h2.o
  case hI=>
   rintro pre A B ⟨h1,h2,h3,h4,h5,h6,h7,h8,h9⟩ ht;exact⟨h1,h2.o.BA (by show _ < _;omega) ht,h3.o.BA (by show _ < _;omega) ht,h4.o.BA (by show _ < _;omega) ht,h5.o.BA (by show _ < _;omega) ht,h6.o.BA (by show _ < _;omega) ht,h7.o.BA (by show _ < _;omega) ht,h8.o.BA (fun r hr=>by show _ < _;omega) ht,Nat.le_trans h9.o ht.size⟩
  case hIx=>
   rintro pre A B ⟨h1,h2,h3⟩ ht;exact⟨h1,h2.o.BA (by show _ < _;omega) ht,h3.o.BA (fun r hr=>by show _ < _;omega) ht⟩
  case h0=>exact⟨rfl,bR2,bI2,bC2,bT2,hZ.l,hZ.n,hg2,Nat.le_refl _⟩
  case assign=>
   intro l x W K hK;obtain⟨⟨xs1,xs2,⟨xs3,xs4⟩,xs5,xs6⟩,xs7,xs8,xs9⟩:=x;unfold je;simp only;gi_wp2
   exact hK _ ((ah.refl W).alloc _) (aF.new W _ _)
  case body=>
   rintro l b pre x W ⟨h1,h2,h3,h4,h5,h6,h7,h8,h9⟩ hpx EL;have wu:x∈ys:=hpx.subset σ;obtain⟨hx1,hx2⟩:=JA.o x wu;have J3:=cF.out x hx1 hx2;have cLx:=cL.out x hx1;have cIx:=cI.out x hx1 hx2;have auK:hit x = _:=afc.o x;have qp:(pre++[x]).any hit=hit x:=by
    rw[List.any_append,h1.o];simp
   rw[auK] at qp;generalize xf.all (ft x.a.fs)=FA at *
   generalize Gn xb x.a.fs Na=FL at *
   generalize BU x.a = ID at *
   obtain⟨⟨xs1,xs2,⟨xs3,xs4⟩,xs5,xs6⟩,xs7,xs8,xs9⟩:=x;unfold je at *
   simp only at J3 cLx cIx EL ⊢;have x0:=EL.c0;have x1:=EL.c1;have x2:=EL.c2;have x3:=EL.c3;have x4:=EL.c4;have x5:=EL.c5;have xl:=EL.lt;have r0:=h2.o.c0;have r3:=h2.o.c3;have rl:=h2.o.lt;have i0:=h3.o.c0;have il:=h3.o.lt;have c1:=h4.o.c1;have cl:=h4.o.lt;have hmx:Tryz.prog.follows .mixedOrders=true:=by kernel_rfl
   have eG:=ah.refl W;replace J3:=ζ (fun V (hV:ah W V)=>J3 V (h8.o.trans hV));replace cLx:=ζ (fun V (hV:ah W V)=>cLx V (h8.o.trans hV));replace cIx:=ζ (fun V (hV:ah W V)=>cIx V (h8.o.trans hV));replace qp:=ζ qp;clear EL auK wu hx1 hx2 amR hZg JA afc cF cL cI hZ bR2 bI2 bC2 bT2 hg2 hz2;gi_wp2_with fail
   cases FA with
   | false=>
    replace qp:Hid ((pre++[_]).any hit=false):=qp;refine ru (by rintro⟨_,_,h⟩;exact h) κ κ ?_;refine rK (.range 20) 0 ?_;iterate 4 refine aC ?_
    refine aY (.bool false) rfl χ (fun wq eG=> ?_) ?_
    ·obtain⟨nR,mY⟩:=bQ eG;go_simp;exact Calls.mono (J3.out wq eG) (fun e w'' h=>h)
    go_simp;iterate 7 refine aC ?_
    refine uJ rfl χ ?_;go_simp;iterate 3 refine aC ?_
    refine uJ rfl χ ?_;go_simp;iterate 3 refine aC ?_
    refine aB ?_;refine aJ κ (fun wN hN hS=> ?_);gi_wp2_with fail
    exact⟨hN.U1 _,(fun b hb=>by cases hb),qp,h2.o.grows hN,h3.o.grows hN,h4.o.grows hN,h5.o.grows hN,h6.o.grows hN,h7.o.grows hN,h8.o.trans hN,Nat.le_trans h9.o hN.size⟩
   | true=>
    cases FL with
    | false=>
     replace qp:Hid ((pre++[_]).any hit=false):=qp;refine ru (by rintro⟨_,_,h⟩;exact h) κ κ ?_;refine rK (.range 20) 0 ?_;iterate 4 refine aC ?_
     refine aY (.bool true) rfl χ (fun wq eG=> ?_) ?_
     ·obtain⟨nR,mY⟩:=bQ eG;go_simp;exact Calls.mono (J3.out wq eG) (fun e w'' h=>h)
     go_simp;iterate 7 refine aC ?_
     refine aY (.bool false) rfl χ (fun wq eG=> ?_) ?_
     ·obtain⟨nR,mY⟩:=bQ eG;go_simp;exact Calls.mono (cLx.out wq eG) (fun e w'' h=>h)
     go_simp;iterate 3 refine aC ?_
     refine uJ rfl χ ?_;go_simp;iterate 3 refine aC ?_
     refine aB ?_;refine aJ κ (fun wN hN hS=> ?_);gi_wp2_with fail
     exact⟨hN.U1 _,(fun b hb=>by cases hb),qp,h2.o.grows hN,h3.o.grows hN,h4.o.grows hN,h5.o.grows hN,h6.o.grows hN,h7.o.grows hN,h8.o.trans hN,Nat.le_trans h9.o hN.size⟩
    | true=>
     by_cases hid:ID=id
     ·subst hid;replace qp:Hid ((pre++[_]).any hit=false):=ζ (by rw[qp.o];simp);refine ru (by rintro⟨_,_,h⟩;exact h) κ κ ?_;refine rK (.range 20) 0 ?_;iterate 4 refine aC ?_
      refine aY (.bool true) rfl χ (fun wq eG=> ?_) ?_
      ·obtain⟨nR,mY⟩:=bQ eG;go_simp;exact Calls.mono (J3.out wq eG) (fun e w'' h=>h)
      go_simp;iterate 7 refine aC ?_
      refine aY (.bool true) rfl χ (fun wq eG=> ?_) ?_
      ·obtain⟨nR,mY⟩:=bQ eG;go_simp;exact Calls.mono (cLx.out wq eG) (fun e w'' h=>h)
      go_simp;iterate 3 refine aC ?_
      refine aY (.int .u64 (ID:Int)) rfl χ (fun wq eG=> ?_) ?_
      ·obtain⟨nR,mY⟩:=bQ eG;go_simp;exact Calls.mono (cIx.out wq eG) (fun e w'' h=>h)
      go_simp;iterate 3 refine aC ?_
      refine aB ?_;refine aJ κ (fun wN hN hS=> ?_);gi_wp2_with fail
      exact⟨hN.U1 _,(fun b hb=>by cases hb),qp,h2.o.grows hN,h3.o.grows hN,h4.o.grows hN,h5.o.grows hN,h6.o.grows hN,h7.o.grows hN,h8.o.trans hN,Nat.le_trans h9.o hN.size⟩
     ·replace qp:Hid ((pre++[_]).any hit=true):=ζ (by rw[qp.o];simp[hid]);have amH:¬(ID:Int)=(id:Int):=ω;refine ru (by rintro⟨_,_,h⟩;exact h) κ κ ?_;refine rK (.range 20) 0 ?_;iterate 4 refine aC ?_
      refine aY (.bool true) rfl χ (fun wq eG=> ?_) ?_
      ·obtain⟨nR,mY⟩:=bQ eG;go_simp;exact Calls.mono (J3.out wq eG) (fun e w'' h=>h)
      go_simp;iterate 7 refine aC ?_
      refine aY (.bool true) rfl χ (fun wq eG=> ?_) ?_
      ·obtain⟨nR,mY⟩:=bQ eG;go_simp;exact Calls.mono (cLx.out wq eG) (fun e w'' h=>h)
      go_simp;iterate 3 refine aC ?_
      refine aY (.int .u64 (ID:Int)) rfl χ (fun wq eG=> ?_) ?_
      ·obtain⟨nR,mY⟩:=bQ eG;go_simp;exact Calls.mono (cIx.out wq eG) (fun e w'' h=>h)
      go_simp;iterate 3 refine aC ?_
      refine aB ?_;refine aJ κ (fun wN hN hS=> ?_);have h5N:=h5.o.grows hN;have tf:=h5N.frozen 0;have t0:=h5N.c0;have tl:=h5N.lt;gi_wp2_with fail
      exact⟨(hN.U1 _).trans ((KeepsOthers.setCell _ _ _).from _),qp,h5N.bD 0 _,(h8.o.trans hN).setCell (by simp;omega) _⟩
  case done=>
   rintro D W hD ⟨h1,h2,h3,h4,h5,h6,h7,h8,h9⟩ hK;have t0:=h5.o.c0;have tf:=h5.o.frozen 0;have tl:=h5.o.lt;obtain⟨m1,m2,m3⟩:=anh (u:=.bool false) h5.o h8.o ω hK ω;have q0:=m2.cell 0;simp only[List.getElem?_toArray,List.getElem?_cons_zero] at q0;clear amR hZg JA afc cF cL cI hZ bR2 bI2 bC2 bT2 hg2 hz2;gi_wp2_with fail
   refine Ob (v:=.bool false) rfl m1 ?_ ⟨by rw[h1.o];rfl,m3⟩;simp[results,Tryz.results147,go_sem,q0]
  case stop=>
   rintro D pre W hD hp ⟨h1,h2,h3⟩ hK;have q0:(W.putObj D (.deferred none)).cell? ⟨w.heap.size+1+1+1,0,none⟩=some (.bool true):=(h2.o.ah_ _ ω).cell 0;have hwD:w.heap.size+1+1+1<D:=ω;have azX:Hid (ys.any hit=true):=ζ (by
    obtain⟨r,hr⟩:=hp;rw[←hr,List.any_append,h1.o];rfl)
   clear amR hZg JA afc cF cL cI hZ bR2 bI2 bC2 bT2 hg2 hz2;gi_wp2_with fail
   refine Ob (v:=.bool true) rfl hK ?_ ⟨by rw[azX.o];rfl,h3.o.ah_ _ ω⟩;simp[results,Tryz.results147,go_sem,q0]
end Go.Proofs.YtbhikkgpcmkonaaGreatDoor
