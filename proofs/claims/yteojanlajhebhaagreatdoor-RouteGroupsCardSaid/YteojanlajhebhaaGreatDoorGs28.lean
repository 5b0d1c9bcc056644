/- Parts: RefQ RefR RcJ LGro1 SamA RcK SamB LGro2 RcL GrpS -/
import Derived.Test.YteojanlajhebhaaGreatDoorGs0
import Derived.Test.YteojanlajhebhaaGreatDoorGs22
import Derived.Test.YteojanlajhebhaaGreatDoorGs27
import Derived.Test.YteojanlajhebhaaGreatDoorGs15
import Derived.Test.YteojanlajhebhaaGreatDoorGs17
import Derived.Test.YteojanlajhebhaaGreatDoorGs14
import Derived.Test.YteojanlajhebhaaGreatDoorGs12
import Derived.Test.YteojanlajhebhaaGreatDoorGs16
set_option maxRecDepth 100000
set_option maxHeartbeats 12800000
namespace Go.Proofs.YteojanlajhebhaaGreatDoor
open Go.RowKit
theorem VE {x:jq} (hn:x.n.length≤9223372036854775807) (hv:x.v.length≤9223372036854775807):Hf uM x:=by
 intro W;have cN:=ζ (fun w=>Fj x.n hn w);have cR:=ζ (fun w=>VA (s:=x.v) w hv);have hB:=ζ (aS.new W 118 #[.string ⟨x.n.toArray⟩,.int .i64 x.op,.string ⟨x.v.toArray⟩]);have hG:=ζ ((ah.refl W).alloc (.cells #[.string ⟨x.n.toArray⟩,.int .i64 x.op,.string ⟨x.v.toArray⟩] 118));obtain⟨R,hR⟩:∃R,R=uM x:=⟨_,rfl⟩;rw[←hR];unfold uM at hR;have hps:decide (ou x.v = 0)=decide (lJ x.v = 0):=by
  by_cases h:ou x.v = 0
  ·rw[decide_eq_true h,decide_eq_true ((Dk x.v).1 h)]
  ·rw[decide_eq_false h,decide_eq_false (fun e=>h ((Dk x.v).2 e))]
 rw[hps] at hR;unfold Fa;clear hps hn hv;generalize f_ x.n = NB at *
 go_enter Tryz.func96,Tryz.ntmps96
 go_wp2_with fail;refine (cN.out _).mono ?_;rintro e w2 ⟨rfl,hb2⟩;generalize W.alloc (.cells #[.string ⟨x.n.toArray⟩,.int .i64 x.op,.string ⟨x.v.toArray⟩] 118)=w1 at *
 replace hB:=ζ (hB.o.grows hb2);replace hG:=ζ (hG.o.trans hb2);clear hb2;have c1:=hB.o.c1;have c2:=hB.o.c2;have lB:=hB.o.lt;cases NB with
 | false=>
  simp only[Bool.false_and] at hR;subst hR;go_wp2;go_ret;exact⟨rfl,hG.o⟩
 | true=>
  by_cases h1:x.op<0
  ·have:decide (0≤x.op)=false:=decide_eq_false ω;simp only[this,Bool.true_and,Bool.false_and] at hR;subst hR;clear this;go_wp2;go_ret;exact⟨rfl,hG.o⟩
  ·by_cases h2:3<x.op
   ·have:decide (x.op≤3)=false:=decide_eq_false ω;simp only[this,Bool.and_false,Bool.false_and] at hR;subst hR;clear this;go_wp2;go_ret;exact⟨rfl,hG.o⟩
   ·by_cases h3:200<x.v.length
    ·have:decide (x.v.length≤200)=false:=decide_eq_false ω;simp only[this,Bool.and_false,Bool.false_and] at hR;subst hR;clear this;have h3i:(200:Int)<(x.v.length:Int):=ω;go_wp2;go_ret;exact⟨rfl,hG.o⟩
    ·have e1:decide (0≤x.op)=true:=decide_eq_true ω;have e2:decide (x.op≤3)=true:=decide_eq_true ω;have e3:decide (x.v.length≤200)=true:=decide_eq_true ω;have h3i:¬(200:Int)<(x.v.length:Int):=ω;rw[e1,e2,e3] at hR;simp only[Bool.true_and] at hR;clear e1 e2 e3 h3;go_wp2_with fail;refine (cR.out w2).mono ?_;rintro e w3 ⟨nd,rfl,hg3,-⟩;replace hG:=ζ (hG.o.trans hg3);replace hB:=ζ (hB.o.grows hg3);have rC:=ζ (show (Tryz.prog.info? 149).map (·.size)=some nd.cells.size by rw[kW];exact aZ);have Ij:=ζ (show Tryz.zeroCells149.size=nd.cells.size by rw[dn];exact (aN _ _ _).trans (kW nd).symm);have hox:=ζ (YF nd);have hgr:=(ah.refl w3).alloc (.cells nd.cells 149);replace hG:=ζ (hG.o.trans hgr);replace hB:=ζ (hB.o.grows hgr);have d1:(w3.alloc (.cells nd.cells 149)).cell? ⟨W.heap.size,1,none⟩=some (.int .i64 x.op):=hB.o.cell 1;have dB:=hB.o.lt;generalize lJ x.v = E at *
     clear hg3 hgr c1 c2 lB cR;by_cases h4:x.op<2
     ·have:decide (x.op<2)=true:=decide_eq_true h4;rw[this,Bool.true_or] at hR;subst hR;clear this;go_wp2_with (refine wpList_store_row rfl 149 (.tmp 3) (.tmp 29) rfl w3.heap.size nd.cells rfl rfl 149 _ (heap_alloc_new w3 _) rC.o Ij.o hox.o ?_;rw[World.setRow_alloc_new];generalize w3.alloc (.cells nd.cells 149)=w5 at *);go_ret;exact⟨rfl,hG.o⟩
     ·have:decide (x.op<2)=false:=decide_eq_false h4;rw[this,Bool.false_or] at hR;clear this;by_cases h5:E=0
      ·rw[decide_eq_true h5] at hR;subst hR;subst h5;go_wp2_with (refine wpList_store_row rfl 149 (.tmp 3) (.tmp 29) rfl w3.heap.size nd.cells rfl rfl 149 _ (heap_alloc_new w3 _) rC.o Ij.o hox.o ?_;rw[World.setRow_alloc_new];generalize w3.alloc (.cells nd.cells 149)=w5 at *);go_ret;exact⟨rfl,hG.o⟩
      ·rw[decide_eq_false h5] at hR;subst hR;have hei:((E:Int)==0)=false:=by rw[beq_eq_false_iff_ne];omega
       clear h5;go_wp2_with (refine wpList_store_row rfl 149 (.tmp 3) (.tmp 29) rfl w3.heap.size nd.cells rfl rfl 149 _ (heap_alloc_new w3 _) rC.o Ij.o hox.o ?_;rw[World.setRow_alloc_new];generalize w3.alloc (.cells nd.cells 149)=w5 at *);go_ret;exact⟨aU (by first | rfl | exact decide_eq_false ω),hG.o⟩
theorem I_ {P:Program} {o:Oper} {a:Act} {w:World} (ty:TypeId) (x:Operand) (ho:o.op=.load ty x)
 (g:Nat) (hx:a.eval x =.pointer (some ⟨g,0,none⟩)) (t:TypeId) (cs:Array Value) (fr:Nat×Nat) (d:TypeDesc) (hg:w.heap[g]? = some (.cells cs t fr))
 (hu:P.underlying ty=some d) (hd:(match d with | .struct _ | .array _ _=>true | _=>false)=true) (hi:(P.info? ty).map (·.size)=some cs.size) :
 (execOp a.eval o).run P w =.ok (.value (.agg cs)) w:=by
 unfold execOp;simp only[ho,hx,Instr.loadAt,Instr.sureAddr,Sem.run_bind,Sem.run_pure,Result.andThen_ok,run_loadVar_row w g t ty cs fr d hg hu hd hi]
def X5 (ft:List eu→jq→Bool) (x:jq):Prop:=∀(A:Option Addr) (m c:Nat) (l:List eu) (W:World),dH W 2 fU A m l→m≤9223372036854775807→(∀f∈l,f.v.length≤900000)→Calls Tryz.prog 66 #[.slice A m c,Fa x] W fun e w'=>e =.returned (.bool (ft l x))∧ah W w'
theorem aa7 {l:List eu} {n:List UInt8} (h:∀f∈l,f.v.length≤900000):(mG l n).length≤900000:=by
 unfold mG;cases hf:l.find? (fun f=>f.n ==n) with
 | none=>simp
 | some f=>exact h f (List.mem_of_find?_eq_some hf)
theorem acj {x:jq} (hn:x.n.length≤9223372036854775807) (hv:x.v.length≤9223372036854775807):X5 MS x:=by
 intro A m c l W hA hm hl;have cF:=ζ (VE hn hv);have cV:=ζ (fun w (hw:ah W w)=>abU (c:=c) (n:=x.n) w (hA.keep hw) hm);have cR:=ζ (fun w=>VA (s:=x.v) w hv);have hvl:=aa7 (n:=x.n) hl;have hB:=ζ (aS.new W 118 #[.string ⟨x.n.toArray⟩,.int .i64 x.op,.string ⟨x.v.toArray⟩]);have hg1:=(ah.refl W).alloc (.cells #[.string ⟨x.n.toArray⟩,.int .i64 x.op,.string ⟨x.v.toArray⟩] 118);have hG:=ζ hg1;obtain⟨R,hR⟩:∃R,R=MS l x:=⟨_,rfl⟩;rw[←hR];unfold MS at hR;have aki:uM x = true→2≤x.op→lJ x.v = 0:=fun h h2=>by
  unfold uM at h;simp only[Bool.and_eq_true,Bool.or_eq_true,decide_eq_true_eq] at h;rcases h.2 with h | h
  ·omega
  ·exact (Dk x.v).1 h
 have hop:uM x = true→0≤x.op∧x.op≤3:=fun h=>by
  unfold uM at h;simp only[Bool.and_eq_true,decide_eq_true_eq] at h;exact⟨h.1.1.1.2,h.1.1.2⟩
 unfold Fa;unfold Hf Fa at cF;clear hA hl hn hv;generalize hFB:uM x = FB at *
 generalize hVV:mG l x.n = V at *
 clear hFB hVV;go_enter Tryz.func66,Tryz.ntmps66
 go_wp2_with fail;refine (cF.out _).mono ?_;rintro e w2 ⟨rfl,hb2⟩;generalize W.alloc (.cells #[.string ⟨x.n.toArray⟩,.int .i64 x.op,.string ⟨x.v.toArray⟩] 118)=w1 at *
 replace hB:=ζ (hB.o.grows hb2);replace hG:=ζ (hG.o.trans hb2);clear hb2 cF hg1;have c0:=hB.o.c0;have lB:=hB.o.lt;cases FB with
 | false=>
  simp only[Bool.false_and] at hR;subst hR;go_wp2;go_ret;exact⟨rfl,hG.o⟩
 | true=>
  obtain⟨ho1,ho2⟩:=hop rfl;simp only[Bool.true_and] at hR;go_wp2_with fail;refine (cV.out _ hG.o).mono ?_;rintro e w3 ⟨rfl,hb3⟩;replace hB:=ζ (hB.o.grows hb3);replace hG:=ζ (hG.o.trans hb3);clear hb3 c0 lB cV hop;have c1:=hB.o.c1;have c2:=hB.o.c2;have lB:=hB.o.lt;by_cases h2:x.op<2
  ·clear aki;have hs:(x.op=0∧R=(V==x.v))∨(x.op=1∧R= !(V==x.v)):=by
    rcases (show x.op=0∨x.op=1 by omega) with h | h
    ·exact .inl ⟨h,by rw[hR,if_pos h]⟩
    ·exact .inr ⟨h,by rw[hR,if_neg ω,if_pos h]⟩
   clear hR;have hVx:∃B,(V==x.v)=B:=⟨_,rfl⟩;obtain⟨B,hVx⟩:=hVx;rcases hs with⟨h,hR⟩ | ⟨h,hR⟩
   ·rw[hVx] at hR;subst hR;rw[h] at c1;clear h h2 ho1 ho2;cases R with
    | true=>
     go_wp2;go_ret;exact⟨rfl,hG.o⟩
    | false=>
     go_wp2;go_ret;exact⟨rfl,hG.o⟩
   ·rw[hVx] at hR;rw[h] at c1;clear h h2 ho1 ho2;cases B with
    | true=>
     subst hR;go_wp2;go_ret;exact⟨rfl,hG.o⟩
    | false=>
     subst hR;go_wp2;go_ret;exact⟨rfl,hG.o⟩
  ·have hpe:=aki σ ω;have as6:oG x.v V=true↔jK (WY x.v) V:=by
    rw[ag8];exact⟨fun h=>h.2,fun h=>⟨hpe,h⟩⟩
   go_wp2_with fail;refine (cR.out w3).mono ?_;rintro e w4 ⟨nd,rfl,hg4,hN4⟩;have anR:=hN4 hpe;replace hG:=ζ (hG.o.trans hg4);replace hB:=ζ (hB.o.grows hg4);have rC:=ζ (show (Tryz.prog.info? 149).map (·.size)=some nd.cells.size by rw[kW];exact aZ);have Ij:=ζ (show Tryz.zeroCells149.size=nd.cells.size by rw[dn];exact (aN _ _ _).trans (kW nd).symm);have hox:=ζ (YF nd);have hgr:=(ah.refl w4).alloc (.cells nd.cells 149);replace hG:=ζ (hG.o.trans hgr);replace hB:=ζ (hB.o.grows hgr);have hA:=ζ (aS.new w4 149 nd.cells);have akh:=ζ ((ak5 ω 28 w4 nd _ anR).mono hgr:kJ V _ nd _);rw[hpe];clear hg4 hgr c1 c2 lB cR hN4 anR aki;go_wp2_with (refine wpList_store_row rfl 149 (.tmp 6) (.tmp 30) rfl w4.heap.size nd.cells rfl rfl 149 _ (heap_alloc_new w4 _) rC.o Ij.o hox.o ?_;rw[World.setRow_alloc_new];generalize w4.alloc (.cells nd.cells 149)=w5 at *;generalize w4.heap.size=gA at *);have an5:Hid (∀w',ah w5 w'→Calls Tryz.prog 103 #[.agg nd.cells,.string ⟨V.toArray⟩] w' fun e w''=>e =.returned (.bool (oG x.v V))∧ah w' w''):=ζ (fun w' hw=>(abZ ω (akh.o.mono hw)).mono (by
    rintro e w'' ⟨b,rfl,hb,hg⟩;have:b = oG x.v V:=by rw[Bool.eq_iff_iff,hb,as6]
    rw[this];exact⟨rfl,hg⟩))
   have hs:(x.op=2∧R=oG x.v V)∨(x.op=3∧R= !oG x.v V):=by
    rcases (show x.op=2∨x.op=3 by omega) with h | h
    ·exact .inl ⟨h,by rw[hR,if_neg ω,if_neg ω,if_pos h]⟩
    ·exact .inr ⟨h,by rw[hR,if_neg ω,if_neg ω,if_neg ω]⟩
   have c1:=hB.o.c1;have lB:=hB.o.lt;clear hR akh as6 hpe;generalize oG x.v V=F at *
   rcases hs with⟨h,hR⟩ | ⟨h,hR⟩
   ·rw[h] at c1;subst hR;clear h h2 ho1 ho2;refine aJ κ ?_;refine rK (.range 8) 0 ?_;refine IB (.agg nd.cells) rfl χ (fun wq gY=> ?_) ?_
    ·exact I_ 149 (.tmp 6) rfl gA rfl 149 nd.cells (0,0) _ (hA.o.grows gY) Tryz.underlying149 rfl rC.o
    go_simp;iterate 1 refine aB ?_
    refine bJ (.bool R) rfl χ (fun wq gY=> ?_) ?_
    ·obtain⟨qB,rE⟩:=bW gY;go_simp;exact Calls.mono (an5.o wq gY) (fun e w'' h=>h)
    go_simp;iterate 5 refine aB ?_
    refine ay ?_;refine aP κ (fun wN hN hS=> ?_);go_wp2;go_ret;exact⟨aU (by cases R <;> rfl),hG.o.trans hN⟩
   ·rw[h] at c1;clear h h2 ho1 ho2;refine aJ κ ?_;refine rK (.range 8) 0 ?_;refine IB (.agg nd.cells) rfl χ (fun wq gY=> ?_) ?_
    ·exact I_ 149 (.tmp 6) rfl gA rfl 149 nd.cells (0,0) _ (hA.o.grows gY) Tryz.underlying149 rfl rC.o
    go_simp;iterate 1 refine aB ?_
    refine bJ (.bool F) rfl χ (fun wq gY=> ?_) ?_
    ·obtain⟨qB,rE⟩:=bW gY;go_simp;exact Calls.mono (an5.o wq gY) (fun e w'' h=>h)
    go_simp;iterate 5 refine aB ?_
    refine ay ?_;refine aP κ (fun wN hN hS=> ?_);go_wp2;go_ret;exact⟨aU (by subst hR;cases F <;> rfl),hG.o.trans hN⟩
theorem ajh {ft:List eu→jq→Bool} {A:Option Addr} {m c:Nat} {l:List eu} {A2:Option Addr} {m2 c2:Nat} {ms:List jq} (w:World) (hA:dH w 2 fU A m l) (hm:m≤9223372036854775807) (hl:∀f∈l,f.v.length≤900000) (hM:dH w 3 Tz A2 m2 ms) (hm2:m2≤9223372036854775807) (h:∀x∈ms,X5 ft x) :
 Calls Tryz.prog 24 #[.slice A m c,.slice A2 m2 c2] w fun e w'=>e =.returned (.bool (ms.all (ft l)))∧ah w w':=by
 have qA:=ζ hM.1;obtain⟨R,hR⟩:∃R,R=ms.all (ft l):=⟨_,rfl⟩;rw[←hR];replace hR:=ζ hR;replace hA:=ζ hA;replace hM:=ζ hM;replace h:=ζ h;go_enter Tryz.func24,Tryz.ntmps24
 go_wp2;go_loopw [5] (fun i wr=>∃k:Nat,k≤m2∧i =.int .i64 (k:Int)∧Hid ((ms.take k).all (ft l)=true)∧Hid (ah w wr)) (fun i _=>m2-(intOf i).toNat)
 case atStart=>exact⟨0,ω,rfl,ζ σ,ζ (ah.refl _)⟩
 case round=>
  obtain⟨k,hk,rfl,hn,hG⟩:=hrel;by_cases nV:k<m2
  ·obtain⟨b,off,x,rfl,JI,hx,hcell⟩:=(hM.o.keep hG.o).at_ nV;have k0:wr.cell? ⟨b,off+k*3,none⟩=some (.string ⟨x.n.toArray⟩):=by simpa using hcell 0 _ rfl
   have k1:wr.cell? ⟨b,off+k*3+1,none⟩=some (.int .i64 x.op):=hcell 1 _ rfl;have k2:wr.cell? ⟨b,off+k*3+2,none⟩=some (.string ⟨x.v.toArray⟩):=hcell 2 _ rfl;have j_:(k:Int)<(m2:Int):=ω;have cF:=h.o x (List.mem_of_getElem? hx) A m c l wr (hA.o.keep hG.o) hm hl;have hstep:=wQ (ft l) ms k x hx;rw[hn.o,Bool.true_and] at hstep;have lN:Hid (ft l x = false→R=false):=ζ (fun hb=>by rw[hR.o];exact DF (by rw[hstep,hb]));replace hstep:=ζ hstep;generalize ft l x = B at *
   unfold Fa at cF;replace cF:=ζ cF;clear hcell hx hn;go_wp2_with fail;refine (cF.out).mono ?_;rintro e w2 ⟨rfl,hb2⟩;replace hG:=ζ (hG.o.trans hb2);clear hb2 cF k0 k1 k2;cases B with
   | true=>
    go_wp2;go_roundw
    case rel=>exact⟨k+1,ω,ν,hstep,hG⟩
    case measure=>exact ψ
   | false=>
    obtain rfl:=lN.o rfl;go_wp2;go_ret;exact⟨rfl,hG.o⟩
  ·have j_:¬(k:Int)<(m2:Int):=ω;rw[List.take_of_length_le (by rw[qA.o];omega)] at hn;have iW:R=true:=by rw[hR.o,hn.o]
   subst iW;clear hR hn;go_wp2;go_ret;exact⟨rfl,hG.o⟩
def Bd (ft:List eu→jq→Bool) (x:dU):Prop:=∀r∈x.o,∀y∈r.r.wh,X5 ft y
theorem VD {fb:jq→Bool} {ft:List eu→jq→Bool} {q:dU} {rec:List UInt8} {a:iI} {now:Int} (w:World) (hq:q.At w) (Dq:xE fb q) (O_:Bd ft q) (ha:a.At w) (P_:OC a.a) :
 Calls Tryz.prog 9 #[q.val,.string ⟨rec.toArray⟩,jy a,.int .i64 now] w fun e w'=>∃v,e =.returned v∧Own w' w.heap.size 3 1 encI v (uJ fb ft q.dQ rec a.a now)∧ah w w':=by
 have cN:=ζ (fun W (hW:ah w W)=>Jo (c:=q.r.k) (n:=rec) W (hq.r.arr.keep hW) hq.r.le);have cK:=ζ (fun W (hW:ah w W)=>acy W (hq.keep hW) Dq);have cA:=ζ (fun W (hW:ah w W)=>acz W (ha.keep hW) P_);have cF:=ζ (fun W=>acr (a:=a) W now);have cC:=ζ (fun (to:Cc) (ht:to.ok) W (hW:ah w W)=>VL (to:=to) W (hq.keep hW) (ha.keep hW) ht);have hgo:uJ fb ft q.dQ rec a.a now=match jH q.dQ rec a.a now with
  | none=>[]
  | some c=>if jJ fb q.dQ=0 then qR ft q.dQ rec c.fs else []:=rfl
 unfold jH at hgo;have hpr:q.dQ.receivers=q.r.l:=rfl;rw[hpr] at hgo;generalize uJ fb ft q.dQ rec a.a now=GO at *
 have NY:∀to,gG q.r.l rec=some to→to.ok:=fun to h=>by
  obtain⟨x,hx,_,e⟩:=Ou h;rw[←e];exact hq.r.Yu x hx
 have hP:=ζ ((aS.new w 26 (EM q)).alloc (.cells (XZ a) 44));have hX:=ζ (aS.new (w.alloc (.cells (EM q) 26)) 44 (XZ a));have hG:=ζ (((ah.refl w).alloc (.cells (EM q) 26)).alloc (.cells (XZ a) 44));rw[World.size_alloc] at hX;unfold EM XZ at hP hX hG;replace hq:=ζ hq;replace O_:=ζ O_;have hfs:=ζ P_;have hvl:Hid (mZ a.a.fs=true→∀f∈a.a.fs,f.v.length≤900000):=ζ (fun h f hf=>by have:=((G8 h).2 f hf).2;omega);have wL:Hid (a.a.fs.length≤1000):=ζ (by have h1:=ha.arr.1;have h2:=ha.le;omega);unfold dU.val jy at *
 go_enter Tryz.func9,Tryz.ntmps9
 go_wp2_with fail;generalize (w.alloc (.cells #[.slice q.s.A q.s.m q.s.k,.slice q.r.A q.r.m q.r.k,.slice q.e.A q.e.m q.e.k,.slice q.a.A q.a.m q.a.k,.slice q.oA q.om q.ok,.slice q.iA q.im q.ik] 26)).alloc (.cells #[.string ⟨a.a.src.toArray⟩,.slice a.A a.m a.k,.int .i64 a.a.l.lv,.int .u32 (a.a.l.c:Int),.int .i64 a.a.f,.int .i64 a.a.t] 44)=w1 at *
 have hgx:Hid (w.heap.size≤w.heap.size+1):=ζ ω;generalize agJ:w.heap.size+1=gx at *
 generalize azu:w.heap.size=gp at *
 refine (cN.out _ hG.o).mono ?_;rintro e w2 ⟨rfl,hb⟩;replace hP:=ζ (hP.o.grows hb);replace hX:=ζ (hX.o.grows hb);replace hG:=ζ (hG.o.trans hb);(try replace hL:=ζ (hL.o.grows hb))
 clear hb;clear cN;generalize atu:jJ fb q.dQ=CK at *
 cases hFO:gG q.r.l rec with
 | none=>
  rw[hFO] at hgo;simp only at hgo;simp only[AA,Option.getD_none,Option.isSome_none];have hL:=ζ (aS.new w2 40 #[.int .i64 0,.int .u32 0]);have hb:=(ah.refl w2).alloc (.cells #[.int .i64 0,.int .u32 0] 40);replace hP:=ζ (hP.o.grows hb);replace hX:=ζ (hX.o.grows hb);replace hG:=ζ (hG.o.trans hb);clear hb;have p0:(w2.alloc (.cells #[.int .i64 0,.int .u32 0] 40)).cell? ⟨gp,0,none⟩=some (.slice q.s.A q.s.m q.s.k):=hP.o.cell 0;have p1:(w2.alloc (.cells #[.int .i64 0,.int .u32 0] 40)).cell? ⟨gp,1,none⟩=some (.slice q.r.A q.r.m q.r.k):=hP.o.cell 1;have p2:(w2.alloc (.cells #[.int .i64 0,.int .u32 0] 40)).cell? ⟨gp,2,none⟩=some (.slice q.e.A q.e.m q.e.k):=hP.o.cell 2;have p3:(w2.alloc (.cells #[.int .i64 0,.int .u32 0] 40)).cell? ⟨gp,3,none⟩=some (.slice q.a.A q.a.m q.a.k):=hP.o.cell 3;have p4:(w2.alloc (.cells #[.int .i64 0,.int .u32 0] 40)).cell? ⟨gp,4,none⟩=some (.slice q.oA q.om q.ok):=hP.o.cell 4;have p5:(w2.alloc (.cells #[.int .i64 0,.int .u32 0] 40)).cell? ⟨gp,5,none⟩=some (.slice q.iA q.im q.ik):=hP.o.cell 5;have x0:(w2.alloc (.cells #[.int .i64 0,.int .u32 0] 40)).cell? ⟨gx,0,none⟩=some (.string ⟨a.a.src.toArray⟩):=hX.o.cell 0;have x1:(w2.alloc (.cells #[.int .i64 0,.int .u32 0] 40)).cell? ⟨gx,1,none⟩=some (.slice a.A a.m a.k):=hX.o.cell 1;have x2:(w2.alloc (.cells #[.int .i64 0,.int .u32 0] 40)).cell? ⟨gx,2,none⟩=some (.int .i64 a.a.l.lv):=hX.o.cell 2;have x3:(w2.alloc (.cells #[.int .i64 0,.int .u32 0] 40)).cell? ⟨gx,3,none⟩=some (.int .u32 (a.a.l.c:Int)):=hX.o.cell 3;have x4:(w2.alloc (.cells #[.int .i64 0,.int .u32 0] 40)).cell? ⟨gx,4,none⟩=some (.int .i64 a.a.f):=hX.o.cell 4;have x5:(w2.alloc (.cells #[.int .i64 0,.int .u32 0] 40)).cell? ⟨gx,5,none⟩=some (.int .i64 a.a.t):=hX.o.cell 5;have lP:=hP.o.lt;have lX:=hX.o.lt;go_wp2_with fail;refine (cK.out _ hG.o).mono ?_;rintro e w3 ⟨rfl,hb⟩;clear p0 p1 p2 p3 p4 p5 x0 x1 x2 x3 x4 x5 lP lX;generalize w2.alloc (.cells #[.int .i64 0,.int .u32 0] 40)=w2b at *
  generalize w2.heap.size=gl at *
  replace hP:=ζ (hP.o.grows hb);replace hX:=ζ (hX.o.grows hb);replace hG:=ζ (hG.o.trans hb);(try replace hL:=ζ (hL.o.grows hb))
  clear hb;clear cK;by_cases GU:CK=0
  ·subst GU;go_wp2;go_ret;exact⟨.slice none 0 0,rfl,by first | exact Own.iH _ _ _ _ _ | (rw[hgo];exact Own.iH _ _ _ _ _),hG.o⟩
  ·have hkb:(CK != 0)=true:=by rw[bne_iff_ne];exact GU
   clear GU;go_wp2;go_ret;exact⟨.slice none 0 0,rfl,by first | exact Own.iH _ _ _ _ _ | (rw[hgo];exact Own.iH _ _ _ _ _),hG.o⟩
 | some to=>
  rw[hFO] at hgo;simp only at hgo;have TW:=ζ (NY to hFO);simp only[AA,Option.getD_some,Option.isSome_some];have hL:=ζ (aS.new w2 40 #[.int .i64 to.lv,.int .u32 (to.c:Int)]);have hb:=(ah.refl w2).alloc (.cells #[.int .i64 to.lv,.int .u32 (to.c:Int)] 40);replace hP:=ζ (hP.o.grows hb);replace hX:=ζ (hX.o.grows hb);replace hG:=ζ (hG.o.trans hb);clear hb;have p0:(w2.alloc (.cells #[.int .i64 to.lv,.int .u32 (to.c:Int)] 40)).cell? ⟨gp,0,none⟩=some (.slice q.s.A q.s.m q.s.k):=hP.o.cell 0;have p1:(w2.alloc (.cells #[.int .i64 to.lv,.int .u32 (to.c:Int)] 40)).cell? ⟨gp,1,none⟩=some (.slice q.r.A q.r.m q.r.k):=hP.o.cell 1;have p2:(w2.alloc (.cells #[.int .i64 to.lv,.int .u32 (to.c:Int)] 40)).cell? ⟨gp,2,none⟩=some (.slice q.e.A q.e.m q.e.k):=hP.o.cell 2;have p3:(w2.alloc (.cells #[.int .i64 to.lv,.int .u32 (to.c:Int)] 40)).cell? ⟨gp,3,none⟩=some (.slice q.a.A q.a.m q.a.k):=hP.o.cell 3;have p4:(w2.alloc (.cells #[.int .i64 to.lv,.int .u32 (to.c:Int)] 40)).cell? ⟨gp,4,none⟩=some (.slice q.oA q.om q.ok):=hP.o.cell 4;have p5:(w2.alloc (.cells #[.int .i64 to.lv,.int .u32 (to.c:Int)] 40)).cell? ⟨gp,5,none⟩=some (.slice q.iA q.im q.ik):=hP.o.cell 5;have x0:(w2.alloc (.cells #[.int .i64 to.lv,.int .u32 (to.c:Int)] 40)).cell? ⟨gx,0,none⟩=some (.string ⟨a.a.src.toArray⟩):=hX.o.cell 0;have x1:(w2.alloc (.cells #[.int .i64 to.lv,.int .u32 (to.c:Int)] 40)).cell? ⟨gx,1,none⟩=some (.slice a.A a.m a.k):=hX.o.cell 1;have x2:(w2.alloc (.cells #[.int .i64 to.lv,.int .u32 (to.c:Int)] 40)).cell? ⟨gx,2,none⟩=some (.int .i64 a.a.l.lv):=hX.o.cell 2;have x3:(w2.alloc (.cells #[.int .i64 to.lv,.int .u32 (to.c:Int)] 40)).cell? ⟨gx,3,none⟩=some (.int .u32 (a.a.l.c:Int)):=hX.o.cell 3;have x4:(w2.alloc (.cells #[.int .i64 to.lv,.int .u32 (to.c:Int)] 40)).cell? ⟨gx,4,none⟩=some (.int .i64 a.a.f):=hX.o.cell 4;have x5:(w2.alloc (.cells #[.int .i64 to.lv,.int .u32 (to.c:Int)] 40)).cell? ⟨gx,5,none⟩=some (.int .i64 a.a.t):=hX.o.cell 5;have lP:=hP.o.lt;have lX:=hX.o.lt;go_wp2_with fail;refine (cK.out _ hG.o).mono ?_;rintro e w3 ⟨rfl,hb⟩;clear p0 p1 p2 p3 p4 p5 x0 x1 x2 x3 x4 x5 lP lX;generalize w2.alloc (.cells #[.int .i64 to.lv,.int .u32 (to.c:Int)] 40)=w2b at *
  generalize w2.heap.size=gl at *
  replace hP:=ζ (hP.o.grows hb);replace hX:=ζ (hX.o.grows hb);replace hG:=ζ (hG.o.trans hb);(try replace hL:=ζ (hL.o.grows hb))
  clear hb;clear cK;by_cases GU:CK=0
  ·rw[GU] at hgo ⊢;clear hFO NY;generalize hAB:rD a.a = AB at *
   generalize hFI:vX a.a now=FI at *
   have p0:=hP.o.c0;have p1:=hP.o.c1;have p2:=hP.o.c2;have p3:=hP.o.c3;have p4:=hP.o.c4;have p5:=hP.o.c5;have x0:=hX.o.c0;have x1:=hX.o.c1;have x2:=hX.o.c2;have x3:=hX.o.c3;have x4:=hX.o.c4;have x5:=hX.o.c5;have lP:=hP.o.lt;have lX:=hX.o.lt;go_wp2_with fail;refine (cA.out _ hG.o).mono ?_;rintro e w4 ⟨rfl,hb⟩;clear p0 p1 p2 p3 p4 p5 x0 x1 x2 x3 x4 x5 lP lX;replace hP:=ζ (hP.o.grows hb);replace hX:=ζ (hX.o.grows hb);replace hG:=ζ (hG.o.trans hb);(try replace hL:=ζ (hL.o.grows hb))
   clear hb;clear cA;cases AB with
   | false=>
    simp only[Bool.false_and,Bool.false_eq_true,if_false] at hgo;go_wp2;go_ret;exact⟨.slice none 0 0,rfl,by first | exact Own.iH _ _ _ _ _ | (rw[hgo];exact Own.iH _ _ _ _ _),hG.o⟩
   | true=>
   have p0:=hP.o.c0;have p1:=hP.o.c1;have p2:=hP.o.c2;have p3:=hP.o.c3;have p4:=hP.o.c4;have p5:=hP.o.c5;have x0:=hX.o.c0;have x1:=hX.o.c1;have x2:=hX.o.c2;have x3:=hX.o.c3;have x4:=hX.o.c4;have x5:=hX.o.c5;have lP:=hP.o.lt;have lX:=hX.o.lt;go_wp2_with fail;refine (cF.out _).mono ?_;rintro e w5 ⟨rfl,hb⟩;clear p0 p1 p2 p3 p4 p5 x0 x1 x2 x3 x4 x5 lP lX;replace hP:=ζ (hP.o.grows hb);replace hX:=ζ (hX.o.grows hb);replace hG:=ζ (hG.o.trans hb);(try replace hL:=ζ (hL.o.grows hb))
   clear hb;clear cF;cases FI with
   | false=>
    simp only[Bool.and_false,Bool.false_eq_true,if_false] at hgo;go_wp2;go_ret;exact⟨.slice none 0 0,rfl,by first | exact Own.iH _ _ _ _ _ | (rw[hgo];exact Own.iH _ _ _ _ _),hG.o⟩
   | true=>
   simp only[Bool.and_self,if_true] at hgo;have c0:=hL.o.c0;have c1:=hL.o.c1;have lL:=hL.o.lt;have p0:=hP.o.c0;have p1:=hP.o.c1;have p2:=hP.o.c2;have p3:=hP.o.c3;have p4:=hP.o.c4;have p5:=hP.o.c5;have x0:=hX.o.c0;have x1:=hX.o.c1;have x2:=hX.o.c2;have x3:=hX.o.c3;have x4:=hX.o.c4;have x5:=hX.o.c5;have lP:=hP.o.lt;have lX:=hX.o.lt;go_wp2_with fail;refine (cC.out to TW.o _ hG.o).mono ?_;rintro e w6 ⟨v,rfl,hcut,hb⟩;clear p0 p1 p2 p3 p4 p5 x0 x1 x2 x3 x4 x5 lP lX;clear c0 c1 lL;have hs5:=ζ hb.size;replace hP:=ζ (hP.o.grows hb);replace hX:=ζ (hX.o.grows hb);replace hG:=ζ (hG.o.trans hb);(try replace hL:=ζ (hL.o.grows hb))
   clear hb;clear cC;cases hCU:G9 q.dQ a.a to with
   | none=>
    rw[hCU] at hgo hcut;simp only at hgo;have hv:v = jM:=hcut;subst hv;unfold jM;simp only[Option.isSome_none];have p0:=hP.o.c0;have p1:=hP.o.c1;have p2:=hP.o.c2;have p3:=hP.o.c3;have p4:=hP.o.c4;have p5:=hP.o.c5;have x0:=hX.o.c0;have x1:=hX.o.c1;have x2:=hX.o.c2;have x3:=hX.o.c3;have x4:=hX.o.c4;have x5:=hX.o.c5;have lP:=hP.o.lt;have lX:=hX.o.lt;clear hcut hCU;go_wp2_with fail;go_loopw [13,14] (fun o i wr=>o =.slice none 0 0∧i =.int .i64 0∧Hid (aS wr gp 26 (EM q))∧Hid (ah w wr)) (fun _ _ _=>0)
    case atStart=>exact⟨rfl,rfl,ζ (hP.o.alloc _),ζ (hG.o.alloc _)⟩
    case round=>
     clear hP hG;obtain⟨rfl,rfl,hP,hG⟩:=hrel;have p4:=hP.o.c4;have lP:=hP.o.lt;by_cases h0:(0:Int)<(q.om:Int)
     ·go_wp2;go_ret;exact⟨.slice none 0 0,rfl,by first | exact Own.iH _ _ _ _ _ | (rw[hgo];exact Own.iH _ _ _ _ _),hG.o⟩
     ·go_wp2;go_ret;exact⟨.slice none 0 0,rfl,by first | exact Own.iH _ _ _ _ _ | (rw[hgo];exact Own.iH _ _ _ _ _),hG.o⟩
   | some c=>
    rw[hCU] at hgo hcut;(try simp only at hgo)
    (try rw[if_pos rfl] at hgo)
    obtain⟨cA,ck,hv,FM⟩:=hcut;subst hv;obtain⟨A2,c2,hs2,-,-,Uc⟩:=FM.arr JW;simp only[Value.slice.injEq] at hs2;obtain⟨rfl,_,rfl⟩:=hs2;have yO:c.fs.length≤1000∧∀f∈c.fs,f∈a.a.fs:=by
     unfold G9 at hCU;split at hCU
     ·cases hCU
     ·injection hCU with hCU
      subst hCU;refine⟨?_,fun f hf=>(List.mem_filter.1 hf).1⟩;have h1:=uy q.dQ a.a.fs a.a.l to;have h2:=wL.o;simp only;omega
    have hF:=ζ (aS.new w6 44 (XZ ⟨c,cA,c.fs.length,ck⟩));have hb:=(ah.refl w6).alloc (.cells (XZ ⟨c,cA,c.fs.length,ck⟩) 44);have aty:=ζ (Uc.keep hb);have hv6:=ζ (fun (f:eu) (hf:f∈c.fs)=>hvl.o (by unfold rD at hAB;simp only[Bool.and_eq_true] at hAB;exact hAB.1.1.1.2) f (yO.2 f hf));replace yO:=ζ yO.1;unfold XZ at hF hb aty;replace hP:=ζ (hP.o.grows hb);replace hX:=ζ (hX.o.grows hb);replace hG:=ζ (hG.o.trans hb);(try replace hL:=ζ (hL.o.grows hb))
    clear hb;have w_:GO=nR ft q.dQ.routes rec c.fs q.dQ.routes.length:=hgo;have jU:Hid (q.dQ.routes.length=q.om):=ζ (by rw[show q.dQ.routes=q.o.map (·.r) from rfl,List.length_map];exact hq.o.o.1);have QA:Hid (q.om≤1000):=ζ (by have:=(RY (M_ (atu.trans GU)).1).1;rw[jU.o] at this;omega);replace w_:=ζ w_;unfold jy;simp only[Option.isSome_some];clear hgo hCU hAB FM Uc GU atu hvl hfs wL;go_wp2_with fail;generalize w6.alloc (.cells #[.string ⟨c.src.toArray⟩,.slice cA c.fs.length ck,.int .i64 c.l.lv,.int .u32 (c.l.c:Int),.int .i64 c.f,.int .i64 c.t] 44)=w7 at *
    generalize w6.heap.size=gc at *
    go_loopw [13,14] (fun o i wr=>∃(k:Nat),k≤q.om∧i =.int .i64 (k:Int)∧Hid (Own wr w7.heap.size 3 1 encI o (nR ft q.dQ.routes rec c.fs k))∧Hid (ah w7 wr)) (fun _ i _=>q.om-(intOf i).toNat)
    case atStart=>exact⟨0,ω,rfl,ζ (by unfold nR;exact Own.iH _ _ _ _ _),ζ (ah.refl _)⟩
    case round=>
     clear hX hL;obtain⟨k,hk,rfl,hO,hg7⟩:=hrel;have ay0:q.om≤1000:=QA.o;have hP7:=ζ (hP.o.grows hg7.o);have hF7:=ζ (hF.o.grows hg7.o);have hA7:=ζ (aty.o.keep hg7.o);have Z8:=ζ (hG.o.trans hg7.o);have p4:=hP7.o.c4;have lP:=hP7.o.lt;have f1:=hF7.o.c1;have lF:=hF7.o.lt;by_cases nV:k<q.om
     ·obtain⟨b,off,x,O8,JI,hx,hcell⟩:=(hq.o.o.keep Z8.o).at_ nV;rw[O8] at p4;clear O8;have k0:wr.cell? ⟨b,off+k*6,none⟩=some (.string ⟨x.r.r.toArray⟩):=by simpa using hcell 0 _ rfl
      have k5:wr.cell? ⟨b,off+k*6+5,none⟩=some (.slice x.wA x.wm x.wk):=hcell 5 _ rfl;have j_:(k:Int)<(q.om:Int):=ω;have NS:=List.mem_of_getElem? hx;have Md:=hq.o.oAt x NS;have hrk:q.dQ.routes[k]? = some x.r:=by rw[show q.dQ.routes=q.o.map (·.r) from rfl,List.getElem?_map,hx];rfl
      have QB:Hid ((nR ft q.dQ.routes rec c.fs k).length≤k):=ζ (KW _ _ _ _ _);by_cases hre:x.r.r = rec
      ·have MF:(x.r.r ==rec)=true:=by rw[hre];simp
       have cAl:=ζ (fun W (hW:ah wr W)=>ajh (c:=ck) (c2:=x.wk) W (hA7.o.keep hW) (by have:=yO.o;omega) hv6.o ((Md.wh.keep Z8.o).keep hW) Md.WQ (fun y hy=>O_.o x NS y hy));generalize am4:x.r.wh.all (ft c.fs)=AL at *
       cases AL with
       | true=>
        have pO:=ζ (Tt (ft:=ft) (rec:=rec) (fs:=c.fs) hrk (by unfold G7;rw[decide_eq_true hre,am4];rfl));clear hre am4 hx NS Md hrk hcell;go_wp2_with fail;refine aJ κ ?_;refine rK (.range 19) 0 ?_;iterate 17 refine aB ?_
        refine bJ (.bool true) rfl χ (fun wq gY=> ?_) ?_
        ·obtain⟨qB,rE⟩:=bW gY;go_simp;exact Calls.mono (cAl.out wq gY) (fun e w'' h=>h)
        go_simp;iterate 1 refine aB ?_
        refine ay ?_;refine aP κ (fun wN hN hS=> ?_);replace hO:=ζ (hO.o.grows hN);replace hg7:=ζ (hg7.o.trans hN);clear hN hS p4 lP f1 lF k0 k5 cAl JI hP7 hF7 hA7 Z8;go_wp2_with (at_builtin;go_loud ((refine dM (x:=k) WE rfl (.tmp 76) (.tmp 78) rfl (hO.o.alloc _) rfl ⟨wN.heap.size,0,none⟩ rfl rfl (h_ (by exact heap_alloc_new wN _)) (UZ k) (by have:=hg7.o.size;simp;omega) (by have:=QB.o;have:=QA.o;unfold maxLen;omega) (by have:=QB.o;have:=QA.o;omega) (fun v8 w8 MK hgr hat=> ?_));(have V4:=ζ ((hg7.o.alloc (.cells #[.int .i64 (k:Int)] 3)).bH hgr hO.o.eH));(replace MK:=ζ MK);clear hgr hat));go_roundw
        case rel=>exact⟨k+1,ω,ν,ζ (by rw[pO.o];exact MK.o),V4⟩
        case measure=>exact ψ
       | false=>
        have hno:=ζ (Oq (ft:=ft) (rec:=rec) (fs:=c.fs) hrk (by unfold G7;rw[am4,Bool.and_false]));clear hre am4 hx NS Md hrk hcell;go_wp2_with fail;refine aJ κ ?_;refine rK (.range 19) 0 ?_;iterate 17 refine aB ?_
        refine bJ (.bool false) rfl χ (fun wq gY=> ?_) ?_
        ·obtain⟨qB,rE⟩:=bW gY;go_simp;exact Calls.mono (cAl.out wq gY) (fun e w'' h=>h)
        go_simp;iterate 1 refine aB ?_
        refine ay ?_;refine aP κ (fun wN hN hS=> ?_);go_wp2;go_roundw
        case rel=>exact⟨k+1,ω,ν,ζ (by rw[hno.o];exact hO.o.grows hN),ζ (hg7.o.trans hN)⟩
        case measure=>exact ψ
      ·have MF:(x.r.r ==rec)=false:=by simp[hre]
       have hno:=ζ (Oq (ft:=ft) (rec:=rec) (fs:=c.fs) hrk (by unfold G7;rw[decide_eq_false hre,Bool.false_and]));clear hre hx NS Md hrk hcell;go_wp2_with fail;refine aJ κ ?_;refine rK (.range 19) 0 ?_;iterate 17 refine aB ?_
       refine vC rfl χ ?_;go_simp;iterate 1 refine aB ?_
       refine ay ?_;refine aP κ (fun wN hN hS=> ?_);go_wp2;go_roundw
       case rel=>exact⟨k+1,ω,ν,ζ (by rw[hno.o];exact hO.o.grows hN),ζ (hg7.o.trans hN)⟩
       case measure=>exact ψ
     ·have j_:¬(k:Int)<(q.om:Int):=ω;have vT:k=q.dQ.routes.length:=by rw[jU.o];omega
      go_wp2;go_ret;exact⟨_,rfl,by rw[w_.o,←vT];exact hO.o.ig (by have:=hG.o.size;omega),Z8.o⟩
  ·have hkb:(CK != 0)=true:=by rw[bne_iff_ne];exact GU
   have asM:GO=[]:=by
    rw[hgo];split
    ·rfl
    ·rw[if_neg GU]
   clear hgo;have hgo:=asM;clear asM GU;go_wp2;go_ret;exact⟨.slice none 0 0,rfl,by first | exact Own.iH _ _ _ _ _ | (rw[hgo];exact Own.iH _ _ _ _ _),hG.o⟩
end Go.Proofs.YteojanlajhebhaaGreatDoor
namespace Go.Proofs.YteojanlajhebhaaGreatDoor
open Go.RowKit Go.Maps
theorem amD {fb:jq→Bool} {ft:List eu→jq→Bool} {q:dU} {gP n L c7 c8 nb:Nat} {A7 A8:Option Addr} {nm:List UInt8} {now:Int} {own:List iI} {wS:World} {Q0:Exit→Act→World→Prop} {x0 x1 x4 x5 x6 F8 JQ Df yZ xX CJ Ad Ac yE xW xU xR xQ xI xH xG xP xO yD yY yX yV yU yT Aa z_ zZ zY zX zW zV zU zT zS zQ zO zN zM zL zK zJ zI Dc C_ CG zH Cb B_ BZ BX BU BR BP BN BM BK zG zF zD zC zB BJ BH BG BF BD BA Bz Bv Bq CB Cm Cj Ci Ce zA zy zx zu zq zo C9 CZ Bo Bl zn Bj Bh kS kR kQ kP kN kM mF mD mg lZ mV mQ nX ny ql qj qh qg qc pI pG pF pq o_ o9 oZ oW:Value}
 (hq:Hid (q.At wS)) (Dq:Hid (Hq fb q)) (O_:Hid (Ho ft q)) (MF:Hid (xE fb q)) (hrt:Hid (Bd ft q)) (hO:Hid (dH wS 6 FV A7 L own)) (hD:Hid (dH wS 6 FV A8 L own)) (hat:Hid (∀y∈own,y.At wS)) (P_:Hid (∀y∈own,OC y.a)) (hP:Hid (aS wS gP 26 (EM q))) (hN:wS.cell? ⟨nb,n,none⟩=some (.string ⟨nm.toArray⟩)) (hn3:n < 3) (azT:L≤12)
 (U_:∀c a d v w,Q0 (.panic c) (Act.put a d v) w→Q0 (.panic c) a w)
 (tY:∀(u6 u11 u31 u32 u33 u34 u35 u36 u37 u38 u39 u40 u41 u42 u43 u44 u45 u46 u47 u48 u49 u50 u51 u52 u53 u54 u55 u56 u57 Yt Yr Yq:Value) (wr:World),(Hid (ah wS wr))→Q0 (.exit 2) ⟨(x0::x1::(.int .i64 now)::(.pointer (some ⟨gP,0,none⟩))::x4::x5::u6::(.slice A7 L c7)::(.slice A8 L c8)::(.slice (some ⟨nb,0,none⟩) 3 3)::(.int .i64 (n:Int))::u11::F8::JQ::Df::yZ::xX::CJ::Ad::Ac::yE::xW::xU::xR::xQ::xI::xH::xG::xP::xO::yD::u31::u32::u33::u34::u35::u36::u37::u38::u39::u40::u41::u42::u43::u44::u45::u46::u47::u48::u49::u50::u51::u52::u53::u54::u55::u56::u57::Yt::Yr::Yq::BX::BU::BR::BP::BN::BM::BK::zG::zF::zD::zC::zB::BJ::BH::BG::BF::BD::BA::Bz::Bv::Bq::CB::Cm::Cj::Ci::Ce::zA::zy::zx::zu::zq::zo::C9::CZ::Bo::Bl::zn::Bj::Bh::kS::kR::kQ::kP::kN::kM::mF::mD::mg::lZ::mV::mQ::nX::ny::ql::qj::qh::qg::qc::pI::pG::pF::pq::o_::o9::oZ::oW::[]).toArray,[]⟩ wr) :
 Code.wp Tryz.prog (Gy Tryz.f3 1) Q0 ⟨(x0::x1::(.int .i64 now)::(.pointer (some ⟨gP,0,none⟩))::x4::x5::x6::(.slice A7 L c7)::(.slice A8 L c8)::(.slice (some ⟨nb,0,none⟩) 3 3)::(.int .i64 (n:Int))::(.int .i64 0)::F8::JQ::Df::yZ::xX::CJ::Ad::Ac::yE::xW::xU::xR::xQ::xI::xH::xG::xP::xO::yD::yY::yX::yV::yU::yT::Aa::z_::zZ::zY::zX::zW::zV::zU::zT::zS::zQ::zO::zN::zM::zL::zK::zJ::zI::Dc::C_::CG::zH::Cb::B_::BZ::BX::BU::BR::BP::BN::BM::BK::zG::zF::zD::zC::zB::BJ::BH::BG::BF::BD::BA::Bz::Bv::Bq::CB::Cm::Cj::Ci::Ce::zA::zy::zx::zu::zq::zo::C9::CZ::Bo::Bl::zn::Bj::Bh::kS::kR::kQ::kP::kN::kM::mF::mD::mg::lZ::mV::mQ::nX::ny::ql::qj::qh::qg::qc::pI::pG::pF::pq::o_::o9::oZ::oW::[]).toArray,[]⟩ wS:=by
 conv=>arg 2;whnf
 go_loopw [11] (fun i wr=>∃j:Nat,j≤L∧i =.int .i64 (j:Int)∧Hid (ah wS wr)) (fun i _=>L-(intOf i).toNat)
 case atStart=>exact⟨0,ω,rfl,ζ (ah.refl _)⟩
 case round=>
  obtain⟨j,hj,rfl,dF⟩:=hrel;by_cases hjl:j < L
  ·obtain⟨b7,o7,y,rfl,hb7,hy,hc7⟩:=(hO.o.keep dF.o).at_ hjl;obtain⟨b8,o8,y',rfl,Z5,hy',hc8⟩:=(hD.o.keep dF.o).at_ hjl;obtain rfl:y = y':=Option.some.inj (hy.symm.trans hy');have hym:=List.mem_of_getElem? hy;have hya:=(hat.o y hym).keep dF.o;have hyt:=P_.o y hym;have hni:(n:Int)<3:=ω;have ao8:(j:Int)<(L:Int):=ω;have hQ:=hP.o.grows dF.o;have p0:=hQ.c0;have p1:=hQ.c1;have p2:=hQ.c2;have p3:=hQ.c3;have p4:=hQ.c4;have p5:=hQ.c5;have pL:=hQ.lt;have n0:=dF.o.cell hN;have nL:=World.block_lt_of_cell? wr _ n0;have y0:wr.cell? ⟨b7,o7+j * 6,none⟩=some (.string ⟨y.a.src.toArray⟩):=by simpa using hc7 0 _ rfl
   have y1:wr.cell? ⟨b7,o7+j * 6+1,none⟩=some (.slice y.A y.m y.k):=hc7 1 _ rfl;have y2:wr.cell? ⟨b7,o7+j * 6+2,none⟩=some (.int .i64 y.a.l.lv):=hc7 2 _ rfl;have y3:wr.cell? ⟨b7,o7+j * 6+3,none⟩=some (.int .u32 (y.a.l.c:Int)):=hc7 3 _ rfl;have y4:wr.cell? ⟨b7,o7+j * 6+4,none⟩=some (.int .i64 y.a.f):=hc7 4 _ rfl;have y5:wr.cell? ⟨b7,o7+j * 6+5,none⟩=some (.int .i64 y.a.t):=hc7 5 _ rfl;have z0:wr.cell? ⟨b8,o8+j * 6,none⟩=some (.string ⟨y.a.src.toArray⟩):=by simpa using hc8 0 _ rfl
   have z1:wr.cell? ⟨b8,o8+j * 6+1,none⟩=some (.slice y.A y.m y.k):=hc8 1 _ rfl;have z2:wr.cell? ⟨b8,o8+j * 6+2,none⟩=some (.int .i64 y.a.l.lv):=hc8 2 _ rfl;have z3:wr.cell? ⟨b8,o8+j * 6+3,none⟩=some (.int .u32 (y.a.l.c:Int)):=hc8 3 _ rfl;have z4:wr.cell? ⟨b8,o8+j * 6+4,none⟩=some (.int .i64 y.a.f):=hc8 4 _ rfl;have z5:wr.cell? ⟨b8,o8+j * 6+5,none⟩=some (.int .i64 y.a.t):=hc8 5 _ rfl;have cG:=fun W (hW:ah wr W)=>aae (p:=q) (rec:=nm) (a:=y) (now:=now) W (hq.o.keep (dF.o.trans hW)) Dq.o O_.o (hya.keep hW)
   have cR:=fun W (hW:ah wr W)=>VD (q:=q) (rec:=nm) (a:=y) (now:=now) W (hq.o.keep (dF.o.trans hW)) MF.o hrt.o (hya.keep hW) hyt
   rw[show jy y =.agg #[.string ⟨y.a.src.toArray⟩,.slice y.A y.m y.k,.int .i64 y.a.l.lv,.int .u32 (y.a.l.c:Int),.int .i64 y.a.f,.int .i64 y.a.t] from rfl] at cG cR;unfold dU.val at cG cR;replace cG:=ζ cG;replace cR:=ζ cR;clear hc7 hc8 hy hy' hym hya hyt hQ Dq O_ MF hrt hat P_ hq hP hO hD hN;go_wp2_with fail;refine bV (μ [0,1,2,3,4,5,6,7,8,9,11,12,13,14,15,16,17,18,19,20,10,21,22,23] [10,21,22]) κ κ rfl κ π ?_;iterate 20 refine dX ?_
   refine iw rfl (fun K' hK=> ?_);go_simp;refine (cG.out _ γ).mono ?_;rintro e w5 ⟨v5,rfl,jk,GV⟩;obtain⟨A5,c5,rfl,hl5,hc5,hX5⟩:=jk.arr JV;clear jk;refine hK.o _ _ ?_ (fun hS=> ?_)
   ·exact γ
   clear hK hS;refine iw rfl (fun K' hK=> ?_);go_simp;refine (cR.out _ γ).mono ?_;rintro e w6 ⟨v6,rfl,Nq,hb6⟩;obtain⟨A6,c6,rfl,hl6,hc6,hX6⟩:=Nq.arr JV;clear Nq;replace hX5:=hX5.keep hb6;refine hK.o _ _ ?_ (fun hS=> ?_)
   ·exact γ
   clear hK hS;refine iw rfl (fun K' hK=> ?_);go_simp;refine (WV _ _ _ _ _ _ _ _ _ hX5 hX6 ω ω).mono ?_;rintro e w7 ⟨rfl,hb7⟩;rw[decide_eq_true rfl];refine hK.o _ _ ?_ (fun hS=> ?_)
   ·exact γ
   clear hK hS;iterate 1 refine dX ?_
   refine gK ?_;have Z8:Hid (ah wS w7):=ζ (dF.o.trans γ);clear cG cR hX5 hX6 GV hb6 hb7;go_wp2;go_roundw
   case rel=>exact⟨j + 1,ω,ν,Z8⟩
   case measure=>exact ψ
  ·have ao8:¬(j:Int)<(L:Int):=ω;clear hP hq hO hD hat P_;go_wp2
end Go.Proofs.YteojanlajhebhaaGreatDoor
namespace Go.Proofs.YteojanlajhebhaaGreatDoor
open Go.RowKit
theorem anb {x y:eu} (h:x.n = y.n) (h':x.v = y.v):x = y:=by cases x;cases y;simp_all
theorem Vz (A B:Option Addr) (m c m' c':Nat) (xs ys:List eu) (w:World) (h:dH w 2 fU A m xs) (h':dH w 2 fU B m' ys) (hm:m≤9223372036854775807) (hm':m'≤9223372036854775807) :
 Calls Tryz.prog 33 #[.slice A m c,.slice B m' c'] w fun e w'=>e =.returned (.bool (decide (xs=ys)))∧ah w w':=by
 have hl:=h.1;have hl':=h'.1;by_cases U6:m = m'
 ·subst U6;have hb:((m:Int) != (m:Int))=false:=by simp
  replace hl:=ζ hl;replace hl':=ζ hl';replace h:=ζ h;replace h':=ζ h';go_enter Tryz.func33,Tryz.ntmps33
  go_wp2;go_loopw [5] (fun i wr=>∃k:Nat,k≤m∧i =.int .i64 k∧Hid (xs.take k=ys.take k)∧ah w wr) (fun i _=>m - (intOf i).toNat)
  case atStart=>exact⟨0,ω,rfl,by simp[Hid],ah.refl _⟩
  case round=>
   obtain⟨k,hk,rfl,qQ,hg⟩:=hrel;by_cases nV:k<m
   ·obtain⟨b1,o1,x,rfl,_,hx,hc1⟩:=((h.o).keep hg).at_ nV;obtain⟨b2,o2,y,rfl,_,hy,hc2⟩:=((h'.o).keep hg).at_ nV;have c1:wr.cell? ⟨b1,o1+k*2,none⟩=some (.string ⟨x.n.toArray⟩):=by simpa using hc1 0 _ rfl
    have c2:wr.cell? ⟨b2,o2+k*2,none⟩=some (.string ⟨y.n.toArray⟩):=by simpa using hc2 0 _ rfl
    have d1:wr.cell? ⟨b1,o1+k*2+1,none⟩=some (.string ⟨x.v.toArray⟩):=hc1 1 _ rfl;have d2:wr.cell? ⟨b2,o2+k*2+1,none⟩=some (.string ⟨y.v.toArray⟩):=hc2 1 _ rfl;by_cases Qy:x = y
    ·subst Qy;have hs:xs.take (k+1)=ys.take (k+1):=by rw[List.take_add_one,List.take_add_one,hx,hy,qQ.o]
     replace hs:=ζ hs;clear hx hy hc1 hc2 qQ;go_wp2;go_quiet (fail)
     go_wp2;go_roundw
     case rel=>exact⟨k+1,ω,ν,hs.o,hg.drewN _⟩
     case measure=>exact ψ
    ·have aQ:decide (xs=ys)=false:=by
      rw[decide_eq_false_iff_not];rintro rfl;rw[hx] at hy;injection hy with hy;exact Qy hy
     replace aQ:=ζ aQ;have hne:Hid (¬x = y):=ζ Qy;clear hx hy hc1 hc2 qQ Qy;go_wp2;refine aJ κ ?_;refine rK (.range 9) 0 ?_;iterate 8 refine aB ?_
     refine IB (.bool true) rfl χ (fun wq gY=> ?_) ?_
     ·go_simp;exact fun h1 h2=>hne.o (anb h1 h2)
     go_simp;refine ay ?_;refine aP κ (fun wN hN hS=> ?_);go_wp2;go_ret;exact⟨aU aQ.o.symm,hg.trans hN⟩
   ·obtain rfl:k=m:=ω;have aQ:decide (xs=ys)=true:=by
     have:=qQ.o;rw[List.take_of_length_le (Nat.le_of_eq hl.o),List.take_of_length_le (Nat.le_of_eq hl'.o)] at this;rw[decide_eq_true_eq];exact this
    replace aQ:=ζ aQ;clear qQ;go_wp2;go_ret;exact⟨aU aQ.o.symm,hg⟩
 ·have hb:((m:Int) != (m':Int))=true:=by rw[bne_iff_ne];omega
  have aQ:decide (xs=ys)=false:=by
   rw[decide_eq_false_iff_not];rintro rfl;exact U6 (hl.symm.trans hl')
  replace aQ:=ζ aQ;clear hl hl' h h' U6;go_enter Tryz.func33,Tryz.ntmps33
  go_wp2;go_ret;exact⟨aU aQ.o.symm,ah.refl _⟩
structure bM.At (w:World) (x:bM):Prop where
 fs:dH w 2 fU x.bA x.bm x.iM
 ids:dH w 1 lU x.iA x.im x.ids
 bl:x.bm≤9223372036854775807
 il:x.im≤maxLen
theorem bM.At.keep {w w':World} {x:bM} (h:x.At w) (hg:ah w w'):x.At w':=⟨h.fs.keep hg,h.ids.keep hg,h.bl,h.il⟩
theorem abW {x y:bM} (w:World) (hx:x.At w) (hy:y.At w) (he:x.g = y.g) :
 Calls Tryz.prog 12 #[amc x,amc y] w fun e w'=>e =.returned (.bool true)∧ah w w':=by
 have cF:=ζ (fun W (hW:ah w W)=>Vz x.bA y.bA x.bm x.bk y.bm y.bk x.iM y.iM W (hx.fs.keep hW) (hy.fs.keep hW) hx.bl hy.bl);have cI:=ζ (fun W (hW:ah w W)=>WX x.iA y.iA x.im x.ik y.im y.ik x.ids y.ids W (hx.ids.keep hW) (hy.ids.keep hW) hx.il hy.il);have e1:decide (x.iM=y.iM)=true:=decide_eq_true (congrArg oh.iM he);have e2:decide (x.ids=y.ids)=true:=decide_eq_true (congrArg oh.ids he);have e3:x.r = y.r:=congrArg oh.route he;have e4:x.key=y.key:=congrArg oh.key he;rw[e1] at cF;rw[e2] at cI;clear hx hy he e1 e2;obtain⟨r,ky,iM,bA,bm,bk,ids,iA,im,ik⟩:=x;obtain⟨r',ky',by',bA',bm',bk',ayz,iA',im',ik'⟩:=y;simp only at e3 e4 cF cI;subst e3 e4;unfold amc;have hX:=ζ ((aS.new w 54 #[.int .i64 (r:Int),.slice bA bm bk,.int .u64 (ky:Int),.slice iA im ik]).alloc (.cells #[.int .i64 (r:Int),.slice bA' bm' bk',.int .u64 (ky:Int),.slice iA' im' ik'] 54));have hY:=ζ (aS.new (w.alloc (.cells #[.int .i64 (r:Int),.slice bA bm bk,.int .u64 (ky:Int),.slice iA im ik] 54)) 54 #[.int .i64 (r:Int),.slice bA' bm' bk',.int .u64 (ky:Int),.slice iA' im' ik']);have hG:=ζ (((ah.refl w).alloc (.cells #[.int .i64 (r:Int),.slice bA bm bk,.int .u64 (ky:Int),.slice iA im ik] 54)).alloc (.cells #[.int .i64 (r:Int),.slice bA' bm' bk',.int .u64 (ky:Int),.slice iA' im' ik'] 54));rw[World.size_alloc] at hY;go_enter Tryz.func12,Tryz.ntmps12
 go_wp2_with fail;refine (cF.out _ hG.o).mono ?_;rintro e w2 ⟨rfl,hb⟩;generalize (w.alloc (.cells #[.int .i64 (r:Int),.slice bA bm bk,.int .u64 (ky:Int),.slice iA im ik] 54)).alloc (.cells #[.int .i64 (r:Int),.slice bA' bm' bk',.int .u64 (ky:Int),.slice iA' im' ik'] 54)=w1 at *
 replace hX:=ζ (hX.o.grows hb);replace hY:=ζ (hY.o.grows hb);replace hG:=ζ (hG.o.trans hb);clear hb cF;generalize w.heap.size+1=gy at *
 generalize w.heap.size=gx at *
 have x2:=hX.o.c2;have x3:=hX.o.c3;have y2:=hY.o.c2;have y3:=hY.o.c3;have lX:=hX.o.lt;have lY:=hY.o.lt;go_wp2_with fail;refine (cI.out _ hG.o).mono ?_;rintro e w3 ⟨rfl,hb⟩;go_wp2;go_ret;exact⟨rfl,hG.o.trans hb⟩
theorem anh (A B:Option Addr) (m c m' c':Nat) (xs:List eu) (w:World) (h:dH w 2 fU A m xs) (h':dH w 2 fU B m' xs) (hm:m≤9223372036854775807) :
 Calls Tryz.prog 38 #[.slice A m c,.slice B m' c'] w fun e w'=>e =.returned (.bool true)∧ah w w':=by
 obtain rfl:m = m':=h.1.symm.trans h'.1;have hb:((m:Int) != (m:Int))=false:=by simp
 replace h:=ζ h;replace h':=ζ h';go_enter Tryz.func38,Tryz.ntmps38
 go_wp2;go_loopw [5,13] (fun _ iv wr=>∃k:Nat,k≤m∧iv=.int .i64 k∧ah w wr) (fun _ iv _=>m - (intOf iv).toNat)
 case atStart=>exact⟨0,ω,rfl,ah.refl _⟩
 case round=>
  obtain⟨k,hk,rfl,hg⟩:=hrel;by_cases nV:k<m
  ·obtain⟨b1,o1,x,rfl,_,hx,hc1⟩:=((h.o).keep hg).at_ nV;obtain⟨b2,o2,y,rfl,_,hy,hc2⟩:=((h'.o).keep hg).at_ nV;rw[hx] at hy;injection hy with hy
   subst hy;have c1:wr.cell? ⟨b1,o1+k*2,none⟩=some (.string ⟨x.n.toArray⟩):=by simpa using hc1 0 _ rfl
   have d1:wr.cell? ⟨b1,o1+k*2+1,none⟩=some (.string ⟨x.v.toArray⟩):=hc1 1 _ rfl;have c2:wr.cell? ⟨b2,o2+k*2,none⟩=some (.string ⟨x.n.toArray⟩):=by simpa using hc2 0 _ rfl
   have d2:wr.cell? ⟨b2,o2+k*2+1,none⟩=some (.string ⟨x.v.toArray⟩):=hc2 1 _ rfl;have j_:(k:Int)<(m:Int):=ω;clear hx hc1 hc2;go_wp2;go_quiet (fail)
   go_wp2;go_roundw
   case rel=>exact⟨k+1,ω,ν,hg.drewN _⟩
   case measure=>exact ψ
  ·have j_:¬(k:Int)<(m:Int):=ω;go_wp2;go_ret;exact⟨rfl,hg⟩
theorem ang (A B:Option Addr) (m c m' c':Nat) (xs:List Nat) (w:World) (h:dH w 1 lU A m xs) (h':dH w 1 lU B m' xs) (hm:m≤9223372036854775807) :
 Calls Tryz.prog 39 #[.slice A m c,.slice B m' c'] w fun e w'=>e =.returned (.bool true)∧ah w w':=by
 obtain rfl:m = m':=h.1.symm.trans h'.1;have hb:((m:Int) != (m:Int))=false:=by simp
 replace h:=ζ h;replace h':=ζ h';go_enter Tryz.func39,Tryz.ntmps39
 go_wp2;go_loopw [5,13] (fun _ iv wr=>∃k:Nat,k≤m∧iv=.int .i64 k∧ah w wr) (fun _ iv _=>m - (intOf iv).toNat)
 case atStart=>exact⟨0,ω,rfl,ah.refl _⟩
 case round=>
  obtain⟨k,hk,rfl,hg⟩:=hrel;by_cases nV:k<m
  ·obtain⟨b1,o1,x,rfl,_,hx,hc1⟩:=((h.o).keep hg).at_ nV;obtain⟨b2,o2,y,rfl,_,hy,hc2⟩:=((h'.o).keep hg).at_ nV;rw[hx] at hy;injection hy with hy
   subst hy;have c1:wr.cell? ⟨b1,o1+k,none⟩=some (.int .u64 (x:Int)):=by simpa using hc1 0 _ rfl
   have c2:wr.cell? ⟨b2,o2+k,none⟩=some (.int .u64 (x:Int)):=by simpa using hc2 0 _ rfl
   have j_:(k:Int)<(m:Int):=ω;clear hx hc1 hc2;go_wp2;go_quiet (fail)
   go_wp2;go_roundw
   case rel=>exact⟨k+1,ω,ν,hg.drewN _⟩
   case measure=>exact ψ
  ·have j_:¬(k:Int)<(m:Int):=ω;go_wp2;go_ret;exact⟨rfl,hg⟩
theorem agZ (x y:bM) (w:World) (h:x.g = y.g) (hxb:dH w 2 fU x.bA x.bm x.iM) (hyb:dH w 2 fU y.bA y.bm y.iM) (hxi:dH w 1 lU x.iA x.im x.ids) (Xm:dH w 1 lU y.iA y.im y.ids) (hm:x.bm≤9223372036854775807) (hm2:x.im≤9223372036854775807) :
 Calls Tryz.prog 13 #[.agg #[.int .i64 (x.r:Int),.slice x.bA x.bm x.bk,.int .u64 (x.key:Int),.slice x.iA x.im x.ik],.agg #[.int .i64 (y.r:Int),.slice y.bA y.bm y.bk,.int .u64 (y.key:Int),.slice y.iA y.im y.ik]] w fun e w'=>e =.returned (.bool true)∧ah w w':=by
 have h1:x.r = y.r:=congrArg oh.route h;have h2:x.iM=y.iM:=congrArg oh.iM h;have h3:x.key=y.key:=congrArg oh.key h;have h4:x.ids=y.ids:=congrArg oh.ids h;rw[←h2] at hyb;rw[←h4] at Xm;have cF:=fun W (hW:ah w W)=>anh x.bA y.bA x.bm x.bk y.bm y.bk x.iM W (hxb.keep hW) (hyb.keep hW) hm
 have cU:=fun W (hW:ah w W)=>ang x.iA y.iA x.im x.ik y.im y.ik x.ids W (hxi.keep hW) (Xm.keep hW) hm2
 have b1:((x.r:Int)==(y.r:Int))=true:=by rw[beq_iff_eq,h1]
 have b2:((x.key:Int)==(y.key:Int))=true:=by rw[beq_iff_eq,h3]
 replace cF:=ζ cF;replace cU:=ζ cU;clear h h1 h2 h3 h4 hxb hyb hxi Xm hm hm2;go_enter Tryz.func13,Tryz.ntmps13
 go_wp2_with fail;refine (cF.out _ γ).mono ?_;rintro e w1 ⟨rfl,hb1⟩;have bx:aS w1 w.heap.size 53 #[.int .i64 (x.r:Int),.slice x.bA x.bm x.bk,.int .u64 (x.key:Int),.slice x.iA x.im x.ik]:=((aS.new w _ _).alloc _).grows hb1;have iM:aS w1 (w.heap.size+1) 53 #[.int .i64 (y.r:Int),.slice y.bA y.bm y.bk,.int .u64 (y.key:Int),.slice y.iA y.im y.ik]:=(aS.vO w _ _ _).grows hb1;have hG:ah w w1:=(((ah.refl w).alloc _).alloc _).trans hb1;have x2:=bx.cell 2;have x3:=bx.cell 3;have y2:=iM.cell 2;have y3:=iM.cell 3;have xl:=bx.lt;have yl:=iM.lt;clear hb1 bx iM;go_wp2_with fail;refine (cU.out _ γ).mono ?_;rintro e w2 ⟨rfl,hb2⟩;go_wp2_with fail;go_ret;exact⟨rfl,hG.trans hb2⟩
end Go.Proofs.YteojanlajhebhaaGreatDoor
namespace Go.Proofs.YteojanlajhebhaaGreatDoor
open Go.RowKit Go.Maps
theorem amC {m c5 c6:Nat} {A5 A6:Option Addr} {gs1 gs2:List bM} {wS:World} {Q0:Exit→Act→World→Prop} {x0 x1 x2 x3 x4 x5 x6 x7 x8 x9 JA Hr yZ xX CJ Ad Ac yE xW xU xR xQ xI xH xG xP xO yD yY yX yV yU yT Aa z_ zZ zY zX zW zV zU zT zS zQ zO zN zM zL zK zJ zI Dc C_ CG zH Cb B_ BZ BX BU BR BP BN BM BK zG zF zD zC zB BJ BH BG BF BD BA Bz Bv Bq CB Cm Cj Ci Ce zA zy zx zu zq zo C9 CZ Bo Bl zn Bj Bh kS kR kQ kP kN kM mF mD mg lZ mV mQ nX ny ql qj qh qg qc pI pG pF pq o_ o9 oZ oW:Value}
 (hX5:Hid (dH wS 4 KX A5 m gs1)) (hX6:Hid (dH wS 4 KX A6 m gs2)) (hI5:Hid (∀x∈gs1,x.At wS)) (hI6:Hid (∀x∈gs2,x.At wS)) (hM:Hid (gs1.map bM.g = gs2.map bM.g)) (hm:m≤9223372036854775807)
 (U_:∀c a d v w,Q0 (.panic c) (Act.put a d v) w→Q0 (.panic c) a w)
 (tY:∀(u6 u14 Vq Vp Vo Vm Vl u87 u88 u89 u90 u91 u92 u93 Ya X_ X9 u97 X8 X7 Ih Ig Ie Ic Ib Ia H_ H9 H8 H7 Fe Fb H6 JG JF JE JD JC JB PZ PY PX PW PV PU PS PN:Value) (wr:World),(Hid (ah wS wr))→Q0 (.exit 4) ⟨(x0::x1::x2::x3::x4::x5::u6::x7::x8::x9::JA::Hr::(.slice A5 m c5)::(.slice A6 m c6)::u14::yZ::xX::CJ::Ad::Ac::yE::xW::xU::xR::xQ::xI::xH::xG::xP::xO::yD::yY::yX::yV::yU::yT::Aa::z_::zZ::zY::zX::zW::zV::zU::zT::zS::zQ::zO::zN::zM::zL::zK::zJ::zI::Dc::C_::CG::zH::Cb::B_::BZ::BX::BU::BR::BP::BN::BM::BK::zG::zF::zD::zC::zB::BJ::BH::BG::BF::BD::BA::Bz::Bv::Bq::Vq::Vp::Vo::Vm::Vl::u87::u88::u89::u90::u91::u92::u93::Ya::X_::X9::u97::X8::X7::Ih::Ig::Ie::Ic::Ib::Ia::H_::H9::H8::H7::Fe::Fb::H6::JG::JF::JE::JD::JC::JB::PZ::PY::PX::PW::PV::PU::PS::PN::[]).toArray,[]⟩ wr) :
 Code.wp Tryz.prog (Gy Tryz.f3 2) Q0 ⟨(x0::x1::x2::x3::x4::x5::x6::x7::x8::x9::JA::Hr::(.slice A5 m c5)::(.slice A6 m c6)::(.int .i64 0)::yZ::xX::CJ::Ad::Ac::yE::xW::xU::xR::xQ::xI::xH::xG::xP::xO::yD::yY::yX::yV::yU::yT::Aa::z_::zZ::zY::zX::zW::zV::zU::zT::zS::zQ::zO::zN::zM::zL::zK::zJ::zI::Dc::C_::CG::zH::Cb::B_::BZ::BX::BU::BR::BP::BN::BM::BK::zG::zF::zD::zC::zB::BJ::BH::BG::BF::BD::BA::Bz::Bv::Bq::CB::Cm::Cj::Ci::Ce::zA::zy::zx::zu::zq::zo::C9::CZ::Bo::Bl::zn::Bj::Bh::kS::kR::kQ::kP::kN::kM::mF::mD::mg::lZ::mV::mQ::nX::ny::ql::qj::qh::qg::qc::pI::pG::pF::pq::o_::o9::oZ::oW::[]).toArray,[]⟩ wS:=by
 conv=>arg 2;whnf
 go_loopw [14] (fun i wr=>∃j:Nat,j≤m∧i =.int .i64 (j:Int)∧Hid (ah wS wr)) (fun i _=>m - (intOf i).toNat)
 case atStart=>exact⟨0,ω,rfl,ζ (ah.refl _)⟩
 case round=>
  obtain⟨j,hj,rfl,dF⟩:=hrel;by_cases hjl:j < m
  ·obtain⟨b5,o5,x,rfl,GV,hx,hc5⟩:=(hX5.o.keep dF.o).at_ hjl;obtain⟨b6,o6,y,rfl,hb6,hy,hc6⟩:=(hX6.o.keep dF.o).at_ hjl;have hxa:=(hI5.o x (List.mem_of_getElem? hx)).keep dF.o;have hya:=(hI6.o y (List.mem_of_getElem? hy)).keep dF.o;have hg:x.g = y.g:=by
    have h:=congrArg (fun l=>l[j]?) hM.o;simp only[List.getElem?_map,hx,hy,Option.map_some,Option.some.injEq] at h;exact h
   have ao8:(j:Int)<(m:Int):=ω;have x0:wr.cell? ⟨b5,o5+j * 4,none⟩=some (.int .i64 (x.r:Int)):=by simpa using hc5 0 _ rfl
   have x1:wr.cell? ⟨b5,o5+j * 4+1,none⟩=some (.slice x.bA x.bm x.bk):=hc5 1 _ rfl;have x2:wr.cell? ⟨b5,o5+j * 4+2,none⟩=some (.int .u64 (x.key:Int)):=hc5 2 _ rfl;have x3:wr.cell? ⟨b5,o5+j * 4+3,none⟩=some (.slice x.iA x.im x.ik):=hc5 3 _ rfl;have y0:wr.cell? ⟨b6,o6+j * 4,none⟩=some (.int .i64 (y.r:Int)):=by simpa using hc6 0 _ rfl
   have y1:wr.cell? ⟨b6,o6+j * 4+1,none⟩=some (.slice y.bA y.bm y.bk):=hc6 1 _ rfl;have y2:wr.cell? ⟨b6,o6+j * 4+2,none⟩=some (.int .u64 (y.key:Int)):=hc6 2 _ rfl;have y3:wr.cell? ⟨b6,o6+j * 4+3,none⟩=some (.slice y.iA y.im y.ik):=hc6 3 _ rfl;have cS:=ζ (fun W (hW:ah wr W)=>abW (x:=x) (y:=y) W (hxa.keep hW) (hya.keep hW) hg);have cT:=ζ (fun W (hW:ah wr W)=>agZ x x W rfl (hxa.fs.keep hW) (hxa.fs.keep hW) (hxa.ids.keep hW) (hxa.ids.keep hW) hxa.bl (by have:=hxa.il;unfold maxLen at this;omega));unfold amc at cS;clear hc5 hc6 hx hy hxa hya hg hX5 hX6 hI5 hI6 hM;go_wp2_with fail;refine bV (μ (.range 39) [25,36]) κ κ rfl κ π ?_;iterate 25 refine dX ?_
   refine iw rfl (fun K' hK=> ?_);go_simp;refine (cS.out _ γ).mono ?_;rintro e w5 ⟨rfl,GV⟩;refine hK.o _ _ ?_ (fun hS=> ?_)
   ·exact γ
   clear hK hS;iterate 10 refine dX ?_
   refine iw rfl (fun K' hK=> ?_);go_simp;refine (cT.out _ γ).mono ?_;rintro e w6 ⟨rfl,hb6⟩;refine hK.o _ _ ?_ (fun hS=> ?_)
   ·exact γ
   clear hK hS;iterate 2 refine dX ?_
   refine gK ?_;have Z8:Hid (ah wS w6):=ζ (dF.o.trans γ);go_wp2;go_roundw
   case rel=>exact⟨j + 1,ω,ν,Z8⟩
   case measure=>exact ψ
  ·have ao8:¬(j:Int)<(m:Int):=ω;clear hX5 hX6 hI5 hI6 hM;go_wp2
end Go.Proofs.YteojanlajhebhaaGreatDoor
namespace Go.Proofs.YteojanlajhebhaaGreatDoor
open Go.RowKit
abbrev TGr:List TypeId:=[54]
theorem atP:iK Tryz.prog 47 54 4 64:=iK.mk' (z:=.agg #[.int .i64 0,.slice none 0 0,.int .u64 0,.slice none 0 0]) Tryz.underlying47 κ rfl ω
theorem Own.tkq {T:List TypeId} {base base' k:Nat} {α:Type} {w w':World} {e:TypeId} {enc:α→List Value} {v:Value} {xs:List α} (h:Own w base e k enc v xs) (hk:aC T base' w w') (ht:e∉T):Own w' base e k enc v xs:=by
 refine⟨h.1,?_⟩;rcases h.2 with h2 | ⟨g,cap,cur,hv,hb,hh,r⟩
 ·exact .inl h2
 ·exact .inr ⟨g,cap,cur,hv,hb,hk.blk hh ht,r⟩
theorem ug.tkq {T:List TypeId} {base:Nat} {w w':World} {v:Value} {l:List Nat} (h:ug w v l) (hk:aC T base w w') (ht:50∉T):ug w' v l:=by
 rcases h with h | ⟨b,off,c,h1,h2,h3,h4,h5,cur,h6⟩
 ·exact .inl h
 ·have h7:w'.heap[b]? = some (.cells cur 50 (0,0)):=hk.blk h6 ht;refine .inr ⟨b,off,c,h1,h2,h3,h4,⟨h5.1,fun h0=> ?_⟩,cur,h7⟩;obtain⟨b',acJ,e,hb,hc⟩:=h5.2 h0;injection e with e
  injection e with e1 e2 _
  subst e1 e2;refine⟨b,off,rfl,jP h7,fun i hi j u hu=> ?_⟩;have:=hc i hi j u hu;simp only[World.cell?,h6] at this;simp only[World.cell?,h7];exact this
structure Nr (w:World) (base:Nat) (v:Value) (gs:List bM):Prop where
 own:Own w base 54 4 KX v gs
 fs:∀x∈gs,Own w 0 63 2 fU x.bv x.iM
 ids:∀x∈gs,ug w x.iv x.ids
theorem Nr.iH (w:World) (base:Nat):Nr w base (.slice none 0 0) []:=⟨Own.iH _ _ _ _ _,by simp,by simp⟩
theorem Nr.grows {w w':World} {base:Nat} {v:Value} {gs:List bM} (h:Nr w base v gs) (hg:ah w w'):Nr w' base v gs:=
 ⟨h.own.grows hg,fun x hx=>(h.fs x hx).grows hg,fun x hx=>(h.ids x hx).grows hg⟩
theorem Nr.keep {w w':World} {base:Nat} {v:Value} {gs:List bM} (h:Nr w base v gs) (hb:base≤w.heap.size) (hg:w.grownBy w' v.ownBlock):aC TGr base w w':=
 aC.row hg hb fun m hm=>by
  obtain⟨h1,cs,h2⟩:=h.own.kY m hm;exact⟨h1,_,cs,by simp[TGr],h2⟩
theorem wH:63∉TGr∧50∉TGr:=δ
theorem Nr.push {w w1:World} {base:Nat} {v v':Value} {gs:List bM} {x:bM} (h:Nr w base v gs) (hb:base≤w.heap.size) (hg:w.grownBy w1 v.ownBlock) (hO:Own w1 base 54 4 KX v' (gs++[x]))
 (hf:Own w 0 63 2 fU x.bv x.iM) (hi:ug w x.iv x.ids):Nr w1 base v' (gs++[x]):=by
 have hk:=h.keep hb hg;refine⟨hO,fun y hy=> ?_,fun y hy=> ?_⟩
 ·rcases List.mem_append.1 hy with hy | hy
  ·exact (h.fs y hy).tkq hk wH.1
  ·rw[List.mem_singleton] at hy;subst hy;exact hf.tkq hk wH.1
 ·rcases List.mem_append.1 hy with hy | hy
  ·exact (h.ids y hy).tkq hk wH.2
  ·rw[List.mem_singleton] at hy;subst hy;exact hi.tkq hk wH.2
theorem Nr.upd {w:World} {base g n cap k:Nat} {gs:List bM} {x x':bM} (h:Nr w base (.slice (some ⟨g,0,none⟩) n cap) gs) (hx:gs[k]? = some x) (akl:KX x'=(KX x).set 3 x'.iv) (hbv:x'.bv=x.bv∧x'.iM=x.iM) (hi:ug w x'.iv x'.ids) :
 Nr (w.setCell ⟨g,k*4+3,none⟩ x'.iv) base (.slice (some ⟨g,0,none⟩) n cap) (gs.set k x')∧aC TGr base w (w.setCell ⟨g,k*4+3,none⟩ x'.iv):=by
 obtain⟨h1,cs,h2⟩:=h.own.kY g rfl;have hk:aC TGr base w (w.setCell ⟨g,k*4+3,none⟩ x'.iv):=aC.setCell h2 h1 (by simp[TGr]) _;have AO:k<gs.length:=(List.getElem?_eq_some_iff.1 hx).1;have hnl:=h.own.len N7;refine⟨⟨h.own.abQ N7 ω ω ω (fun y hy=>by rw[hx] at hy;injection hy with hy;subst hy;exact akl),fun y hy=> ?_,fun y hy=> ?_⟩,hk⟩
 ·rcases List.mem_or_eq_of_mem_set hy with hy | hy
  ·exact (h.fs y hy).tkq hk wH.1
  ·subst hy;rw[hbv.1,hbv.2];exact (h.fs x (List.mem_of_getElem? hx)).tkq hk wH.1
 ·rcases List.mem_or_eq_of_mem_set hy with hy | hy
  ·exact (h.ids y hy).tkq hk wH.2
  ·subst hy;exact hi.tkq hk wH.2
theorem Nr.at_ {w:World} {base:Nat} {v:Value} {gs:List bM} (h:Nr w base v gs):∀x∈gs,x.At w:=fun x hx=>by
 obtain⟨A,c,hv,_,hm,hA⟩:=(h.fs x hx).arr JW;unfold bM.bv at hv;simp only[Value.slice.injEq] at hv;obtain⟨e1,e2,e3⟩:=hv;have hI:dH w 1 lU x.iA x.im x.ids∧x.im≤maxLen:=by
  have hi:=h.ids x hx;unfold bM.iv at hi;rcases hi with⟨h1,h2⟩ | ⟨b,off,c',h1,h2,h3,h4,h5,_⟩
  ·simp only[Value.slice.injEq] at h2;rw[h2.1,h2.2.1,h1];exact⟨dH.iH,by unfold maxLen;omega⟩
  ·simp only[Value.slice.injEq] at h1;rw[h1.1,h1.2.1];exact⟨h5,ω⟩
 refine⟨by rw[e1,e2];exact hA,hI.1,?_,hI.2⟩;rw[e2];unfold maxLen at hm;omega
end Go.Proofs.YteojanlajhebhaaGreatDoor
namespace Go.Proofs.YteojanlajhebhaaGreatDoor
def I8 (fb:jq→Bool) (ft:List eu→jq→Bool) (p:HY) (rec:List UInt8) (now:Int) (r:Nat) (gs:List oh) (a:Jj):List oh:=
 if r∈uJ fb ft p rec a now then (match jH p rec a now with
  | some c=>Nc rec r (dV c.fs (bU p r)) (FH c) gs
  | none=>gs) else gs
def iF (fb:jq→Bool) (ft:List eu→jq→Bool) (p:HY) (rec:List UInt8) (l:List Jj) (now:Int) (r:Nat):List oh:=l.foldl (I8 fb ft p rec now r) []
def I9 (fb:jq→Bool) (ft:List eu→jq→Bool) (p:HY) (rec:List UInt8) (l:List Jj) (now:Int) (r:Nat):List oh:=(List.range r).flatMap (iF fb ft p rec l now)
section
variable {fb:jq→Bool} {ft:List eu→jq→Bool} {p:HY} {rec:List UInt8} {l:List Jj} {now:Int}
theorem Ph {r i:Nat} {a:Jj} (h:l[i]? = some a):iF fb ft p rec (l.take (i + 1)) now r = I8 fb ft p rec now r (iF fb ft p rec (l.take i) now r) a:=by
 unfold iF;rw[List.take_add_one,h,List.foldl_append];rfl
theorem Ol {r:Nat} {gs:List oh} {a:Jj} (h:r∉uJ fb ft p rec a now):I8 fb ft p rec now r gs a = gs:=by unfold I8;rw[if_neg h]
theorem Tn {r:Nat} {gs:List oh} {a c:Jj} (h:r∈uJ fb ft p rec a now) (hs:jH p rec a now=some c):I8 fb ft p rec now r gs a = Nc rec r (dV c.fs (bU p r)) (FH c) gs:=by unfold I8;rw[if_pos h,hs]
theorem Pj (r:Nat):I9 fb ft p rec l now (r + 1)=I9 fb ft p rec l now r ++iF fb ft p rec l now r:=by
 unfold I9;rw[List.range_succ,List.flatMap_append];simp
theorem Oj {r:Nat} {a:Jj} (h:r∈uJ fb ft p rec a now):jJ fb p = 0∧∃c to,jH p rec a now=some c∧gG p.receivers rec=some to∧G9 p a to=some c:=by
 unfold uJ at h;cases hs:jH p rec a now with
 | none=>rw[hs] at h;simp at h
 | some c=>
  rw[hs] at h;simp only at h;refine⟨?_,c,?_⟩
  ·by_cases hc:jJ fb p = 0
   ·exact hc
   ·rw[if_neg hc] at h;simp at h
  ·unfold jH at hs;cases hf:gG p.receivers rec with
   | none=>rw[hf] at hs;cases hs
   | some to=>
    rw[hf] at hs;simp only at hs;split at hs
    ·exact⟨to,rfl,rfl,hs⟩
    ·cases hs
theorem ajA (l:List Nat) (id:Nat):(wV l id).length≤l.length+1:=by
 unfold wV;split
 ·omega
 ·have h:=(Jr l id l.length (Nat.le_refl _)).1;simp only[List.length_append,List.length_take,List.length_drop,List.length_singleton];omega
theorem alv (rec:List UInt8) (r:Nat) (fs:List eu) (id:Nat) (gs:List oh):(Nc rec r fs id gs).length≤gs.length+1∧∀B,1≤B+1→(∀g∈gs,g.ids.length≤B)→∀g∈Nc rec r fs id gs,g.ids.length≤B+1:=by
 unfold Nc;split
 ·rename_i k hk;split
  ·rename_i g hg;refine⟨by simp,fun B _ h x hx=> ?_⟩;rcases List.mem_or_eq_of_mem_set hx with hx | hx
   ·have:=h x hx;omega
   ·subst hx;have:=ajA g.ids id;have:=h g (List.mem_of_getElem? hg);simp only;omega
  ·exact⟨ω,fun B _ h x hx=>by have:=h x hx;omega⟩
 ·refine⟨by simp,fun B _ h x hx=> ?_⟩;rcases List.mem_append.1 hx with hx | hx
  ·have:=h x hx;omega
  ·rw[List.mem_singleton] at hx;subst hx;have:=ajA [] id;simp only[List.length_nil] at this;simp only;omega
theorem G5 (r:Nat):∀i,i≤l.length→(iF fb ft p rec (l.take i) now r).length≤i∧∀g∈iF fb ft p rec (l.take i) now r,g.ids.length≤i
 | 0,_=>by simp[iF]
 | i + 1,hi=>by
  obtain⟨h1,h2⟩:=G5 r i ω;rw[Ph (List.getElem?_eq_getElem (show i < l.length by omega))];by_cases hg:r∈uJ fb ft p rec l[i] now
  ·obtain⟨_,c,_,hs,_⟩:=Oj hg;rw[Tn hg hs];obtain⟨h3,h4⟩:=alv rec r (dV c.fs (bU p r)) (FH c) (iF fb ft p rec (l.take i) now r);exact⟨ω,h4 i ω h2⟩
  ·rw[Ol hg];exact⟨ω,fun g hg=>by have:=h2 g hg;omega⟩
theorem adC (r:Nat):(I9 fb ft p rec l now r).length≤r * l.length:=by
 induction r with
 | zero=>simp[I9]
 | succ r ih=>
  rw[Pj,List.length_append,Nat.add_mul];have:=(G5 (fb:=fb) (ft:=ft) (p:=p) (rec:=rec) (l:=l) (now:=now) r l.length (Nat.le_refl _)).1;rw[List.take_length] at this;omega
theorem adD:I9 fb ft p rec l now p.routes.length=QD fb ft p rec l now:=by
 unfold I9 QD;split
 ·rename_i hc;congr 1
  funext r
  unfold iF aeh;congr 1
  funext gs a
  unfold I8 Aj uJ;cases hs:jH p rec a now with
  | none=>simp
  | some c=>simp[hc]
 ·rename_i hc;have h0:∀r,iF fb ft p rec l now r = []:=fun r=>by
   unfold iF;have h1:∀(l:List Jj) (gs:List oh),l.foldl (I8 fb ft p rec now r) gs=gs:=fun l=>by
    induction l with
    | nil=>intro gs;rfl
    | cons a l ih=>
     intro gs;rw[List.foldl_cons,ih];exact Ol (fun h=>hc (Oj h).1)
   exact h1 l []
  rw[List.flatMap_eq_nil_iff];exact fun r _=>h0 r
end
theorem ags {gs:List oh} {fs:List eu} {k:Nat} {g:oh} (h:gs[k]? = some g) (he:g.iM=fs):rZ gs fs (k+1)=some k:=by
 unfold rZ;rw[if_pos (by rw[h,Option.map_some,he])]
theorem ajC {gs:List oh} {fs:List eu} {k:Nat} {g:oh} (h:gs[k]? = some g) (he:g.iM≠fs):rZ gs fs (k+1)=rZ gs fs k:=by
 conv=>lhs;unfold rZ
 rw[if_neg (by rw[h,Option.map_some];exact fun e=>he (Option.some.inj e))]
def atV (first:Nat):Option Nat→Int
 | none=> -1
 | some k=>((first+k:Nat):Int)
end Go.Proofs.YteojanlajhebhaaGreatDoor
