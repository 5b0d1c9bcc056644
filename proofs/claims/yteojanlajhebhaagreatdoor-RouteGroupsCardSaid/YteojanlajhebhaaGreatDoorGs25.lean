/- Parts: PatM PatN PatO PatR -/
import Derived.Test.YteojanlajhebhaaGreatDoorGs0
import Derived.Test.YteojanlajhebhaaGreatDoorGs24
set_option maxRecDepth 100000
set_option maxHeartbeats 12800000
namespace Go.Proofs.YteojanlajhebhaaGreatDoor
open Go.RowKit
theorem Oy {w:World} {g k:Nat} {t u:TypeId} {cs ds:Array Value} (h:aS w g t cs) (k':aS w k u ds) (hne:t≠u) (e:g = k):False:=by
 subst e;unfold aS at h k';rw[h] at k';simp only[Option.some.injEq,Obj.cells.injEq] at k';exact hne k'.2.1
theorem ahr {w:World} {base gB dp:Nat} {s:List UInt8} {b:PB} {c:UInt8} {sub:Option (PB→PB×qW)} {f:PB→PB×qW} {xs:List DI} {sv:Value} (jc:aaC s sub dp) (hsp:Lp s 11 sub) (h:ni w base gB s b xs sv) (hb:base≤w.heap.size) (tX:s.length≤100) (hcs:s[b.at_]? = some c) (hc:gJ b≤8*b.at_+61) (A_:c = 40) (hsb:sub=some f) :
 Calls Tryz.prog 176 #[.pointer (some ⟨gB,0,none⟩),.int .i64 (dp:Int)] w (jZ base gB s w (dh s sub c b)):=by
 have i40:(c.toNat:Int)=40:=by rw[A_];rfl
 have wL:Hid ((aH b).at_≤s.length):=ζ (by have:=(List.getElem?_eq_some_iff.1 hcs).1;simp only[aH];omega);obtain⟨hdp,aeD⟩:=jc.2 f hsb;have azx:¬(dp:Int)=8:=ω;have axH:(dp:Int)≤8∧0≤(dp:Int):=ω;have oP:=hsp f hsb (aH b) wL.o;have hat:Hid (dh s sub c b = (aH (if kK s (f (aH b)).1=some 41 then (f (aH b)).1 else aW 2 (f (aH b)).1),(f (aH b)).2)):=ζ (by unfold dh;rw[if_pos A_,hsb]);have amS:Hid (gJ (aH b)≤8*(aH b).at_+53):=ζ (by rw[Ov];simp only[aH];omega);replace aeD:=ζ aeD;replace oP:=ζ oP;clear A_ hsp jc hsb;have hlt:b.at_<s.length:=(List.getElem?_eq_some_iff.1 hcs).1;have yg:Hid (∀t∈[206],t∈TS):=ζ (by intro t ht;simp[TS,TB] at *;exact .inr (.inl ht));have sF:Hid (∀t∈TB,t∈TS):=ζ (fun t ht=>List.mem_cons_of_mem _ ht);have hTK:Hid (∀t∈TC,t∈TS):=ζ (by intro t ht;simp[TS,TB,TC] at *;rcases ht with h | h;exact .inr (.inl h);exact .inl h);have hR:=aS.new w 208 #[.int .i64 0,.int .i64 0];have hg1:ah w (w.alloc (.cells #[.int .i64 0,.int .i64 0] 208)):=(ah.refl _).alloc _;replace hR:=ζ hR;have hG:=ζ (aC.grows (T:=TS) hg1 hb);replace h:=ζ (h.grows hg1);have hb0:Hid (BLe base w):=ζ hb;replace hb:=ζ (Nat.le_trans hb hg1.size);have hgr:Hid (GLe w w.heap.size):=ζ (Nat.le_refl _);have Yz:((b.at_:Nat):Int)<(s.length:Int):=ω;have SY:∀h:b.at_<(⟨s.toArray⟩:ByteArray).size,(⟨s.toArray⟩:ByteArray)[b.at_]'h = c:=fun h=>by
  show s.toArray[b.at_]=c
  rw[List.getElem_toArray];exact (List.getElem?_eq_some_iff.1 hcs).2
 have c0:∀w',ni w' base gB s b xs sv→w'.cell? ⟨gB,0,none⟩=some (.string ⟨s.toArray⟩):=fun w' hh=>(hh.blk.cell 0).trans rfl
 have c1:∀w',ni w' base gB s b xs sv→w'.cell? ⟨gB,1,none⟩=some (.int .i64 (b.at_:Int)):=fun w' hh=>(hh.blk.cell 1).trans rfl
 replace c0:=c0 _ h.o;replace c1:=c1 _ h.o;have l1:=h.o.blk.lt;clear hg1;go_enter Tryz.func176,Tryz.ntmps176
 go_wp2_with fail;generalize w.alloc (.cells #[.int .i64 0,.int .i64 0] 208)=w0 at *
 generalize w.heap.size=gR at *
 refine aJ κ ?_;refine rK (.range 10) 0 ?_;iterate 10 refine aB ?_
 refine ay ?_;refine aP κ (fun wN hN hS=> ?_);clear c0 c1 l1;replace hR:=ζ (hR.o.grows hN);replace h:=ζ (h.o.grows hN);replace hG:=ζ (hG.o.trans (aC.grows hN hb.o));replace hb:=ζ (Nat.le_trans hb.o hN.size);clear hN hS;have c1:wN.cell? ⟨gB,1,none⟩=some (.int .i64 ((b).at_:Int)):=(h.o.blk.cell 1).trans rfl;have f1:=h.o.blk.frozen 1;have l1:=h.o.blk.lt;have i1: -9223372036854775808≤((b).at_:Int)+1∧((b).at_:Int)+1≤9223372036854775807:=by first | omega | (simp only[aH];omega)
 have hA:=ζ h.o.EW;have gU:=ζ (hG.o.trans ((aC.own h.o (aj wN ⟨gB,1,none⟩ (.int .i64 (((b).at_:Int)+1)))).mono yg.o));have hsz:Hid ((wN.setCell ⟨gB,1,none⟩ (.int .i64 (((b).at_:Int)+1))).heap.size=wN.heap.size):=ζ σ;go_wp2_with fail;(try replace aO:=ζ (aO.o.tk (aC.own h.o (aj wN ⟨gB,1,none⟩ (.int .i64 (((b).at_:Int)+1)))) δ))
 (try replace hX:=ζ ((aC.own h.o (aj wN ⟨gB,1,none⟩ (.int .i64 (((b).at_:Int)+1)))).blk hX.o δ))
 (try replace hP:=ζ ((aC.own h.o (aj wN ⟨gB,1,none⟩ (.int .i64 (((b).at_:Int)+1)))).blk hP.o δ))
 (try replace hR:=ζ ((aC.own h.o (aj wN ⟨gB,1,none⟩ (.int .i64 (((b).at_:Int)+1)))).blk hR.o δ))
 clear c1 f1 l1 i1 h hG;generalize wN.setCell ⟨gB,1,none⟩ (.int .i64 (((b).at_:Int)+1))=w2 at *
 have h:=hA;have hG:=gU;clear hA gU;replace hb:=ζ (Nat.le_trans hb0.o hG.o.size);have dF:ah w2 (w2.alloc (.cells #[.int .u64 0,.int .u64 0,.int .u64 0,.int .u64 0] 237)):=(ah.refl _).alloc _;replace hR:=ζ (hR.o.grows dF);replace h:=ζ (h.o.grows dF);replace hG:=ζ (hG.o.trans (aC.grows dF hb.o));replace hb:Hid (base≤(w2.alloc (.cells #[.int .u64 0,.int .u64 0,.int .u64 0,.int .u64 0] 237)).heap.size):=ζ (Nat.le_trans hb.o dF.size);clear dF;generalize w2.alloc (.cells #[.int .u64 0,.int .u64 0,.int .u64 0,.int .u64 0] 237)=w3 at *
 refine (aeD.o _ _ _ _ _ _ h.o hb.o wL.o amS.o).mono ?_;rintro e w4 ⟨rfl,xs4,sv4,h',fH⟩;replace h:=ζ h';(try replace hX:=ζ (fH.blk hX.o δ))
 (try replace hP:=ζ (fH.blk hP.o δ))
 (try replace hR:=ζ (fH.blk hR.o δ))
 replace hG:=ζ (hG.o.trans fH);replace hb:=ζ (Nat.le_trans hb0.o hG.o.size);clear h' fH aeD amS;generalize f (aH b)=r at *
 obtain⟨rb,p1,p2⟩:=r;simp only[eG];have Ub:=oP.o.2.1;replace Ub:=ζ Ub;cases hp:kK s rb with
 | none=>
  have jm:iV s rb=.tuple #[.int .u8 0,.bool false]:=by simp only[iV,hp]
  have ES:Hid (dh s sub c b = (aH (aW 2 rb),(p1,p2))):=ζ (by rw[hat.o,hp];rfl);clear hp hat;go_wp2_with fail;have hP:=aS.new w4 208 #[.int .i64 (p1:Int),.int .i64 (p2:Int)];have dF:ah w4 (w4.alloc (.cells #[.int .i64 (p1:Int),.int .i64 (p2:Int)] 208)):=(ah.refl _).alloc _;(try replace hX:=ζ (hX.o.grows dF))
  (try replace hR:=ζ (hR.o.grows dF))
  replace h:=ζ (h.o.grows dF);replace hG:=ζ (hG.o.trans (aC.grows dF hb.o));replace hb:=ζ (Nat.le_trans hb.o dF.size);clear dF;generalize w4.alloc (.cells #[.int .i64 (p1:Int),.int .i64 (p2:Int)] 208)=w5 at *
  generalize w4.heap.size=gP at *
  replace hP:=ζ hP;refine (g_ h.o).mono ?_;rintro e w6 ⟨rfl,fJ⟩;replace h:=ζ (h.o.grows fJ);replace hG:=ζ (hG.o.trans (aC.grows fJ hb.o));replace hb:=ζ (Nat.le_trans hb.o fJ.size);(try replace aO:=ζ (aO.o.grows fJ))
  (try replace hX:=ζ (hX.o.grows fJ))
  (try replace hP:=ζ (hP.o.grows fJ))
  (try replace hR:=ζ (hR.o.grows fJ))
  clear fJ;rw[jm];clear jm;go_wp2_with fail;refine (nS h.o).mono ?_;rintro e w7 ⟨rfl,akN,qN⟩;(try replace aO:=ζ (aO.o.tk (aC.own h.o qN) δ))
  (try replace hX:=ζ ((aC.own h.o qN).blk hX.o δ))
  (try replace hP:=ζ ((aC.own h.o qN).blk hP.o δ))
  (try replace hR:=ζ ((aC.own h.o qN).blk hR.o δ))
  replace hG:=ζ (hG.o.trans ((aC.own h.o qN).mono yg.o));replace h:=ζ akN;replace hb:=ζ (Nat.le_trans hb0.o hG.o.size);clear akN qN;have hfa:(aW 2 rb).at_<100000:=by rw[bD];have:=Ub.o.1;omega
  have c1:w7.cell? ⟨gB,1,none⟩=some (.int .i64 (((aW 2 rb)).at_:Int)):=(h.o.blk.cell 1).trans rfl;have f1:=h.o.blk.frozen 1;have l1:=h.o.blk.lt;have i1: -9223372036854775808≤(((aW 2 rb)).at_:Int)+1∧(((aW 2 rb)).at_:Int)+1≤9223372036854775807:=ω;have Xu:=aC.own h.o (aj w7 ⟨gB,1,none⟩ (.int .i64 ((((aW 2 rb)).at_:Int)+1)));have hA:=ζ h.o.EW;have hP2:=ζ (Xu.blk hP.o δ);have iW:=ζ (Xu.blk hR.o δ);have iC:=ζ (hG.o.trans (Xu.mono yg.o));have hPB:¬gP=gB:=fun e=>Oy hP.o h.o.blk δ e
  have hRB:¬gR=gB:=fun e=>Oy hR.o h.o.blk δ e
  have hBR:¬gB=gR:=fun e=>hRB e.symm
  (try clear wP);(try clear wO);(try clear wK);(try clear xM);(try clear xK)
  have wP:w7.cell? ⟨gP,0,none⟩=_:=hP.o.cell 0;have wO:w7.cell? ⟨gP,1,none⟩=_:=hP.o.cell 1;have xM:=hP.o.frozen 0;have xK:=hP.o.frozen 1;have wK:=hP.o.lt;(try clear uT);(try clear uS);(try clear uG);(try clear uP);(try clear uO)
  have uT:w7.cell? ⟨gR,0,none⟩=_:=hR.o.cell 0;have uS:w7.cell? ⟨gR,1,none⟩=_:=hR.o.cell 1;have uP:=hR.o.frozen 0;have uO:=hR.o.frozen 1;have uG:=hR.o.lt;clear Xu;go_wp2;clear c1 f1 l1 i1 hPB hRB hBR;clear wP wO xM xK wK;clear uT uS uP uO uG;clear hP hR hG h;have h:=hA;have hR:=iW;have hG:=iC;clear hA hP2 iW iC;generalize w7.setCell ⟨gB,1,none⟩ (.int .i64 ((((aW 2 rb)).at_:Int)+1))=wz at *
  have nN:=hR.o.dO 0 (.int .i64 (p1:Int));have t_:=nN.dO 1 (.int .i64 (p2:Int));have vT:=(hG.o.eY (g:=gR) (i:=0) hgr.o hb0.o (.int .i64 (p1:Int))).eY (g:=gR) (i:=1) hgr.o hb0.o (.int .i64 (p2:Int));have E5:=(h.o.far hR.o δ (aj wz ⟨gR,0,none⟩ (.int .i64 (p1:Int)))).far nN δ (aj _ ⟨gR,1,none⟩ (.int .i64 (p2:Int)));clear hR hG h nN;generalize (wz.setCell ⟨gR,0,none⟩ (.int .i64 (p1:Int))).setCell ⟨gR,1,none⟩ (.int .i64 (p2:Int))=w7 at *
  have e0:=t_.c0;have e1:=t_.c1;refine bodyPost_ret (v:=eG (p1,p2)) ?_ rfl ⟨?_,?_⟩
  ·simp[eG,results,Tryz.results176,go_sem,e0,e1]
  ·rw[ES.o]
  ·rw[ES.o];exact⟨_,_,E5,vT⟩
 | some d=>
  have jm:iV s rb=.tuple #[.int .u8 (d.toNat:Int),.bool true]:=by simp only[iV,hp]
  by_cases V5:d = 41
  ·have i41:(d.toNat:Int)=41:=by rw[V5];rfl
   have ES:Hid (dh s sub c b = (aH rb,(p1,p2))):=ζ (by rw[hat.o,hp];simp[V5]);clear hp hat V5;go_wp2_with fail;have hP:=aS.new w4 208 #[.int .i64 (p1:Int),.int .i64 (p2:Int)];have dF:ah w4 (w4.alloc (.cells #[.int .i64 (p1:Int),.int .i64 (p2:Int)] 208)):=(ah.refl _).alloc _;(try replace hX:=ζ (hX.o.grows dF))
   (try replace hR:=ζ (hR.o.grows dF))
   replace h:=ζ (h.o.grows dF);replace hG:=ζ (hG.o.trans (aC.grows dF hb.o));replace hb:=ζ (Nat.le_trans hb.o dF.size);clear dF;generalize w4.alloc (.cells #[.int .i64 (p1:Int),.int .i64 (p2:Int)] 208)=w5 at *
   generalize w4.heap.size=gP at *
   replace hP:=ζ hP;refine (g_ h.o).mono ?_;rintro e w6 ⟨rfl,fJ⟩;replace h:=ζ (h.o.grows fJ);replace hG:=ζ (hG.o.trans (aC.grows fJ hb.o));replace hb:=ζ (Nat.le_trans hb.o fJ.size);(try replace aO:=ζ (aO.o.grows fJ))
   (try replace hX:=ζ (hX.o.grows fJ))
   (try replace hP:=ζ (hP.o.grows fJ))
   (try replace hR:=ζ (hR.o.grows fJ))
   clear fJ;rw[jm];clear jm;have hw1:rb.at_<100000:=by have:=Ub.o.1;omega
   have c1:w6.cell? ⟨gB,1,none⟩=some (.int .i64 ((rb).at_:Int)):=(h.o.blk.cell 1).trans rfl;have f1:=h.o.blk.frozen 1;have l1:=h.o.blk.lt;have i1: -9223372036854775808≤((rb).at_:Int)+1∧((rb).at_:Int)+1≤9223372036854775807:=ω;have Xu:=aC.own h.o (aj w6 ⟨gB,1,none⟩ (.int .i64 (((rb).at_:Int)+1)));have hA:=ζ h.o.EW;have hP2:=ζ (Xu.blk hP.o δ);have iW:=ζ (Xu.blk hR.o δ);have iC:=ζ (hG.o.trans (Xu.mono yg.o));have hPB:¬gP=gB:=fun e=>Oy hP.o h.o.blk δ e
   have hRB:¬gR=gB:=fun e=>Oy hR.o h.o.blk δ e
   have hBR:¬gB=gR:=fun e=>hRB e.symm
   (try clear wP);(try clear wO);(try clear wK);(try clear xM);(try clear xK)
   have wP:w6.cell? ⟨gP,0,none⟩=_:=hP.o.cell 0;have wO:w6.cell? ⟨gP,1,none⟩=_:=hP.o.cell 1;have xM:=hP.o.frozen 0;have xK:=hP.o.frozen 1;have wK:=hP.o.lt;(try clear uT);(try clear uS);(try clear uG);(try clear uP);(try clear uO)
   have uT:w6.cell? ⟨gR,0,none⟩=_:=hR.o.cell 0;have uS:w6.cell? ⟨gR,1,none⟩=_:=hR.o.cell 1;have uP:=hR.o.frozen 0;have uO:=hR.o.frozen 1;have uG:=hR.o.lt;clear Xu;go_wp2;clear c1 f1 l1 i1 hPB hRB hBR;clear wP wO xM xK wK;clear uT uS uP uO uG;clear hP hR hG h;have h:=hA;have hR:=iW;have hG:=iC;clear hA hP2 iW iC;generalize w6.setCell ⟨gB,1,none⟩ (.int .i64 (((rb).at_:Int)+1))=wz at *
   have nN:=hR.o.dO 0 (.int .i64 (p1:Int));have t_:=nN.dO 1 (.int .i64 (p2:Int));have vT:=(hG.o.eY (g:=gR) (i:=0) hgr.o hb0.o (.int .i64 (p1:Int))).eY (g:=gR) (i:=1) hgr.o hb0.o (.int .i64 (p2:Int));have E5:=(h.o.far hR.o δ (aj wz ⟨gR,0,none⟩ (.int .i64 (p1:Int)))).far nN δ (aj _ ⟨gR,1,none⟩ (.int .i64 (p2:Int)));clear hR hG h nN;generalize (wz.setCell ⟨gR,0,none⟩ (.int .i64 (p1:Int))).setCell ⟨gR,1,none⟩ (.int .i64 (p2:Int))=w7 at *
   have e0:=t_.c0;have e1:=t_.c1;refine bodyPost_ret (v:=eG (p1,p2)) ?_ rfl ⟨?_,?_⟩
   ·simp[eG,results,Tryz.results176,go_sem,e0,e1]
   ·rw[ES.o]
   ·rw[ES.o];exact⟨_,_,E5,vT⟩
  ·have i41:¬(d.toNat:Int)=41:=fun e=>V5 (UInt8.toNat_inj.1 (by show d.toNat=41;omega))
   have ES:Hid (dh s sub c b = (aH (aW 2 rb),(p1,p2))):=ζ (by rw[hat.o,hp];simp[V5]);clear hp hat V5;go_wp2_with fail;have hP:=aS.new w4 208 #[.int .i64 (p1:Int),.int .i64 (p2:Int)];have dF:ah w4 (w4.alloc (.cells #[.int .i64 (p1:Int),.int .i64 (p2:Int)] 208)):=(ah.refl _).alloc _;(try replace hX:=ζ (hX.o.grows dF))
   (try replace hR:=ζ (hR.o.grows dF))
   replace h:=ζ (h.o.grows dF);replace hG:=ζ (hG.o.trans (aC.grows dF hb.o));replace hb:=ζ (Nat.le_trans hb.o dF.size);clear dF;generalize w4.alloc (.cells #[.int .i64 (p1:Int),.int .i64 (p2:Int)] 208)=w5 at *
   generalize w4.heap.size=gP at *
   replace hP:=ζ hP;refine (g_ h.o).mono ?_;rintro e w6 ⟨rfl,fJ⟩;replace h:=ζ (h.o.grows fJ);replace hG:=ζ (hG.o.trans (aC.grows fJ hb.o));replace hb:=ζ (Nat.le_trans hb.o fJ.size);(try replace aO:=ζ (aO.o.grows fJ))
   (try replace hX:=ζ (hX.o.grows fJ))
   (try replace hP:=ζ (hP.o.grows fJ))
   (try replace hR:=ζ (hR.o.grows fJ))
   clear fJ;rw[jm];clear jm;go_wp2_with fail;refine (nS h.o).mono ?_;rintro e w7 ⟨rfl,akN,qN⟩;(try replace aO:=ζ (aO.o.tk (aC.own h.o qN) δ))
   (try replace hX:=ζ ((aC.own h.o qN).blk hX.o δ))
   (try replace hP:=ζ ((aC.own h.o qN).blk hP.o δ))
   (try replace hR:=ζ ((aC.own h.o qN).blk hR.o δ))
   replace hG:=ζ (hG.o.trans ((aC.own h.o qN).mono yg.o));replace h:=ζ akN;replace hb:=ζ (Nat.le_trans hb0.o hG.o.size);clear akN qN;have hfa:(aW 2 rb).at_<100000:=by rw[bD];have:=Ub.o.1;omega
   have hw1:rb.at_<100000:=by have:=Ub.o.1;omega
   have c1:w7.cell? ⟨gB,1,none⟩=some (.int .i64 (((aW 2 rb)).at_:Int)):=(h.o.blk.cell 1).trans rfl;have f1:=h.o.blk.frozen 1;have l1:=h.o.blk.lt;have i1: -9223372036854775808≤(((aW 2 rb)).at_:Int)+1∧(((aW 2 rb)).at_:Int)+1≤9223372036854775807:=ω;have Xu:=aC.own h.o (aj w7 ⟨gB,1,none⟩ (.int .i64 ((((aW 2 rb)).at_:Int)+1)));have hA:=ζ h.o.EW;have hP2:=ζ (Xu.blk hP.o δ);have iW:=ζ (Xu.blk hR.o δ);have iC:=ζ (hG.o.trans (Xu.mono yg.o));have hPB:¬gP=gB:=fun e=>Oy hP.o h.o.blk δ e
   have hRB:¬gR=gB:=fun e=>Oy hR.o h.o.blk δ e
   have hBR:¬gB=gR:=fun e=>hRB e.symm
   (try clear wP);(try clear wO);(try clear wK);(try clear xM);(try clear xK)
   have wP:w7.cell? ⟨gP,0,none⟩=_:=hP.o.cell 0;have wO:w7.cell? ⟨gP,1,none⟩=_:=hP.o.cell 1;have xM:=hP.o.frozen 0;have xK:=hP.o.frozen 1;have wK:=hP.o.lt;(try clear uT);(try clear uS);(try clear uG);(try clear uP);(try clear uO)
   have uT:w7.cell? ⟨gR,0,none⟩=_:=hR.o.cell 0;have uS:w7.cell? ⟨gR,1,none⟩=_:=hR.o.cell 1;have uP:=hR.o.frozen 0;have uO:=hR.o.frozen 1;have uG:=hR.o.lt;clear Xu;go_wp2;clear c1 f1 l1 i1 hPB hRB hBR;clear wP wO xM xK wK;clear uT uS uP uO uG;clear hP hR hG h;have h:=hA;have hR:=iW;have hG:=iC;clear hA hP2 iW iC;generalize w7.setCell ⟨gB,1,none⟩ (.int .i64 ((((aW 2 rb)).at_:Int)+1))=wz at *
   have nN:=hR.o.dO 0 (.int .i64 (p1:Int));have t_:=nN.dO 1 (.int .i64 (p2:Int));have vT:=(hG.o.eY (g:=gR) (i:=0) hgr.o hb0.o (.int .i64 (p1:Int))).eY (g:=gR) (i:=1) hgr.o hb0.o (.int .i64 (p2:Int));have E5:=(h.o.far hR.o δ (aj wz ⟨gR,0,none⟩ (.int .i64 (p1:Int)))).far nN δ (aj _ ⟨gR,1,none⟩ (.int .i64 (p2:Int)));clear hR hG h nN;generalize (wz.setCell ⟨gR,0,none⟩ (.int .i64 (p1:Int))).setCell ⟨gR,1,none⟩ (.int .i64 (p2:Int))=w7 at *
   have e0:=t_.c0;have e1:=t_.c1;refine bodyPost_ret (v:=eG (p1,p2)) ?_ rfl ⟨?_,?_⟩
   ·simp[eG,results,Tryz.results176,go_sem,e0,e1]
   ·rw[ES.o]
   ·rw[ES.o];exact⟨_,_,E5,vT⟩
theorem alo {w:World} {base gB dp:Nat} {s:List UInt8} {b:PB} {c:UInt8} {sub:Option (PB→PB×qW)} {xs:List DI} {sv:Value} (jc:aaC s sub dp) (hsp:Lp s 11 sub) (h:ni w base gB s b xs sv) (hb:base≤w.heap.size) (tX:s.length≤100) (hcs:s[b.at_]? = some c) (hc:gJ b≤8*b.at_+61) :
 Calls Tryz.prog 176 #[.pointer (some ⟨gB,0,none⟩),.int .i64 (dp:Int)] w (jZ base gB s w (dh s sub c b)):=by
 by_cases A_:c = 40
 ·cases hsb:sub with
  | none=>rw[←hsb];exact aht jc hsp h hb tX hcs hc A_ hsb
  | some f=>rw[←hsb];exact ahr jc hsp h hb tX hcs hc A_ hsb
 ·by_cases Iq:c = 91
  ·exact adW h hb tX hcs hc A_ Iq
  ·by_cases JZ:c = 46
   ·exact aln h hb tX hcs hc A_ Iq JZ
   ·by_cases Oi:c = 92
    ·cases hp:kK s (aH b) with
     | none=>exact aaw h hb tX hcs hc A_ Iq JZ Oi hp
     | some d=>exact adU h hb tX hcs hc A_ Iq JZ Oi hp
    ·by_cases ho:Zw c = true
     ·exact alm h hb tX hcs hc A_ Iq JZ Oi ho
     ·exact adV h hb tX hcs hc A_ Iq JZ Oi ho
theorem alp {s:List UInt8} {k:Nat} {sub:Option (PB→PB×qW)} {c:UInt8} {b:PB} (hs:Lp s k sub) (hb:b.at_<s.length):b.at_+1≤(dh s sub c b).1.at_:=by
 have ha:(aH b).at_=b.at_+1:=rfl;have wL:(aH b).at_≤s.length:=ω;have ho:∀ws z,(nI ws z).1.at_=z.at_:=fun ws z=>(Dl ws z).2.2.1
 unfold dh;split
 ·split
  ·rw[ho,bD];omega
  ·rename_i f;have h1:=(hs f rfl (aH b) wL).1.at_;simp only;split
   ·show _≤(f (aH b)).1.at_+1;omega
   ·show _≤(aW 2 (f (aH b)).1).at_+1;rw[bD];omega
 ·split
  ·have h1:=(Jw (s:=s) (b:=aH b) (WP.of_le wL)).1.at_;simp only;rw[ho];omega
  ·split
   ·rw[ho];omega
   ·split
    ·split
     ·rw[ho];show _≤(aW 2 (aH b)).at_+1;rw[bD];omega
     ·rw[ho];show _≤(aH b).at_+1;omega
    ·split
     ·rw[ho,bD];omega
     ·rw[ho];omega
theorem amf {w:World} {base gB dp:Nat} {s:List UInt8} {b:PB} {sub:Option (PB→PB×qW)} {xs:List DI} {sv:Value} (jc:aaC s sub dp) (hsp:Lp s 11 sub) (h:ni w base gB s b xs sv) (hb:base≤w.heap.size) (tX:s.length≤100) (hW:WP s 12 b) (hc:gJ b≤8*b.at_+60) :
 Calls Tryz.prog 165 #[.pointer (some ⟨gB,0,none⟩),.int .i64 (dp:Int)] w (jZ base gB s w (iO s sub b)):=by
 have yg:Hid (∀t∈[206],t∈TS):=ζ (by intro t ht;simp[TS,TB] at *;exact .inr (.inl ht));have sF:Hid (∀t∈TB,t∈TS):=ζ (fun t ht=>List.mem_cons_of_mem _ ht);have hR:=aS.new w 208 #[.int .i64 0,.int .i64 0];have hg1:ah w (w.alloc (.cells #[.int .i64 0,.int .i64 0] 208)):=(ah.refl _).alloc _;replace hR:=ζ hR;have hG:=ζ (aC.grows (T:=TS) hg1 hb);replace h:=ζ (h.grows hg1);have hb0:Hid (BLe base w):=ζ hb;replace hb:=ζ (Nat.le_trans hb hg1.size);have hgr:Hid (GLe w w.heap.size):=ζ (Nat.le_refl _);have TY:Hid (iO s sub b = Ah s sub (s.length+1) (b.aT.length,b.aT.length) (bg b)):=ζ rfl;replace jc:=ζ jc;replace hsp:=ζ hsp;replace hW:=ζ hW;replace hc:=ζ hc;clear hg1;go_enter Tryz.func165,Tryz.ntmps165
 go_wp2_with fail;generalize w.alloc (.cells #[.int .i64 0,.int .i64 0] 208)=w0 at *
 generalize w.heap.size=gR at *
 refine (Au h.o hb.o (by have:=lD b;have:=hc.o;have:=hW.o.1;omega)).mono ?_;rintro e w1 ⟨rfl,sv1,h',fH⟩;replace h:=ζ h';clear h';(try replace hX:=ζ ((fH.mono sF.o).blk hX.o δ))
 (try replace hP:=ζ ((fH.mono sF.o).blk hP.o δ))
 (try replace hR:=ζ ((fH.mono sF.o).blk hR.o δ))
 replace hG:=ζ (hG.o.trans (fH.mono sF.o));replace hb:=ζ (Nat.le_trans hb0.o hG.o.size);clear fH;have hI:Hid (Nk (b.aT.length,b.aT.length) (bg b)):=ζ ⟨by rw[d_];simp,by rw[d_];simp⟩;have hW1:Hid (WP s 12 (bg b)):=hW;have hc1:Hid (gJ (bg b)≤8*(bg b).at_+61):=ζ (by have:=wo b;have:=hc.o;have:(bg b).at_=b.at_:=rfl;omega);generalize bg b = b1 at *
 generalize b.aT.length=N at *
 go_wp2_with fail;have hgP:Hid (GLe w w1.heap.size):=ζ hG.o.size;have hRP:Hid (gR≠w1.heap.size):=ζ (by have:=hR.o.lt;omega);have hP:=aS.new w1 208 #[.int .i64 (N:Int),.int .i64 (N:Int)];have dF:ah w1 (w1.alloc (.cells #[.int .i64 (N:Int),.int .i64 (N:Int)] 208)):=(ah.refl _).alloc _;(try replace hX:=ζ (hX.o.grows dF))
 (try replace hR:=ζ (hR.o.grows dF))
 replace h:=ζ (h.o.grows dF);replace hG:=ζ (hG.o.trans (aC.grows dF hb.o));replace hb:=ζ (Nat.le_trans hb.o dF.size);clear dF;generalize w1.alloc (.cells #[.int .i64 (N:Int),.int .i64 (N:Int)] 208)=w2 at *
 generalize w1.heap.size=gP at *
 replace hP:=ζ hP;obtain⟨R,EZ⟩:∃R,R=Ah s sub (s.length+1) (N,N) b1:=⟨_,rfl⟩;rw[←EZ] at TY;replace EZ:=ζ EZ;go_loopw [] (fun wr=>∃(f q:Nat) (bq:PB) (xq:List DI) (vq:Value),Hid (s.length≤f + bq.at_)∧Hid (R=Ah s sub f (N,q) bq)∧Hid (WP s 12 bq)∧Hid (Nk (N,q) bq)∧Hid (gJ bq≤8*bq.at_+61)∧Hid (ni wr base gB s bq xq vq)∧Hid (aS wr gP 208 #[.int .i64 (N:Int),.int .i64 (q:Int)])∧Hid (aS wr gR 208 #[.int .i64 0,.int .i64 0])∧Hid (aC TS base w wr)) (fun wr=>s.length+20-(match wr.cell? ⟨gB,1,none⟩ with | some v=>(intOf v).toNat | none=>0))
 case atStart=>exact⟨s.length+1,N,b1,_,_,ζ ω,EZ,hW1,hI,hc1,h,hP,hR,hG⟩
 case round=>
  clear EZ hW1 hI hc1 h hP hR hG hb;obtain⟨f,q,bq,xq,vq,hf,iW,EY,hI,qB,h,hP,hR,hG⟩:=hrel;have hb:=ζ (Nat.le_trans hb0.o hG.o.size);have hstep:=afJ (sub:=sub) (p:=(N,q)) hf.o;rw[←iW.o] at hstep;clear iW;have FK:Hid (∀(w':World) (b':PB) xs' sv',ni w' base gB s b' xs' sv'→(match w'.cell? ⟨gB,1,none⟩ with | some v=>(intOf v).toNat | none=>0)=b'.at_):=ζ (fun w' b' _ _ hh=>by
   have e:w'.cell? ⟨gB,1,none⟩=some (.int .i64 (b'.at_:Int)):=(hh.blk.cell 1).trans rfl;rw[e];simp[intOf])
  have nY:=ζ (FK.o _ _ _ _ h.o);go_wp2_with fail;refine (g_ h.o).mono ?_;rintro e w1 ⟨rfl,bZ⟩;replace h:=ζ (h.o.grows bZ);replace hG:=ζ (hG.o.trans (aC.grows bZ hb.o));replace hb:=ζ (Nat.le_trans hb.o bZ.size);(try replace aO:=ζ (aO.o.grows bZ))
  (try replace hX:=ζ (hX.o.grows bZ))
  (try replace hP:=ζ (hP.o.grows bZ))
  (try replace hR:=ζ (hR.o.grows bZ))
  clear bZ;cases hp:kK s bq with
  | none=>
   simp only[iV,hp];rw[hp] at hstep;replace hstep:=ζ hstep;clear hp;(try clear wP);(try clear wO);(try clear wK);(try clear xM);(try clear xK)
   have wP:w1.cell? ⟨gP,0,none⟩=_:=hP.o.cell 0;have wO:w1.cell? ⟨gP,1,none⟩=_:=hP.o.cell 1;have xM:=hP.o.frozen 0;have xK:=hP.o.frozen 1;have wK:=hP.o.lt;(try clear uT);(try clear uS);(try clear uG);(try clear uP);(try clear uO)
   have uT:w1.cell? ⟨gR,0,none⟩=_:=hR.o.cell 0;have uS:w1.cell? ⟨gR,1,none⟩=_:=hR.o.cell 1;have uP:=hR.o.frozen 0;have uO:=hR.o.frozen 1;have uG:=hR.o.lt;go_wp2;clear wP wO xM xK wK;clear uT uS uP uO uG;clear hP;have nN:=hR.o.dO 0 (.int .i64 (N:Int));have t_:=nN.dO 1 (.int .i64 (q:Int));have vT:=(hG.o.eY (g:=gR) (i:=0) hgr.o hb0.o (.int .i64 (N:Int))).eY (g:=gR) (i:=1) hgr.o hb0.o (.int .i64 (q:Int));have E5:=(h.o.far hR.o δ (aj w1 ⟨gR,0,none⟩ (.int .i64 (N:Int)))).far nN δ (aj _ ⟨gR,1,none⟩ (.int .i64 (q:Int)));clear hR hG h nN;generalize (w1.setCell ⟨gR,0,none⟩ (.int .i64 (N:Int))).setCell ⟨gR,1,none⟩ (.int .i64 (q:Int))=w7 at *
   have e0:=t_.c0;have e1:=t_.c1;refine bodyPost_ret (v:=eG (N,q)) ?_ rfl ⟨?_,?_⟩
   ·simp[eG,results,Tryz.results165,go_sem,e0,e1]
   ·rw[TY.o,hstep.o]
   ·rw[TY.o,hstep.o];exact⟨_,_,E5,vT⟩
  | some c=>
   simp only[iV,hp];rw[hp] at hstep;have hlen:=ζ (dN hp).2.1;have hcs:=ζ (dN hp).2.2;clear hp;by_cases CV:c = 124
   ·have i124:(c.toNat:Int)=124:=by rw[CV];rfl
    simp only[CV,true_or,if_true] at hstep;replace hstep:=ζ hstep;clear CV;(try clear wP);(try clear wO);(try clear wK);(try clear xM);(try clear xK)
    have wP:w1.cell? ⟨gP,0,none⟩=_:=hP.o.cell 0;have wO:w1.cell? ⟨gP,1,none⟩=_:=hP.o.cell 1;have xM:=hP.o.frozen 0;have xK:=hP.o.frozen 1;have wK:=hP.o.lt;(try clear uT);(try clear uS);(try clear uG);(try clear uP);(try clear uO)
    have uT:w1.cell? ⟨gR,0,none⟩=_:=hR.o.cell 0;have uS:w1.cell? ⟨gR,1,none⟩=_:=hR.o.cell 1;have uP:=hR.o.frozen 0;have uO:=hR.o.frozen 1;have uG:=hR.o.lt;go_wp2;clear wP wO xM xK wK;clear uT uS uP uO uG;clear hP;have nN:=hR.o.dO 0 (.int .i64 (N:Int));have t_:=nN.dO 1 (.int .i64 (q:Int));have vT:=(hG.o.eY (g:=gR) (i:=0) hgr.o hb0.o (.int .i64 (N:Int))).eY (g:=gR) (i:=1) hgr.o hb0.o (.int .i64 (q:Int));have E5:=(h.o.far hR.o δ (aj w1 ⟨gR,0,none⟩ (.int .i64 (N:Int)))).far nN δ (aj _ ⟨gR,1,none⟩ (.int .i64 (q:Int)));clear hR hG h nN;generalize (w1.setCell ⟨gR,0,none⟩ (.int .i64 (N:Int))).setCell ⟨gR,1,none⟩ (.int .i64 (q:Int))=w7 at *
    have e0:=t_.c0;have e1:=t_.c1;refine bodyPost_ret (v:=eG (N,q)) ?_ rfl ⟨?_,?_⟩
    ·simp[eG,results,Tryz.results165,go_sem,e0,e1]
    ·rw[TY.o,hstep.o]
    ·rw[TY.o,hstep.o];exact⟨_,_,E5,vT⟩
   ·have i124:¬(c.toNat:Int)=124:=fun e=>CV (UInt8.toNat_inj.1 (by show c.toNat=124;omega))
    by_cases V5:c = 41
    ·have i41:(c.toNat:Int)=41:=by rw[V5];rfl
     simp only[V5,or_true,if_true] at hstep;replace hstep:=ζ hstep;clear CV V5;(try clear wP);(try clear wO);(try clear wK);(try clear xM);(try clear xK)
     have wP:w1.cell? ⟨gP,0,none⟩=_:=hP.o.cell 0;have wO:w1.cell? ⟨gP,1,none⟩=_:=hP.o.cell 1;have xM:=hP.o.frozen 0;have xK:=hP.o.frozen 1;have wK:=hP.o.lt;(try clear uT);(try clear uS);(try clear uG);(try clear uP);(try clear uO)
     have uT:w1.cell? ⟨gR,0,none⟩=_:=hR.o.cell 0;have uS:w1.cell? ⟨gR,1,none⟩=_:=hR.o.cell 1;have uP:=hR.o.frozen 0;have uO:=hR.o.frozen 1;have uG:=hR.o.lt;go_wp2;clear wP wO xM xK wK;clear uT uS uP uO uG;clear hP;have nN:=hR.o.dO 0 (.int .i64 (N:Int));have t_:=nN.dO 1 (.int .i64 (q:Int));have vT:=(hG.o.eY (g:=gR) (i:=0) hgr.o hb0.o (.int .i64 (N:Int))).eY (g:=gR) (i:=1) hgr.o hb0.o (.int .i64 (q:Int));have E5:=(h.o.far hR.o δ (aj w1 ⟨gR,0,none⟩ (.int .i64 (N:Int)))).far nN δ (aj _ ⟨gR,1,none⟩ (.int .i64 (q:Int)));clear hR hG h nN;generalize (w1.setCell ⟨gR,0,none⟩ (.int .i64 (N:Int))).setCell ⟨gR,1,none⟩ (.int .i64 (q:Int))=w7 at *
     have e0:=t_.c0;have e1:=t_.c1;refine bodyPost_ret (v:=eG (N,q)) ?_ rfl ⟨?_,?_⟩
     ·simp[eG,results,Tryz.results165,go_sem,e0,e1]
     ·rw[TY.o,hstep.o]
     ·rw[TY.o,hstep.o];exact⟨_,_,E5,vT⟩
    ·have i41:¬(c.toNat:Int)=41:=fun e=>V5 (UInt8.toNat_inj.1 (by show c.toNat=41;omega))
     simp only[CV,V5,or_self,if_false] at hstep;have ap7:((c.toNat:Int)==124)=false:=by simpa using i124
     have b41:((c.toNat:Int)==41)=false:=by simpa using i41
     clear CV V5 i124 i41;have hao:=TM (c:=c) hsp.o ω hlen.o;have TW:=Nu hao.2.1 hao.2.2;replace hao:=ζ hao;replace TW:=ζ TW;replace hstep:=ζ hstep;go_wp2_with fail;refine (alo jc.o hsp.o h.o hb.o tX hcs.o (by have:=qB.o;omega)).mono ?_;rintro e w2 ⟨rfl,Nl,sv2,h',fH⟩;replace h:=ζ h';clear h';(try replace hX:=ζ (fH.blk hX.o δ))
     (try replace hP:=ζ (fH.blk hP.o δ))
     (try replace hR:=ζ (fH.blk hR.o δ))
     replace hG:=ζ (hG.o.trans fH);replace hb:=ζ (Nat.le_trans hb0.o hG.o.size);clear fH;have hac:Hid (gJ (dh s sub c bq).1<100000∧(dh s sub c bq).1.at_<100000):=ζ (by
      have h1:=hao.o.1.cost;have h2:=hao.o.2.1.1;have h3:=qB.o;omega)
     go_wp2_with fail;refine (afm h.o hb.o hao.o.2.2 (by have:=hac.o.2;omega) (by have:=hac.o.1;omega)).mono ?_;rintro e w3 ⟨rfl,xs3,sv3,h',fH⟩;replace h:=ζ h';clear h';(try replace hX:=ζ ((fH.mono sF.o).blk hX.o δ))
     (try replace hP:=ζ ((fH.mono sF.o).blk hP.o δ))
     (try replace hR:=ζ ((fH.mono sF.o).blk hR.o δ))
     replace hG:=ζ (hG.o.trans (fH.mono sF.o));replace hb:=ζ (Nat.le_trans hb0.o hG.o.size);clear fH;have Yx:Hid (s.length≤(f - 1)+(eX s (dh s sub c bq).1 (dh s sub c bq).2).1.at_∧bq.at_<(eX s (dh s sub c bq).1 (dh s sub c bq).2).1.at_∧gJ (eX s (dh s sub c bq).1 (dh s sub c bq).2).1+1≤8*(eX s (dh s sub c bq).1 (dh s sub c bq).2).1.at_+61∧bq.aT.length≤(eX s (dh s sub c bq).1 (dh s sub c bq).2).1.aT.length):=ζ (by
      have h1:=hao.o.1;have h2:=TW.o.1;have h3:=qB.o;have h4:=hf.o;have h5:=h1.at_;have h6:=h2.at_;have h7:=h1.cost;have h8:=h2.cost;have h9:=h1.len;have h10:=h2.len;have h11:=alp (c:=c) hsp.o hlen.o;omega)
     have hI3:Hid (Nk (N,(eX s (dh s sub c bq).1 (dh s sub c bq).2).2.2) (eX s (dh s sub c bq).1 (dh s sub c bq).2).1):=ζ ⟨Nat.lt_of_lt_of_le hI.o.1 Yx.o.2.2.2,TW.o.2.2.2⟩;have hq4:=ζ (Nat.lt_of_lt_of_le hI.o.2 Yx.o.2.2.2);have hWt:=ζ TW.o.2.1;have htI:=ζ TW.o.2.2;clear hac hao TW qB hI EY hf;generalize eX s (dh s sub c bq).1 (dh s sub c bq).2=rt at *
     obtain⟨tb,t1,t2⟩:=rt;simp only[eG];(try clear wP);(try clear wO);(try clear wK);(try clear xM);(try clear xK)
     have wP:w3.cell? ⟨gP,0,none⟩=_:=hP.o.cell 0;have wO:w3.cell? ⟨gP,1,none⟩=_:=hP.o.cell 1;have xM:=hP.o.frozen 0;have xK:=hP.o.frozen 1;have wK:=hP.o.lt;go_wp2_with fail;clear wP wO xM xK wK;have hX:=aS.new w3 208 #[.int .i64 (t1:Int),.int .i64 (t2:Int)];have dF:ah w3 (w3.alloc (.cells #[.int .i64 (t1:Int),.int .i64 (t2:Int)] 208)):=(ah.refl _).alloc _;have hPX:Hid (gP<w3.heap.size):=ζ hP.o.lt;replace hP:=ζ (hP.o.grows dF);replace hR:=ζ (hR.o.grows dF);replace h:=ζ (h.o.grows dF);replace hG:=ζ (hG.o.trans (aC.grows dF hb.o));replace hb:Hid (base≤(w3.alloc (.cells #[.int .i64 (t1:Int),.int .i64 (t2:Int)] 208)).heap.size):=ζ (Nat.le_trans hb.o dF.size);clear dF;generalize w3.alloc (.cells #[.int .i64 (t1:Int),.int .i64 (t2:Int)] 208)=w4 at *
     generalize w3.heap.size=gX at *
     replace hX:=ζ hX;refine (uK (i:=q) (j:=t1) h.o hb.o hq4.o (by have:=Yx.o.2.2.1;have:=hWt.o.1;omega)).mono ?_;rintro e w5 ⟨rfl,xs5,h',fH⟩;replace h:=ζ h';clear h';(try replace hX:=ζ ((fH.mono sF.o).blk hX.o δ))
     (try replace hP:=ζ ((fH.mono sF.o).blk hP.o δ))
     (try replace hR:=ζ ((fH.mono sF.o).blk hR.o δ))
     replace hG:=ζ (hG.o.trans (fH.mono sF.o));replace hb:=ζ (Nat.le_trans hb0.o hG.o.size);clear fH;have yQ:=ζ (h.o.far hP.o δ (aj w5 ⟨gP,1,none⟩ (.int .i64 (t2:Int))));have hP6:Hid (aS (w5.setCell ⟨gP,1,none⟩ (.int .i64 (t2:Int))) gP 208 #[.int .i64 (N:Int),.int .i64 (t2:Int)]):=ζ (hP.o.dO 1 (.int .i64 (t2:Int)));have hR6:=ζ (hR.o.far (p:=⟨gP,1,none⟩) hRP.o (.int .i64 (t2:Int)));have JY:=ζ (hG.o.eY (g:=gP) (i:=1) hgP.o hb0.o (.int .i64 (t2:Int)));have hcf:=ζ (wu q t1 tb);(try clear wP);(try clear wO);(try clear wK);(try clear xM);(try clear xK)
     have wP:w5.cell? ⟨gP,0,none⟩=_:=hP.o.cell 0;have wO:w5.cell? ⟨gP,1,none⟩=_:=hP.o.cell 1;have xM:=hP.o.frozen 0;have xK:=hP.o.frozen 1;have wK:=hP.o.lt;(try clear Ug);(try clear Uf);(try clear TV);(try clear Ue);(try clear Ud)
     have Ug:w5.cell? ⟨gX,0,none⟩=_:=hX.o.cell 0;have Uf:w5.cell? ⟨gX,1,none⟩=_:=hX.o.cell 1;have Ue:=hX.o.frozen 0;have Ud:=hX.o.frozen 1;have TV:=hX.o.lt;go_wp2;go_roundw
     case rel=>exact⟨f - 1,t2,bG q t1 tb,xs5,sv3,ζ Yx.o.1,hstep,ζ (akU hWt.o),ζ (Nk.mono hI3.o (by rw[cu];exact Nat.le_refl _)),ζ (by have:=hcf.o;have:=Yx.o.2.2.1;show _≤8*tb.at_+61;omega),yQ,hP6,hR6,JY⟩
     case measure=>rw[FK.o _ _ _ _ yQ.o,nY.o];have:=Yx.o.2.1;have:=hlen.o;show _ - tb.at_<_;omega
theorem XO {s:List UInt8} {sub:Option (PB→PB×qW)} {f:Nat} {p:qW} {b:PB} (hf:1≤f):iy s sub f p b =
 if kK s (bG (iO s sub b).2.2 p.2 (bG p.1 (iO s sub b).2.1 (iO s sub b).1))=some 124 then iy s sub (f - 1) p (aH (bG (iO s sub b).2.2 p.2 (bG p.1 (iO s sub b).2.1 (iO s sub b).1))) else (bG (iO s sub b).2.2 p.2 (bG p.1 (iO s sub b).2.1 (iO s sub b).1),p):=by
 cases f with
 | zero=>omega
 | succ f=>rfl
theorem Wi {w:World} {base gB dp:Nat} {s:List UInt8} {b:PB} {sub:Option (PB→PB×qW)} {xs:List DI} {sv:Value} (jc:aaC s sub dp) (hsp:Lp s 11 sub) (h:ni w base gB s b xs sv) (hb:base≤w.heap.size) (tX:s.length≤100) (hW:b.at_≤s.length) (hc:gJ b≤8*b.at_+53) :
 Calls Tryz.prog 152 #[.pointer (some ⟨gB,0,none⟩),.int .i64 (dp:Int)] w (jZ base gB s w (iy s sub (s.length+1) (b.aT.length,b.aT.length+1) (bg (bg b)))):=by
 have yg:Hid (∀t∈[206],t∈TS):=ζ (by intro t ht;simp[TS,TB] at *;exact .inr (.inl ht));have sF:Hid (∀t∈TB,t∈TS):=ζ (fun t ht=>List.mem_cons_of_mem _ ht);have hR:=aS.new w 208 #[.int .i64 0,.int .i64 0];have hg1:ah w (w.alloc (.cells #[.int .i64 0,.int .i64 0] 208)):=(ah.refl _).alloc _;replace hR:=ζ hR;have hG:=ζ (aC.grows (T:=TS) hg1 hb);replace h:=ζ (h.grows hg1);have hb0:Hid (BLe base w):=ζ hb;replace hb:=ζ (Nat.le_trans hb hg1.size);have hgr:Hid (GLe w w.heap.size):=ζ (Nat.le_refl _);replace jc:=ζ jc;replace hsp:=ζ hsp;replace hW:=ζ hW;replace hc:=ζ hc;clear hg1;obtain⟨R,EZ⟩:∃R,R=iy s sub (s.length+1) (b.aT.length,b.aT.length+1) (bg (bg b)):=⟨_,rfl⟩;rw[←EZ];replace EZ:=ζ EZ;go_enter Tryz.func152,Tryz.ntmps152
 go_wp2_with fail;generalize w.alloc (.cells #[.int .i64 0,.int .i64 0] 208)=w0 at *
 generalize w.heap.size=gR at *
 refine (Au h.o hb.o (by have:=lD b;have:=hc.o;have:=hW.o;omega)).mono ?_;rintro e w1 ⟨rfl,sv1,h',fH⟩;replace h:=ζ h';clear h';(try replace hX:=ζ ((fH.mono sF.o).blk hX.o δ))
 (try replace hP:=ζ ((fH.mono sF.o).blk hP.o δ))
 (try replace hR:=ζ ((fH.mono sF.o).blk hR.o δ))
 replace hG:=ζ (hG.o.trans (fH.mono sF.o));replace hb:=ζ (Nat.le_trans hb0.o hG.o.size);clear fH;go_wp2_with fail;refine (Au h.o hb.o (by have:=lD b;have:=hc.o;have:=hW.o;rw[d_];omega)).mono ?_;rintro e w2 ⟨rfl,sv2,h',fH⟩;replace h:=ζ h';clear h';(try replace hX:=ζ ((fH.mono sF.o).blk hX.o δ))
 (try replace hP:=ζ ((fH.mono sF.o).blk hP.o δ))
 (try replace hR:=ζ ((fH.mono sF.o).blk hR.o δ))
 replace hG:=ζ (hG.o.trans (fH.mono sF.o));replace hb:=ζ (Nat.le_trans hb0.o hG.o.size);clear fH;rw[d_];have hI:Hid (Nk (b.aT.length,b.aT.length+1) (bg (bg b))):=ζ ⟨by rw[d_,d_];simp;omega,by rw[d_,d_];simp⟩;have hW1:Hid ((bg (bg b)).at_≤s.length):=hW;have hc1:Hid (gJ (bg (bg b))≤8*(bg (bg b)).at_+55):=ζ (by have:=wo b;have:=wo (bg b);have:=hc.o;have:(bg (bg b)).at_=b.at_:=rfl;omega);generalize bg (bg b)=b1 at *
 generalize b.aT.length=N at *
 have hgP:Hid (GLe w w2.heap.size):=ζ hG.o.size;go_wp2_with fail;have hP:=aS.new w2 208 #[.int .i64 (N:Int),.int .i64 ((N:Int)+1)];have dF:ah w2 (w2.alloc (.cells #[.int .i64 (N:Int),.int .i64 ((N:Int)+1)] 208)):=(ah.refl _).alloc _;(try replace hX:=ζ (hX.o.grows dF))
 (try replace hR:=ζ (hR.o.grows dF))
 replace h:=ζ (h.o.grows dF);replace hG:=ζ (hG.o.trans (aC.grows dF hb.o));replace hb:=ζ (Nat.le_trans hb.o dF.size);clear dF;generalize w2.alloc (.cells #[.int .i64 (N:Int),.int .i64 ((N:Int)+1)] 208)=w3 at *
 generalize w2.heap.size=gP at *
 replace hP:=ζ hP;go_loopw [] (fun wr=>∃(f:Nat) (bq:PB) (xq:List DI) (vq:Value),Hid (s.length+1≤f + bq.at_)∧Hid (R=iy s sub f (N,N+1) bq)∧Hid (bq.at_≤s.length)∧Hid (Nk (N,N+1) bq)∧Hid (gJ bq≤8*bq.at_+55)∧Hid (ni wr base gB s bq xq vq)∧Hid (aS wr gP 208 #[.int .i64 (N:Int),.int .i64 ((N:Int)+1)])∧Hid (aS wr gR 208 #[.int .i64 0,.int .i64 0])∧Hid (aC TS base w wr)) (fun wr=>s.length+20-(match wr.cell? ⟨gB,1,none⟩ with | some v=>(intOf v).toNat | none=>0))
 case atStart=>exact⟨s.length+1,b1,_,_,ζ ω,EZ,hW1,hI,hc1,h,hP,hR,hG⟩
 case round=>
  clear EZ hW1 hI hc1 h hP hR hG hb;obtain⟨f,bq,xq,vq,hf,iW,EY,hI,qB,h,hP,hR,hG⟩:=hrel;have hb:=ζ (Nat.le_trans hb0.o hG.o.size);have hstep:=XO (s:=s) (sub:=sub) (p:=(N,N+1)) (b:=bq) (f:=f) (by have:=hf.o;have:=EY.o;omega);rw[←iW.o] at hstep;clear iW;have FK:Hid (∀(w':World) (b':PB) xs' sv',ni w' base gB s b' xs' sv'→(match w'.cell? ⟨gB,1,none⟩ with | some v=>(intOf v).toNat | none=>0)=b'.at_):=ζ (fun w' b' _ _ hh=>by
   have e:w'.cell? ⟨gB,1,none⟩=some (.int .i64 (b'.at_:Int)):=(hh.blk.cell 1).trans rfl;rw[e];simp[intOf])
  have nY:=ζ (FK.o _ _ _ _ h.o);have hro:=ζ (WZ hsp.o ω (WP.of_le (k:=12) EY.o));replace hstep:=ζ hstep;go_wp2_with fail;refine (amf jc.o hsp.o h.o hb.o tX (WP.of_le EY.o) (by have:=qB.o;omega)).mono ?_;rintro e w4 ⟨rfl,xs4,sv4,h',fH⟩;replace h:=ζ h';clear h';(try replace hX:=ζ (fH.blk hX.o δ))
  (try replace hP:=ζ (fH.blk hP.o δ))
  (try replace hR:=ζ (fH.blk hR.o δ))
  replace hG:=ζ (hG.o.trans fH);replace hb:=ζ (Nat.le_trans hb0.o hG.o.size);clear fH;have Yx:Hid (bq.at_≤(iO s sub bq).1.at_∧gJ (iO s sub bq).1≤8*(iO s sub bq).1.at_+56∧bq.aT.length≤(iO s sub bq).1.aT.length∧(iO s sub bq).1.at_≤s.length+12):=ζ (by
   have h1:=hro.o.1;have h2:=qB.o;have h3:=h1.cost;have h4:=h1.at_;have h5:=h1.len;have h6:=hro.o.2.1.1;omega)
  have htI:=ζ hro.o.2.2;clear hro qB;generalize iO s sub bq=rt at *
  obtain⟨tb,t1,t2⟩:=rt;simp only[eG];(try clear wP);(try clear wO);(try clear wK);(try clear xM);(try clear xK)
  have wP:w4.cell? ⟨gP,0,none⟩=_:=hP.o.cell 0;have wO:w4.cell? ⟨gP,1,none⟩=_:=hP.o.cell 1;have xM:=hP.o.frozen 0;have xK:=hP.o.frozen 1;have wK:=hP.o.lt;go_wp2_with fail;clear wP wO xM xK wK;have hX:=aS.new w4 208 #[.int .i64 (t1:Int),.int .i64 (t2:Int)];have dF:ah w4 (w4.alloc (.cells #[.int .i64 (t1:Int),.int .i64 (t2:Int)] 208)):=(ah.refl _).alloc _;have hPX:Hid (gP<w4.heap.size):=ζ hP.o.lt;replace hP:=ζ (hP.o.grows dF);replace hR:=ζ (hR.o.grows dF);replace h:=ζ (h.o.grows dF);replace hG:=ζ (hG.o.trans (aC.grows dF hb.o));replace hb:Hid (base≤(w4.alloc (.cells #[.int .i64 (t1:Int),.int .i64 (t2:Int)] 208)).heap.size):=ζ (Nat.le_trans hb.o dF.size);clear dF;generalize w4.alloc (.cells #[.int .i64 (t1:Int),.int .i64 (t2:Int)] 208)=w5 at *
  generalize w4.heap.size=gX at *
  replace hX:=ζ hX;refine (uK (i:=N) (j:=t1) h.o hb.o (Nat.lt_of_lt_of_le hI.o.1 Yx.o.2.2.1) (by have:=Yx.o;omega)).mono ?_;rintro e w6 ⟨rfl,xs6,h',fH⟩;replace h:=ζ h';clear h';(try replace hX:=ζ ((fH.mono sF.o).blk hX.o δ))
  (try replace hP:=ζ ((fH.mono sF.o).blk hP.o δ))
  (try replace hR:=ζ ((fH.mono sF.o).blk hR.o δ))
  replace hG:=ζ (hG.o.trans (fH.mono sF.o));replace hb:=ζ (Nat.le_trans hb0.o hG.o.size);clear fH;have hcf:=ζ (wu N t1 tb);(try clear wP);(try clear wO);(try clear wK);(try clear xM);(try clear xK)
  have wP:w6.cell? ⟨gP,0,none⟩=_:=hP.o.cell 0;have wO:w6.cell? ⟨gP,1,none⟩=_:=hP.o.cell 1;have xM:=hP.o.frozen 0;have xK:=hP.o.frozen 1;have wK:=hP.o.lt;(try clear Ug);(try clear Uf);(try clear TV);(try clear Ue);(try clear Ud)
  have Ug:w6.cell? ⟨gX,0,none⟩=_:=hX.o.cell 0;have Uf:w6.cell? ⟨gX,1,none⟩=_:=hX.o.cell 1;have Ue:=hX.o.frozen 0;have Ud:=hX.o.frozen 1;have TV:=hX.o.lt;go_wp2_with fail;clear wP wO xM xK wK;clear Ug Uf Ue Ud TV;refine (uK (i:=t2) (j:=N+1) h.o hb.o (by rw[cu];exact htI.o.2) (by have:=Yx.o;have:=hcf.o;omega)).mono ?_;rintro e w7 ⟨rfl,xs7,h',fH⟩;replace h:=ζ h';clear h';(try replace hX:=ζ ((fH.mono sF.o).blk hX.o δ))
  (try replace hP:=ζ ((fH.mono sF.o).blk hP.o δ))
  (try replace hR:=ζ ((fH.mono sF.o).blk hR.o δ))
  replace hG:=ζ (hG.o.trans (fH.mono sF.o));replace hb:=ζ (Nat.le_trans hb0.o hG.o.size);clear fH;have as2:=ζ (wu t2 (N+1) (bG N t1 tb));have hI7:Hid (Nk (N,N+1) (bG t2 (N+1) (bG N t1 tb))):=ζ (Nk.mono hI.o (by rw[cu,cu];exact Yx.o.2.2.1));have hq7:Hid (bq.at_≤(bG t2 (N+1) (bG N t1 tb)).at_∧gJ (bG t2 (N+1) (bG N t1 tb))≤8*(bG t2 (N+1) (bG N t1 tb)).at_+58):=ζ (by
   have h1:=Yx.o;have h2:=hcf.o;have h3:=as2.o;have h4:(bG t2 (N+1) (bG N t1 tb)).at_=tb.at_:=rfl;rw[h4];omega)
  clear hcf as2 hX htI hI hPX Yx;have hstep:Hid (R=if kK s (bG t2 (N+1) (bG N t1 tb))=some 124 then iy s sub (f - 1) (N,N+1) (aH (bG t2 (N+1) (bG N t1 tb))) else (bG t2 (N+1) (bG N t1 tb),(N,N+1))):=hstep;generalize bG t2 (N+1) (bG N t1 tb)=b7 at *
  go_wp2_with fail;refine (g_ h.o).mono ?_;rintro e w8 ⟨rfl,su⟩;replace h:=ζ (h.o.grows su);replace hG:=ζ (hG.o.trans (aC.grows su hb.o));replace hb:=ζ (Nat.le_trans hb.o su.size);(try replace aO:=ζ (aO.o.grows su))
  (try replace hX:=ζ (hX.o.grows su))
  (try replace hP:=ζ (hP.o.grows su))
  (try replace hR:=ζ (hR.o.grows su))
  clear su;cases hp:kK s b7 with
  | none=>
   simp only[iV,hp];have hst:Hid (R=(b7,(N,N+1))):=ζ (by rw[hstep.o,hp];rfl);clear hp hstep;have hstep:=hst;(try clear wP);(try clear wO);(try clear wK);(try clear xM);(try clear xK)
   have wP:w8.cell? ⟨gP,0,none⟩=_:=hP.o.cell 0;have wO:w8.cell? ⟨gP,1,none⟩=_:=hP.o.cell 1;have xM:=hP.o.frozen 0;have xK:=hP.o.frozen 1;have wK:=hP.o.lt;(try clear uT);(try clear uS);(try clear uG);(try clear uP);(try clear uO)
   have uT:w8.cell? ⟨gR,0,none⟩=_:=hR.o.cell 0;have uS:w8.cell? ⟨gR,1,none⟩=_:=hR.o.cell 1;have uP:=hR.o.frozen 0;have uO:=hR.o.frozen 1;have uG:=hR.o.lt;go_wp2;clear wP wO xM xK wK;clear uT uS uP uO uG;clear hP;have nN:=hR.o.dO 0 (.int .i64 (N:Int));have t_:=nN.dO 1 (.int .i64 ((N:Int)+1));have vT:=(hG.o.eY (g:=gR) (i:=0) hgr.o hb0.o (.int .i64 (N:Int))).eY (g:=gR) (i:=1) hgr.o hb0.o (.int .i64 ((N:Int)+1));have E5:=(h.o.far hR.o δ (aj w8 ⟨gR,0,none⟩ (.int .i64 (N:Int)))).far nN δ (aj _ ⟨gR,1,none⟩ (.int .i64 ((N:Int)+1)));clear hR hG h nN;generalize (w8.setCell ⟨gR,0,none⟩ (.int .i64 (N:Int))).setCell ⟨gR,1,none⟩ (.int .i64 ((N:Int)+1))=w7 at *
   have e0:=t_.c0;have e1:=t_.c1;refine bodyPost_ret (v:=eG (N,N+1)) ?_ rfl ⟨?_,?_⟩
   ·simp[eG,results,Tryz.results152,go_sem,e0,e1]
   ·rw[hstep.o]
   ·rw[hstep.o];exact⟨_,_,E5,vT⟩
  | some c=>
   simp only[iV,hp];by_cases CV:c = 124
   ·have i124:(c.toNat:Int)=124:=by rw[CV];rfl
    have ap7:((c.toNat:Int)==124)=true:=by rw[i124];rfl
    have hst:Hid (R=iy s sub (f - 1) (N,N+1) (aH b7)):=ζ (by rw[hstep.o,hp,CV];rfl);have hlt:=ζ (dN hp).2.1;have asB:b7.at_<100000:=by have:=hlt.o;omega
    clear hp hstep CV;have c1:w8.cell? ⟨gB,1,none⟩=some (.int .i64 (b7.at_:Int)):=(h.o.blk.cell 1).trans rfl;have f1:=h.o.blk.frozen 1;have l1:=h.o.blk.lt;have i1: -9223372036854775808≤(b7.at_:Int)+1∧(b7.at_:Int)+1≤9223372036854775807:=ω;have Xu:=aC.own h.o (aj w8 ⟨gB,1,none⟩ (.int .i64 ((b7.at_:Int)+1)));have hA:=ζ h.o.EW;have hP2:=ζ (Xu.blk hP.o δ);have iW:=ζ (Xu.blk hR.o δ);have iC:=ζ (hG.o.trans (Xu.mono yg.o));clear Xu;go_wp2;go_roundw
    case rel=>exact⟨f - 1,aH b7,xs7,sv4,ζ (by have:=hf.o;have:=hq7.o.1;simp only[aH];omega),hst,ζ (by have:=hlt.o;simp only[aH];omega),ζ hI7.o,ζ (by have:=hq7.o.2;rw[Ov];simp only[aH];omega),hA,hP2,iW,iC⟩
    case measure=>rw[FK.o _ _ _ _ hA.o,nY.o];have:=hq7.o.1;have:=hlt.o;simp only[aH];omega
   ·have i124:¬(c.toNat:Int)=124:=fun e=>CV (UInt8.toNat_inj.1 (by show c.toNat=124;omega))
    have ap7:((c.toNat:Int)==124)=false:=by simpa using i124
    have hst:Hid (R=(b7,(N,N+1))):=ζ (by rw[hstep.o,hp];simp[CV]);clear hp hstep CV;have hstep:=hst;(try clear wP);(try clear wO);(try clear wK);(try clear xM);(try clear xK)
    have wP:w8.cell? ⟨gP,0,none⟩=_:=hP.o.cell 0;have wO:w8.cell? ⟨gP,1,none⟩=_:=hP.o.cell 1;have xM:=hP.o.frozen 0;have xK:=hP.o.frozen 1;have wK:=hP.o.lt;(try clear uT);(try clear uS);(try clear uG);(try clear uP);(try clear uO)
    have uT:w8.cell? ⟨gR,0,none⟩=_:=hR.o.cell 0;have uS:w8.cell? ⟨gR,1,none⟩=_:=hR.o.cell 1;have uP:=hR.o.frozen 0;have uO:=hR.o.frozen 1;have uG:=hR.o.lt;go_wp2;clear wP wO xM xK wK;clear uT uS uP uO uG;clear hP;have nN:=hR.o.dO 0 (.int .i64 (N:Int));have t_:=nN.dO 1 (.int .i64 ((N:Int)+1));have vT:=(hG.o.eY (g:=gR) (i:=0) hgr.o hb0.o (.int .i64 (N:Int))).eY (g:=gR) (i:=1) hgr.o hb0.o (.int .i64 ((N:Int)+1));have E5:=(h.o.far hR.o δ (aj w8 ⟨gR,0,none⟩ (.int .i64 (N:Int)))).far nN δ (aj _ ⟨gR,1,none⟩ (.int .i64 ((N:Int)+1)));clear hR hG h nN;generalize (w8.setCell ⟨gR,0,none⟩ (.int .i64 (N:Int))).setCell ⟨gR,1,none⟩ (.int .i64 ((N:Int)+1))=w7 at *
    have e0:=t_.c0;have e1:=t_.c1;refine bodyPost_ret (v:=eG (N,N+1)) ?_ rfl ⟨?_,?_⟩
    ·simp[eG,results,Tryz.results152,go_sem,e0,e1]
    ·rw[hstep.o]
    ·rw[hstep.o];exact⟨_,_,E5,vT⟩
theorem adH {s:List UInt8} (tX:s.length≤100):∀(d dp:Nat),d + dp=8→∀(w:World) (base gB:Nat) (b:PB) (xs:List DI) (sv:Value),ni w base gB s b xs sv→base≤w.heap.size→b.at_≤s.length→gJ b≤8*b.at_+53→
 Calls Tryz.prog 152 #[.pointer (some ⟨gB,0,none⟩),.int .i64 (dp:Int)] w (jZ base gB s w (jB s d b)):=by
 intro d;induction d with
 | zero=>
  intro dp hdp w base gB b xs sv h hb hW hc;have:dp=8:=ω;subst this;exact Wi (sub:=none) ⟨fun _=>rfl,fun f hf=>by cases hf⟩ (fun f hf=>by cases hf) h hb tX hW hc
 | succ d ih=>
  intro dp hdp w base gB b xs sv h hb hW hc;refine Wi (sub:=some (jB s d)) ⟨fun hf=>(by cases hf),fun f hf=> ?_⟩ (fun f hf=> ?_) h hb tX hW hc
  ·injection hf with hf
   subst hf;refine⟨ω,fun w base gB b xs sv h hb hW hc=> ?_⟩;exact ih (dp+1) ω w base gB b xs sv h hb hW hc
  ·injection hf with hf
   subst hf;intro b hb;have:=K_ s d b hb;exact⟨this.1,this.2.1.weak ω,this.2.2⟩
structure WG (w:World) (base:Nat) (xs:List DI) (sv:Value) (aT:List mW):Prop where
 own:Own w base 225 3 MX sv xs
 len:xs.length=aT.length
 st:∀(i:Nat) x y,xs[i]? = some x→aT[i]? = some y→x.next=y.next∧Qo w base x.pv y.set∧Own w base 3 1 encI x.fv y.free
theorem WG.grows {w w':World} {base:Nat} {xs:List DI} {sv:Value} {aT:List mW} (h:WG w base xs sv aT) (hg:ah w w'):WG w' base xs sv aT:=
 ⟨h.own.grows hg,h.len,fun i x y h1 h2=>⟨(h.st i x y h1 h2).1,(h.st i x y h1 h2).2.1.grows hg,(h.st i x y h1 h2).2.2.grows hg⟩⟩
def atT (w:World) (base:Nat) (s:List UInt8) (v:Value):Option TT→Prop
 | none=>v =.pointer none
 | some p=>∃g xs sv,v =.pointer (some ⟨g,0,none⟩)∧aS w g 211 #[.string ⟨s.toArray⟩,sv,.int .i64 (p.start:Int),.int .i64 (p.stop:Int)]∧WG w base xs sv p.aT
def alB (s:List UInt8) (w:World) (e:Ending) (w':World):Prop:=
 ∃v,e =.returned (.tuple #[v,.int .i64 (ou s:Int)])∧atT w' w.heap.size s v (wW s)∧ah w w'
theorem Zb (w:World) (s:List UInt8):Calls Tryz.prog 137 #[.string ⟨s.toArray⟩] w (alB s w):=by
 by_cases tX:s.length≤100
 ·have hli:¬(s.length:Int)>100:=ω;have hpe:Hid (ou s = (qw s).1.err):=ζ (by unfold ou;rw[if_neg ω]);have SQ:Hid (wW s = if (qw s).1.err≠0 then none else some ⟨(qw s).1.aT,(qw s).2.1,(qw s).2.2⟩):=ζ (by
   unfold wW;by_cases h0:(qw s).1.err≠0
   ·rw[if_pos (.inr h0),if_pos h0]
   ·rw[if_neg (by simp only[h0,or_false];omega),if_neg h0])
  have YC:=aS.new w 206 #[.string ⟨s.toArray⟩,.int .i64 0,.int .i64 0,.slice none 0 0];have hg1:ah w (w.alloc (.cells #[.string ⟨s.toArray⟩,.int .i64 0,.int .i64 0,.slice none 0 0] 206)):=(ah.refl _).alloc _;have h:ni (w.alloc (.cells #[.string ⟨s.toArray⟩,.int .i64 0,.int .i64 0,.slice none 0 0] 206)) w.heap.size w.heap.size s ⟨0,0,[]⟩ [] (.slice none 0 0):=
   ⟨YC,Nat.le_refl _,Own.iH _ _ _ _ _,rfl,fun i x y h1 _=>by simp at h1,fun i j x y g h1=>by simp at h1⟩
  have hG:=ζ (aC.grows (T:=TS) hg1 (Nat.le_refl _));have hb0:Hid (BLe w.heap.size w):=ζ (Nat.le_refl _);have hb:=ζ hg1.size;have yg:Hid (∀t∈[206],t∈TS):=ζ (by intro t ht;simp[TS,TB] at *;exact .inr (.inl ht));have KN:Hid (qw s = (if (jB s 8 ⟨0,0,[]⟩).1.at_<s.length then aW 2 (jB s 8 ⟨0,0,[]⟩).1 else (jB s 8 ⟨0,0,[]⟩).1,(jB s 8 ⟨0,0,[]⟩).2)):=ζ rfl;replace h:=ζ h;clear YC hg1;go_enter Tryz.func137,Tryz.ntmps137
  go_wp2_with fail;refine (adH tX 8 0 rfl _ _ _ _ _ _ h.o hb.o (Nat.zero_le _) (by simp[gJ,lS])).mono ?_;rintro e w2 ⟨rfl,xs,sv,h',fH⟩;replace h:=ζ h';clear h';(try replace hX:=ζ (fH.blk hX.o δ))
  (try replace hP:=ζ (fH.blk hP.o δ))
  (try replace hR:=ζ (fH.blk hR.o δ))
  replace hG:=ζ (hG.o.trans fH);replace hb:=ζ (Nat.le_trans hb0.o hG.o.size);clear fH;generalize jB s 8 ⟨0,0,[]⟩=rt at *
  obtain⟨tb,t1,t2⟩:=rt;simp only[eG];simp only at KN;generalize hgB:w.heap.size=gB at *
  replace hgB:=ζ hgB;have c1:w2.cell? ⟨gB,1,none⟩=some (.int .i64 (tb.at_:Int)):=(h.o.blk.cell 1).trans rfl;have l1:=h.o.blk.lt;by_cases hlt:tb.at_<s.length
  ·have ZV:(tb.at_:Int)<(s.length:Int):=ω;rw[if_pos hlt] at KN;go_wp2_with fail;clear c1 l1;have hP:=aS.new w2 208 #[.int .i64 (t1:Int),.int .i64 (t2:Int)];have dF:ah w2 (w2.alloc (.cells #[.int .i64 (t1:Int),.int .i64 (t2:Int)] 208)):=(ah.refl _).alloc _;(try replace hX:=ζ (hX.o.grows dF))
   (try replace hR:=ζ (hR.o.grows dF))
   replace h:=ζ (h.o.grows dF);replace hG:=ζ (hG.o.trans (aC.grows dF hb.o));replace hb:=ζ (Nat.le_trans hb.o dF.size);clear dF;generalize w2.alloc (.cells #[.int .i64 (t1:Int),.int .i64 (t2:Int)] 208)=w3 at *
   generalize w2.heap.size=gP at *
   replace hP:=ζ hP;refine (nS h.o).mono ?_;rintro e w4 ⟨rfl,Z9,dD⟩;(try replace aO:=ζ (aO.o.tk (aC.own h.o dD) δ))
   (try replace hX:=ζ ((aC.own h.o dD).blk hX.o δ))
   (try replace hP:=ζ ((aC.own h.o dD).blk hP.o δ))
   (try replace hR:=ζ ((aC.own h.o dD).blk hR.o δ))
   replace hG:=ζ (hG.o.trans ((aC.own h.o dD).mono yg.o));replace h:=ζ Z9;replace hb:=ζ (Nat.le_trans hb0.o hG.o.size);clear Z9 dD;have asy:=iQ (e:=2) δ tb;have ajZ:Hid (ou s = (aW 2 tb).err):=ζ (by rw[hpe.o,KN.o]);have ajY:Hid (wW s = none):=ζ (by rw[SQ.o,KN.o,if_pos asy]);have c2:w4.cell? ⟨gB,2,none⟩=some (.int .i64 ((aW 2 tb).err:Int)):=(h.o.blk.cell 2).trans rfl;have l2:=h.o.blk.lt;have hne:¬((aW 2 tb).err:Int)=0:=ω;clear asy KN hpe SQ;generalize (aW 2 tb).err=er at *
   go_wp2_with fail;refine aJ κ ?_;refine rK (.range 6) 0 ?_;iterate 6 refine aB ?_
   refine ay ?_;refine aP κ (fun wN hN hS=> ?_);clear c2 l2;go_wp2;go_ret2;refine⟨.pointer none,?_,?_,?_⟩
   ·rw[ajZ.o];rfl
   ·rw[ajY.o];rfl
   ·exact (ah.of (hgB.o ▸ hG.o.below)).trans hN
  ·have ZV:¬(tb.at_:Int)<(s.length:Int):=ω;rw[if_neg hlt] at KN;have c2:w2.cell? ⟨gB,2,none⟩=some (.int .i64 (tb.err:Int)):=(h.o.blk.cell 2).trans rfl;have ajZ:Hid (ou s = tb.err):=ζ (by rw[hpe.o,KN.o]);by_cases he:tb.err=0
   ·have ajY:Hid (wW s = some ⟨tb.aT,t1,t2⟩):=ζ (by rw[SQ.o,KN.o,if_neg (by simpa using he)]);have c3:w2.cell? ⟨gB,3,none⟩=some sv:=(h.o.blk.cell 3).trans rfl;have hei:(tb.err:Int)=0:=ω;rw[he] at ajZ;clear KN hpe SQ hlt he;obtain⟨sA,sc,Yv,-,-,-⟩:=h.o.own.arr Xv;obtain⟨sn,yN⟩:∃n,n = xs.length:=⟨_,rfl⟩;rw[←yN] at Yv;subst Yv;clear yN;go_wp2_with fail;clear c1 c2 c3 l1;have hP:=aS.new w2 208 #[.int .i64 (t1:Int),.int .i64 (t2:Int)];have dF:ah w2 (w2.alloc (.cells #[.int .i64 (t1:Int),.int .i64 (t2:Int)] 208)):=(ah.refl _).alloc _;(try replace hX:=ζ (hX.o.grows dF))
    (try replace hR:=ζ (hR.o.grows dF))
    replace h:=ζ (h.o.grows dF);replace hG:=ζ (hG.o.trans (aC.grows dF hb.o));replace hb:=ζ (Nat.le_trans hb.o dF.size);clear dF;generalize w2.alloc (.cells #[.int .i64 (t1:Int),.int .i64 (t2:Int)] 208)=w3 at *
    generalize w2.heap.size=gP at *
    replace hP:=ζ hP;have c3:w3.cell? ⟨gB,3,none⟩=some (.slice sA sn sc):=(h.o.blk.cell 3).trans rfl;have l1:=h.o.blk.lt;have wP:=hP.o.c0;have wO:=hP.o.c1;have wK:=hP.o.lt;clear hP;refine aJ κ ?_;refine rK (.range 10) 3 ?_;iterate 10 refine aB ?_
    refine ay ?_;refine aY [10] κ σ (fun wN hN hS=>(aK.cons rfl (fun K' hK=> ?_) aK.nil));replace h:=ζ (h.o.grows hN);replace hG:=ζ (hG.o.trans (aC.grows hN hb.o));replace hb:=ζ (Nat.le_trans hb.o hN.size);try replace dR:=ζ (dR.o.grows hN)
    clear hN;go_simp;refine hK.o _ _ ?_ (fun hS=> ?_)
    ·exact ah.trans (by assumption) ((ah.refl _).alloc _)
    have dR:=ζ (aS.new wN 211 #[.string ⟨s.toArray⟩,.slice sA sn sc,.int .i64 (t1:Int),.int .i64 (t2:Int)]);have dF:ah wN (wN.alloc (.cells #[.string ⟨s.toArray⟩,.slice sA sn sc,.int .i64 (t1:Int),.int .i64 (t2:Int)] 211)):=(ah.refl _).alloc _;replace h:=ζ (h.o.grows dF);replace hG:=ζ (hG.o.trans (aC.grows dF hb.o));replace hb:=ζ (Nat.le_trans hb.o dF.size);clear dF;obtain⟨gT,hgT⟩:∃g,g = wN.heap.size:=⟨_,rfl⟩;rw[←hgT] at dR;replace hgT:=ζ hgT;clear hK hS;refine rK [11,12] 0 ?_;iterate 2 refine aB ?_
    refine ay ?_;refine aP κ (fun wN hN hS=> ?_);replace h:=ζ (h.o.grows hN);replace hG:=ζ (hG.o.trans (aC.grows hN hb.o));replace hb:=ζ (Nat.le_trans hb.o hN.size);try replace dR:=ζ (dR.o.grows hN)
    clear c3 l1 wP wO wK;go_wp2;go_ret2;refine⟨.pointer (some ⟨gT,0,none⟩),?_,?_,ah.of (hgB.o ▸ hG.o.below)⟩
    ·rw[ajZ.o,hgT.o];rfl
    ·rw[ajY.o,hgB.o];exact⟨_,xs,.slice sA sn sc,rfl,dR.o,h.o.own,h.o.len,h.o.st⟩
   ·have ajY:Hid (wW s = none):=ζ (by rw[SQ.o,KN.o,if_pos he]);have hei:¬(tb.err:Int)=0:=ω;clear KN hpe SQ hlt he;go_wp2_with fail;clear c1 c2 l1;have hP:=aS.new w2 208 #[.int .i64 (t1:Int),.int .i64 (t2:Int)];have dF:ah w2 (w2.alloc (.cells #[.int .i64 (t1:Int),.int .i64 (t2:Int)] 208)):=(ah.refl _).alloc _;(try replace hX:=ζ (hX.o.grows dF))
    (try replace hR:=ζ (hR.o.grows dF))
    replace h:=ζ (h.o.grows dF);replace hG:=ζ (hG.o.trans (aC.grows dF hb.o));replace hb:=ζ (Nat.le_trans hb.o dF.size);clear dF;generalize w2.alloc (.cells #[.int .i64 (t1:Int),.int .i64 (t2:Int)] 208)=w3 at *
    generalize w2.heap.size=gP at *
    replace hP:=ζ hP;have c2:w3.cell? ⟨gB,2,none⟩=some (.int .i64 (tb.err:Int)):=(h.o.blk.cell 2).trans rfl;have l1:=h.o.blk.lt;refine aJ κ ?_;refine rK (.range 6) 0 ?_;iterate 6 refine aB ?_
    refine ay ?_;refine aP κ (fun wN hN hS=> ?_);clear c2 l1;go_wp2;go_ret2;refine⟨.pointer none,?_,?_,?_⟩
    ·rw[ajZ.o];rfl
    ·rw[ajY.o];rfl
    ·exact (ah.of (hgB.o ▸ hG.o.below)).trans hN
 ·have hli:(s.length:Int)>100:=ω;have hpe:ou s = 4:=by unfold ou;rw[if_pos ω]
  have SQ:wW s = none:=by unfold wW;rw[if_pos (.inl ω)]
  replace hpe:=ζ hpe;replace SQ:=ζ SQ;go_enter Tryz.func137,Tryz.ntmps137
  go_wp2;go_ret2;refine⟨.pointer none,?_,?_,ah.refl w⟩
  ·rw[hpe.o];rfl
  ·rw[SQ.o];rfl
end Go.Proofs.YteojanlajhebhaaGreatDoor
