/- Parts: PatM PatN PatO PatR -/
import Derived.Test.YtbhikkgpcmkonaaGreatDoorVo0
import Derived.Test.YtbhikkgpcmkonaaGreatDoorVo15
set_option maxRecDepth 100000
set_option maxHeartbeats 12800000
namespace Go.Proofs.YtbhikkgpcmkonaaGreatDoor
open Go.RowKit
theorem KW {w:World} {g k:Nat} {t u:TypeId} {cs ds:Array Value} (h:aG w g t cs) (k':aG w k u ds) (hne:t≠u) (e:g = k):False:=by
 subst e;unfold aG at h k';rw[h] at k';simp only[Option.some.injEq,Obj.cells.injEq] at k';exact hne k'.2.1
theorem ag7 {w:World} {base gB dp:Nat} {s:List UInt8} {b:PB} {c:UInt8} {sub:Option (PB→PB×qx)} {f:PB→PB×qx} {xs:List xX} {sv:Value} (Ar:ZF s sub dp) (hsp:G_ s 11 sub) (h:jU w base gB s b xs sv) (hb:base≤w.heap.size) (uq:s.length≤100) (hcs:s[b.at_]? = some c) (hc:d_ b≤8*b.at_+61) (zK:c = 40) (Yy:sub=some f) :
 Calls Tryz.prog 274 #[.pointer (some ⟨gB,0,none⟩),.int .i64 (dp:Int)] w (jo base gB s w (cZ s sub c b)):=by
 have i40:(c.toNat:Int)=40:=by rw[zK];rfl
 have DW:Hid ((aO b).at_≤s.length):=ζ (by have:=(List.getElem?_eq_some_iff.1 hcs).1;simp only[aO];omega);obtain⟨hdp,adx⟩:=Ar.2 f Yy;have aGr:¬(dp:Int)=8:=ω;have aDC:(dp:Int)≤8∧0≤(dp:Int):=ω;have oD:=hsp f Yy (aO b) DW.o;have hat:Hid (cZ s sub c b = (aO (if BK s (f (aO b)).1=some 41 then (f (aO b)).1 else bU 2 (f (aO b)).1),(f (aO b)).2)):=ζ (by unfold cZ;rw[if_pos zK,Yy]);have anP:Hid (d_ (aO b)≤8*(aO b).at_+53):=ζ (by rw[KQ];simp only[aO];omega);replace adx:=ζ adx;replace oD:=ζ oD;clear zK hsp Ar Yy;have hlt:b.at_<s.length:=(List.getElem?_eq_some_iff.1 hcs).1;have tC:Hid (∀t∈[358],t∈TS):=ζ (by intro t ht;simp[TS,TB] at *;exact .inr (.inl ht));have nU:Hid (∀t∈TB,t∈TS):=ζ (fun t ht=>List.mem_cons_of_mem _ ht);have hTK:Hid (∀t∈TC,t∈TS):=ζ (by intro t ht;simp[TS,TB,TC] at *;rcases ht with h | h;exact .inr (.inl h);exact .inl h);have hR:=aG.new w 360 #[.int .i64 0,.int .i64 0];have hg1:ah w (w.alloc (.cells #[.int .i64 0,.int .i64 0] 360)):=(ah.refl _).alloc _;replace hR:=ζ hR;have hG:=ζ (aC.grows (T:=TS) hg1 hb);replace h:=ζ (h.grows hg1);have hb0:Hid (BLe base w):=ζ hb;replace hb:=ζ (Nat.le_trans hb hg1.size);have hgr:Hid (GLe w w.heap.size):=ζ (Nat.le_refl _);have hci:((b.at_:Nat):Int)<(s.length:Int):=ω;have BN:∀h:b.at_<(⟨s.toArray⟩:ByteArray).size,(⟨s.toArray⟩:ByteArray)[b.at_]'h = c:=fun h=>by
  show s.toArray[b.at_]=c
  rw[List.getElem_toArray];exact (List.getElem?_eq_some_iff.1 hcs).2
 have c0:∀w',jU w' base gB s b xs sv→w'.cell? ⟨gB,0,none⟩=some (.string ⟨s.toArray⟩):=fun w' hh=>(hh.blk.cell 0).trans rfl
 have c1:∀w',jU w' base gB s b xs sv→w'.cell? ⟨gB,1,none⟩=some (.int .i64 (b.at_:Int)):=fun w' hh=>(hh.blk.cell 1).trans rfl
 replace c0:=c0 _ h.o;replace c1:=c1 _ h.o;have l1:=h.o.blk.lt;clear hg1;go_enter Tryz.func274,Tryz.ntmps274
 go_wp2_with fail;generalize w.alloc (.cells #[.int .i64 0,.int .i64 0] 360)=w0 at *
 generalize w.heap.size=gR at *
 refine aF κ ?_;refine rK (.range 10) 0 ?_;iterate 10 refine ay ?_
 refine aB ?_;refine aH κ (fun wN hN hS=> ?_);clear c0 c1 l1;replace hR:=ζ (hR.o.grows hN);replace h:=ζ (h.o.grows hN);replace hG:=ζ (hG.o.trans (aC.grows hN hb.o));replace hb:=ζ (Nat.le_trans hb.o hN.size);clear hN hS;have c1:wN.cell? ⟨gB,1,none⟩=some (.int .i64 ((b).at_:Int)):=(h.o.blk.cell 1).trans rfl;have f1:=h.o.blk.frozen 1;have l1:=h.o.blk.lt;have i1: -9223372036854775808≤((b).at_:Int)+1∧((b).at_:Int)+1≤9223372036854775807:=by first | omega | (simp only[aO];omega)
 have hA:=ζ h.o.N9;have nH:=ζ (hG.o.trans ((aC.own h.o (aj wN ⟨gB,1,none⟩ (.int .i64 (((b).at_:Int)+1)))).mono tC.o));have hsz:Hid ((wN.setCell ⟨gB,1,none⟩ (.int .i64 (((b).at_:Int)+1))).heap.size=wN.heap.size):=ζ σ;go_wp2_with fail;(try replace aK:=ζ (aK.o.tk (aC.own h.o (aj wN ⟨gB,1,none⟩ (.int .i64 (((b).at_:Int)+1)))) δ))
 (try replace hX:=ζ ((aC.own h.o (aj wN ⟨gB,1,none⟩ (.int .i64 (((b).at_:Int)+1)))).blk hX.o δ))
 (try replace hP:=ζ ((aC.own h.o (aj wN ⟨gB,1,none⟩ (.int .i64 (((b).at_:Int)+1)))).blk hP.o δ))
 (try replace hR:=ζ ((aC.own h.o (aj wN ⟨gB,1,none⟩ (.int .i64 (((b).at_:Int)+1)))).blk hR.o δ))
 clear c1 f1 l1 i1 h hG;generalize wN.setCell ⟨gB,1,none⟩ (.int .i64 (((b).at_:Int)+1))=w2 at *
 have h:=hA;have hG:=nH;clear hA nH;replace hb:=ζ (Nat.le_trans hb0.o hG.o.size);have dP:ah w2 (w2.alloc (.cells #[.int .u64 0,.int .u64 0,.int .u64 0,.int .u64 0] 385)):=(ah.refl _).alloc _;replace hR:=ζ (hR.o.grows dP);replace h:=ζ (h.o.grows dP);replace hG:=ζ (hG.o.trans (aC.grows dP hb.o));replace hb:Hid (base≤(w2.alloc (.cells #[.int .u64 0,.int .u64 0,.int .u64 0,.int .u64 0] 385)).heap.size):=ζ (Nat.le_trans hb.o dP.size);clear dP;generalize w2.alloc (.cells #[.int .u64 0,.int .u64 0,.int .u64 0,.int .u64 0] 385)=w3 at *
 refine (adx.o _ _ _ _ _ _ h.o hb.o DW.o anP.o).mono ?_;rintro e w4 ⟨rfl,xs4,sv4,h',dX⟩;replace h:=ζ h';(try replace hX:=ζ (dX.blk hX.o δ))
 (try replace hP:=ζ (dX.blk hP.o δ))
 (try replace hR:=ζ (dX.blk hR.o δ))
 replace hG:=ζ (hG.o.trans dX);replace hb:=ζ (Nat.le_trans hb0.o hG.o.size);clear h' dX adx anP;generalize f (aO b)=r at *
 obtain⟨rb,p1,p2⟩:=r;simp only[dJ];have hWr:=oD.o.2.1;replace hWr:=ζ hWr;cases hp:BK s rb with
 | none=>
  have oW:wR s rb=.tuple #[.int .u8 0,.bool false]:=by simp only[wR,hp]
  have YO:Hid (cZ s sub c b = (aO (bU 2 rb),(p1,p2))):=ζ (by rw[hat.o,hp];rfl);clear hp hat;go_wp2_with fail;have hP:=aG.new w4 360 #[.int .i64 (p1:Int),.int .i64 (p2:Int)];have dP:ah w4 (w4.alloc (.cells #[.int .i64 (p1:Int),.int .i64 (p2:Int)] 360)):=(ah.refl _).alloc _;(try replace hX:=ζ (hX.o.grows dP))
  (try replace hR:=ζ (hR.o.grows dP))
  replace h:=ζ (h.o.grows dP);replace hG:=ζ (hG.o.trans (aC.grows dP hb.o));replace hb:=ζ (Nat.le_trans hb.o dP.size);clear dP;generalize w4.alloc (.cells #[.int .i64 (p1:Int),.int .i64 (p2:Int)] 360)=w5 at *
  generalize w4.heap.size=gP at *
  replace hP:=ζ hP;refine (eP h.o).mono ?_;rintro e w6 ⟨rfl,rZ⟩;replace h:=ζ (h.o.grows rZ);replace hG:=ζ (hG.o.trans (aC.grows rZ hb.o));replace hb:=ζ (Nat.le_trans hb.o rZ.size);(try replace aK:=ζ (aK.o.grows rZ))
  (try replace hX:=ζ (hX.o.grows rZ))
  (try replace hP:=ζ (hP.o.grows rZ))
  (try replace hR:=ζ (hR.o.grows rZ))
  clear rZ;rw[oW];clear oW;go_wp2_with fail;refine (kD h.o).mono ?_;rintro e w7 ⟨rfl,akF,Kz⟩;(try replace aK:=ζ (aK.o.tk (aC.own h.o Kz) δ))
  (try replace hX:=ζ ((aC.own h.o Kz).blk hX.o δ))
  (try replace hP:=ζ ((aC.own h.o Kz).blk hP.o δ))
  (try replace hR:=ζ ((aC.own h.o Kz).blk hR.o δ))
  replace hG:=ζ (hG.o.trans ((aC.own h.o Kz).mono tC.o));replace h:=ζ akF;replace hb:=ζ (Nat.le_trans hb0.o hG.o.size);clear akF Kz;have Pm:(bU 2 rb).at_<100000:=by rw[dV];have:=hWr.o.1;omega
  have c1:w7.cell? ⟨gB,1,none⟩=some (.int .i64 (((bU 2 rb)).at_:Int)):=(h.o.blk.cell 1).trans rfl;have f1:=h.o.blk.frozen 1;have l1:=h.o.blk.lt;have i1: -9223372036854775808≤(((bU 2 rb)).at_:Int)+1∧(((bU 2 rb)).at_:Int)+1≤9223372036854775807:=ω;have V6:=aC.own h.o (aj w7 ⟨gB,1,none⟩ (.int .i64 ((((bU 2 rb)).at_:Int)+1)));have hA:=ζ h.o.N9;have hP2:=ζ (V6.blk hP.o δ);have iE:=ζ (V6.blk hR.o δ);have gK:=ζ (hG.o.trans (V6.mono tC.o));have hPB:¬gP=gB:=fun e=>KW hP.o h.o.blk δ e
  have hRB:¬gR=gB:=fun e=>KW hR.o h.o.blk δ e
  have hBR:¬gB=gR:=fun e=>hRB e.symm
  (try clear rO);(try clear rM);(try clear rG);(try clear sG);(try clear sF)
  have rO:w7.cell? ⟨gP,0,none⟩=_:=hP.o.cell 0;have rM:w7.cell? ⟨gP,1,none⟩=_:=hP.o.cell 1;have sG:=hP.o.frozen 0;have sF:=hP.o.frozen 1;have rG:=hP.o.lt;(try clear qh);(try clear qg);(try clear pK);(try clear pY);(try clear pX)
  have qh:w7.cell? ⟨gR,0,none⟩=_:=hR.o.cell 0;have qg:w7.cell? ⟨gR,1,none⟩=_:=hR.o.cell 1;have pY:=hR.o.frozen 0;have pX:=hR.o.frozen 1;have pK:=hR.o.lt;clear V6;go_wp2;clear c1 f1 l1 i1 hPB hRB hBR;clear rO rM sG sF rG;clear qh qg pY pX pK;clear hP hR hG h;have h:=hA;have hR:=iE;have hG:=gK;clear hA hP2 iE gK;generalize w7.setCell ⟨gB,1,none⟩ (.int .i64 ((((bU 2 rb)).at_:Int)+1))=wz at *
  have kC:=hR.o.bH 0 (.int .i64 (p1:Int));have oQ:=kC.bH 1 (.int .i64 (p2:Int));have rY:=(hG.o.dM (g:=gR) (i:=0) hgr.o hb0.o (.int .i64 (p1:Int))).dM (g:=gR) (i:=1) hgr.o hb0.o (.int .i64 (p2:Int));have yL:=(h.o.far hR.o δ (aj wz ⟨gR,0,none⟩ (.int .i64 (p1:Int)))).far kC δ (aj _ ⟨gR,1,none⟩ (.int .i64 (p2:Int)));clear hR hG h kC;generalize (wz.setCell ⟨gR,0,none⟩ (.int .i64 (p1:Int))).setCell ⟨gR,1,none⟩ (.int .i64 (p2:Int))=w7 at *
  have e0:=oQ.c0;have e1:=oQ.c1;refine bodyPost_ret (v:=dJ (p1,p2)) ?_ rfl ⟨?_,?_⟩
  ·simp[dJ,results,Tryz.results274,go_sem,e0,e1]
  ·rw[YO.o]
  ·rw[YO.o];exact⟨_,_,yL,rY⟩
 | some d=>
  have oW:wR s rb=.tuple #[.int .u8 (d.toNat:Int),.bool true]:=by simp only[wR,hp]
  by_cases h41:d = 41
  ·have i41:(d.toNat:Int)=41:=by rw[h41];rfl
   have YO:Hid (cZ s sub c b = (aO rb,(p1,p2))):=ζ (by rw[hat.o,hp];simp[h41]);clear hp hat h41;go_wp2_with fail;have hP:=aG.new w4 360 #[.int .i64 (p1:Int),.int .i64 (p2:Int)];have dP:ah w4 (w4.alloc (.cells #[.int .i64 (p1:Int),.int .i64 (p2:Int)] 360)):=(ah.refl _).alloc _;(try replace hX:=ζ (hX.o.grows dP))
   (try replace hR:=ζ (hR.o.grows dP))
   replace h:=ζ (h.o.grows dP);replace hG:=ζ (hG.o.trans (aC.grows dP hb.o));replace hb:=ζ (Nat.le_trans hb.o dP.size);clear dP;generalize w4.alloc (.cells #[.int .i64 (p1:Int),.int .i64 (p2:Int)] 360)=w5 at *
   generalize w4.heap.size=gP at *
   replace hP:=ζ hP;refine (eP h.o).mono ?_;rintro e w6 ⟨rfl,rZ⟩;replace h:=ζ (h.o.grows rZ);replace hG:=ζ (hG.o.trans (aC.grows rZ hb.o));replace hb:=ζ (Nat.le_trans hb.o rZ.size);(try replace aK:=ζ (aK.o.grows rZ))
   (try replace hX:=ζ (hX.o.grows rZ))
   (try replace hP:=ζ (hP.o.grows rZ))
   (try replace hR:=ζ (hR.o.grows rZ))
   clear rZ;rw[oW];clear oW;have hw1:rb.at_<100000:=by have:=hWr.o.1;omega
   have c1:w6.cell? ⟨gB,1,none⟩=some (.int .i64 ((rb).at_:Int)):=(h.o.blk.cell 1).trans rfl;have f1:=h.o.blk.frozen 1;have l1:=h.o.blk.lt;have i1: -9223372036854775808≤((rb).at_:Int)+1∧((rb).at_:Int)+1≤9223372036854775807:=ω;have V6:=aC.own h.o (aj w6 ⟨gB,1,none⟩ (.int .i64 (((rb).at_:Int)+1)));have hA:=ζ h.o.N9;have hP2:=ζ (V6.blk hP.o δ);have iE:=ζ (V6.blk hR.o δ);have gK:=ζ (hG.o.trans (V6.mono tC.o));have hPB:¬gP=gB:=fun e=>KW hP.o h.o.blk δ e
   have hRB:¬gR=gB:=fun e=>KW hR.o h.o.blk δ e
   have hBR:¬gB=gR:=fun e=>hRB e.symm
   (try clear rO);(try clear rM);(try clear rG);(try clear sG);(try clear sF)
   have rO:w6.cell? ⟨gP,0,none⟩=_:=hP.o.cell 0;have rM:w6.cell? ⟨gP,1,none⟩=_:=hP.o.cell 1;have sG:=hP.o.frozen 0;have sF:=hP.o.frozen 1;have rG:=hP.o.lt;(try clear qh);(try clear qg);(try clear pK);(try clear pY);(try clear pX)
   have qh:w6.cell? ⟨gR,0,none⟩=_:=hR.o.cell 0;have qg:w6.cell? ⟨gR,1,none⟩=_:=hR.o.cell 1;have pY:=hR.o.frozen 0;have pX:=hR.o.frozen 1;have pK:=hR.o.lt;clear V6;go_wp2;clear c1 f1 l1 i1 hPB hRB hBR;clear rO rM sG sF rG;clear qh qg pY pX pK;clear hP hR hG h;have h:=hA;have hR:=iE;have hG:=gK;clear hA hP2 iE gK;generalize w6.setCell ⟨gB,1,none⟩ (.int .i64 (((rb).at_:Int)+1))=wz at *
   have kC:=hR.o.bH 0 (.int .i64 (p1:Int));have oQ:=kC.bH 1 (.int .i64 (p2:Int));have rY:=(hG.o.dM (g:=gR) (i:=0) hgr.o hb0.o (.int .i64 (p1:Int))).dM (g:=gR) (i:=1) hgr.o hb0.o (.int .i64 (p2:Int));have yL:=(h.o.far hR.o δ (aj wz ⟨gR,0,none⟩ (.int .i64 (p1:Int)))).far kC δ (aj _ ⟨gR,1,none⟩ (.int .i64 (p2:Int)));clear hR hG h kC;generalize (wz.setCell ⟨gR,0,none⟩ (.int .i64 (p1:Int))).setCell ⟨gR,1,none⟩ (.int .i64 (p2:Int))=w7 at *
   have e0:=oQ.c0;have e1:=oQ.c1;refine bodyPost_ret (v:=dJ (p1,p2)) ?_ rfl ⟨?_,?_⟩
   ·simp[dJ,results,Tryz.results274,go_sem,e0,e1]
   ·rw[YO.o]
   ·rw[YO.o];exact⟨_,_,yL,rY⟩
  ·have i41:¬(d.toNat:Int)=41:=fun e=>h41 (UInt8.toNat_inj.1 (by show d.toNat=41;omega))
   have YO:Hid (cZ s sub c b = (aO (bU 2 rb),(p1,p2))):=ζ (by rw[hat.o,hp];simp[h41]);clear hp hat h41;go_wp2_with fail;have hP:=aG.new w4 360 #[.int .i64 (p1:Int),.int .i64 (p2:Int)];have dP:ah w4 (w4.alloc (.cells #[.int .i64 (p1:Int),.int .i64 (p2:Int)] 360)):=(ah.refl _).alloc _;(try replace hX:=ζ (hX.o.grows dP))
   (try replace hR:=ζ (hR.o.grows dP))
   replace h:=ζ (h.o.grows dP);replace hG:=ζ (hG.o.trans (aC.grows dP hb.o));replace hb:=ζ (Nat.le_trans hb.o dP.size);clear dP;generalize w4.alloc (.cells #[.int .i64 (p1:Int),.int .i64 (p2:Int)] 360)=w5 at *
   generalize w4.heap.size=gP at *
   replace hP:=ζ hP;refine (eP h.o).mono ?_;rintro e w6 ⟨rfl,rZ⟩;replace h:=ζ (h.o.grows rZ);replace hG:=ζ (hG.o.trans (aC.grows rZ hb.o));replace hb:=ζ (Nat.le_trans hb.o rZ.size);(try replace aK:=ζ (aK.o.grows rZ))
   (try replace hX:=ζ (hX.o.grows rZ))
   (try replace hP:=ζ (hP.o.grows rZ))
   (try replace hR:=ζ (hR.o.grows rZ))
   clear rZ;rw[oW];clear oW;go_wp2_with fail;refine (kD h.o).mono ?_;rintro e w7 ⟨rfl,akF,Kz⟩;(try replace aK:=ζ (aK.o.tk (aC.own h.o Kz) δ))
   (try replace hX:=ζ ((aC.own h.o Kz).blk hX.o δ))
   (try replace hP:=ζ ((aC.own h.o Kz).blk hP.o δ))
   (try replace hR:=ζ ((aC.own h.o Kz).blk hR.o δ))
   replace hG:=ζ (hG.o.trans ((aC.own h.o Kz).mono tC.o));replace h:=ζ akF;replace hb:=ζ (Nat.le_trans hb0.o hG.o.size);clear akF Kz;have Pm:(bU 2 rb).at_<100000:=by rw[dV];have:=hWr.o.1;omega
   have hw1:rb.at_<100000:=by have:=hWr.o.1;omega
   have c1:w7.cell? ⟨gB,1,none⟩=some (.int .i64 (((bU 2 rb)).at_:Int)):=(h.o.blk.cell 1).trans rfl;have f1:=h.o.blk.frozen 1;have l1:=h.o.blk.lt;have i1: -9223372036854775808≤(((bU 2 rb)).at_:Int)+1∧(((bU 2 rb)).at_:Int)+1≤9223372036854775807:=ω;have V6:=aC.own h.o (aj w7 ⟨gB,1,none⟩ (.int .i64 ((((bU 2 rb)).at_:Int)+1)));have hA:=ζ h.o.N9;have hP2:=ζ (V6.blk hP.o δ);have iE:=ζ (V6.blk hR.o δ);have gK:=ζ (hG.o.trans (V6.mono tC.o));have hPB:¬gP=gB:=fun e=>KW hP.o h.o.blk δ e
   have hRB:¬gR=gB:=fun e=>KW hR.o h.o.blk δ e
   have hBR:¬gB=gR:=fun e=>hRB e.symm
   (try clear rO);(try clear rM);(try clear rG);(try clear sG);(try clear sF)
   have rO:w7.cell? ⟨gP,0,none⟩=_:=hP.o.cell 0;have rM:w7.cell? ⟨gP,1,none⟩=_:=hP.o.cell 1;have sG:=hP.o.frozen 0;have sF:=hP.o.frozen 1;have rG:=hP.o.lt;(try clear qh);(try clear qg);(try clear pK);(try clear pY);(try clear pX)
   have qh:w7.cell? ⟨gR,0,none⟩=_:=hR.o.cell 0;have qg:w7.cell? ⟨gR,1,none⟩=_:=hR.o.cell 1;have pY:=hR.o.frozen 0;have pX:=hR.o.frozen 1;have pK:=hR.o.lt;clear V6;go_wp2;clear c1 f1 l1 i1 hPB hRB hBR;clear rO rM sG sF rG;clear qh qg pY pX pK;clear hP hR hG h;have h:=hA;have hR:=iE;have hG:=gK;clear hA hP2 iE gK;generalize w7.setCell ⟨gB,1,none⟩ (.int .i64 ((((bU 2 rb)).at_:Int)+1))=wz at *
   have kC:=hR.o.bH 0 (.int .i64 (p1:Int));have oQ:=kC.bH 1 (.int .i64 (p2:Int));have rY:=(hG.o.dM (g:=gR) (i:=0) hgr.o hb0.o (.int .i64 (p1:Int))).dM (g:=gR) (i:=1) hgr.o hb0.o (.int .i64 (p2:Int));have yL:=(h.o.far hR.o δ (aj wz ⟨gR,0,none⟩ (.int .i64 (p1:Int)))).far kC δ (aj _ ⟨gR,1,none⟩ (.int .i64 (p2:Int)));clear hR hG h kC;generalize (wz.setCell ⟨gR,0,none⟩ (.int .i64 (p1:Int))).setCell ⟨gR,1,none⟩ (.int .i64 (p2:Int))=w7 at *
   have e0:=oQ.c0;have e1:=oQ.c1;refine bodyPost_ret (v:=dJ (p1,p2)) ?_ rfl ⟨?_,?_⟩
   ·simp[dJ,results,Tryz.results274,go_sem,e0,e1]
   ·rw[YO.o]
   ·rw[YO.o];exact⟨_,_,yL,rY⟩
theorem alJ {w:World} {base gB dp:Nat} {s:List UInt8} {b:PB} {c:UInt8} {sub:Option (PB→PB×qx)} {xs:List xX} {sv:Value} (Ar:ZF s sub dp) (hsp:G_ s 11 sub) (h:jU w base gB s b xs sv) (hb:base≤w.heap.size) (uq:s.length≤100) (hcs:s[b.at_]? = some c) (hc:d_ b≤8*b.at_+61) :
 Calls Tryz.prog 274 #[.pointer (some ⟨gB,0,none⟩),.int .i64 (dp:Int)] w (jo base gB s w (cZ s sub c b)):=by
 by_cases zK:c = 40
 ·cases Yy:sub with
  | none=>rw[←Yy];exact ag8 Ar hsp h hb uq hcs hc zK Yy
  | some f=>rw[←Yy];exact ag7 Ar hsp h hb uq hcs hc zK Yy
 ·by_cases H9:c = 91
  ·exact acV h hb uq hcs hc zK H9
  ·by_cases Np:c = 46
   ·exact alI h hb uq hcs hc zK H9 Np
   ·by_cases Uz:c = 92
    ·cases hp:BK s (aO b) with
     | none=>exact Zw h hb uq hcs hc zK H9 Np Uz hp
     | some d=>exact acT h hb uq hcs hc zK H9 Np Uz hp
    ·by_cases ho:afo c = true
     ·exact alH h hb uq hcs hc zK H9 Np Uz ho
     ·exact acU h hb uq hcs hc zK H9 Np Uz ho
theorem alK {s:List UInt8} {k:Nat} {sub:Option (PB→PB×qx)} {c:UInt8} {b:PB} (hs:G_ s k sub) (hb:b.at_<s.length):b.at_+1≤(cZ s sub c b).1.at_:=by
 have ha:(aO b).at_=b.at_+1:=rfl;have DW:(aO b).at_≤s.length:=ω;have ho:∀ws z,(kH ws z).1.at_=z.at_:=fun ws z=>(xI ws z).2.2.1
 unfold cZ;split
 ·split
  ·rw[ho,dV];omega
  ·rename_i f;have h1:=(hs f rfl (aO b) DW).1.at_;simp only;split
   ·show _≤(f (aO b)).1.at_+1;omega
   ·show _≤(bU 2 (f (aO b)).1).at_+1;rw[dV];omega
 ·split
  ·have h1:=(D5 (s:=s) (b:=aO b) (WP.of_le DW)).1.at_;simp only;rw[ho];omega
  ·split
   ·rw[ho];omega
   ·split
    ·split
     ·rw[ho];show _≤(bU 2 (aO b)).at_+1;rw[dV];omega
     ·rw[ho];show _≤(aO b).at_+1;omega
    ·split
     ·rw[ho,dV];omega
     ·rw[ho];omega
theorem amN {w:World} {base gB dp:Nat} {s:List UInt8} {b:PB} {sub:Option (PB→PB×qx)} {xs:List xX} {sv:Value} (Ar:ZF s sub dp) (hsp:G_ s 11 sub) (h:jU w base gB s b xs sv) (hb:base≤w.heap.size) (uq:s.length≤100) (hW:WP s 12 b) (hc:d_ b≤8*b.at_+60) :
 Calls Tryz.prog 265 #[.pointer (some ⟨gB,0,none⟩),.int .i64 (dp:Int)] w (jo base gB s w (jK s sub b)):=by
 have tC:Hid (∀t∈[358],t∈TS):=ζ (by intro t ht;simp[TS,TB] at *;exact .inr (.inl ht));have nU:Hid (∀t∈TB,t∈TS):=ζ (fun t ht=>List.mem_cons_of_mem _ ht);have hR:=aG.new w 360 #[.int .i64 0,.int .i64 0];have hg1:ah w (w.alloc (.cells #[.int .i64 0,.int .i64 0] 360)):=(ah.refl _).alloc _;replace hR:=ζ hR;have hG:=ζ (aC.grows (T:=TS) hg1 hb);replace h:=ζ (h.grows hg1);have hb0:Hid (BLe base w):=ζ hb;replace hb:=ζ (Nat.le_trans hb hg1.size);have hgr:Hid (GLe w w.heap.size):=ζ (Nat.le_refl _);have hrp:Hid (jK s sub b = Gl s sub (s.length+1) (b.aS.length,b.aS.length) (aX b)):=ζ rfl;replace Ar:=ζ Ar;replace hsp:=ζ hsp;replace hW:=ζ hW;replace hc:=ζ hc;clear hg1;go_enter Tryz.func265,Tryz.ntmps265
 go_wp2_with fail;generalize w.alloc (.cells #[.int .i64 0,.int .i64 0] 360)=w0 at *
 generalize w.heap.size=gR at *
 refine (vJ h.o hb.o (by have:=jE b;have:=hc.o;have:=hW.o.1;omega)).mono ?_;rintro e w1 ⟨rfl,sv1,h',dX⟩;replace h:=ζ h';clear h';(try replace hX:=ζ ((dX.mono nU.o).blk hX.o δ))
 (try replace hP:=ζ ((dX.mono nU.o).blk hP.o δ))
 (try replace hR:=ζ ((dX.mono nU.o).blk hR.o δ))
 replace hG:=ζ (hG.o.trans (dX.mono nU.o));replace hb:=ζ (Nat.le_trans hb0.o hG.o.size);clear dX;have hI:Hid (Jr (b.aS.length,b.aS.length) (aX b)):=ζ ⟨by rw[eu];simp,by rw[eu];simp⟩;have hW1:Hid (WP s 12 (aX b)):=hW;have hc1:Hid (d_ (aX b)≤8*(aX b).at_+61):=ζ (by have:=qX b;have:=hc.o;have:(aX b).at_=b.at_:=rfl;omega);generalize aX b = b1 at *
 generalize b.aS.length=N at *
 go_wp2_with fail;have hgP:Hid (GLe w w1.heap.size):=ζ hG.o.size;have hRP:Hid (gR≠w1.heap.size):=ζ (by have:=hR.o.lt;omega);have hP:=aG.new w1 360 #[.int .i64 (N:Int),.int .i64 (N:Int)];have dP:ah w1 (w1.alloc (.cells #[.int .i64 (N:Int),.int .i64 (N:Int)] 360)):=(ah.refl _).alloc _;(try replace hX:=ζ (hX.o.grows dP))
 (try replace hR:=ζ (hR.o.grows dP))
 replace h:=ζ (h.o.grows dP);replace hG:=ζ (hG.o.trans (aC.grows dP hb.o));replace hb:=ζ (Nat.le_trans hb.o dP.size);clear dP;generalize w1.alloc (.cells #[.int .i64 (N:Int),.int .i64 (N:Int)] 360)=w2 at *
 generalize w1.heap.size=gP at *
 replace hP:=ζ hP;obtain⟨R,yJ⟩:∃R,R=Gl s sub (s.length+1) (N,N) b1:=⟨_,rfl⟩;rw[←yJ] at hrp;replace yJ:=ζ yJ;go_loopw [] (fun wr=>∃(f q:Nat) (bq:PB) (xq:List xX) (vq:Value),Hid (s.length≤f + bq.at_)∧Hid (R=Gl s sub f (N,q) bq)∧Hid (WP s 12 bq)∧Hid (Jr (N,q) bq)∧Hid (d_ bq≤8*bq.at_+61)∧Hid (jU wr base gB s bq xq vq)∧Hid (aG wr gP 360 #[.int .i64 (N:Int),.int .i64 (q:Int)])∧Hid (aG wr gR 360 #[.int .i64 0,.int .i64 0])∧Hid (aC TS base w wr)) (fun wr=>s.length+20-(match wr.cell? ⟨gB,1,none⟩ with | some v=>(intOf v).toNat | none=>0))
 case atStart=>exact⟨s.length+1,N,b1,_,_,ζ ω,yJ,hW1,hI,hc1,h,hP,hR,hG⟩
 case round=>
  clear yJ hW1 hI hc1 h hP hR hG hb;obtain⟨f,q,bq,xq,vq,hf,iE,Xm,hI,lu,h,hP,hR,hG⟩:=hrel;have hb:=ζ (Nat.le_trans hb0.o hG.o.size);have hstep:=aeP (sub:=sub) (p:=(N,q)) hf.o;rw[←iE.o] at hstep;clear iE;have Bj:Hid (∀(w':World) (b':PB) xs' sv',jU w' base gB s b' xs' sv'→(match w'.cell? ⟨gB,1,none⟩ with | some v=>(intOf v).toNat | none=>0)=b'.at_):=ζ (fun w' b' _ _ hh=>by
   have e:w'.cell? ⟨gB,1,none⟩=some (.int .i64 (b'.at_:Int)):=(hh.blk.cell 1).trans rfl;rw[e];simp[intOf])
  have IL:=ζ (Bj.o _ _ _ _ h.o);go_wp2_with fail;refine (eP h.o).mono ?_;rintro e w1 ⟨rfl,dn⟩;replace h:=ζ (h.o.grows dn);replace hG:=ζ (hG.o.trans (aC.grows dn hb.o));replace hb:=ζ (Nat.le_trans hb.o dn.size);(try replace aK:=ζ (aK.o.grows dn))
  (try replace hX:=ζ (hX.o.grows dn))
  (try replace hP:=ζ (hP.o.grows dn))
  (try replace hR:=ζ (hR.o.grows dn))
  clear dn;cases hp:BK s bq with
  | none=>
   simp only[wR,hp];rw[hp] at hstep;replace hstep:=ζ hstep;clear hp;(try clear rO);(try clear rM);(try clear rG);(try clear sG);(try clear sF)
   have rO:w1.cell? ⟨gP,0,none⟩=_:=hP.o.cell 0;have rM:w1.cell? ⟨gP,1,none⟩=_:=hP.o.cell 1;have sG:=hP.o.frozen 0;have sF:=hP.o.frozen 1;have rG:=hP.o.lt;(try clear qh);(try clear qg);(try clear pK);(try clear pY);(try clear pX)
   have qh:w1.cell? ⟨gR,0,none⟩=_:=hR.o.cell 0;have qg:w1.cell? ⟨gR,1,none⟩=_:=hR.o.cell 1;have pY:=hR.o.frozen 0;have pX:=hR.o.frozen 1;have pK:=hR.o.lt;go_wp2;clear rO rM sG sF rG;clear qh qg pY pX pK;clear hP;have kC:=hR.o.bH 0 (.int .i64 (N:Int));have oQ:=kC.bH 1 (.int .i64 (q:Int));have rY:=(hG.o.dM (g:=gR) (i:=0) hgr.o hb0.o (.int .i64 (N:Int))).dM (g:=gR) (i:=1) hgr.o hb0.o (.int .i64 (q:Int));have yL:=(h.o.far hR.o δ (aj w1 ⟨gR,0,none⟩ (.int .i64 (N:Int)))).far kC δ (aj _ ⟨gR,1,none⟩ (.int .i64 (q:Int)));clear hR hG h kC;generalize (w1.setCell ⟨gR,0,none⟩ (.int .i64 (N:Int))).setCell ⟨gR,1,none⟩ (.int .i64 (q:Int))=w7 at *
   have e0:=oQ.c0;have e1:=oQ.c1;refine bodyPost_ret (v:=dJ (N,q)) ?_ rfl ⟨?_,?_⟩
   ·simp[dJ,results,Tryz.results265,go_sem,e0,e1]
   ·rw[hrp.o,hstep.o]
   ·rw[hrp.o,hstep.o];exact⟨_,_,yL,rY⟩
  | some c=>
   simp only[wR,hp];rw[hp] at hstep;have hlen:=ζ (jc hp).2.1;have hcs:=ζ (jc hp).2.2;clear hp;by_cases Jc:c = 124
   ·have i124:(c.toNat:Int)=124:=by rw[Jc];rfl
    simp only[Jc,true_or,if_true] at hstep;replace hstep:=ζ hstep;clear Jc;(try clear rO);(try clear rM);(try clear rG);(try clear sG);(try clear sF)
    have rO:w1.cell? ⟨gP,0,none⟩=_:=hP.o.cell 0;have rM:w1.cell? ⟨gP,1,none⟩=_:=hP.o.cell 1;have sG:=hP.o.frozen 0;have sF:=hP.o.frozen 1;have rG:=hP.o.lt;(try clear qh);(try clear qg);(try clear pK);(try clear pY);(try clear pX)
    have qh:w1.cell? ⟨gR,0,none⟩=_:=hR.o.cell 0;have qg:w1.cell? ⟨gR,1,none⟩=_:=hR.o.cell 1;have pY:=hR.o.frozen 0;have pX:=hR.o.frozen 1;have pK:=hR.o.lt;go_wp2;clear rO rM sG sF rG;clear qh qg pY pX pK;clear hP;have kC:=hR.o.bH 0 (.int .i64 (N:Int));have oQ:=kC.bH 1 (.int .i64 (q:Int));have rY:=(hG.o.dM (g:=gR) (i:=0) hgr.o hb0.o (.int .i64 (N:Int))).dM (g:=gR) (i:=1) hgr.o hb0.o (.int .i64 (q:Int));have yL:=(h.o.far hR.o δ (aj w1 ⟨gR,0,none⟩ (.int .i64 (N:Int)))).far kC δ (aj _ ⟨gR,1,none⟩ (.int .i64 (q:Int)));clear hR hG h kC;generalize (w1.setCell ⟨gR,0,none⟩ (.int .i64 (N:Int))).setCell ⟨gR,1,none⟩ (.int .i64 (q:Int))=w7 at *
    have e0:=oQ.c0;have e1:=oQ.c1;refine bodyPost_ret (v:=dJ (N,q)) ?_ rfl ⟨?_,?_⟩
    ·simp[dJ,results,Tryz.results265,go_sem,e0,e1]
    ·rw[hrp.o,hstep.o]
    ·rw[hrp.o,hstep.o];exact⟨_,_,yL,rY⟩
   ·have i124:¬(c.toNat:Int)=124:=fun e=>Jc (UInt8.toNat_inj.1 (by show c.toNat=124;omega))
    by_cases h41:c = 41
    ·have i41:(c.toNat:Int)=41:=by rw[h41];rfl
     simp only[h41,or_true,if_true] at hstep;replace hstep:=ζ hstep;clear Jc h41;(try clear rO);(try clear rM);(try clear rG);(try clear sG);(try clear sF)
     have rO:w1.cell? ⟨gP,0,none⟩=_:=hP.o.cell 0;have rM:w1.cell? ⟨gP,1,none⟩=_:=hP.o.cell 1;have sG:=hP.o.frozen 0;have sF:=hP.o.frozen 1;have rG:=hP.o.lt;(try clear qh);(try clear qg);(try clear pK);(try clear pY);(try clear pX)
     have qh:w1.cell? ⟨gR,0,none⟩=_:=hR.o.cell 0;have qg:w1.cell? ⟨gR,1,none⟩=_:=hR.o.cell 1;have pY:=hR.o.frozen 0;have pX:=hR.o.frozen 1;have pK:=hR.o.lt;go_wp2;clear rO rM sG sF rG;clear qh qg pY pX pK;clear hP;have kC:=hR.o.bH 0 (.int .i64 (N:Int));have oQ:=kC.bH 1 (.int .i64 (q:Int));have rY:=(hG.o.dM (g:=gR) (i:=0) hgr.o hb0.o (.int .i64 (N:Int))).dM (g:=gR) (i:=1) hgr.o hb0.o (.int .i64 (q:Int));have yL:=(h.o.far hR.o δ (aj w1 ⟨gR,0,none⟩ (.int .i64 (N:Int)))).far kC δ (aj _ ⟨gR,1,none⟩ (.int .i64 (q:Int)));clear hR hG h kC;generalize (w1.setCell ⟨gR,0,none⟩ (.int .i64 (N:Int))).setCell ⟨gR,1,none⟩ (.int .i64 (q:Int))=w7 at *
     have e0:=oQ.c0;have e1:=oQ.c1;refine bodyPost_ret (v:=dJ (N,q)) ?_ rfl ⟨?_,?_⟩
     ·simp[dJ,results,Tryz.results265,go_sem,e0,e1]
     ·rw[hrp.o,hstep.o]
     ·rw[hrp.o,hstep.o];exact⟨_,_,yL,rY⟩
    ·have i41:¬(c.toNat:Int)=41:=fun e=>h41 (UInt8.toNat_inj.1 (by show c.toNat=41;omega))
     simp only[Jc,h41,or_self,if_false] at hstep;have axv:((c.toNat:Int)==124)=false:=by simpa using i124
     have b41:((c.toNat:Int)==41)=false:=by simpa using i41
     clear Jc h41 i124 i41;have hao:=Qi (c:=c) hsp.o ω hlen.o;have oC:=JV hao.2.1 hao.2.2;replace hao:=ζ hao;replace oC:=ζ oC;replace hstep:=ζ hstep;go_wp2_with fail;refine (alJ Ar.o hsp.o h.o hb.o uq hcs.o (by have:=lu.o;omega)).mono ?_;rintro e w2 ⟨rfl,xs2,sv2,h',dX⟩;replace h:=ζ h';clear h';(try replace hX:=ζ (dX.blk hX.o δ))
     (try replace hP:=ζ (dX.blk hP.o δ))
     (try replace hR:=ζ (dX.blk hR.o δ))
     replace hG:=ζ (hG.o.trans dX);replace hb:=ζ (Nat.le_trans hb0.o hG.o.size);clear dX;have hac:Hid (d_ (cZ s sub c bq).1<100000∧(cZ s sub c bq).1.at_<100000):=ζ (by
      have h1:=hao.o.1.cost;have h2:=hao.o.2.1.1;have h3:=lu.o;omega)
     go_wp2_with fail;refine (aew h.o hb.o hao.o.2.2 (by have:=hac.o.2;omega) (by have:=hac.o.1;omega)).mono ?_;rintro e w3 ⟨rfl,xs3,sv3,h',dX⟩;replace h:=ζ h';clear h';(try replace hX:=ζ ((dX.mono nU.o).blk hX.o δ))
     (try replace hP:=ζ ((dX.mono nU.o).blk hP.o δ))
     (try replace hR:=ζ ((dX.mono nU.o).blk hR.o δ))
     replace hG:=ζ (hG.o.trans (dX.mono nU.o));replace hb:=ζ (Nat.le_trans hb0.o hG.o.size);clear dX;have Sm:Hid (s.length≤(f - 1)+(fH s (cZ s sub c bq).1 (cZ s sub c bq).2).1.at_∧bq.at_<(fH s (cZ s sub c bq).1 (cZ s sub c bq).2).1.at_∧d_ (fH s (cZ s sub c bq).1 (cZ s sub c bq).2).1+1≤8*(fH s (cZ s sub c bq).1 (cZ s sub c bq).2).1.at_+61∧bq.aS.length≤(fH s (cZ s sub c bq).1 (cZ s sub c bq).2).1.aS.length):=ζ (by
      have h1:=hao.o.1;have h2:=oC.o.1;have h3:=lu.o;have h4:=hf.o;have h5:=h1.at_;have h6:=h2.at_;have h7:=h1.cost;have h8:=h2.cost;have h9:=h1.len;have h10:=h2.len;have h11:=alK (c:=c) hsp.o hlen.o;omega)
     have hI3:Hid (Jr (N,(fH s (cZ s sub c bq).1 (cZ s sub c bq).2).2.2) (fH s (cZ s sub c bq).1 (cZ s sub c bq).2).1):=ζ ⟨Nat.lt_of_lt_of_le hI.o.1 Sm.o.2.2.2,oC.o.2.2.2⟩;have hq4:=ζ (Nat.lt_of_lt_of_le hI.o.2 Sm.o.2.2.2);have hWt:=ζ oC.o.2.1;have htI:=ζ oC.o.2.2;clear hac hao oC lu hI Xm hf;generalize fH s (cZ s sub c bq).1 (cZ s sub c bq).2=rt at *
     obtain⟨tb,t1,t2⟩:=rt;simp only[dJ];(try clear rO);(try clear rM);(try clear rG);(try clear sG);(try clear sF)
     have rO:w3.cell? ⟨gP,0,none⟩=_:=hP.o.cell 0;have rM:w3.cell? ⟨gP,1,none⟩=_:=hP.o.cell 1;have sG:=hP.o.frozen 0;have sF:=hP.o.frozen 1;have rG:=hP.o.lt;go_wp2_with fail;clear rO rM sG sF rG;have hX:=aG.new w3 360 #[.int .i64 (t1:Int),.int .i64 (t2:Int)];have dP:ah w3 (w3.alloc (.cells #[.int .i64 (t1:Int),.int .i64 (t2:Int)] 360)):=(ah.refl _).alloc _;have hPX:Hid (gP<w3.heap.size):=ζ hP.o.lt;replace hP:=ζ (hP.o.grows dP);replace hR:=ζ (hR.o.grows dP);replace h:=ζ (h.o.grows dP);replace hG:=ζ (hG.o.trans (aC.grows dP hb.o));replace hb:Hid (base≤(w3.alloc (.cells #[.int .i64 (t1:Int),.int .i64 (t2:Int)] 360)).heap.size):=ζ (Nat.le_trans hb.o dP.size);clear dP;generalize w3.alloc (.cells #[.int .i64 (t1:Int),.int .i64 (t2:Int)] 360)=w4 at *
     generalize w3.heap.size=gX at *
     replace hX:=ζ hX;refine (pV (i:=q) (j:=t1) h.o hb.o hq4.o (by have:=Sm.o.2.2.1;have:=hWt.o.1;omega)).mono ?_;rintro e w5 ⟨rfl,xs5,h',dX⟩;replace h:=ζ h';clear h';(try replace hX:=ζ ((dX.mono nU.o).blk hX.o δ))
     (try replace hP:=ζ ((dX.mono nU.o).blk hP.o δ))
     (try replace hR:=ζ ((dX.mono nU.o).blk hR.o δ))
     replace hG:=ζ (hG.o.trans (dX.mono nU.o));replace hb:=ζ (Nat.le_trans hb0.o hG.o.size);clear dX;have yM:=ζ (h.o.far hP.o δ (aj w5 ⟨gP,1,none⟩ (.int .i64 (t2:Int))));have hP6:Hid (aG (w5.setCell ⟨gP,1,none⟩ (.int .i64 (t2:Int))) gP 360 #[.int .i64 (N:Int),.int .i64 (t2:Int)]):=ζ (hP.o.bH 1 (.int .i64 (t2:Int)));have hR6:=ζ (hR.o.far (p:=⟨gP,1,none⟩) hRP.o (.int .i64 (t2:Int)));have Fq:=ζ (hG.o.dM (g:=gP) (i:=1) hgP.o hb0.o (.int .i64 (t2:Int)));have Pn:=ζ (qY q t1 tb);(try clear rO);(try clear rM);(try clear rG);(try clear sG);(try clear sF)
     have rO:w5.cell? ⟨gP,0,none⟩=_:=hP.o.cell 0;have rM:w5.cell? ⟨gP,1,none⟩=_:=hP.o.cell 1;have sG:=hP.o.frozen 0;have sF:=hP.o.frozen 1;have rG:=hP.o.lt;(try clear QE);(try clear QD);(try clear Qu);(try clear QC);(try clear QB)
     have QE:w5.cell? ⟨gX,0,none⟩=_:=hX.o.cell 0;have QD:w5.cell? ⟨gX,1,none⟩=_:=hX.o.cell 1;have QC:=hX.o.frozen 0;have QB:=hX.o.frozen 1;have Qu:=hX.o.lt;go_wp2;go_roundw
     case rel=>exact⟨f - 1,t2,bD q t1 tb,xs5,sv3,ζ Sm.o.1,hstep,ζ (akR hWt.o),ζ (Jr.mono hI3.o (by rw[dU];exact Nat.le_refl _)),ζ (by have:=Pn.o;have:=Sm.o.2.2.1;show _≤8*tb.at_+61;omega),yM,hP6,hR6,Fq⟩
     case measure=>rw[Bj.o _ _ _ _ yM.o,IL.o];have:=Sm.o.2.1;have:=hlen.o;show _ - tb.at_<_;omega
theorem WS {s:List UInt8} {sub:Option (PB→PB×qx)} {f:Nat} {p:qx} {b:PB} (hf:1≤f):iq s sub f p b =
 if BK s (bD (jK s sub b).2.2 p.2 (bD p.1 (jK s sub b).2.1 (jK s sub b).1))=some 124 then iq s sub (f - 1) p (aO (bD (jK s sub b).2.2 p.2 (bD p.1 (jK s sub b).2.1 (jK s sub b).1))) else (bD (jK s sub b).2.2 p.2 (bD p.1 (jK s sub b).2.1 (jK s sub b).1),p):=by
 cases f with
 | zero=>omega
 | succ f=>rfl
theorem UK {w:World} {base gB dp:Nat} {s:List UInt8} {b:PB} {sub:Option (PB→PB×qx)} {xs:List xX} {sv:Value} (Ar:ZF s sub dp) (hsp:G_ s 11 sub) (h:jU w base gB s b xs sv) (hb:base≤w.heap.size) (uq:s.length≤100) (hW:b.at_≤s.length) (hc:d_ b≤8*b.at_+53) :
 Calls Tryz.prog 249 #[.pointer (some ⟨gB,0,none⟩),.int .i64 (dp:Int)] w (jo base gB s w (iq s sub (s.length+1) (b.aS.length,b.aS.length+1) (aX (aX b)))):=by
 have tC:Hid (∀t∈[358],t∈TS):=ζ (by intro t ht;simp[TS,TB] at *;exact .inr (.inl ht));have nU:Hid (∀t∈TB,t∈TS):=ζ (fun t ht=>List.mem_cons_of_mem _ ht);have hR:=aG.new w 360 #[.int .i64 0,.int .i64 0];have hg1:ah w (w.alloc (.cells #[.int .i64 0,.int .i64 0] 360)):=(ah.refl _).alloc _;replace hR:=ζ hR;have hG:=ζ (aC.grows (T:=TS) hg1 hb);replace h:=ζ (h.grows hg1);have hb0:Hid (BLe base w):=ζ hb;replace hb:=ζ (Nat.le_trans hb hg1.size);have hgr:Hid (GLe w w.heap.size):=ζ (Nat.le_refl _);replace Ar:=ζ Ar;replace hsp:=ζ hsp;replace hW:=ζ hW;replace hc:=ζ hc;clear hg1;obtain⟨R,yJ⟩:∃R,R=iq s sub (s.length+1) (b.aS.length,b.aS.length+1) (aX (aX b)):=⟨_,rfl⟩;rw[←yJ];replace yJ:=ζ yJ;go_enter Tryz.func249,Tryz.ntmps249
 go_wp2_with fail;generalize w.alloc (.cells #[.int .i64 0,.int .i64 0] 360)=w0 at *
 generalize w.heap.size=gR at *
 refine (vJ h.o hb.o (by have:=jE b;have:=hc.o;have:=hW.o;omega)).mono ?_;rintro e w1 ⟨rfl,sv1,h',dX⟩;replace h:=ζ h';clear h';(try replace hX:=ζ ((dX.mono nU.o).blk hX.o δ))
 (try replace hP:=ζ ((dX.mono nU.o).blk hP.o δ))
 (try replace hR:=ζ ((dX.mono nU.o).blk hR.o δ))
 replace hG:=ζ (hG.o.trans (dX.mono nU.o));replace hb:=ζ (Nat.le_trans hb0.o hG.o.size);clear dX;go_wp2_with fail;refine (vJ h.o hb.o (by have:=jE b;have:=hc.o;have:=hW.o;rw[eu];omega)).mono ?_;rintro e w2 ⟨rfl,sv2,h',dX⟩;replace h:=ζ h';clear h';(try replace hX:=ζ ((dX.mono nU.o).blk hX.o δ))
 (try replace hP:=ζ ((dX.mono nU.o).blk hP.o δ))
 (try replace hR:=ζ ((dX.mono nU.o).blk hR.o δ))
 replace hG:=ζ (hG.o.trans (dX.mono nU.o));replace hb:=ζ (Nat.le_trans hb0.o hG.o.size);clear dX;rw[eu];have hI:Hid (Jr (b.aS.length,b.aS.length+1) (aX (aX b))):=ζ ⟨by rw[eu,eu];simp;omega,by rw[eu,eu];simp⟩;have hW1:Hid ((aX (aX b)).at_≤s.length):=hW;have hc1:Hid (d_ (aX (aX b))≤8*(aX (aX b)).at_+55):=ζ (by have:=qX b;have:=qX (aX b);have:=hc.o;have:(aX (aX b)).at_=b.at_:=rfl;omega);generalize aX (aX b)=b1 at *
 generalize b.aS.length=N at *
 have hgP:Hid (GLe w w2.heap.size):=ζ hG.o.size;go_wp2_with fail;have hP:=aG.new w2 360 #[.int .i64 (N:Int),.int .i64 ((N:Int)+1)];have dP:ah w2 (w2.alloc (.cells #[.int .i64 (N:Int),.int .i64 ((N:Int)+1)] 360)):=(ah.refl _).alloc _;(try replace hX:=ζ (hX.o.grows dP))
 (try replace hR:=ζ (hR.o.grows dP))
 replace h:=ζ (h.o.grows dP);replace hG:=ζ (hG.o.trans (aC.grows dP hb.o));replace hb:=ζ (Nat.le_trans hb.o dP.size);clear dP;generalize w2.alloc (.cells #[.int .i64 (N:Int),.int .i64 ((N:Int)+1)] 360)=w3 at *
 generalize w2.heap.size=gP at *
 replace hP:=ζ hP;go_loopw [] (fun wr=>∃(f:Nat) (bq:PB) (xq:List xX) (vq:Value),Hid (s.length+1≤f + bq.at_)∧Hid (R=iq s sub f (N,N+1) bq)∧Hid (bq.at_≤s.length)∧Hid (Jr (N,N+1) bq)∧Hid (d_ bq≤8*bq.at_+55)∧Hid (jU wr base gB s bq xq vq)∧Hid (aG wr gP 360 #[.int .i64 (N:Int),.int .i64 ((N:Int)+1)])∧Hid (aG wr gR 360 #[.int .i64 0,.int .i64 0])∧Hid (aC TS base w wr)) (fun wr=>s.length+20-(match wr.cell? ⟨gB,1,none⟩ with | some v=>(intOf v).toNat | none=>0))
 case atStart=>exact⟨s.length+1,b1,_,_,ζ ω,yJ,hW1,hI,hc1,h,hP,hR,hG⟩
 case round=>
  clear yJ hW1 hI hc1 h hP hR hG hb;obtain⟨f,bq,xq,vq,hf,iE,Xm,hI,lu,h,hP,hR,hG⟩:=hrel;have hb:=ζ (Nat.le_trans hb0.o hG.o.size);have hstep:=WS (s:=s) (sub:=sub) (p:=(N,N+1)) (b:=bq) (f:=f) (by have:=hf.o;have:=Xm.o;omega);rw[←iE.o] at hstep;clear iE;have Bj:Hid (∀(w':World) (b':PB) xs' sv',jU w' base gB s b' xs' sv'→(match w'.cell? ⟨gB,1,none⟩ with | some v=>(intOf v).toNat | none=>0)=b'.at_):=ζ (fun w' b' _ _ hh=>by
   have e:w'.cell? ⟨gB,1,none⟩=some (.int .i64 (b'.at_:Int)):=(hh.blk.cell 1).trans rfl;rw[e];simp[intOf])
  have IL:=ζ (Bj.o _ _ _ _ h.o);have hro:=ζ (Vx hsp.o ω (WP.of_le (k:=12) Xm.o));replace hstep:=ζ hstep;go_wp2_with fail;refine (amN Ar.o hsp.o h.o hb.o uq (WP.of_le Xm.o) (by have:=lu.o;omega)).mono ?_;rintro e w4 ⟨rfl,xs4,sv4,h',dX⟩;replace h:=ζ h';clear h';(try replace hX:=ζ (dX.blk hX.o δ))
  (try replace hP:=ζ (dX.blk hP.o δ))
  (try replace hR:=ζ (dX.blk hR.o δ))
  replace hG:=ζ (hG.o.trans dX);replace hb:=ζ (Nat.le_trans hb0.o hG.o.size);clear dX;have Sm:Hid (bq.at_≤(jK s sub bq).1.at_∧d_ (jK s sub bq).1≤8*(jK s sub bq).1.at_+56∧bq.aS.length≤(jK s sub bq).1.aS.length∧(jK s sub bq).1.at_≤s.length+12):=ζ (by
   have h1:=hro.o.1;have h2:=lu.o;have h3:=h1.cost;have h4:=h1.at_;have h5:=h1.len;have h6:=hro.o.2.1.1;omega)
  have htI:=ζ hro.o.2.2;clear hro lu;generalize jK s sub bq=rt at *
  obtain⟨tb,t1,t2⟩:=rt;simp only[dJ];(try clear rO);(try clear rM);(try clear rG);(try clear sG);(try clear sF)
  have rO:w4.cell? ⟨gP,0,none⟩=_:=hP.o.cell 0;have rM:w4.cell? ⟨gP,1,none⟩=_:=hP.o.cell 1;have sG:=hP.o.frozen 0;have sF:=hP.o.frozen 1;have rG:=hP.o.lt;go_wp2_with fail;clear rO rM sG sF rG;have hX:=aG.new w4 360 #[.int .i64 (t1:Int),.int .i64 (t2:Int)];have dP:ah w4 (w4.alloc (.cells #[.int .i64 (t1:Int),.int .i64 (t2:Int)] 360)):=(ah.refl _).alloc _;have hPX:Hid (gP<w4.heap.size):=ζ hP.o.lt;replace hP:=ζ (hP.o.grows dP);replace hR:=ζ (hR.o.grows dP);replace h:=ζ (h.o.grows dP);replace hG:=ζ (hG.o.trans (aC.grows dP hb.o));replace hb:Hid (base≤(w4.alloc (.cells #[.int .i64 (t1:Int),.int .i64 (t2:Int)] 360)).heap.size):=ζ (Nat.le_trans hb.o dP.size);clear dP;generalize w4.alloc (.cells #[.int .i64 (t1:Int),.int .i64 (t2:Int)] 360)=w5 at *
  generalize w4.heap.size=gX at *
  replace hX:=ζ hX;refine (pV (i:=N) (j:=t1) h.o hb.o (Nat.lt_of_lt_of_le hI.o.1 Sm.o.2.2.1) (by have:=Sm.o;omega)).mono ?_;rintro e w6 ⟨rfl,xs6,h',dX⟩;replace h:=ζ h';clear h';(try replace hX:=ζ ((dX.mono nU.o).blk hX.o δ))
  (try replace hP:=ζ ((dX.mono nU.o).blk hP.o δ))
  (try replace hR:=ζ ((dX.mono nU.o).blk hR.o δ))
  replace hG:=ζ (hG.o.trans (dX.mono nU.o));replace hb:=ζ (Nat.le_trans hb0.o hG.o.size);clear dX;have Pn:=ζ (qY N t1 tb);(try clear rO);(try clear rM);(try clear rG);(try clear sG);(try clear sF)
  have rO:w6.cell? ⟨gP,0,none⟩=_:=hP.o.cell 0;have rM:w6.cell? ⟨gP,1,none⟩=_:=hP.o.cell 1;have sG:=hP.o.frozen 0;have sF:=hP.o.frozen 1;have rG:=hP.o.lt;(try clear QE);(try clear QD);(try clear Qu);(try clear QC);(try clear QB)
  have QE:w6.cell? ⟨gX,0,none⟩=_:=hX.o.cell 0;have QD:w6.cell? ⟨gX,1,none⟩=_:=hX.o.cell 1;have QC:=hX.o.frozen 0;have QB:=hX.o.frozen 1;have Qu:=hX.o.lt;go_wp2_with fail;clear rO rM sG sF rG;clear QE QD QC QB Qu;refine (pV (i:=t2) (j:=N+1) h.o hb.o (by rw[dU];exact htI.o.2) (by have:=Sm.o;have:=Pn.o;omega)).mono ?_;rintro e w7 ⟨rfl,xs7,h',dX⟩;replace h:=ζ h';clear h';(try replace hX:=ζ ((dX.mono nU.o).blk hX.o δ))
  (try replace hP:=ζ ((dX.mono nU.o).blk hP.o δ))
  (try replace hR:=ζ ((dX.mono nU.o).blk hR.o δ))
  replace hG:=ζ (hG.o.trans (dX.mono nU.o));replace hb:=ζ (Nat.le_trans hb0.o hG.o.size);clear dX;have awh:=ζ (qY t2 (N+1) (bD N t1 tb));have hI7:Hid (Jr (N,N+1) (bD t2 (N+1) (bD N t1 tb))):=ζ (Jr.mono hI.o (by rw[dU,dU];exact Sm.o.2.2.1));have hq7:Hid (bq.at_≤(bD t2 (N+1) (bD N t1 tb)).at_∧d_ (bD t2 (N+1) (bD N t1 tb))≤8*(bD t2 (N+1) (bD N t1 tb)).at_+58):=ζ (by
   have h1:=Sm.o;have h2:=Pn.o;have h3:=awh.o;have h4:(bD t2 (N+1) (bD N t1 tb)).at_=tb.at_:=rfl;rw[h4];omega)
  clear Pn awh hX htI hI hPX Sm;have hstep:Hid (R=if BK s (bD t2 (N+1) (bD N t1 tb))=some 124 then iq s sub (f - 1) (N,N+1) (aO (bD t2 (N+1) (bD N t1 tb))) else (bD t2 (N+1) (bD N t1 tb),(N,N+1))):=hstep;generalize bD t2 (N+1) (bD N t1 tb)=b7 at *
  go_wp2_with fail;refine (eP h.o).mono ?_;rintro e w8 ⟨rfl,Gy⟩;replace h:=ζ (h.o.grows Gy);replace hG:=ζ (hG.o.trans (aC.grows Gy hb.o));replace hb:=ζ (Nat.le_trans hb.o Gy.size);(try replace aK:=ζ (aK.o.grows Gy))
  (try replace hX:=ζ (hX.o.grows Gy))
  (try replace hP:=ζ (hP.o.grows Gy))
  (try replace hR:=ζ (hR.o.grows Gy))
  clear Gy;cases hp:BK s b7 with
  | none=>
   simp only[wR,hp];have hst:Hid (R=(b7,(N,N+1))):=ζ (by rw[hstep.o,hp];rfl);clear hp hstep;have hstep:=hst;(try clear rO);(try clear rM);(try clear rG);(try clear sG);(try clear sF)
   have rO:w8.cell? ⟨gP,0,none⟩=_:=hP.o.cell 0;have rM:w8.cell? ⟨gP,1,none⟩=_:=hP.o.cell 1;have sG:=hP.o.frozen 0;have sF:=hP.o.frozen 1;have rG:=hP.o.lt;(try clear qh);(try clear qg);(try clear pK);(try clear pY);(try clear pX)
   have qh:w8.cell? ⟨gR,0,none⟩=_:=hR.o.cell 0;have qg:w8.cell? ⟨gR,1,none⟩=_:=hR.o.cell 1;have pY:=hR.o.frozen 0;have pX:=hR.o.frozen 1;have pK:=hR.o.lt;go_wp2;clear rO rM sG sF rG;clear qh qg pY pX pK;clear hP;have kC:=hR.o.bH 0 (.int .i64 (N:Int));have oQ:=kC.bH 1 (.int .i64 ((N:Int)+1));have rY:=(hG.o.dM (g:=gR) (i:=0) hgr.o hb0.o (.int .i64 (N:Int))).dM (g:=gR) (i:=1) hgr.o hb0.o (.int .i64 ((N:Int)+1));have yL:=(h.o.far hR.o δ (aj w8 ⟨gR,0,none⟩ (.int .i64 (N:Int)))).far kC δ (aj _ ⟨gR,1,none⟩ (.int .i64 ((N:Int)+1)));clear hR hG h kC;generalize (w8.setCell ⟨gR,0,none⟩ (.int .i64 (N:Int))).setCell ⟨gR,1,none⟩ (.int .i64 ((N:Int)+1))=w7 at *
   have e0:=oQ.c0;have e1:=oQ.c1;refine bodyPost_ret (v:=dJ (N,N+1)) ?_ rfl ⟨?_,?_⟩
   ·simp[dJ,results,Tryz.results249,go_sem,e0,e1]
   ·rw[hstep.o]
   ·rw[hstep.o];exact⟨_,_,yL,rY⟩
  | some c=>
   simp only[wR,hp];by_cases Jc:c = 124
   ·have i124:(c.toNat:Int)=124:=by rw[Jc];rfl
    have axv:((c.toNat:Int)==124)=true:=by rw[i124];rfl
    have hst:Hid (R=iq s sub (f - 1) (N,N+1) (aO b7)):=ζ (by rw[hstep.o,hp,Jc];rfl);have hlt:=ζ (jc hp).2.1;have avH:b7.at_<100000:=by have:=hlt.o;omega
    clear hp hstep Jc;have c1:w8.cell? ⟨gB,1,none⟩=some (.int .i64 (b7.at_:Int)):=(h.o.blk.cell 1).trans rfl;have f1:=h.o.blk.frozen 1;have l1:=h.o.blk.lt;have i1: -9223372036854775808≤(b7.at_:Int)+1∧(b7.at_:Int)+1≤9223372036854775807:=ω;have V6:=aC.own h.o (aj w8 ⟨gB,1,none⟩ (.int .i64 ((b7.at_:Int)+1)));have hA:=ζ h.o.N9;have hP2:=ζ (V6.blk hP.o δ);have iE:=ζ (V6.blk hR.o δ);have gK:=ζ (hG.o.trans (V6.mono tC.o));clear V6;go_wp2;go_roundw
    case rel=>exact⟨f - 1,aO b7,xs7,sv4,ζ (by have:=hf.o;have:=hq7.o.1;simp only[aO];omega),hst,ζ (by have:=hlt.o;simp only[aO];omega),ζ hI7.o,ζ (by have:=hq7.o.2;rw[KQ];simp only[aO];omega),hA,hP2,iE,gK⟩
    case measure=>rw[Bj.o _ _ _ _ hA.o,IL.o];have:=hq7.o.1;have:=hlt.o;simp only[aO];omega
   ·have i124:¬(c.toNat:Int)=124:=fun e=>Jc (UInt8.toNat_inj.1 (by show c.toNat=124;omega))
    have axv:((c.toNat:Int)==124)=false:=by simpa using i124
    have hst:Hid (R=(b7,(N,N+1))):=ζ (by rw[hstep.o,hp];simp[Jc]);clear hp hstep Jc;have hstep:=hst;(try clear rO);(try clear rM);(try clear rG);(try clear sG);(try clear sF)
    have rO:w8.cell? ⟨gP,0,none⟩=_:=hP.o.cell 0;have rM:w8.cell? ⟨gP,1,none⟩=_:=hP.o.cell 1;have sG:=hP.o.frozen 0;have sF:=hP.o.frozen 1;have rG:=hP.o.lt;(try clear qh);(try clear qg);(try clear pK);(try clear pY);(try clear pX)
    have qh:w8.cell? ⟨gR,0,none⟩=_:=hR.o.cell 0;have qg:w8.cell? ⟨gR,1,none⟩=_:=hR.o.cell 1;have pY:=hR.o.frozen 0;have pX:=hR.o.frozen 1;have pK:=hR.o.lt;go_wp2;clear rO rM sG sF rG;clear qh qg pY pX pK;clear hP;have kC:=hR.o.bH 0 (.int .i64 (N:Int));have oQ:=kC.bH 1 (.int .i64 ((N:Int)+1));have rY:=(hG.o.dM (g:=gR) (i:=0) hgr.o hb0.o (.int .i64 (N:Int))).dM (g:=gR) (i:=1) hgr.o hb0.o (.int .i64 ((N:Int)+1));have yL:=(h.o.far hR.o δ (aj w8 ⟨gR,0,none⟩ (.int .i64 (N:Int)))).far kC δ (aj _ ⟨gR,1,none⟩ (.int .i64 ((N:Int)+1)));clear hR hG h kC;generalize (w8.setCell ⟨gR,0,none⟩ (.int .i64 (N:Int))).setCell ⟨gR,1,none⟩ (.int .i64 ((N:Int)+1))=w7 at *
    have e0:=oQ.c0;have e1:=oQ.c1;refine bodyPost_ret (v:=dJ (N,N+1)) ?_ rfl ⟨?_,?_⟩
    ·simp[dJ,results,Tryz.results249,go_sem,e0,e1]
    ·rw[hstep.o]
    ·rw[hstep.o];exact⟨_,_,yL,rY⟩
theorem acH {s:List UInt8} (uq:s.length≤100):∀(d dp:Nat),d + dp=8→∀(w:World) (base gB:Nat) (b:PB) (xs:List xX) (sv:Value),jU w base gB s b xs sv→base≤w.heap.size→b.at_≤s.length→d_ b≤8*b.at_+53→
 Calls Tryz.prog 249 #[.pointer (some ⟨gB,0,none⟩),.int .i64 (dp:Int)] w (jo base gB s w (jy s d b)):=by
 intro d;induction d with
 | zero=>
  intro dp hdp w base gB b xs sv h hb hW hc;have:dp=8:=ω;subst this;exact UK (sub:=none) ⟨fun _=>rfl,fun f hf=>by cases hf⟩ (fun f hf=>by cases hf) h hb uq hW hc
 | succ d ih=>
  intro dp hdp w base gB b xs sv h hb hW hc;refine UK (sub:=some (jy s d)) ⟨fun hf=>(by cases hf),fun f hf=> ?_⟩ (fun f hf=> ?_) h hb uq hW hc
  ·injection hf with hf
   subst hf;refine⟨ω,fun w base gB b xs sv h hb hW hc=> ?_⟩;exact ih (dp+1) ω w base gB b xs sv h hb hW hc
  ·injection hf with hf
   subst hf;intro b hb;have:=GV s d b hb;exact⟨this.1,this.2.1.weak ω,this.2.2⟩
structure U4 (w:World) (base:Nat) (xs:List xX) (sv:Value) (aS:List wP):Prop where
 own:Own w base 377 3 Jj sv xs
 len:xs.length=aS.length
 st:∀(i:Nat) x y,xs[i]? = some x→aS[i]? = some y→x.next=y.next∧Ny w base x.pv y.set∧Own w base 3 1 encI x.fv y.free
theorem U4.grows {w w':World} {base:Nat} {xs:List xX} {sv:Value} {aS:List wP} (h:U4 w base xs sv aS) (hg:ah w w'):U4 w' base xs sv aS:=
 ⟨h.own.grows hg,h.len,fun i x y h1 h2=>⟨(h.st i x y h1 h2).1,(h.st i x y h1 h2).2.1.grows hg,(h.st i x y h1 h2).2.2.grows hg⟩⟩
def axE (w:World) (base:Nat) (s:List UInt8) (v:Value):Option Xb→Prop
 | none=>v =.pointer none
 | some p=>∃g xs sv,v =.pointer (some ⟨g,0,none⟩)∧aG w g 363 #[.string ⟨s.toArray⟩,sv,.int .i64 (p.start:Int),.int .i64 (p.stop:Int)]∧U4 w base xs sv p.aS
def alX (s:List UInt8) (w:World) (e:Ending) (w':World):Prop:=
 ∃v,e =.returned (.tuple #[v,.int .i64 (vF s:Int)])∧axE w' w.heap.size s v (yV s)∧ah w w'
theorem X0 (w:World) (s:List UInt8):Calls Tryz.prog 221 #[.string ⟨s.toArray⟩] w (alX s w):=by
 by_cases uq:s.length≤100
 ·have hli:¬(s.length:Int)>100:=ω;have hpe:Hid (vF s = (xG s).1.err):=ζ (by unfold vF;rw[if_neg ω]);have Kw:Hid (yV s = if (xG s).1.err≠0 then none else some ⟨(xG s).1.aS,(xG s).2.1,(xG s).2.2⟩):=ζ (by
   unfold yV;by_cases h0:(xG s).1.err≠0
   ·rw[if_pos (.inr h0),if_pos h0]
   ·rw[if_neg (by simp only[h0,or_false];omega),if_neg h0])
  have YW:=aG.new w 358 #[.string ⟨s.toArray⟩,.int .i64 0,.int .i64 0,.slice none 0 0];have hg1:ah w (w.alloc (.cells #[.string ⟨s.toArray⟩,.int .i64 0,.int .i64 0,.slice none 0 0] 358)):=(ah.refl _).alloc _;have h:jU (w.alloc (.cells #[.string ⟨s.toArray⟩,.int .i64 0,.int .i64 0,.slice none 0 0] 358)) w.heap.size w.heap.size s ⟨0,0,[]⟩ [] (.slice none 0 0):=
   ⟨YW,Nat.le_refl _,Own.iO _ _ _ _ _,rfl,fun i x y h1 _=>by simp at h1,fun i j x y g h1=>by simp at h1⟩
  have hG:=ζ (aC.grows (T:=TS) hg1 (Nat.le_refl _));have hb0:Hid (BLe w.heap.size w):=ζ (Nat.le_refl _);have hb:=ζ hg1.size;have tC:Hid (∀t∈[358],t∈TS):=ζ (by intro t ht;simp[TS,TB] at *;exact .inr (.inl ht));have Ui:Hid (xG s = (if (jy s 8 ⟨0,0,[]⟩).1.at_<s.length then bU 2 (jy s 8 ⟨0,0,[]⟩).1 else (jy s 8 ⟨0,0,[]⟩).1,(jy s 8 ⟨0,0,[]⟩).2)):=ζ rfl;replace h:=ζ h;clear YW hg1;go_enter Tryz.func221,Tryz.ntmps221
  go_wp2_with fail;refine (acH uq 8 0 rfl _ _ _ _ _ _ h.o hb.o (Nat.zero_le _) (by simp[d_,jQ])).mono ?_;rintro e w2 ⟨rfl,xs,sv,h',dX⟩;replace h:=ζ h';clear h';(try replace hX:=ζ (dX.blk hX.o δ))
  (try replace hP:=ζ (dX.blk hP.o δ))
  (try replace hR:=ζ (dX.blk hR.o δ))
  replace hG:=ζ (hG.o.trans dX);replace hb:=ζ (Nat.le_trans hb0.o hG.o.size);clear dX;generalize jy s 8 ⟨0,0,[]⟩=rt at *
  obtain⟨tb,t1,t2⟩:=rt;simp only[dJ];simp only at Ui;generalize ZT:w.heap.size=gB at *
  replace ZT:=ζ ZT;have c1:w2.cell? ⟨gB,1,none⟩=some (.int .i64 (tb.at_:Int)):=(h.o.blk.cell 1).trans rfl;have l1:=h.o.blk.lt;by_cases hlt:tb.at_<s.length
  ·have anw:(tb.at_:Int)<(s.length:Int):=ω;rw[if_pos hlt] at Ui;go_wp2_with fail;clear c1 l1;have hP:=aG.new w2 360 #[.int .i64 (t1:Int),.int .i64 (t2:Int)];have dP:ah w2 (w2.alloc (.cells #[.int .i64 (t1:Int),.int .i64 (t2:Int)] 360)):=(ah.refl _).alloc _;(try replace hX:=ζ (hX.o.grows dP))
   (try replace hR:=ζ (hR.o.grows dP))
   replace h:=ζ (h.o.grows dP);replace hG:=ζ (hG.o.trans (aC.grows dP hb.o));replace hb:=ζ (Nat.le_trans hb.o dP.size);clear dP;generalize w2.alloc (.cells #[.int .i64 (t1:Int),.int .i64 (t2:Int)] 360)=w3 at *
   generalize w2.heap.size=gP at *
   replace hP:=ζ hP;refine (kD h.o).mono ?_;rintro e w4 ⟨rfl,YU,dR⟩;(try replace aK:=ζ (aK.o.tk (aC.own h.o dR) δ))
   (try replace hX:=ζ ((aC.own h.o dR).blk hX.o δ))
   (try replace hP:=ζ ((aC.own h.o dR).blk hP.o δ))
   (try replace hR:=ζ ((aC.own h.o dR).blk hR.o δ))
   replace hG:=ζ (hG.o.trans ((aC.own h.o dR).mono tC.o));replace h:=ζ YU;replace hb:=ζ (Nat.le_trans hb0.o hG.o.size);clear YU dR;have avt:=DY (e:=2) δ tb;have ajX:Hid (vF s = (bU 2 tb).err):=ζ (by rw[hpe.o,Ui.o]);have ajW:Hid (yV s = none):=ζ (by rw[Kw.o,Ui.o,if_pos avt]);have c2:w4.cell? ⟨gB,2,none⟩=some (.int .i64 ((bU 2 tb).err:Int)):=(h.o.blk.cell 2).trans rfl;have l2:=h.o.blk.lt;have hne:¬((bU 2 tb).err:Int)=0:=ω;clear avt Ui hpe Kw;generalize (bU 2 tb).err=er at *
   go_wp2_with fail;refine aF κ ?_;refine rK (.range 6) 0 ?_;iterate 6 refine ay ?_
   refine aB ?_;refine aH κ (fun wN hN hS=> ?_);clear c2 l2;go_wp2;go_ret2;refine⟨.pointer none,?_,?_,?_⟩
   ·rw[ajX.o];rfl
   ·rw[ajW.o];rfl
   ·exact (ah.of (ZT.o ▸ hG.o.below)).trans hN
  ·have anw:¬(tb.at_:Int)<(s.length:Int):=ω;rw[if_neg hlt] at Ui;have c2:w2.cell? ⟨gB,2,none⟩=some (.int .i64 (tb.err:Int)):=(h.o.blk.cell 2).trans rfl;have ajX:Hid (vF s = tb.err):=ζ (by rw[hpe.o,Ui.o]);by_cases he:tb.err=0
   ·have ajW:Hid (yV s = some ⟨tb.aS,t1,t2⟩):=ζ (by rw[Kw.o,Ui.o,if_neg (by simpa using he)]);have c3:w2.cell? ⟨gB,3,none⟩=some sv:=(h.o.blk.cell 3).trans rfl;have hei:(tb.err:Int)=0:=ω;rw[he] at ajX;clear Ui hpe Kw hlt he;obtain⟨sA,sc,Xj,-,-,-⟩:=h.o.own.arr V9;obtain⟨sn,qw⟩:∃n,n = xs.length:=⟨_,rfl⟩;rw[←qw] at Xj;subst Xj;clear qw;go_wp2_with fail;clear c1 c2 c3 l1;have hP:=aG.new w2 360 #[.int .i64 (t1:Int),.int .i64 (t2:Int)];have dP:ah w2 (w2.alloc (.cells #[.int .i64 (t1:Int),.int .i64 (t2:Int)] 360)):=(ah.refl _).alloc _;(try replace hX:=ζ (hX.o.grows dP))
    (try replace hR:=ζ (hR.o.grows dP))
    replace h:=ζ (h.o.grows dP);replace hG:=ζ (hG.o.trans (aC.grows dP hb.o));replace hb:=ζ (Nat.le_trans hb.o dP.size);clear dP;generalize w2.alloc (.cells #[.int .i64 (t1:Int),.int .i64 (t2:Int)] 360)=w3 at *
    generalize w2.heap.size=gP at *
    replace hP:=ζ hP;have c3:w3.cell? ⟨gB,3,none⟩=some (.slice sA sn sc):=(h.o.blk.cell 3).trans rfl;have l1:=h.o.blk.lt;have rO:=hP.o.c0;have rM:=hP.o.c1;have rG:=hP.o.lt;clear hP;refine aF κ ?_;refine rK (.range 10) 3 ?_;iterate 10 refine ay ?_
    refine aB ?_;refine aI [10] κ σ (fun wN hN hS=>(au.cons rfl (fun K' hK=> ?_) au.nil));replace h:=ζ (h.o.grows hN);replace hG:=ζ (hG.o.trans (aC.grows hN hb.o));replace hb:=ζ (Nat.le_trans hb.o hN.size);try replace ji:=ζ (ji.o.grows hN)
    clear hN;go_simp;refine hK.o _ _ ?_ (fun hS=> ?_)
    ·exact ah.trans (by assumption) ((ah.refl _).alloc _)
    have ji:=ζ (aG.new wN 363 #[.string ⟨s.toArray⟩,.slice sA sn sc,.int .i64 (t1:Int),.int .i64 (t2:Int)]);have dP:ah wN (wN.alloc (.cells #[.string ⟨s.toArray⟩,.slice sA sn sc,.int .i64 (t1:Int),.int .i64 (t2:Int)] 363)):=(ah.refl _).alloc _;replace h:=ζ (h.o.grows dP);replace hG:=ζ (hG.o.trans (aC.grows dP hb.o));replace hb:=ζ (Nat.le_trans hb.o dP.size);clear dP;obtain⟨gT,IX⟩:∃g,g = wN.heap.size:=⟨_,rfl⟩;rw[←IX] at ji;replace IX:=ζ IX;clear hK hS;refine rK [11,12] 0 ?_;iterate 2 refine ay ?_
    refine aB ?_;refine aH κ (fun wN hN hS=> ?_);replace h:=ζ (h.o.grows hN);replace hG:=ζ (hG.o.trans (aC.grows hN hb.o));replace hb:=ζ (Nat.le_trans hb.o hN.size);try replace ji:=ζ (ji.o.grows hN)
    clear c3 l1 rO rM rG;go_wp2;go_ret2;refine⟨.pointer (some ⟨gT,0,none⟩),?_,?_,ah.of (ZT.o ▸ hG.o.below)⟩
    ·rw[ajX.o,IX.o];rfl
    ·rw[ajW.o,ZT.o];exact⟨_,xs,.slice sA sn sc,rfl,ji.o,h.o.own,h.o.len,h.o.st⟩
   ·have ajW:Hid (yV s = none):=ζ (by rw[Kw.o,Ui.o,if_pos he]);have hei:¬(tb.err:Int)=0:=ω;clear Ui hpe Kw hlt he;go_wp2_with fail;clear c1 c2 l1;have hP:=aG.new w2 360 #[.int .i64 (t1:Int),.int .i64 (t2:Int)];have dP:ah w2 (w2.alloc (.cells #[.int .i64 (t1:Int),.int .i64 (t2:Int)] 360)):=(ah.refl _).alloc _;(try replace hX:=ζ (hX.o.grows dP))
    (try replace hR:=ζ (hR.o.grows dP))
    replace h:=ζ (h.o.grows dP);replace hG:=ζ (hG.o.trans (aC.grows dP hb.o));replace hb:=ζ (Nat.le_trans hb.o dP.size);clear dP;generalize w2.alloc (.cells #[.int .i64 (t1:Int),.int .i64 (t2:Int)] 360)=w3 at *
    generalize w2.heap.size=gP at *
    replace hP:=ζ hP;have c2:w3.cell? ⟨gB,2,none⟩=some (.int .i64 (tb.err:Int)):=(h.o.blk.cell 2).trans rfl;have l1:=h.o.blk.lt;refine aF κ ?_;refine rK (.range 6) 0 ?_;iterate 6 refine ay ?_
    refine aB ?_;refine aH κ (fun wN hN hS=> ?_);clear c2 l1;go_wp2;go_ret2;refine⟨.pointer none,?_,?_,?_⟩
    ·rw[ajX.o];rfl
    ·rw[ajW.o];rfl
    ·exact (ah.of (ZT.o ▸ hG.o.below)).trans hN
 ·have hli:(s.length:Int)>100:=ω;have hpe:vF s = 4:=by unfold vF;rw[if_pos ω]
  have Kw:yV s = none:=by unfold yV;rw[if_pos (.inl ω)]
  replace hpe:=ζ hpe;replace Kw:=ζ Kw;go_enter Tryz.func221,Tryz.ntmps221
  go_wp2;go_ret2;refine⟨.pointer none,?_,?_,ah.refl w⟩
  ·rw[hpe.o];rfl
  ·rw[Kw.o];rfl
end Go.Proofs.YtbhikkgpcmkonaaGreatDoor
