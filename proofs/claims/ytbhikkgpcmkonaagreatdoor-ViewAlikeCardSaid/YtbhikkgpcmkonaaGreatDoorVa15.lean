/- Parts: PatM PatN PatO PatR -/
import Derived.Test.YtbhikkgpcmkonaaGreatDoorVa0
import Derived.Test.YtbhikkgpcmkonaaGreatDoorVa14
set_option maxRecDepth 100000
set_option maxHeartbeats 12800000
namespace Go.Proofs.YtbhikkgpcmkonaaGreatDoor
open Go.RowKit
theorem J4 {w:World} {g k:Nat} {t u:TypeId} {cs ds:Array Value} (h:aF w g t cs) (k':aF w k u ds) (hne:t≠u) (e:g = k):False:=by
 subst e;unfold aF at h k';rw[h] at k';simp only[Option.some.injEq,Obj.cells.injEq] at k';exact hne k'.2.1
theorem agl {w:World} {base gB dp:Nat} {s:List UInt8} {b:PB} {c:UInt8} {sub:Option (PB→PB×qw)} {f:PB→PB×qw} {xs:List xH} {sv:Value} (zW:YW s sub dp) (hsp:Gq s 11 sub) (h:jP w base gB s b xs sv) (hb:base≤w.heap.size) (uf:s.length≤100) (hcs:s[b.at_]? = some c) (hc:dY b≤8*b.at_+61) (yY:c = 40) (XM:sub=some f) :
 Calls Tryz.prog 274 #[.pointer (some ⟨gB,0,none⟩),.int .i64 (dp:Int)] w (jg base gB s w (b_ s sub c b)):=by
 have i40:(c.toNat:Int)=40:=by rw[yY];rfl
 have Bl:Hid ((aK b).at_≤s.length):=ζ (by have:=(List.getElem?_eq_some_iff.1 hcs).1;simp only[aK];omega);obtain⟨hdp,acN⟩:=zW.2 f XM;have aE3:¬(dp:Int)=8:=ω;have aCd:(dp:Int)≤8∧0≤(dp:Int):=ω;have oh:=hsp f XM (aK b) Bl.o;have hat:Hid (b_ s sub c b = (aK (if Bf s (f (aK b)).1=some 41 then (f (aK b)).1 else bM 2 (f (aK b)).1),(f (aK b)).2)):=ζ (by unfold b_;rw[if_pos yY,XM]);have amO:Hid (dY (aK b)≤8*(aK b).at_+53):=ζ (by rw[JX];simp only[aK];omega);replace acN:=ζ acN;replace oh:=ζ oh;clear yY hsp zW XM;have hlt:b.at_<s.length:=(List.getElem?_eq_some_iff.1 hcs).1;have sZ:Hid (∀t∈[358],t∈TS):=ζ (by intro t ht;simp[TS,TB] at *;exact .inr (.inl ht));have nS:Hid (∀t∈TB,t∈TS):=ζ (fun t ht=>List.mem_cons_of_mem _ ht);have hTK:Hid (∀t∈TC,t∈TS):=ζ (by intro t ht;simp[TS,TB,TC] at *;rcases ht with h | h;exact .inr (.inl h);exact .inl h);have hR:=aF.new w 360 #[.int .i64 0,.int .i64 0];have hg1:ah w (w.alloc (.cells #[.int .i64 0,.int .i64 0] 360)):=(ah.refl _).alloc _;replace hR:=ζ hR;have hG:=ζ (ay.grows (T:=TS) hg1 hb);replace h:=ζ (h.grows hg1);have hb0:Hid (BLe base w):=ζ hb;replace hb:=ζ (Nat.le_trans hb hg1.size);have hgr:Hid (GLe w w.heap.size):=ζ (Nat.le_refl _);have hci:((b.at_:Nat):Int)<(s.length:Int):=ω;have EL:∀h:b.at_<(⟨s.toArray⟩:ByteArray).size,(⟨s.toArray⟩:ByteArray)[b.at_]'h = c:=fun h=>by
  show s.toArray[b.at_]=c
  rw[List.getElem_toArray];exact (List.getElem?_eq_some_iff.1 hcs).2
 have c0:∀w',jP w' base gB s b xs sv→w'.cell? ⟨gB,0,none⟩=some (.string ⟨s.toArray⟩):=fun w' hh=>(hh.blk.cell 0).trans rfl
 have c1:∀w',jP w' base gB s b xs sv→w'.cell? ⟨gB,1,none⟩=some (.int .i64 (b.at_:Int)):=fun w' hh=>(hh.blk.cell 1).trans rfl
 replace c0:=c0 _ h.o;replace c1:=c1 _ h.o;have l1:=h.o.blk.lt;clear hg1;go_enter Tryz.func274,Tryz.ntmps274
 go_wp2_with fail;generalize w.alloc (.cells #[.int .i64 0,.int .i64 0] 360)=w0 at *
 generalize w.heap.size=gR at *
 refine aG κ ?_;refine rK (.range 10) 0 ?_;iterate 10 refine aC ?_
 refine aB ?_;refine aJ κ (fun wN hN hS=> ?_);clear c0 c1 l1;replace hR:=ζ (hR.o.grows hN);replace h:=ζ (h.o.grows hN);replace hG:=ζ (hG.o.trans (ay.grows hN hb.o));replace hb:=ζ (Nat.le_trans hb.o hN.size);clear hN hS;have c1:wN.cell? ⟨gB,1,none⟩=some (.int .i64 ((b).at_:Int)):=(h.o.blk.cell 1).trans rfl;have f1:=h.o.blk.frozen 1;have l1:=h.o.blk.lt;have i1: -9223372036854775808≤((b).at_:Int)+1∧((b).at_:Int)+1≤9223372036854775807:=by first | omega | (simp only[aK];omega)
 have hA:=ζ h.o.Nh;have nC:=ζ (hG.o.trans ((ay.own h.o (aj wN ⟨gB,1,none⟩ (.int .i64 (((b).at_:Int)+1)))).mono sZ.o));have hsz:Hid ((wN.setCell ⟨gB,1,none⟩ (.int .i64 (((b).at_:Int)+1))).heap.size=wN.heap.size):=ζ σ;go_wp2_with fail;(try replace aI:=ζ (aI.o.tk (ay.own h.o (aj wN ⟨gB,1,none⟩ (.int .i64 (((b).at_:Int)+1)))) δ))
 (try replace hX:=ζ ((ay.own h.o (aj wN ⟨gB,1,none⟩ (.int .i64 (((b).at_:Int)+1)))).blk hX.o δ))
 (try replace hP:=ζ ((ay.own h.o (aj wN ⟨gB,1,none⟩ (.int .i64 (((b).at_:Int)+1)))).blk hP.o δ))
 (try replace hR:=ζ ((ay.own h.o (aj wN ⟨gB,1,none⟩ (.int .i64 (((b).at_:Int)+1)))).blk hR.o δ))
 clear c1 f1 l1 i1 h hG;generalize wN.setCell ⟨gB,1,none⟩ (.int .i64 (((b).at_:Int)+1))=w2 at *
 have h:=hA;have hG:=nC;clear hA nC;replace hb:=ζ (Nat.le_trans hb0.o hG.o.size);have dN:ah w2 (w2.alloc (.cells #[.int .u64 0,.int .u64 0,.int .u64 0,.int .u64 0] 385)):=(ah.refl _).alloc _;replace hR:=ζ (hR.o.grows dN);replace h:=ζ (h.o.grows dN);replace hG:=ζ (hG.o.trans (ay.grows dN hb.o));replace hb:Hid (base≤(w2.alloc (.cells #[.int .u64 0,.int .u64 0,.int .u64 0,.int .u64 0] 385)).heap.size):=ζ (Nat.le_trans hb.o dN.size);clear dN;generalize w2.alloc (.cells #[.int .u64 0,.int .u64 0,.int .u64 0,.int .u64 0] 385)=w3 at *
 refine (acN.o _ _ _ _ _ _ h.o hb.o Bl.o amO.o).mono ?_;rintro e w4 ⟨rfl,xs4,sv4,h',dV⟩;replace h:=ζ h';(try replace hX:=ζ (dV.blk hX.o δ))
 (try replace hP:=ζ (dV.blk hP.o δ))
 (try replace hR:=ζ (dV.blk hR.o δ))
 replace hG:=ζ (hG.o.trans dV);replace hb:=ζ (Nat.le_trans hb0.o hG.o.size);clear h' dV acN amO;generalize f (aK b)=r at *
 obtain⟨rb,p1,p2⟩:=r;simp only[dI];have hWr:=oh.o.2.1;replace hWr:=ζ hWr;cases hp:Bf s rb with
 | none=>
  have oQ:wG s rb=.tuple #[.int .u8 0,.bool false]:=by simp only[wG,hp]
  have X7:Hid (b_ s sub c b = (aK (bM 2 rb),(p1,p2))):=ζ (by rw[hat.o,hp];rfl);clear hp hat;go_wp2_with fail;have hP:=aF.new w4 360 #[.int .i64 (p1:Int),.int .i64 (p2:Int)];have dN:ah w4 (w4.alloc (.cells #[.int .i64 (p1:Int),.int .i64 (p2:Int)] 360)):=(ah.refl _).alloc _;(try replace hX:=ζ (hX.o.grows dN))
  (try replace hR:=ζ (hR.o.grows dN))
  replace h:=ζ (h.o.grows dN);replace hG:=ζ (hG.o.trans (ay.grows dN hb.o));replace hb:=ζ (Nat.le_trans hb.o dN.size);clear dN;generalize w4.alloc (.cells #[.int .i64 (p1:Int),.int .i64 (p2:Int)] 360)=w5 at *
  generalize w4.heap.size=gP at *
  replace hP:=ζ hP;refine (eH h.o).mono ?_;rintro e w6 ⟨rfl,rY⟩;replace h:=ζ (h.o.grows rY);replace hG:=ζ (hG.o.trans (ay.grows rY hb.o));replace hb:=ζ (Nat.le_trans hb.o rY.size);(try replace aI:=ζ (aI.o.grows rY))
  (try replace hX:=ζ (hX.o.grows rY))
  (try replace hP:=ζ (hP.o.grows rY))
  (try replace hR:=ζ (hR.o.grows rY))
  clear rY;rw[oQ];clear oQ;go_wp2_with fail;refine (jX h.o).mono ?_;rintro e w7 ⟨rfl,ajO,JH⟩;(try replace aI:=ζ (aI.o.tk (ay.own h.o JH) δ))
  (try replace hX:=ζ ((ay.own h.o JH).blk hX.o δ))
  (try replace hP:=ζ ((ay.own h.o JH).blk hP.o δ))
  (try replace hR:=ζ ((ay.own h.o JH).blk hR.o δ))
  replace hG:=ζ (hG.o.trans ((ay.own h.o JH).mono sZ.o));replace h:=ζ ajO;replace hb:=ζ (Nat.le_trans hb0.o hG.o.size);clear ajO JH;have X0:(bM 2 rb).at_<100000:=by rw[dS];have:=hWr.o.1;omega
  have c1:w7.cell? ⟨gB,1,none⟩=some (.int .i64 (((bM 2 rb)).at_:Int)):=(h.o.blk.cell 1).trans rfl;have f1:=h.o.blk.frozen 1;have l1:=h.o.blk.lt;have i1: -9223372036854775808≤(((bM 2 rb)).at_:Int)+1∧(((bM 2 rb)).at_:Int)+1≤9223372036854775807:=ω;have Vb:=ay.own h.o (aj w7 ⟨gB,1,none⟩ (.int .i64 ((((bM 2 rb)).at_:Int)+1)));have hA:=ζ h.o.Nh;have hP2:=ζ (Vb.blk hP.o δ);have jr:=ζ (Vb.blk hR.o δ);have fQ:=ζ (hG.o.trans (Vb.mono sZ.o));have hPB:¬gP=gB:=fun e=>J4 hP.o h.o.blk δ e
  have hRB:¬gR=gB:=fun e=>J4 hR.o h.o.blk δ e
  have hBR:¬gB=gR:=fun e=>hRB e.symm
  (try clear rM);(try clear rJ);(try clear rF);(try clear su);(try clear r_)
  have rM:w7.cell? ⟨gP,0,none⟩=_:=hP.o.cell 0;have rJ:w7.cell? ⟨gP,1,none⟩=_:=hP.o.cell 1;have su:=hP.o.frozen 0;have r_:=hP.o.frozen 1;have rF:=hP.o.lt;(try clear qc);(try clear pY);(try clear pI);(try clear pW);(try clear pV)
  have qc:w7.cell? ⟨gR,0,none⟩=_:=hR.o.cell 0;have pY:w7.cell? ⟨gR,1,none⟩=_:=hR.o.cell 1;have pW:=hR.o.frozen 0;have pV:=hR.o.frozen 1;have pI:=hR.o.lt;clear Vb;go_wp2;clear c1 f1 l1 i1 hPB hRB hBR;clear rM rJ su r_ rF;clear qc pY pW pV pI;clear hP hR hG h;have h:=hA;have hR:=jr;have hG:=fQ;clear hA hP2 jr fQ;generalize w7.setCell ⟨gB,1,none⟩ (.int .i64 ((((bM 2 rb)).at_:Int)+1))=wz at *
  have jW:=hR.o.bD 0 (.int .i64 (p1:Int));have oM:=jW.bD 1 (.int .i64 (p2:Int));have rX:=(hG.o.dK (g:=gR) (i:=0) hgr.o hb0.o (.int .i64 (p1:Int))).dK (g:=gR) (i:=1) hgr.o hb0.o (.int .i64 (p2:Int));have yh:=(h.o.far hR.o δ (aj wz ⟨gR,0,none⟩ (.int .i64 (p1:Int)))).far jW δ (aj _ ⟨gR,1,none⟩ (.int .i64 (p2:Int)));clear hR hG h jW;generalize (wz.setCell ⟨gR,0,none⟩ (.int .i64 (p1:Int))).setCell ⟨gR,1,none⟩ (.int .i64 (p2:Int))=w7 at *
  have e0:=oM.c0;have e1:=oM.c1;refine bodyPost_ret (v:=dI (p1,p2)) ?_ rfl ⟨?_,?_⟩
  ·simp[dI,results,Tryz.results274,go_sem,e0,e1]
  ·rw[X7.o]
  ·rw[X7.o];exact⟨_,_,yh,rX⟩
 | some d=>
  have oQ:wG s rb=.tuple #[.int .u8 (d.toNat:Int),.bool true]:=by simp only[wG,hp]
  by_cases h41:d = 41
  ·have i41:(d.toNat:Int)=41:=by rw[h41];rfl
   have X7:Hid (b_ s sub c b = (aK rb,(p1,p2))):=ζ (by rw[hat.o,hp];simp[h41]);clear hp hat h41;go_wp2_with fail;have hP:=aF.new w4 360 #[.int .i64 (p1:Int),.int .i64 (p2:Int)];have dN:ah w4 (w4.alloc (.cells #[.int .i64 (p1:Int),.int .i64 (p2:Int)] 360)):=(ah.refl _).alloc _;(try replace hX:=ζ (hX.o.grows dN))
   (try replace hR:=ζ (hR.o.grows dN))
   replace h:=ζ (h.o.grows dN);replace hG:=ζ (hG.o.trans (ay.grows dN hb.o));replace hb:=ζ (Nat.le_trans hb.o dN.size);clear dN;generalize w4.alloc (.cells #[.int .i64 (p1:Int),.int .i64 (p2:Int)] 360)=w5 at *
   generalize w4.heap.size=gP at *
   replace hP:=ζ hP;refine (eH h.o).mono ?_;rintro e w6 ⟨rfl,rY⟩;replace h:=ζ (h.o.grows rY);replace hG:=ζ (hG.o.trans (ay.grows rY hb.o));replace hb:=ζ (Nat.le_trans hb.o rY.size);(try replace aI:=ζ (aI.o.grows rY))
   (try replace hX:=ζ (hX.o.grows rY))
   (try replace hP:=ζ (hP.o.grows rY))
   (try replace hR:=ζ (hR.o.grows rY))
   clear rY;rw[oQ];clear oQ;have hw1:rb.at_<100000:=by have:=hWr.o.1;omega
   have c1:w6.cell? ⟨gB,1,none⟩=some (.int .i64 ((rb).at_:Int)):=(h.o.blk.cell 1).trans rfl;have f1:=h.o.blk.frozen 1;have l1:=h.o.blk.lt;have i1: -9223372036854775808≤((rb).at_:Int)+1∧((rb).at_:Int)+1≤9223372036854775807:=ω;have Vb:=ay.own h.o (aj w6 ⟨gB,1,none⟩ (.int .i64 (((rb).at_:Int)+1)));have hA:=ζ h.o.Nh;have hP2:=ζ (Vb.blk hP.o δ);have jr:=ζ (Vb.blk hR.o δ);have fQ:=ζ (hG.o.trans (Vb.mono sZ.o));have hPB:¬gP=gB:=fun e=>J4 hP.o h.o.blk δ e
   have hRB:¬gR=gB:=fun e=>J4 hR.o h.o.blk δ e
   have hBR:¬gB=gR:=fun e=>hRB e.symm
   (try clear rM);(try clear rJ);(try clear rF);(try clear su);(try clear r_)
   have rM:w6.cell? ⟨gP,0,none⟩=_:=hP.o.cell 0;have rJ:w6.cell? ⟨gP,1,none⟩=_:=hP.o.cell 1;have su:=hP.o.frozen 0;have r_:=hP.o.frozen 1;have rF:=hP.o.lt;(try clear qc);(try clear pY);(try clear pI);(try clear pW);(try clear pV)
   have qc:w6.cell? ⟨gR,0,none⟩=_:=hR.o.cell 0;have pY:w6.cell? ⟨gR,1,none⟩=_:=hR.o.cell 1;have pW:=hR.o.frozen 0;have pV:=hR.o.frozen 1;have pI:=hR.o.lt;clear Vb;go_wp2;clear c1 f1 l1 i1 hPB hRB hBR;clear rM rJ su r_ rF;clear qc pY pW pV pI;clear hP hR hG h;have h:=hA;have hR:=jr;have hG:=fQ;clear hA hP2 jr fQ;generalize w6.setCell ⟨gB,1,none⟩ (.int .i64 (((rb).at_:Int)+1))=wz at *
   have jW:=hR.o.bD 0 (.int .i64 (p1:Int));have oM:=jW.bD 1 (.int .i64 (p2:Int));have rX:=(hG.o.dK (g:=gR) (i:=0) hgr.o hb0.o (.int .i64 (p1:Int))).dK (g:=gR) (i:=1) hgr.o hb0.o (.int .i64 (p2:Int));have yh:=(h.o.far hR.o δ (aj wz ⟨gR,0,none⟩ (.int .i64 (p1:Int)))).far jW δ (aj _ ⟨gR,1,none⟩ (.int .i64 (p2:Int)));clear hR hG h jW;generalize (wz.setCell ⟨gR,0,none⟩ (.int .i64 (p1:Int))).setCell ⟨gR,1,none⟩ (.int .i64 (p2:Int))=w7 at *
   have e0:=oM.c0;have e1:=oM.c1;refine bodyPost_ret (v:=dI (p1,p2)) ?_ rfl ⟨?_,?_⟩
   ·simp[dI,results,Tryz.results274,go_sem,e0,e1]
   ·rw[X7.o]
   ·rw[X7.o];exact⟨_,_,yh,rX⟩
  ·have i41:¬(d.toNat:Int)=41:=fun e=>h41 (UInt8.toNat_inj.1 (by show d.toNat=41;omega))
   have X7:Hid (b_ s sub c b = (aK (bM 2 rb),(p1,p2))):=ζ (by rw[hat.o,hp];simp[h41]);clear hp hat h41;go_wp2_with fail;have hP:=aF.new w4 360 #[.int .i64 (p1:Int),.int .i64 (p2:Int)];have dN:ah w4 (w4.alloc (.cells #[.int .i64 (p1:Int),.int .i64 (p2:Int)] 360)):=(ah.refl _).alloc _;(try replace hX:=ζ (hX.o.grows dN))
   (try replace hR:=ζ (hR.o.grows dN))
   replace h:=ζ (h.o.grows dN);replace hG:=ζ (hG.o.trans (ay.grows dN hb.o));replace hb:=ζ (Nat.le_trans hb.o dN.size);clear dN;generalize w4.alloc (.cells #[.int .i64 (p1:Int),.int .i64 (p2:Int)] 360)=w5 at *
   generalize w4.heap.size=gP at *
   replace hP:=ζ hP;refine (eH h.o).mono ?_;rintro e w6 ⟨rfl,rY⟩;replace h:=ζ (h.o.grows rY);replace hG:=ζ (hG.o.trans (ay.grows rY hb.o));replace hb:=ζ (Nat.le_trans hb.o rY.size);(try replace aI:=ζ (aI.o.grows rY))
   (try replace hX:=ζ (hX.o.grows rY))
   (try replace hP:=ζ (hP.o.grows rY))
   (try replace hR:=ζ (hR.o.grows rY))
   clear rY;rw[oQ];clear oQ;go_wp2_with fail;refine (jX h.o).mono ?_;rintro e w7 ⟨rfl,ajO,JH⟩;(try replace aI:=ζ (aI.o.tk (ay.own h.o JH) δ))
   (try replace hX:=ζ ((ay.own h.o JH).blk hX.o δ))
   (try replace hP:=ζ ((ay.own h.o JH).blk hP.o δ))
   (try replace hR:=ζ ((ay.own h.o JH).blk hR.o δ))
   replace hG:=ζ (hG.o.trans ((ay.own h.o JH).mono sZ.o));replace h:=ζ ajO;replace hb:=ζ (Nat.le_trans hb0.o hG.o.size);clear ajO JH;have X0:(bM 2 rb).at_<100000:=by rw[dS];have:=hWr.o.1;omega
   have hw1:rb.at_<100000:=by have:=hWr.o.1;omega
   have c1:w7.cell? ⟨gB,1,none⟩=some (.int .i64 (((bM 2 rb)).at_:Int)):=(h.o.blk.cell 1).trans rfl;have f1:=h.o.blk.frozen 1;have l1:=h.o.blk.lt;have i1: -9223372036854775808≤(((bM 2 rb)).at_:Int)+1∧(((bM 2 rb)).at_:Int)+1≤9223372036854775807:=ω;have Vb:=ay.own h.o (aj w7 ⟨gB,1,none⟩ (.int .i64 ((((bM 2 rb)).at_:Int)+1)));have hA:=ζ h.o.Nh;have hP2:=ζ (Vb.blk hP.o δ);have jr:=ζ (Vb.blk hR.o δ);have fQ:=ζ (hG.o.trans (Vb.mono sZ.o));have hPB:¬gP=gB:=fun e=>J4 hP.o h.o.blk δ e
   have hRB:¬gR=gB:=fun e=>J4 hR.o h.o.blk δ e
   have hBR:¬gB=gR:=fun e=>hRB e.symm
   (try clear rM);(try clear rJ);(try clear rF);(try clear su);(try clear r_)
   have rM:w7.cell? ⟨gP,0,none⟩=_:=hP.o.cell 0;have rJ:w7.cell? ⟨gP,1,none⟩=_:=hP.o.cell 1;have su:=hP.o.frozen 0;have r_:=hP.o.frozen 1;have rF:=hP.o.lt;(try clear qc);(try clear pY);(try clear pI);(try clear pW);(try clear pV)
   have qc:w7.cell? ⟨gR,0,none⟩=_:=hR.o.cell 0;have pY:w7.cell? ⟨gR,1,none⟩=_:=hR.o.cell 1;have pW:=hR.o.frozen 0;have pV:=hR.o.frozen 1;have pI:=hR.o.lt;clear Vb;go_wp2;clear c1 f1 l1 i1 hPB hRB hBR;clear rM rJ su r_ rF;clear qc pY pW pV pI;clear hP hR hG h;have h:=hA;have hR:=jr;have hG:=fQ;clear hA hP2 jr fQ;generalize w7.setCell ⟨gB,1,none⟩ (.int .i64 ((((bM 2 rb)).at_:Int)+1))=wz at *
   have jW:=hR.o.bD 0 (.int .i64 (p1:Int));have oM:=jW.bD 1 (.int .i64 (p2:Int));have rX:=(hG.o.dK (g:=gR) (i:=0) hgr.o hb0.o (.int .i64 (p1:Int))).dK (g:=gR) (i:=1) hgr.o hb0.o (.int .i64 (p2:Int));have yh:=(h.o.far hR.o δ (aj wz ⟨gR,0,none⟩ (.int .i64 (p1:Int)))).far jW δ (aj _ ⟨gR,1,none⟩ (.int .i64 (p2:Int)));clear hR hG h jW;generalize (wz.setCell ⟨gR,0,none⟩ (.int .i64 (p1:Int))).setCell ⟨gR,1,none⟩ (.int .i64 (p2:Int))=w7 at *
   have e0:=oM.c0;have e1:=oM.c1;refine bodyPost_ret (v:=dI (p1,p2)) ?_ rfl ⟨?_,?_⟩
   ·simp[dI,results,Tryz.results274,go_sem,e0,e1]
   ·rw[X7.o]
   ·rw[X7.o];exact⟨_,_,yh,rX⟩
theorem akO {w:World} {base gB dp:Nat} {s:List UInt8} {b:PB} {c:UInt8} {sub:Option (PB→PB×qw)} {xs:List xH} {sv:Value} (zW:YW s sub dp) (hsp:Gq s 11 sub) (h:jP w base gB s b xs sv) (hb:base≤w.heap.size) (uf:s.length≤100) (hcs:s[b.at_]? = some c) (hc:dY b≤8*b.at_+61) :
 Calls Tryz.prog 274 #[.pointer (some ⟨gB,0,none⟩),.int .i64 (dp:Int)] w (jg base gB s w (b_ s sub c b)):=by
 by_cases yY:c = 40
 ·cases XM:sub with
  | none=>rw[←XM];exact agm zW hsp h hb uf hcs hc yY XM
  | some f=>rw[←XM];exact agl zW hsp h hb uf hcs hc yY XM
 ·by_cases GZ:c = 91
  ·exact ab6 h hb uf hcs hc yY GZ
  ·by_cases L6:c = 46
   ·exact akN h hb uf hcs hc yY GZ L6
   ·by_cases Tn:c = 92
    ·cases hp:Bf s (aK b) with
     | none=>exact YP h hb uf hcs hc yY GZ L6 Tn hp
     | some d=>exact ab4 h hb uf hcs hc yY GZ L6 Tn hp
    ·by_cases ho:aeF c = true
     ·exact akM h hb uf hcs hc yY GZ L6 Tn ho
     ·exact ab5 h hb uf hcs hc yY GZ L6 Tn ho
theorem akP {s:List UInt8} {k:Nat} {sub:Option (PB→PB×qw)} {c:UInt8} {b:PB} (hs:Gq s k sub) (hb:b.at_<s.length):b.at_+1≤(b_ s sub c b).1.at_:=by
 have ha:(aK b).at_=b.at_+1:=rfl;have Bl:(aK b).at_≤s.length:=ω;have ho:∀ws z,(ku ws z).1.at_=z.at_:=fun ws z=>(wX ws z).2.2.1
 unfold b_;split
 ·split
  ·rw[ho,dS];omega
  ·rename_i f;have h1:=(hs f rfl (aK b) Bl).1.at_;simp only;split
   ·show _≤(f (aK b)).1.at_+1;omega
   ·show _≤(bM 2 (f (aK b)).1).at_+1;rw[dS];omega
 ·split
  ·have h1:=(Dt (s:=s) (b:=aK b) (WP.of_le Bl)).1.at_;simp only;rw[ho];omega
  ·split
   ·rw[ho];omega
   ·split
    ·split
     ·rw[ho];show _≤(bM 2 (aK b)).at_+1;rw[dS];omega
     ·rw[ho];show _≤(aK b).at_+1;omega
    ·split
     ·rw[ho,dS];omega
     ·rw[ho];omega
theorem alS {w:World} {base gB dp:Nat} {s:List UInt8} {b:PB} {sub:Option (PB→PB×qw)} {xs:List xH} {sv:Value} (zW:YW s sub dp) (hsp:Gq s 11 sub) (h:jP w base gB s b xs sv) (hb:base≤w.heap.size) (uf:s.length≤100) (hW:WP s 12 b) (hc:dY b≤8*b.at_+60) :
 Calls Tryz.prog 265 #[.pointer (some ⟨gB,0,none⟩),.int .i64 (dp:Int)] w (jg base gB s w (jF s sub b)):=by
 have sZ:Hid (∀t∈[358],t∈TS):=ζ (by intro t ht;simp[TS,TB] at *;exact .inr (.inl ht));have nS:Hid (∀t∈TB,t∈TS):=ζ (fun t ht=>List.mem_cons_of_mem _ ht);have hR:=aF.new w 360 #[.int .i64 0,.int .i64 0];have hg1:ah w (w.alloc (.cells #[.int .i64 0,.int .i64 0] 360)):=(ah.refl _).alloc _;replace hR:=ζ hR;have hG:=ζ (ay.grows (T:=TS) hg1 hb);replace h:=ζ (h.grows hg1);have hb0:Hid (BLe base w):=ζ hb;replace hb:=ζ (Nat.le_trans hb hg1.size);have hgr:Hid (GLe w w.heap.size):=ζ (Nat.le_refl _);have hrp:Hid (jF s sub b = FC s sub (s.length+1) (b.aS.length,b.aS.length) (aW b)):=ζ rfl;replace zW:=ζ zW;replace hsp:=ζ hsp;replace hW:=ζ hW;replace hc:=ζ hc;clear hg1;go_enter Tryz.func265,Tryz.ntmps265
 go_wp2_with fail;generalize w.alloc (.cells #[.int .i64 0,.int .i64 0] 360)=w0 at *
 generalize w.heap.size=gR at *
 refine (vg h.o hb.o (by have:=jy b;have:=hc.o;have:=hW.o.1;omega)).mono ?_;rintro e w1 ⟨rfl,sv1,h',dV⟩;replace h:=ζ h';clear h';(try replace hX:=ζ ((dV.mono nS.o).blk hX.o δ))
 (try replace hP:=ζ ((dV.mono nS.o).blk hP.o δ))
 (try replace hR:=ζ ((dV.mono nS.o).blk hR.o δ))
 replace hG:=ζ (hG.o.trans (dV.mono nS.o));replace hb:=ζ (Nat.le_trans hb0.o hG.o.size);clear dV;have hI:Hid (IL (b.aS.length,b.aS.length) (aW b)):=ζ ⟨by rw[dZ];simp,by rw[dZ];simp⟩;have hW1:Hid (WP s 12 (aW b)):=hW;have hc1:Hid (dY (aW b)≤8*(aW b).at_+61):=ζ (by have:=qW b;have:=hc.o;have:(aW b).at_=b.at_:=rfl;omega);generalize aW b = b1 at *
 generalize b.aS.length=N at *
 go_wp2_with fail;have hgP:Hid (GLe w w1.heap.size):=ζ hG.o.size;have hRP:Hid (gR≠w1.heap.size):=ζ (by have:=hR.o.lt;omega);have hP:=aF.new w1 360 #[.int .i64 (N:Int),.int .i64 (N:Int)];have dN:ah w1 (w1.alloc (.cells #[.int .i64 (N:Int),.int .i64 (N:Int)] 360)):=(ah.refl _).alloc _;(try replace hX:=ζ (hX.o.grows dN))
 (try replace hR:=ζ (hR.o.grows dN))
 replace h:=ζ (h.o.grows dN);replace hG:=ζ (hG.o.trans (ay.grows dN hb.o));replace hb:=ζ (Nat.le_trans hb.o dN.size);clear dN;generalize w1.alloc (.cells #[.int .i64 (N:Int),.int .i64 (N:Int)] 360)=w2 at *
 generalize w1.heap.size=gP at *
 replace hP:=ζ hP;obtain⟨R,PG⟩:∃R,R=FC s sub (s.length+1) (N,N) b1:=⟨_,rfl⟩;rw[←PG] at hrp;replace PG:=ζ PG;go_loopw [] (fun wr=>∃(f q:Nat) (bq:PB) (xq:List xH) (vq:Value),Hid (s.length≤f + bq.at_)∧Hid (R=FC s sub f (N,q) bq)∧Hid (WP s 12 bq)∧Hid (IL (N,q) bq)∧Hid (dY bq≤8*bq.at_+61)∧Hid (jP wr base gB s bq xq vq)∧Hid (aF wr gP 360 #[.int .i64 (N:Int),.int .i64 (q:Int)])∧Hid (aF wr gR 360 #[.int .i64 0,.int .i64 0])∧Hid (ay TS base w wr)) (fun wr=>s.length+20-(match wr.cell? ⟨gB,1,none⟩ with | some v=>(intOf v).toNat | none=>0))
 case atStart=>exact⟨s.length+1,N,b1,_,_,ζ ω,PG,hW1,hI,hc1,h,hP,hR,hG⟩
 case round=>
  clear PG hW1 hI hc1 h hP hR hG hb;obtain⟨f,q,bq,xq,vq,hf,jr,V6,hI,nR,h,hP,hR,hG⟩:=hrel;have hb:=ζ (Nat.le_trans hb0.o hG.o.size);have hstep:=ad4 (sub:=sub) (p:=(N,q)) hf.o;rw[←jr.o] at hstep;clear jr;have Bg:Hid (∀(w':World) (b':PB) xs' ZE,jP w' base gB s b' xs' ZE→(match w'.cell? ⟨gB,1,none⟩ with | some v=>(intOf v).toNat | none=>0)=b'.at_):=ζ (fun w' b' _ _ hh=>by
   have e:w'.cell? ⟨gB,1,none⟩=some (.int .i64 (b'.at_:Int)):=(hh.blk.cell 1).trans rfl;rw[e];simp[intOf])
  have Ib:=ζ (Bg.o _ _ _ _ h.o);go_wp2_with fail;refine (eH h.o).mono ?_;rintro e w1 ⟨rfl,dh⟩;replace h:=ζ (h.o.grows dh);replace hG:=ζ (hG.o.trans (ay.grows dh hb.o));replace hb:=ζ (Nat.le_trans hb.o dh.size);(try replace aI:=ζ (aI.o.grows dh))
  (try replace hX:=ζ (hX.o.grows dh))
  (try replace hP:=ζ (hP.o.grows dh))
  (try replace hR:=ζ (hR.o.grows dh))
  clear dh;cases hp:Bf s bq with
  | none=>
   simp only[wG,hp];rw[hp] at hstep;replace hstep:=ζ hstep;clear hp;(try clear rM);(try clear rJ);(try clear rF);(try clear su);(try clear r_)
   have rM:w1.cell? ⟨gP,0,none⟩=_:=hP.o.cell 0;have rJ:w1.cell? ⟨gP,1,none⟩=_:=hP.o.cell 1;have su:=hP.o.frozen 0;have r_:=hP.o.frozen 1;have rF:=hP.o.lt;(try clear qc);(try clear pY);(try clear pI);(try clear pW);(try clear pV)
   have qc:w1.cell? ⟨gR,0,none⟩=_:=hR.o.cell 0;have pY:w1.cell? ⟨gR,1,none⟩=_:=hR.o.cell 1;have pW:=hR.o.frozen 0;have pV:=hR.o.frozen 1;have pI:=hR.o.lt;go_wp2;clear rM rJ su r_ rF;clear qc pY pW pV pI;clear hP;have jW:=hR.o.bD 0 (.int .i64 (N:Int));have oM:=jW.bD 1 (.int .i64 (q:Int));have rX:=(hG.o.dK (g:=gR) (i:=0) hgr.o hb0.o (.int .i64 (N:Int))).dK (g:=gR) (i:=1) hgr.o hb0.o (.int .i64 (q:Int));have yh:=(h.o.far hR.o δ (aj w1 ⟨gR,0,none⟩ (.int .i64 (N:Int)))).far jW δ (aj _ ⟨gR,1,none⟩ (.int .i64 (q:Int)));clear hR hG h jW;generalize (w1.setCell ⟨gR,0,none⟩ (.int .i64 (N:Int))).setCell ⟨gR,1,none⟩ (.int .i64 (q:Int))=w7 at *
   have e0:=oM.c0;have e1:=oM.c1;refine bodyPost_ret (v:=dI (N,q)) ?_ rfl ⟨?_,?_⟩
   ·simp[dI,results,Tryz.results265,go_sem,e0,e1]
   ·rw[hrp.o,hstep.o]
   ·rw[hrp.o,hstep.o];exact⟨_,_,yh,rX⟩
  | some c=>
   simp only[wG,hp];rw[hp] at hstep;have hlen:=ζ (iQ hp).2.1;have hcs:=ζ (iQ hp).2.2;clear hp;by_cases Ir:c = 124
   ·have i124:(c.toNat:Int)=124:=by rw[Ir];rfl
    simp only[Ir,true_or,if_true] at hstep;replace hstep:=ζ hstep;clear Ir;(try clear rM);(try clear rJ);(try clear rF);(try clear su);(try clear r_)
    have rM:w1.cell? ⟨gP,0,none⟩=_:=hP.o.cell 0;have rJ:w1.cell? ⟨gP,1,none⟩=_:=hP.o.cell 1;have su:=hP.o.frozen 0;have r_:=hP.o.frozen 1;have rF:=hP.o.lt;(try clear qc);(try clear pY);(try clear pI);(try clear pW);(try clear pV)
    have qc:w1.cell? ⟨gR,0,none⟩=_:=hR.o.cell 0;have pY:w1.cell? ⟨gR,1,none⟩=_:=hR.o.cell 1;have pW:=hR.o.frozen 0;have pV:=hR.o.frozen 1;have pI:=hR.o.lt;go_wp2;clear rM rJ su r_ rF;clear qc pY pW pV pI;clear hP;have jW:=hR.o.bD 0 (.int .i64 (N:Int));have oM:=jW.bD 1 (.int .i64 (q:Int));have rX:=(hG.o.dK (g:=gR) (i:=0) hgr.o hb0.o (.int .i64 (N:Int))).dK (g:=gR) (i:=1) hgr.o hb0.o (.int .i64 (q:Int));have yh:=(h.o.far hR.o δ (aj w1 ⟨gR,0,none⟩ (.int .i64 (N:Int)))).far jW δ (aj _ ⟨gR,1,none⟩ (.int .i64 (q:Int)));clear hR hG h jW;generalize (w1.setCell ⟨gR,0,none⟩ (.int .i64 (N:Int))).setCell ⟨gR,1,none⟩ (.int .i64 (q:Int))=w7 at *
    have e0:=oM.c0;have e1:=oM.c1;refine bodyPost_ret (v:=dI (N,q)) ?_ rfl ⟨?_,?_⟩
    ·simp[dI,results,Tryz.results265,go_sem,e0,e1]
    ·rw[hrp.o,hstep.o]
    ·rw[hrp.o,hstep.o];exact⟨_,_,yh,rX⟩
   ·have i124:¬(c.toNat:Int)=124:=fun e=>Ir (UInt8.toNat_inj.1 (by show c.toNat=124;omega))
    by_cases h41:c = 41
    ·have i41:(c.toNat:Int)=41:=by rw[h41];rfl
     simp only[h41,or_true,if_true] at hstep;replace hstep:=ζ hstep;clear Ir h41;(try clear rM);(try clear rJ);(try clear rF);(try clear su);(try clear r_)
     have rM:w1.cell? ⟨gP,0,none⟩=_:=hP.o.cell 0;have rJ:w1.cell? ⟨gP,1,none⟩=_:=hP.o.cell 1;have su:=hP.o.frozen 0;have r_:=hP.o.frozen 1;have rF:=hP.o.lt;(try clear qc);(try clear pY);(try clear pI);(try clear pW);(try clear pV)
     have qc:w1.cell? ⟨gR,0,none⟩=_:=hR.o.cell 0;have pY:w1.cell? ⟨gR,1,none⟩=_:=hR.o.cell 1;have pW:=hR.o.frozen 0;have pV:=hR.o.frozen 1;have pI:=hR.o.lt;go_wp2;clear rM rJ su r_ rF;clear qc pY pW pV pI;clear hP;have jW:=hR.o.bD 0 (.int .i64 (N:Int));have oM:=jW.bD 1 (.int .i64 (q:Int));have rX:=(hG.o.dK (g:=gR) (i:=0) hgr.o hb0.o (.int .i64 (N:Int))).dK (g:=gR) (i:=1) hgr.o hb0.o (.int .i64 (q:Int));have yh:=(h.o.far hR.o δ (aj w1 ⟨gR,0,none⟩ (.int .i64 (N:Int)))).far jW δ (aj _ ⟨gR,1,none⟩ (.int .i64 (q:Int)));clear hR hG h jW;generalize (w1.setCell ⟨gR,0,none⟩ (.int .i64 (N:Int))).setCell ⟨gR,1,none⟩ (.int .i64 (q:Int))=w7 at *
     have e0:=oM.c0;have e1:=oM.c1;refine bodyPost_ret (v:=dI (N,q)) ?_ rfl ⟨?_,?_⟩
     ·simp[dI,results,Tryz.results265,go_sem,e0,e1]
     ·rw[hrp.o,hstep.o]
     ·rw[hrp.o,hstep.o];exact⟨_,_,yh,rX⟩
    ·have i41:¬(c.toNat:Int)=41:=fun e=>h41 (UInt8.toNat_inj.1 (by show c.toNat=41;omega))
     simp only[Ir,h41,or_self,if_false] at hstep;have awg:((c.toNat:Int)==124)=false:=by simpa using i124
     have b41:((c.toNat:Int)==41)=false:=by simpa using i41
     clear Ir h41 i124 i41;have hao:=Pe (c:=c) hsp.o ω hlen.o;have mP:=Ji hao.2.1 hao.2.2;replace hao:=ζ hao;replace mP:=ζ mP;replace hstep:=ζ hstep;go_wp2_with fail;refine (akO zW.o hsp.o h.o hb.o uf hcs.o (by have:=nR.o;omega)).mono ?_;rintro e w2 ⟨rfl,xs2,sv2,h',dV⟩;replace h:=ζ h';clear h';(try replace hX:=ζ (dV.blk hX.o δ))
     (try replace hP:=ζ (dV.blk hP.o δ))
     (try replace hR:=ζ (dV.blk hR.o δ))
     replace hG:=ζ (hG.o.trans dV);replace hb:=ζ (Nat.le_trans hb0.o hG.o.size);clear dV;have hac:Hid (dY (b_ s sub c bq).1<100000∧(b_ s sub c bq).1.at_<100000):=ζ (by
      have h1:=hao.o.1.cost;have h2:=hao.o.2.1.1;have h3:=nR.o;omega)
     go_wp2_with fail;refine (adK h.o hb.o hao.o.2.2 (by have:=hac.o.2;omega) (by have:=hac.o.1;omega)).mono ?_;rintro e w3 ⟨rfl,xs3,sv3,h',dV⟩;replace h:=ζ h';clear h';(try replace hX:=ζ ((dV.mono nS.o).blk hX.o δ))
     (try replace hP:=ζ ((dV.mono nS.o).blk hP.o δ))
     (try replace hR:=ζ ((dV.mono nS.o).blk hR.o δ))
     replace hG:=ζ (hG.o.trans (dV.mono nS.o));replace hb:=ζ (Nat.le_trans hb0.o hG.o.size);clear dV;have Q5:Hid (s.length≤(f - 1)+(fE s (b_ s sub c bq).1 (b_ s sub c bq).2).1.at_∧bq.at_<(fE s (b_ s sub c bq).1 (b_ s sub c bq).2).1.at_∧dY (fE s (b_ s sub c bq).1 (b_ s sub c bq).2).1+1≤8*(fE s (b_ s sub c bq).1 (b_ s sub c bq).2).1.at_+61∧bq.aS.length≤(fE s (b_ s sub c bq).1 (b_ s sub c bq).2).1.aS.length):=ζ (by
      have h1:=hao.o.1;have h2:=mP.o.1;have h3:=nR.o;have h4:=hf.o;have h5:=h1.at_;have h6:=h2.at_;have h7:=h1.cost;have h8:=h2.cost;have h9:=h1.len;have h10:=h2.len;have h11:=akP (c:=c) hsp.o hlen.o;omega)
     have hI3:Hid (IL (N,(fE s (b_ s sub c bq).1 (b_ s sub c bq).2).2.2) (fE s (b_ s sub c bq).1 (b_ s sub c bq).2).1):=ζ ⟨Nat.lt_of_lt_of_le hI.o.1 Q5.o.2.2.2,mP.o.2.2.2⟩;have hq4:=ζ (Nat.lt_of_lt_of_le hI.o.2 Q5.o.2.2.2);have hWt:=ζ mP.o.2.1;have htI:=ζ mP.o.2.2;clear hac hao mP nR hI V6 hf;generalize fE s (b_ s sub c bq).1 (b_ s sub c bq).2=rt at *
     obtain⟨tb,t1,t2⟩:=rt;simp only[dI];(try clear rM);(try clear rJ);(try clear rF);(try clear su);(try clear r_)
     have rM:w3.cell? ⟨gP,0,none⟩=_:=hP.o.cell 0;have rJ:w3.cell? ⟨gP,1,none⟩=_:=hP.o.cell 1;have su:=hP.o.frozen 0;have r_:=hP.o.frozen 1;have rF:=hP.o.lt;go_wp2_with fail;clear rM rJ su r_ rF;have hX:=aF.new w3 360 #[.int .i64 (t1:Int),.int .i64 (t2:Int)];have dN:ah w3 (w3.alloc (.cells #[.int .i64 (t1:Int),.int .i64 (t2:Int)] 360)):=(ah.refl _).alloc _;have hPX:Hid (gP<w3.heap.size):=ζ hP.o.lt;replace hP:=ζ (hP.o.grows dN);replace hR:=ζ (hR.o.grows dN);replace h:=ζ (h.o.grows dN);replace hG:=ζ (hG.o.trans (ay.grows dN hb.o));replace hb:Hid (base≤(w3.alloc (.cells #[.int .i64 (t1:Int),.int .i64 (t2:Int)] 360)).heap.size):=ζ (Nat.le_trans hb.o dN.size);clear dN;generalize w3.alloc (.cells #[.int .i64 (t1:Int),.int .i64 (t2:Int)] 360)=w4 at *
     generalize w3.heap.size=gX at *
     replace hX:=ζ hX;refine (pR (i:=q) (j:=t1) h.o hb.o hq4.o (by have:=Q5.o.2.2.1;have:=hWt.o.1;omega)).mono ?_;rintro e w5 ⟨rfl,xs5,h',dV⟩;replace h:=ζ h';clear h';(try replace hX:=ζ ((dV.mono nS.o).blk hX.o δ))
     (try replace hP:=ζ ((dV.mono nS.o).blk hP.o δ))
     (try replace hR:=ζ ((dV.mono nS.o).blk hR.o δ))
     replace hG:=ζ (hG.o.trans (dV.mono nS.o));replace hb:=ζ (Nat.le_trans hb0.o hG.o.size);clear dV;have yj:=ζ (h.o.far hP.o δ (aj w5 ⟨gP,1,none⟩ (.int .i64 (t2:Int))));have hP6:Hid (aF (w5.setCell ⟨gP,1,none⟩ (.int .i64 (t2:Int))) gP 360 #[.int .i64 (N:Int),.int .i64 (t2:Int)]):=ζ (hP.o.bD 1 (.int .i64 (t2:Int)));have hR6:=ζ (hR.o.far (p:=⟨gP,1,none⟩) hRP.o (.int .i64 (t2:Int)));have EN:=ζ (hG.o.dK (g:=gP) (i:=1) hgP.o hb0.o (.int .i64 (t2:Int)));have Ov:=ζ (qX q t1 tb);(try clear rM);(try clear rJ);(try clear rF);(try clear su);(try clear r_)
     have rM:w5.cell? ⟨gP,0,none⟩=_:=hP.o.cell 0;have rJ:w5.cell? ⟨gP,1,none⟩=_:=hP.o.cell 1;have su:=hP.o.frozen 0;have r_:=hP.o.frozen 1;have rF:=hP.o.lt;(try clear PW);(try clear PV);(try clear Py);(try clear PU);(try clear PS)
     have PW:w5.cell? ⟨gX,0,none⟩=_:=hX.o.cell 0;have PV:w5.cell? ⟨gX,1,none⟩=_:=hX.o.cell 1;have PU:=hX.o.frozen 0;have PS:=hX.o.frozen 1;have Py:=hX.o.lt;go_wp2;go_roundw
     case rel=>exact⟨f - 1,t2,bg q t1 tb,xs5,sv3,ζ Q5.o.1,hstep,ζ (aj0 hWt.o),ζ (IL.mono hI3.o (by rw[dR];exact Nat.le_refl _)),ζ (by have:=Ov.o;have:=Q5.o.2.2.1;show _≤8*tb.at_+61;omega),yj,hP6,hR6,EN⟩
     case measure=>rw[Bg.o _ _ _ _ yj.o,Ib.o];have:=Q5.o.2.1;have:=hlen.o;show _ - tb.at_<_;omega
theorem VF {s:List UInt8} {sub:Option (PB→PB×qw)} {f:Nat} {p:qw} {b:PB} (hf:1≤f):gU s sub f p b =
 if Bf s (bg (jF s sub b).2.2 p.2 (bg p.1 (jF s sub b).2.1 (jF s sub b).1))=some 124 then gU s sub (f - 1) p (aK (bg (jF s sub b).2.2 p.2 (bg p.1 (jF s sub b).2.1 (jF s sub b).1))) else (bg (jF s sub b).2.2 p.2 (bg p.1 (jF s sub b).2.1 (jF s sub b).1),p):=by
 cases f with
 | zero=>omega
 | succ f=>rfl
theorem TI {w:World} {base gB dp:Nat} {s:List UInt8} {b:PB} {sub:Option (PB→PB×qw)} {xs:List xH} {sv:Value} (zW:YW s sub dp) (hsp:Gq s 11 sub) (h:jP w base gB s b xs sv) (hb:base≤w.heap.size) (uf:s.length≤100) (hW:b.at_≤s.length) (hc:dY b≤8*b.at_+53) :
 Calls Tryz.prog 249 #[.pointer (some ⟨gB,0,none⟩),.int .i64 (dp:Int)] w (jg base gB s w (gU s sub (s.length+1) (b.aS.length,b.aS.length+1) (aW (aW b)))):=by
 have sZ:Hid (∀t∈[358],t∈TS):=ζ (by intro t ht;simp[TS,TB] at *;exact .inr (.inl ht));have nS:Hid (∀t∈TB,t∈TS):=ζ (fun t ht=>List.mem_cons_of_mem _ ht);have hR:=aF.new w 360 #[.int .i64 0,.int .i64 0];have hg1:ah w (w.alloc (.cells #[.int .i64 0,.int .i64 0] 360)):=(ah.refl _).alloc _;replace hR:=ζ hR;have hG:=ζ (ay.grows (T:=TS) hg1 hb);replace h:=ζ (h.grows hg1);have hb0:Hid (BLe base w):=ζ hb;replace hb:=ζ (Nat.le_trans hb hg1.size);have hgr:Hid (GLe w w.heap.size):=ζ (Nat.le_refl _);replace zW:=ζ zW;replace hsp:=ζ hsp;replace hW:=ζ hW;replace hc:=ζ hc;clear hg1;obtain⟨R,PG⟩:∃R,R=gU s sub (s.length+1) (b.aS.length,b.aS.length+1) (aW (aW b)):=⟨_,rfl⟩;rw[←PG];replace PG:=ζ PG;go_enter Tryz.func249,Tryz.ntmps249
 go_wp2_with fail;generalize w.alloc (.cells #[.int .i64 0,.int .i64 0] 360)=w0 at *
 generalize w.heap.size=gR at *
 refine (vg h.o hb.o (by have:=jy b;have:=hc.o;have:=hW.o;omega)).mono ?_;rintro e w1 ⟨rfl,sv1,h',dV⟩;replace h:=ζ h';clear h';(try replace hX:=ζ ((dV.mono nS.o).blk hX.o δ))
 (try replace hP:=ζ ((dV.mono nS.o).blk hP.o δ))
 (try replace hR:=ζ ((dV.mono nS.o).blk hR.o δ))
 replace hG:=ζ (hG.o.trans (dV.mono nS.o));replace hb:=ζ (Nat.le_trans hb0.o hG.o.size);clear dV;go_wp2_with fail;refine (vg h.o hb.o (by have:=jy b;have:=hc.o;have:=hW.o;rw[dZ];omega)).mono ?_;rintro e w2 ⟨rfl,sv2,h',dV⟩;replace h:=ζ h';clear h';(try replace hX:=ζ ((dV.mono nS.o).blk hX.o δ))
 (try replace hP:=ζ ((dV.mono nS.o).blk hP.o δ))
 (try replace hR:=ζ ((dV.mono nS.o).blk hR.o δ))
 replace hG:=ζ (hG.o.trans (dV.mono nS.o));replace hb:=ζ (Nat.le_trans hb0.o hG.o.size);clear dV;rw[dZ];have hI:Hid (IL (b.aS.length,b.aS.length+1) (aW (aW b))):=ζ ⟨by rw[dZ,dZ];simp;omega,by rw[dZ,dZ];simp⟩;have hW1:Hid ((aW (aW b)).at_≤s.length):=hW;have hc1:Hid (dY (aW (aW b))≤8*(aW (aW b)).at_+55):=ζ (by have:=qW b;have:=qW (aW b);have:=hc.o;have:(aW (aW b)).at_=b.at_:=rfl;omega);generalize aW (aW b)=b1 at *
 generalize b.aS.length=N at *
 have hgP:Hid (GLe w w2.heap.size):=ζ hG.o.size;go_wp2_with fail;have hP:=aF.new w2 360 #[.int .i64 (N:Int),.int .i64 ((N:Int)+1)];have dN:ah w2 (w2.alloc (.cells #[.int .i64 (N:Int),.int .i64 ((N:Int)+1)] 360)):=(ah.refl _).alloc _;(try replace hX:=ζ (hX.o.grows dN))
 (try replace hR:=ζ (hR.o.grows dN))
 replace h:=ζ (h.o.grows dN);replace hG:=ζ (hG.o.trans (ay.grows dN hb.o));replace hb:=ζ (Nat.le_trans hb.o dN.size);clear dN;generalize w2.alloc (.cells #[.int .i64 (N:Int),.int .i64 ((N:Int)+1)] 360)=w3 at *
 generalize w2.heap.size=gP at *
 replace hP:=ζ hP;go_loopw [] (fun wr=>∃(f:Nat) (bq:PB) (xq:List xH) (vq:Value),Hid (s.length+1≤f + bq.at_)∧Hid (R=gU s sub f (N,N+1) bq)∧Hid (bq.at_≤s.length)∧Hid (IL (N,N+1) bq)∧Hid (dY bq≤8*bq.at_+55)∧Hid (jP wr base gB s bq xq vq)∧Hid (aF wr gP 360 #[.int .i64 (N:Int),.int .i64 ((N:Int)+1)])∧Hid (aF wr gR 360 #[.int .i64 0,.int .i64 0])∧Hid (ay TS base w wr)) (fun wr=>s.length+20-(match wr.cell? ⟨gB,1,none⟩ with | some v=>(intOf v).toNat | none=>0))
 case atStart=>exact⟨s.length+1,b1,_,_,ζ ω,PG,hW1,hI,hc1,h,hP,hR,hG⟩
 case round=>
  clear PG hW1 hI hc1 h hP hR hG hb;obtain⟨f,bq,xq,vq,hf,jr,V6,hI,nR,h,hP,hR,hG⟩:=hrel;have hb:=ζ (Nat.le_trans hb0.o hG.o.size);have hstep:=VF (s:=s) (sub:=sub) (p:=(N,N+1)) (b:=bq) (f:=f) (by have:=hf.o;have:=V6.o;omega);rw[←jr.o] at hstep;clear jr;have Bg:Hid (∀(w':World) (b':PB) xs' ZE,jP w' base gB s b' xs' ZE→(match w'.cell? ⟨gB,1,none⟩ with | some v=>(intOf v).toNat | none=>0)=b'.at_):=ζ (fun w' b' _ _ hh=>by
   have e:w'.cell? ⟨gB,1,none⟩=some (.int .i64 (b'.at_:Int)):=(hh.blk.cell 1).trans rfl;rw[e];simp[intOf])
  have Ib:=ζ (Bg.o _ _ _ _ h.o);have hro:=ζ (UF hsp.o ω (WP.of_le (k:=12) V6.o));replace hstep:=ζ hstep;go_wp2_with fail;refine (alS zW.o hsp.o h.o hb.o uf (WP.of_le V6.o) (by have:=nR.o;omega)).mono ?_;rintro e w4 ⟨rfl,xs4,sv4,h',dV⟩;replace h:=ζ h';clear h';(try replace hX:=ζ (dV.blk hX.o δ))
  (try replace hP:=ζ (dV.blk hP.o δ))
  (try replace hR:=ζ (dV.blk hR.o δ))
  replace hG:=ζ (hG.o.trans dV);replace hb:=ζ (Nat.le_trans hb0.o hG.o.size);clear dV;have Q5:Hid (bq.at_≤(jF s sub bq).1.at_∧dY (jF s sub bq).1≤8*(jF s sub bq).1.at_+56∧bq.aS.length≤(jF s sub bq).1.aS.length∧(jF s sub bq).1.at_≤s.length+12):=ζ (by
   have h1:=hro.o.1;have h2:=nR.o;have h3:=h1.cost;have h4:=h1.at_;have h5:=h1.len;have h6:=hro.o.2.1.1;omega)
  have htI:=ζ hro.o.2.2;clear hro nR;generalize jF s sub bq=rt at *
  obtain⟨tb,t1,t2⟩:=rt;simp only[dI];(try clear rM);(try clear rJ);(try clear rF);(try clear su);(try clear r_)
  have rM:w4.cell? ⟨gP,0,none⟩=_:=hP.o.cell 0;have rJ:w4.cell? ⟨gP,1,none⟩=_:=hP.o.cell 1;have su:=hP.o.frozen 0;have r_:=hP.o.frozen 1;have rF:=hP.o.lt;go_wp2_with fail;clear rM rJ su r_ rF;have hX:=aF.new w4 360 #[.int .i64 (t1:Int),.int .i64 (t2:Int)];have dN:ah w4 (w4.alloc (.cells #[.int .i64 (t1:Int),.int .i64 (t2:Int)] 360)):=(ah.refl _).alloc _;have hPX:Hid (gP<w4.heap.size):=ζ hP.o.lt;replace hP:=ζ (hP.o.grows dN);replace hR:=ζ (hR.o.grows dN);replace h:=ζ (h.o.grows dN);replace hG:=ζ (hG.o.trans (ay.grows dN hb.o));replace hb:Hid (base≤(w4.alloc (.cells #[.int .i64 (t1:Int),.int .i64 (t2:Int)] 360)).heap.size):=ζ (Nat.le_trans hb.o dN.size);clear dN;generalize w4.alloc (.cells #[.int .i64 (t1:Int),.int .i64 (t2:Int)] 360)=w5 at *
  generalize w4.heap.size=gX at *
  replace hX:=ζ hX;refine (pR (i:=N) (j:=t1) h.o hb.o (Nat.lt_of_lt_of_le hI.o.1 Q5.o.2.2.1) (by have:=Q5.o;omega)).mono ?_;rintro e w6 ⟨rfl,xs6,h',dV⟩;replace h:=ζ h';clear h';(try replace hX:=ζ ((dV.mono nS.o).blk hX.o δ))
  (try replace hP:=ζ ((dV.mono nS.o).blk hP.o δ))
  (try replace hR:=ζ ((dV.mono nS.o).blk hR.o δ))
  replace hG:=ζ (hG.o.trans (dV.mono nS.o));replace hb:=ζ (Nat.le_trans hb0.o hG.o.size);clear dV;have Ov:=ζ (qX N t1 tb);(try clear rM);(try clear rJ);(try clear rF);(try clear su);(try clear r_)
  have rM:w6.cell? ⟨gP,0,none⟩=_:=hP.o.cell 0;have rJ:w6.cell? ⟨gP,1,none⟩=_:=hP.o.cell 1;have su:=hP.o.frozen 0;have r_:=hP.o.frozen 1;have rF:=hP.o.lt;(try clear PW);(try clear PV);(try clear Py);(try clear PU);(try clear PS)
  have PW:w6.cell? ⟨gX,0,none⟩=_:=hX.o.cell 0;have PV:w6.cell? ⟨gX,1,none⟩=_:=hX.o.cell 1;have PU:=hX.o.frozen 0;have PS:=hX.o.frozen 1;have Py:=hX.o.lt;go_wp2_with fail;clear rM rJ su r_ rF;clear PW PV PU PS Py;refine (pR (i:=t2) (j:=N+1) h.o hb.o (by rw[dR];exact htI.o.2) (by have:=Q5.o;have:=Ov.o;omega)).mono ?_;rintro e w7 ⟨rfl,xs7,h',dV⟩;replace h:=ζ h';clear h';(try replace hX:=ζ ((dV.mono nS.o).blk hX.o δ))
  (try replace hP:=ζ ((dV.mono nS.o).blk hP.o δ))
  (try replace hR:=ζ ((dV.mono nS.o).blk hR.o δ))
  replace hG:=ζ (hG.o.trans (dV.mono nS.o));replace hb:=ζ (Nat.le_trans hb0.o hG.o.size);clear dV;have au5:=ζ (qX t2 (N+1) (bg N t1 tb));have hI7:Hid (IL (N,N+1) (bg t2 (N+1) (bg N t1 tb))):=ζ (IL.mono hI.o (by rw[dR,dR];exact Q5.o.2.2.1));have hq7:Hid (bq.at_≤(bg t2 (N+1) (bg N t1 tb)).at_∧dY (bg t2 (N+1) (bg N t1 tb))≤8*(bg t2 (N+1) (bg N t1 tb)).at_+58):=ζ (by
   have h1:=Q5.o;have h2:=Ov.o;have h3:=au5.o;have h4:(bg t2 (N+1) (bg N t1 tb)).at_=tb.at_:=rfl;rw[h4];omega)
  clear Ov au5 hX htI hI hPX Q5;have hstep:Hid (R=if Bf s (bg t2 (N+1) (bg N t1 tb))=some 124 then gU s sub (f - 1) (N,N+1) (aK (bg t2 (N+1) (bg N t1 tb))) else (bg t2 (N+1) (bg N t1 tb),(N,N+1))):=hstep;generalize bg t2 (N+1) (bg N t1 tb)=b7 at *
  go_wp2_with fail;refine (eH h.o).mono ?_;rintro e w8 ⟨rfl,FX⟩;replace h:=ζ (h.o.grows FX);replace hG:=ζ (hG.o.trans (ay.grows FX hb.o));replace hb:=ζ (Nat.le_trans hb.o FX.size);(try replace aI:=ζ (aI.o.grows FX))
  (try replace hX:=ζ (hX.o.grows FX))
  (try replace hP:=ζ (hP.o.grows FX))
  (try replace hR:=ζ (hR.o.grows FX))
  clear FX;cases hp:Bf s b7 with
  | none=>
   simp only[wG,hp];have hst:Hid (R=(b7,(N,N+1))):=ζ (by rw[hstep.o,hp];rfl);clear hp hstep;have hstep:=hst;(try clear rM);(try clear rJ);(try clear rF);(try clear su);(try clear r_)
   have rM:w8.cell? ⟨gP,0,none⟩=_:=hP.o.cell 0;have rJ:w8.cell? ⟨gP,1,none⟩=_:=hP.o.cell 1;have su:=hP.o.frozen 0;have r_:=hP.o.frozen 1;have rF:=hP.o.lt;(try clear qc);(try clear pY);(try clear pI);(try clear pW);(try clear pV)
   have qc:w8.cell? ⟨gR,0,none⟩=_:=hR.o.cell 0;have pY:w8.cell? ⟨gR,1,none⟩=_:=hR.o.cell 1;have pW:=hR.o.frozen 0;have pV:=hR.o.frozen 1;have pI:=hR.o.lt;go_wp2;clear rM rJ su r_ rF;clear qc pY pW pV pI;clear hP;have jW:=hR.o.bD 0 (.int .i64 (N:Int));have oM:=jW.bD 1 (.int .i64 ((N:Int)+1));have rX:=(hG.o.dK (g:=gR) (i:=0) hgr.o hb0.o (.int .i64 (N:Int))).dK (g:=gR) (i:=1) hgr.o hb0.o (.int .i64 ((N:Int)+1));have yh:=(h.o.far hR.o δ (aj w8 ⟨gR,0,none⟩ (.int .i64 (N:Int)))).far jW δ (aj _ ⟨gR,1,none⟩ (.int .i64 ((N:Int)+1)));clear hR hG h jW;generalize (w8.setCell ⟨gR,0,none⟩ (.int .i64 (N:Int))).setCell ⟨gR,1,none⟩ (.int .i64 ((N:Int)+1))=w7 at *
   have e0:=oM.c0;have e1:=oM.c1;refine bodyPost_ret (v:=dI (N,N+1)) ?_ rfl ⟨?_,?_⟩
   ·simp[dI,results,Tryz.results249,go_sem,e0,e1]
   ·rw[hstep.o]
   ·rw[hstep.o];exact⟨_,_,yh,rX⟩
  | some c=>
   simp only[wG,hp];by_cases Ir:c = 124
   ·have i124:(c.toNat:Int)=124:=by rw[Ir];rfl
    have awg:((c.toNat:Int)==124)=true:=by rw[i124];rfl
    have hst:Hid (R=gU s sub (f - 1) (N,N+1) (aK b7)):=ζ (by rw[hstep.o,hp,Ir];rfl);have hlt:=ζ (iQ hp).2.1;have auy:b7.at_<100000:=by have:=hlt.o;omega
    clear hp hstep Ir;have c1:w8.cell? ⟨gB,1,none⟩=some (.int .i64 (b7.at_:Int)):=(h.o.blk.cell 1).trans rfl;have f1:=h.o.blk.frozen 1;have l1:=h.o.blk.lt;have i1: -9223372036854775808≤(b7.at_:Int)+1∧(b7.at_:Int)+1≤9223372036854775807:=ω;have Vb:=ay.own h.o (aj w8 ⟨gB,1,none⟩ (.int .i64 ((b7.at_:Int)+1)));have hA:=ζ h.o.Nh;have hP2:=ζ (Vb.blk hP.o δ);have jr:=ζ (Vb.blk hR.o δ);have fQ:=ζ (hG.o.trans (Vb.mono sZ.o));clear Vb;go_wp2;go_roundw
    case rel=>exact⟨f - 1,aK b7,xs7,sv4,ζ (by have:=hf.o;have:=hq7.o.1;simp only[aK];omega),hst,ζ (by have:=hlt.o;simp only[aK];omega),ζ hI7.o,ζ (by have:=hq7.o.2;rw[JX];simp only[aK];omega),hA,hP2,jr,fQ⟩
    case measure=>rw[Bg.o _ _ _ _ hA.o,Ib.o];have:=hq7.o.1;have:=hlt.o;simp only[aK];omega
   ·have i124:¬(c.toNat:Int)=124:=fun e=>Ir (UInt8.toNat_inj.1 (by show c.toNat=124;omega))
    have awg:((c.toNat:Int)==124)=false:=by simpa using i124
    have hst:Hid (R=(b7,(N,N+1))):=ζ (by rw[hstep.o,hp];simp[Ir]);clear hp hstep Ir;have hstep:=hst;(try clear rM);(try clear rJ);(try clear rF);(try clear su);(try clear r_)
    have rM:w8.cell? ⟨gP,0,none⟩=_:=hP.o.cell 0;have rJ:w8.cell? ⟨gP,1,none⟩=_:=hP.o.cell 1;have su:=hP.o.frozen 0;have r_:=hP.o.frozen 1;have rF:=hP.o.lt;(try clear qc);(try clear pY);(try clear pI);(try clear pW);(try clear pV)
    have qc:w8.cell? ⟨gR,0,none⟩=_:=hR.o.cell 0;have pY:w8.cell? ⟨gR,1,none⟩=_:=hR.o.cell 1;have pW:=hR.o.frozen 0;have pV:=hR.o.frozen 1;have pI:=hR.o.lt;go_wp2;clear rM rJ su r_ rF;clear qc pY pW pV pI;clear hP;have jW:=hR.o.bD 0 (.int .i64 (N:Int));have oM:=jW.bD 1 (.int .i64 ((N:Int)+1));have rX:=(hG.o.dK (g:=gR) (i:=0) hgr.o hb0.o (.int .i64 (N:Int))).dK (g:=gR) (i:=1) hgr.o hb0.o (.int .i64 ((N:Int)+1));have yh:=(h.o.far hR.o δ (aj w8 ⟨gR,0,none⟩ (.int .i64 (N:Int)))).far jW δ (aj _ ⟨gR,1,none⟩ (.int .i64 ((N:Int)+1)));clear hR hG h jW;generalize (w8.setCell ⟨gR,0,none⟩ (.int .i64 (N:Int))).setCell ⟨gR,1,none⟩ (.int .i64 ((N:Int)+1))=w7 at *
    have e0:=oM.c0;have e1:=oM.c1;refine bodyPost_ret (v:=dI (N,N+1)) ?_ rfl ⟨?_,?_⟩
    ·simp[dI,results,Tryz.results249,go_sem,e0,e1]
    ·rw[hstep.o]
    ·rw[hstep.o];exact⟨_,_,yh,rX⟩
theorem abR {s:List UInt8} (uf:s.length≤100):∀(d dp:Nat),d + dp=8→∀(w:World) (base gB:Nat) (b:PB) (xs:List xH) (sv:Value),jP w base gB s b xs sv→base≤w.heap.size→b.at_≤s.length→dY b≤8*b.at_+53→
 Calls Tryz.prog 249 #[.pointer (some ⟨gB,0,none⟩),.int .i64 (dp:Int)] w (jg base gB s w (jm s d b)):=by
 intro d;induction d with
 | zero=>
  intro dp hdp w base gB b xs sv h hb hW hc;have:dp=8:=ω;subst this;exact TI (sub:=none) ⟨fun _=>rfl,fun f hf=>by cases hf⟩ (fun f hf=>by cases hf) h hb uf hW hc
 | succ d ih=>
  intro dp hdp w base gB b xs sv h hb hW hc;refine TI (sub:=some (jm s d)) ⟨fun hf=>(by cases hf),fun f hf=> ?_⟩ (fun f hf=> ?_) h hb uf hW hc
  ·injection hf with hf
   subst hf;refine⟨ω,fun w base gB b xs sv h hb hW hc=> ?_⟩;exact ih (dp+1) ω w base gB b xs sv h hb hW hc
  ·injection hf with hf
   subst hf;intro b hb;have:=Gh s d b hb;exact⟨this.1,this.2.1.weak ω,this.2.2⟩
structure Ub (w:World) (base:Nat) (xs:List xH) (sv:Value) (aS:List wC):Prop where
 own:Own w base 377 3 IE sv xs
 len:xs.length=aS.length
 st:∀(i:Nat) x y,xs[i]? = some x→aS[i]? = some y→x.next=y.next∧Me w base x.pv y.set∧Own w base 3 1 encI x.fv y.free
theorem Ub.grows {w w':World} {base:Nat} {xs:List xH} {sv:Value} {aS:List wC} (h:Ub w base xs sv aS) (hg:ah w w'):Ub w' base xs sv aS:=
 ⟨h.own.grows hg,h.len,fun i x y h1 h2=>⟨(h.st i x y h1 h2).1,(h.st i x y h1 h2).2.1.grows hg,(h.st i x y h1 h2).2.2.grows hg⟩⟩
def awp (w:World) (base:Nat) (s:List UInt8) (v:Value):Option VQ→Prop
 | none=>v =.pointer none
 | some p=>∃g xs sv,v =.pointer (some ⟨g,0,none⟩)∧aF w g 363 #[.string ⟨s.toArray⟩,sv,.int .i64 (p.start:Int),.int .i64 (p.stop:Int)]∧Ub w base xs sv p.aS
def ak1 (s:List UInt8) (w:World) (e:Ending) (w':World):Prop:=
 ∃v,e =.returned (.tuple #[v,.int .i64 (uY s:Int)])∧awp w' w.heap.size s v (yG s)∧ah w w'
theorem Xd (w:World) (s:List UInt8):Calls Tryz.prog 221 #[.string ⟨s.toArray⟩] w (ak1 s w):=by
 by_cases uf:s.length≤100
 ·have hli:¬(s.length:Int)>100:=ω;have hpe:Hid (uY s = (wV s).1.err):=ζ (by unfold uY;rw[if_neg ω]);have JE:Hid (yG s = if (wV s).1.err≠0 then none else some ⟨(wV s).1.aS,(wV s).2.1,(wV s).2.2⟩):=ζ (by
   unfold yG;by_cases h0:(wV s).1.err≠0
   ·rw[if_pos (.inr h0),if_pos h0]
   ·rw[if_neg (by simp only[h0,or_false];omega),if_neg h0])
  have Yf:=aF.new w 358 #[.string ⟨s.toArray⟩,.int .i64 0,.int .i64 0,.slice none 0 0];have hg1:ah w (w.alloc (.cells #[.string ⟨s.toArray⟩,.int .i64 0,.int .i64 0,.slice none 0 0] 358)):=(ah.refl _).alloc _;have h:jP (w.alloc (.cells #[.string ⟨s.toArray⟩,.int .i64 0,.int .i64 0,.slice none 0 0] 358)) w.heap.size w.heap.size s ⟨0,0,[]⟩ [] (.slice none 0 0):=
   ⟨Yf,Nat.le_refl _,Own.iH _ _ _ _ _,rfl,fun i x y h1 _=>by simp at h1,fun i j x y g h1=>by simp at h1⟩
  have hG:=ζ (ay.grows (T:=TS) hg1 (Nat.le_refl _));have hb0:Hid (BLe w.heap.size w):=ζ (Nat.le_refl _);have hb:=ζ hg1.size;have sZ:Hid (∀t∈[358],t∈TS):=ζ (by intro t ht;simp[TS,TB] at *;exact .inr (.inl ht));have SN:Hid (wV s = (if (jm s 8 ⟨0,0,[]⟩).1.at_<s.length then bM 2 (jm s 8 ⟨0,0,[]⟩).1 else (jm s 8 ⟨0,0,[]⟩).1,(jm s 8 ⟨0,0,[]⟩).2)):=ζ rfl;replace h:=ζ h;clear Yf hg1;go_enter Tryz.func221,Tryz.ntmps221
  go_wp2_with fail;refine (abR uf 8 0 rfl _ _ _ _ _ _ h.o hb.o (Nat.zero_le _) (by simp[dY,jJ])).mono ?_;rintro e w2 ⟨rfl,xs,sv,h',dV⟩;replace h:=ζ h';clear h';(try replace hX:=ζ (dV.blk hX.o δ))
  (try replace hP:=ζ (dV.blk hP.o δ))
  (try replace hR:=ζ (dV.blk hR.o δ))
  replace hG:=ζ (hG.o.trans dV);replace hb:=ζ (Nat.le_trans hb0.o hG.o.size);clear dV;generalize jm s 8 ⟨0,0,[]⟩=rt at *
  obtain⟨tb,t1,t2⟩:=rt;simp only[dI];simp only at SN;generalize Y_:w.heap.size=gB at *
  replace Y_:=ζ Y_;have c1:w2.cell? ⟨gB,1,none⟩=some (.int .i64 (tb.at_:Int)):=(h.o.blk.cell 1).trans rfl;have l1:=h.o.blk.lt;by_cases hlt:tb.at_<s.length
  ·have amx:(tb.at_:Int)<(s.length:Int):=ω;rw[if_pos hlt] at SN;go_wp2_with fail;clear c1 l1;have hP:=aF.new w2 360 #[.int .i64 (t1:Int),.int .i64 (t2:Int)];have dN:ah w2 (w2.alloc (.cells #[.int .i64 (t1:Int),.int .i64 (t2:Int)] 360)):=(ah.refl _).alloc _;(try replace hX:=ζ (hX.o.grows dN))
   (try replace hR:=ζ (hR.o.grows dN))
   replace h:=ζ (h.o.grows dN);replace hG:=ζ (hG.o.trans (ay.grows dN hb.o));replace hb:=ζ (Nat.le_trans hb.o dN.size);clear dN;generalize w2.alloc (.cells #[.int .i64 (t1:Int),.int .i64 (t2:Int)] 360)=w3 at *
   generalize w2.heap.size=gP at *
   replace hP:=ζ hP;refine (jX h.o).mono ?_;rintro e w4 ⟨rfl,Yd,dP⟩;(try replace aI:=ζ (aI.o.tk (ay.own h.o dP) δ))
   (try replace hX:=ζ ((ay.own h.o dP).blk hX.o δ))
   (try replace hP:=ζ ((ay.own h.o dP).blk hP.o δ))
   (try replace hR:=ζ ((ay.own h.o dP).blk hR.o δ))
   replace hG:=ζ (hG.o.trans ((ay.own h.o dP).mono sZ.o));replace h:=ζ Yd;replace hb:=ζ (Nat.le_trans hb0.o hG.o.size);clear Yd dP;have aum:=Dp (e:=2) δ tb;have aja:Hid (uY s = (bM 2 tb).err):=ζ (by rw[hpe.o,SN.o]);have ai_:Hid (yG s = none):=ζ (by rw[JE.o,SN.o,if_pos aum]);have c2:w4.cell? ⟨gB,2,none⟩=some (.int .i64 ((bM 2 tb).err:Int)):=(h.o.blk.cell 2).trans rfl;have l2:=h.o.blk.lt;have hne:¬((bM 2 tb).err:Int)=0:=ω;clear aum SN hpe JE;generalize (bM 2 tb).err=er at *
   go_wp2_with fail;refine aG κ ?_;refine rK (.range 6) 0 ?_;iterate 6 refine aC ?_
   refine aB ?_;refine aJ κ (fun wN hN hS=> ?_);clear c2 l2;go_wp2;go_ret2;refine⟨.pointer none,?_,?_,?_⟩
   ·rw[aja.o];rfl
   ·rw[ai_.o];rfl
   ·exact (ah.of (Y_.o ▸ hG.o.below)).trans hN
  ·have amx:¬(tb.at_:Int)<(s.length:Int):=ω;rw[if_neg hlt] at SN;have c2:w2.cell? ⟨gB,2,none⟩=some (.int .i64 (tb.err:Int)):=(h.o.blk.cell 2).trans rfl;have aja:Hid (uY s = tb.err):=ζ (by rw[hpe.o,SN.o]);by_cases he:tb.err=0
   ·have ai_:Hid (yG s = some ⟨tb.aS,t1,t2⟩):=ζ (by rw[JE.o,SN.o,if_neg (by simpa using he)]);have c3:w2.cell? ⟨gB,3,none⟩=some sv:=(h.o.blk.cell 3).trans rfl;have hei:(tb.err:Int)=0:=ω;rw[he] at aja;clear SN hpe JE hlt he;obtain⟨sA,sc,V3,-,-,-⟩:=h.o.own.arr Ve;obtain⟨sn,qp⟩:∃n,n = xs.length:=⟨_,rfl⟩;rw[←qp] at V3;subst V3;clear qp;go_wp2_with fail;clear c1 c2 c3 l1;have hP:=aF.new w2 360 #[.int .i64 (t1:Int),.int .i64 (t2:Int)];have dN:ah w2 (w2.alloc (.cells #[.int .i64 (t1:Int),.int .i64 (t2:Int)] 360)):=(ah.refl _).alloc _;(try replace hX:=ζ (hX.o.grows dN))
    (try replace hR:=ζ (hR.o.grows dN))
    replace h:=ζ (h.o.grows dN);replace hG:=ζ (hG.o.trans (ay.grows dN hb.o));replace hb:=ζ (Nat.le_trans hb.o dN.size);clear dN;generalize w2.alloc (.cells #[.int .i64 (t1:Int),.int .i64 (t2:Int)] 360)=w3 at *
    generalize w2.heap.size=gP at *
    replace hP:=ζ hP;have c3:w3.cell? ⟨gB,3,none⟩=some (.slice sA sn sc):=(h.o.blk.cell 3).trans rfl;have l1:=h.o.blk.lt;have rM:=hP.o.c0;have rJ:=hP.o.c1;have rF:=hP.o.lt;clear hP;refine aG κ ?_;refine rK (.range 10) 3 ?_;iterate 10 refine aC ?_
    refine aB ?_;refine aH [10] κ σ (fun wN hN hS=>(au.cons rfl (fun K' hK=> ?_) au.nil));replace h:=ζ (h.o.grows hN);replace hG:=ζ (hG.o.trans (ay.grows hN hb.o));replace hb:=ζ (Nat.le_trans hb.o hN.size);try replace iZ:=ζ (iZ.o.grows hN)
    clear hN;go_simp;refine hK.o _ _ ?_ (fun hS=> ?_)
    ·exact ah.trans (by assumption) ((ah.refl _).alloc _)
    have iZ:=ζ (aF.new wN 363 #[.string ⟨s.toArray⟩,.slice sA sn sc,.int .i64 (t1:Int),.int .i64 (t2:Int)]);have dN:ah wN (wN.alloc (.cells #[.string ⟨s.toArray⟩,.slice sA sn sc,.int .i64 (t1:Int),.int .i64 (t2:Int)] 363)):=(ah.refl _).alloc _;replace h:=ζ (h.o.grows dN);replace hG:=ζ (hG.o.trans (ay.grows dN hb.o));replace hb:=ζ (Nat.le_trans hb.o dN.size);clear dN;obtain⟨gT,Ij⟩:∃g,g = wN.heap.size:=⟨_,rfl⟩;rw[←Ij] at iZ;replace Ij:=ζ Ij;clear hK hS;refine rK [11,12] 0 ?_;iterate 2 refine aC ?_
    refine aB ?_;refine aJ κ (fun wN hN hS=> ?_);replace h:=ζ (h.o.grows hN);replace hG:=ζ (hG.o.trans (ay.grows hN hb.o));replace hb:=ζ (Nat.le_trans hb.o hN.size);try replace iZ:=ζ (iZ.o.grows hN)
    clear c3 l1 rM rJ rF;go_wp2;go_ret2;refine⟨.pointer (some ⟨gT,0,none⟩),?_,?_,ah.of (Y_.o ▸ hG.o.below)⟩
    ·rw[aja.o,Ij.o];rfl
    ·rw[ai_.o,Y_.o];exact⟨_,xs,.slice sA sn sc,rfl,iZ.o,h.o.own,h.o.len,h.o.st⟩
   ·have ai_:Hid (yG s = none):=ζ (by rw[JE.o,SN.o,if_pos he]);have hei:¬(tb.err:Int)=0:=ω;clear SN hpe JE hlt he;go_wp2_with fail;clear c1 c2 l1;have hP:=aF.new w2 360 #[.int .i64 (t1:Int),.int .i64 (t2:Int)];have dN:ah w2 (w2.alloc (.cells #[.int .i64 (t1:Int),.int .i64 (t2:Int)] 360)):=(ah.refl _).alloc _;(try replace hX:=ζ (hX.o.grows dN))
    (try replace hR:=ζ (hR.o.grows dN))
    replace h:=ζ (h.o.grows dN);replace hG:=ζ (hG.o.trans (ay.grows dN hb.o));replace hb:=ζ (Nat.le_trans hb.o dN.size);clear dN;generalize w2.alloc (.cells #[.int .i64 (t1:Int),.int .i64 (t2:Int)] 360)=w3 at *
    generalize w2.heap.size=gP at *
    replace hP:=ζ hP;have c2:w3.cell? ⟨gB,2,none⟩=some (.int .i64 (tb.err:Int)):=(h.o.blk.cell 2).trans rfl;have l1:=h.o.blk.lt;refine aG κ ?_;refine rK (.range 6) 0 ?_;iterate 6 refine aC ?_
    refine aB ?_;refine aJ κ (fun wN hN hS=> ?_);clear c2 l1;go_wp2;go_ret2;refine⟨.pointer none,?_,?_,?_⟩
    ·rw[aja.o];rfl
    ·rw[ai_.o];rfl
    ·exact (ah.of (Y_.o ▸ hG.o.below)).trans hN
 ·have hli:(s.length:Int)>100:=ω;have hpe:uY s = 4:=by unfold uY;rw[if_pos ω]
  have JE:yG s = none:=by unfold yG;rw[if_pos (.inl ω)]
  replace hpe:=ζ hpe;replace JE:=ζ JE;go_enter Tryz.func221,Tryz.ntmps221
  go_wp2;go_ret2;refine⟨.pointer none,?_,?_,ah.refl w⟩
  ·rw[hpe.o];rfl
  ·rw[JE.o];rfl
end Go.Proofs.YtbhikkgpcmkonaaGreatDoor
