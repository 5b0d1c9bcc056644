/- Parts: PatM PatN PatO PatR -/
import Derived.Test.YtbhikkgpcmkonaaGreatDoorEn0
import Derived.Test.YtbhikkgpcmkonaaGreatDoorEn14
set_option maxRecDepth 100000
set_option maxHeartbeats 12800000
namespace Go.Proofs.YtbhikkgpcmkonaaGreatDoor
open Go.RowKit
theorem F8 {w:World} {g k:Nat} {t u:TypeId} {cs ds:Array Value} (h:aF w g t cs) (k':aF w k u ds) (hne:t≠u) (e:g = k):False:=by
 subst e;unfold aF at h k';rw[h] at k';simp only[Option.some.injEq,Obj.cells.injEq] at k';exact hne k'.2.1
theorem abQ {w:World} {base gB dp:Nat} {s:List UInt8} {b:PB} {c:UInt8} {sub:Option (PB→PB×rD)} {f:PB→PB×rD} {xs:List vP} {sv:Value} (wV:U3 s sub dp) (hsp:KQ s 11 sub) (h:jd w base gB s b xs sv) (hb:base≤w.heap.size) (xR:s.length≤100) (hcs:s[b.at_]? = some c) (hc:dR b≤8*b.at_+61) (vU:c = 40) (YH:sub=some f) :
 Calls Tryz.prog 274 #[.pointer (some ⟨gB,0,none⟩),.int .i64 (dp:Int)] w (gY base gB s w (bW s sub c b)):=by
 have i40:(c.toNat:Int)=40:=by rw[vU];rfl
 have AQ:Hid ((aI b).at_≤s.length):=ζ (by have:=(List.getElem?_eq_some_iff.1 hcs).1;simp only[aI];omega);obtain⟨hdp,YG⟩:=wV.2 f YH;have ayG:¬(dp:Int)=8:=ω;have awd:(dp:Int)≤8∧0≤(dp:Int):=ω;have yQ:=hsp f YH (aI b) AQ.o;have hat:Hid (bW s sub c b = (aI (if yc s (f (aI b)).1=some 41 then (f (aI b)).1 else aZ 2 (f (aI b)).1),(f (aI b)).2)):=ζ (by unfold bW;rw[if_pos vU,YH]);have ahS:Hid (dR (aI b)≤8*(aI b).at_+53):=ζ (by rw[FZ];simp only[aI];omega);replace YG:=ζ YG;replace yQ:=ζ yQ;clear vU hsp wV YH;have hlt:b.at_<s.length:=(List.getElem?_eq_some_iff.1 hcs).1;have qF:Hid (∀t∈[358],t∈TS):=ζ (by intro t ht;simp[TS,TB] at *;exact .inr (.inl ht));have lq:Hid (∀t∈TB,t∈TS):=ζ (fun t ht=>List.mem_cons_of_mem _ ht);have Xy:Hid (∀t∈TC,t∈TS):=ζ (by intro t ht;simp[TS,TB,TC] at *;rcases ht with h | h;exact .inr (.inl h);exact .inl h);have hR:=aF.new w 360 #[.int .i64 0,.int .i64 0];have hg1:ah w (w.alloc (.cells #[.int .i64 0,.int .i64 0] 360)):=(ah.refl _).alloc _;replace hR:=ζ hR;have hG:=ζ (au.grows (T:=TS) hg1 hb);replace h:=ζ (h.grows hg1);have hb0:Hid (BLe base w):=ζ hb;replace hb:=ζ (Nat.le_trans hb hg1.size);have hgr:Hid (GLe w w.heap.size):=ζ (Nat.le_refl _);have hci:((b.at_:Nat):Int)<(s.length:Int):=ω;have zU:∀h:b.at_<(⟨s.toArray⟩:ByteArray).size,(⟨s.toArray⟩:ByteArray)[b.at_]'h = c:=fun h=>by
  show s.toArray[b.at_]=c
  rw[List.getElem_toArray];exact (List.getElem?_eq_some_iff.1 hcs).2
 have c0:∀w',jd w' base gB s b xs sv→w'.cell? ⟨gB,0,none⟩=some (.string ⟨s.toArray⟩):=fun w' hh=>(hh.blk.cell 0).trans rfl
 have c1:∀w',jd w' base gB s b xs sv→w'.cell? ⟨gB,1,none⟩=some (.int .i64 (b.at_:Int)):=fun w' hh=>(hh.blk.cell 1).trans rfl
 replace c0:=c0 _ h.o;replace c1:=c1 _ h.o;have l1:=h.o.blk.lt;clear hg1;go_enter Tryz.func274,Tryz.ntmps274
 go_wp2_with fail;generalize w.alloc (.cells #[.int .i64 0,.int .i64 0] 360)=w0 at *
 generalize w.heap.size=gR at *
 refine aH κ ?_;refine rK (.range 10) 0 ?_;iterate 10 refine aC ?_
 refine aB ?_;refine aJ κ (fun wN hN hS=> ?_);clear c0 c1 l1;replace hR:=ζ (hR.o.grows hN);replace h:=ζ (h.o.grows hN);replace hG:=ζ (hG.o.trans (au.grows hN hb.o));replace hb:=ζ (Nat.le_trans hb.o hN.size);clear hN hS;have c1:wN.cell? ⟨gB,1,none⟩=some (.int .i64 ((b).at_:Int)):=(h.o.blk.cell 1).trans rfl;have f1:=h.o.blk.frozen 1;have l1:=h.o.blk.lt;have i1: -9223372036854775808≤((b).at_:Int)+1∧((b).at_:Int)+1≤9223372036854775807:=by first | omega | (simp only[aI];omega)
 have hA:=ζ h.o.Jf;have kN:=ζ (hG.o.trans ((au.own h.o (aj wN ⟨gB,1,none⟩ (.int .i64 (((b).at_:Int)+1)))).mono qF.o));have hsz:Hid ((wN.setCell ⟨gB,1,none⟩ (.int .i64 (((b).at_:Int)+1))).heap.size=wN.heap.size):=ζ σ;go_wp2_with fail;(try replace aG:=ζ (aG.o.tk (au.own h.o (aj wN ⟨gB,1,none⟩ (.int .i64 (((b).at_:Int)+1)))) δ))
 (try replace hX:=ζ ((au.own h.o (aj wN ⟨gB,1,none⟩ (.int .i64 (((b).at_:Int)+1)))).blk hX.o δ))
 (try replace hP:=ζ ((au.own h.o (aj wN ⟨gB,1,none⟩ (.int .i64 (((b).at_:Int)+1)))).blk hP.o δ))
 (try replace hR:=ζ ((au.own h.o (aj wN ⟨gB,1,none⟩ (.int .i64 (((b).at_:Int)+1)))).blk hR.o δ))
 clear c1 f1 l1 i1 h hG;generalize wN.setCell ⟨gB,1,none⟩ (.int .i64 (((b).at_:Int)+1))=w2 at *
 have h:=hA;have hG:=kN;clear hA kN;replace hb:=ζ (Nat.le_trans hb0.o hG.o.size);have dw:ah w2 (w2.alloc (.cells #[.int .u64 0,.int .u64 0,.int .u64 0,.int .u64 0] 385)):=(ah.refl _).alloc _;replace hR:=ζ (hR.o.grows dw);replace h:=ζ (h.o.grows dw);replace hG:=ζ (hG.o.trans (au.grows dw hb.o));replace hb:Hid (base≤(w2.alloc (.cells #[.int .u64 0,.int .u64 0,.int .u64 0,.int .u64 0] 385)).heap.size):=ζ (Nat.le_trans hb.o dw.size);clear dw;generalize w2.alloc (.cells #[.int .u64 0,.int .u64 0,.int .u64 0,.int .u64 0] 385)=w3 at *
 refine (YG.o _ _ _ _ _ _ h.o hb.o AQ.o ahS.o).mono ?_;rintro e w4 ⟨rfl,xs4,sv4,h',dJ⟩;replace h:=ζ h';(try replace hX:=ζ (dJ.blk hX.o δ))
 (try replace hP:=ζ (dJ.blk hP.o δ))
 (try replace hR:=ζ (dJ.blk hR.o δ))
 replace hG:=ζ (hG.o.trans dJ);replace hb:=ζ (Nat.le_trans hb0.o hG.o.size);clear h' dJ YG ahS;generalize f (aI b)=r at *
 obtain⟨rb,p1,p2⟩:=r;simp only[dh];have YQ:=yQ.o.2.1;replace YQ:=ζ YQ;cases hp:yc s rb with
 | none=>
  have nT:sW s rb=.tuple #[.int .u8 0,.bool false]:=by simp only[sW,hp]
  have TU:Hid (bW s sub c b = (aI (aZ 2 rb),(p1,p2))):=ζ (by rw[hat.o,hp];rfl);clear hp hat;go_wp2_with fail;have hP:=aF.new w4 360 #[.int .i64 (p1:Int),.int .i64 (p2:Int)];have dw:ah w4 (w4.alloc (.cells #[.int .i64 (p1:Int),.int .i64 (p2:Int)] 360)):=(ah.refl _).alloc _;(try replace hX:=ζ (hX.o.grows dw))
  (try replace hR:=ζ (hR.o.grows dw))
  replace h:=ζ (h.o.grows dw);replace hG:=ζ (hG.o.trans (au.grows dw hb.o));replace hb:=ζ (Nat.le_trans hb.o dw.size);clear dw;generalize w4.alloc (.cells #[.int .i64 (p1:Int),.int .i64 (p2:Int)] 360)=w5 at *
  generalize w4.heap.size=gP at *
  replace hP:=ζ hP;refine (dQ h.o).mono ?_;rintro e w6 ⟨rfl,pU⟩;replace h:=ζ (h.o.grows pU);replace hG:=ζ (hG.o.trans (au.grows pU hb.o));replace hb:=ζ (Nat.le_trans hb.o pU.size);(try replace aG:=ζ (aG.o.grows pU))
  (try replace hX:=ζ (hX.o.grows pU))
  (try replace hP:=ζ (hP.o.grows pU))
  (try replace hR:=ζ (hR.o.grows pU))
  clear pU;rw[nT];clear nT;go_wp2_with fail;refine (ji h.o).mono ?_;rintro e w7 ⟨rfl,aeY,FD⟩;(try replace aG:=ζ (aG.o.tk (au.own h.o FD) δ))
  (try replace hX:=ζ ((au.own h.o FD).blk hX.o δ))
  (try replace hP:=ζ ((au.own h.o FD).blk hP.o δ))
  (try replace hR:=ζ ((au.own h.o FD).blk hR.o δ))
  replace hG:=ζ (hG.o.trans ((au.own h.o FD).mono qF.o));replace h:=ζ aeY;replace hb:=ζ (Nat.le_trans hb0.o hG.o.size);clear aeY FD;have hfa:(aZ 2 rb).at_<100000:=by rw[dF];have:=YQ.o.1;omega
  have c1:w7.cell? ⟨gB,1,none⟩=some (.int .i64 (((aZ 2 rb)).at_:Int)):=(h.o.blk.cell 1).trans rfl;have f1:=h.o.blk.frozen 1;have l1:=h.o.blk.lt;have i1: -9223372036854775808≤(((aZ 2 rb)).at_:Int)+1∧(((aZ 2 rb)).at_:Int)+1≤9223372036854775807:=ω;have Qw:=au.own h.o (aj w7 ⟨gB,1,none⟩ (.int .i64 ((((aZ 2 rb)).at_:Int)+1)));have hA:=ζ h.o.Jf;have hP2:=ζ (Qw.blk hP.o δ);have qV:=ζ (Qw.blk hR.o δ);have fG:=ζ (hG.o.trans (Qw.mono qF.o));have hPB:¬gP=gB:=fun e=>F8 hP.o h.o.blk δ e
  have XB:¬gR=gB:=fun e=>F8 hR.o h.o.blk δ e
  have hBR:¬gB=gR:=fun e=>XB e.symm
  (try clear o_);(try clear oZ);(try clear oQ);(try clear qc);(try clear pY)
  have o_:w7.cell? ⟨gP,0,none⟩=_:=hP.o.cell 0;have oZ:w7.cell? ⟨gP,1,none⟩=_:=hP.o.cell 1;have qc:=hP.o.frozen 0;have pY:=hP.o.frozen 1;have oQ:=hP.o.lt;(try clear nH);(try clear nG);(try clear mV);(try clear ny);(try clear ni)
  have nH:w7.cell? ⟨gR,0,none⟩=_:=hR.o.cell 0;have nG:w7.cell? ⟨gR,1,none⟩=_:=hR.o.cell 1;have ny:=hR.o.frozen 0;have ni:=hR.o.frozen 1;have mV:=hR.o.lt;clear Qw;go_wp2;clear c1 f1 l1 i1 hPB XB hBR;clear o_ oZ qc pY oQ;clear nH nG ny ni mV;clear hP hR hG h;have h:=hA;have hR:=qV;have hG:=fG;clear hA hP2 qV fG;generalize w7.setCell ⟨gB,1,none⟩ (.int .i64 ((((aZ 2 rb)).at_:Int)+1))=wz at *
  have jh:=hR.o.aW 0 (.int .i64 (p1:Int));have lX:=jh.aW 1 (.int .i64 (p2:Int));have pR:=(hG.o.dn (g:=gR) (i:=0) hgr.o hb0.o (.int .i64 (p1:Int))).dn (g:=gR) (i:=1) hgr.o hb0.o (.int .i64 (p2:Int));have uM:=(h.o.far hR.o δ (aj wz ⟨gR,0,none⟩ (.int .i64 (p1:Int)))).far jh δ (aj _ ⟨gR,1,none⟩ (.int .i64 (p2:Int)));clear hR hG h jh;generalize (wz.setCell ⟨gR,0,none⟩ (.int .i64 (p1:Int))).setCell ⟨gR,1,none⟩ (.int .i64 (p2:Int))=w7 at *
  have e0:=lX.c0;have e1:=lX.c1;refine bodyPost_ret (v:=dh (p1,p2)) ?_ rfl ⟨?_,?_⟩
  ·simp[dh,results,Tryz.results274,go_sem,e0,e1]
  ·rw[TU.o]
  ·rw[TU.o];exact⟨_,_,uM,pR⟩
 | some d=>
  have nT:sW s rb=.tuple #[.int .u8 (d.toNat:Int),.bool true]:=by simp only[sW,hp]
  by_cases h41:d = 41
  ·have i41:(d.toNat:Int)=41:=by rw[h41];rfl
   have TU:Hid (bW s sub c b = (aI rb,(p1,p2))):=ζ (by rw[hat.o,hp];simp[h41]);clear hp hat h41;go_wp2_with fail;have hP:=aF.new w4 360 #[.int .i64 (p1:Int),.int .i64 (p2:Int)];have dw:ah w4 (w4.alloc (.cells #[.int .i64 (p1:Int),.int .i64 (p2:Int)] 360)):=(ah.refl _).alloc _;(try replace hX:=ζ (hX.o.grows dw))
   (try replace hR:=ζ (hR.o.grows dw))
   replace h:=ζ (h.o.grows dw);replace hG:=ζ (hG.o.trans (au.grows dw hb.o));replace hb:=ζ (Nat.le_trans hb.o dw.size);clear dw;generalize w4.alloc (.cells #[.int .i64 (p1:Int),.int .i64 (p2:Int)] 360)=w5 at *
   generalize w4.heap.size=gP at *
   replace hP:=ζ hP;refine (dQ h.o).mono ?_;rintro e w6 ⟨rfl,pU⟩;replace h:=ζ (h.o.grows pU);replace hG:=ζ (hG.o.trans (au.grows pU hb.o));replace hb:=ζ (Nat.le_trans hb.o pU.size);(try replace aG:=ζ (aG.o.grows pU))
   (try replace hX:=ζ (hX.o.grows pU))
   (try replace hP:=ζ (hP.o.grows pU))
   (try replace hR:=ζ (hR.o.grows pU))
   clear pU;rw[nT];clear nT;have hw1:rb.at_<100000:=by have:=YQ.o.1;omega
   have c1:w6.cell? ⟨gB,1,none⟩=some (.int .i64 ((rb).at_:Int)):=(h.o.blk.cell 1).trans rfl;have f1:=h.o.blk.frozen 1;have l1:=h.o.blk.lt;have i1: -9223372036854775808≤((rb).at_:Int)+1∧((rb).at_:Int)+1≤9223372036854775807:=ω;have Qw:=au.own h.o (aj w6 ⟨gB,1,none⟩ (.int .i64 (((rb).at_:Int)+1)));have hA:=ζ h.o.Jf;have hP2:=ζ (Qw.blk hP.o δ);have qV:=ζ (Qw.blk hR.o δ);have fG:=ζ (hG.o.trans (Qw.mono qF.o));have hPB:¬gP=gB:=fun e=>F8 hP.o h.o.blk δ e
   have XB:¬gR=gB:=fun e=>F8 hR.o h.o.blk δ e
   have hBR:¬gB=gR:=fun e=>XB e.symm
   (try clear o_);(try clear oZ);(try clear oQ);(try clear qc);(try clear pY)
   have o_:w6.cell? ⟨gP,0,none⟩=_:=hP.o.cell 0;have oZ:w6.cell? ⟨gP,1,none⟩=_:=hP.o.cell 1;have qc:=hP.o.frozen 0;have pY:=hP.o.frozen 1;have oQ:=hP.o.lt;(try clear nH);(try clear nG);(try clear mV);(try clear ny);(try clear ni)
   have nH:w6.cell? ⟨gR,0,none⟩=_:=hR.o.cell 0;have nG:w6.cell? ⟨gR,1,none⟩=_:=hR.o.cell 1;have ny:=hR.o.frozen 0;have ni:=hR.o.frozen 1;have mV:=hR.o.lt;clear Qw;go_wp2;clear c1 f1 l1 i1 hPB XB hBR;clear o_ oZ qc pY oQ;clear nH nG ny ni mV;clear hP hR hG h;have h:=hA;have hR:=qV;have hG:=fG;clear hA hP2 qV fG;generalize w6.setCell ⟨gB,1,none⟩ (.int .i64 (((rb).at_:Int)+1))=wz at *
   have jh:=hR.o.aW 0 (.int .i64 (p1:Int));have lX:=jh.aW 1 (.int .i64 (p2:Int));have pR:=(hG.o.dn (g:=gR) (i:=0) hgr.o hb0.o (.int .i64 (p1:Int))).dn (g:=gR) (i:=1) hgr.o hb0.o (.int .i64 (p2:Int));have uM:=(h.o.far hR.o δ (aj wz ⟨gR,0,none⟩ (.int .i64 (p1:Int)))).far jh δ (aj _ ⟨gR,1,none⟩ (.int .i64 (p2:Int)));clear hR hG h jh;generalize (wz.setCell ⟨gR,0,none⟩ (.int .i64 (p1:Int))).setCell ⟨gR,1,none⟩ (.int .i64 (p2:Int))=w7 at *
   have e0:=lX.c0;have e1:=lX.c1;refine bodyPost_ret (v:=dh (p1,p2)) ?_ rfl ⟨?_,?_⟩
   ·simp[dh,results,Tryz.results274,go_sem,e0,e1]
   ·rw[TU.o]
   ·rw[TU.o];exact⟨_,_,uM,pR⟩
  ·have i41:¬(d.toNat:Int)=41:=fun e=>h41 (UInt8.toNat_inj.1 (by show d.toNat=41;omega))
   have TU:Hid (bW s sub c b = (aI (aZ 2 rb),(p1,p2))):=ζ (by rw[hat.o,hp];simp[h41]);clear hp hat h41;go_wp2_with fail;have hP:=aF.new w4 360 #[.int .i64 (p1:Int),.int .i64 (p2:Int)];have dw:ah w4 (w4.alloc (.cells #[.int .i64 (p1:Int),.int .i64 (p2:Int)] 360)):=(ah.refl _).alloc _;(try replace hX:=ζ (hX.o.grows dw))
   (try replace hR:=ζ (hR.o.grows dw))
   replace h:=ζ (h.o.grows dw);replace hG:=ζ (hG.o.trans (au.grows dw hb.o));replace hb:=ζ (Nat.le_trans hb.o dw.size);clear dw;generalize w4.alloc (.cells #[.int .i64 (p1:Int),.int .i64 (p2:Int)] 360)=w5 at *
   generalize w4.heap.size=gP at *
   replace hP:=ζ hP;refine (dQ h.o).mono ?_;rintro e w6 ⟨rfl,pU⟩;replace h:=ζ (h.o.grows pU);replace hG:=ζ (hG.o.trans (au.grows pU hb.o));replace hb:=ζ (Nat.le_trans hb.o pU.size);(try replace aG:=ζ (aG.o.grows pU))
   (try replace hX:=ζ (hX.o.grows pU))
   (try replace hP:=ζ (hP.o.grows pU))
   (try replace hR:=ζ (hR.o.grows pU))
   clear pU;rw[nT];clear nT;go_wp2_with fail;refine (ji h.o).mono ?_;rintro e w7 ⟨rfl,aeY,FD⟩;(try replace aG:=ζ (aG.o.tk (au.own h.o FD) δ))
   (try replace hX:=ζ ((au.own h.o FD).blk hX.o δ))
   (try replace hP:=ζ ((au.own h.o FD).blk hP.o δ))
   (try replace hR:=ζ ((au.own h.o FD).blk hR.o δ))
   replace hG:=ζ (hG.o.trans ((au.own h.o FD).mono qF.o));replace h:=ζ aeY;replace hb:=ζ (Nat.le_trans hb0.o hG.o.size);clear aeY FD;have hfa:(aZ 2 rb).at_<100000:=by rw[dF];have:=YQ.o.1;omega
   have hw1:rb.at_<100000:=by have:=YQ.o.1;omega
   have c1:w7.cell? ⟨gB,1,none⟩=some (.int .i64 (((aZ 2 rb)).at_:Int)):=(h.o.blk.cell 1).trans rfl;have f1:=h.o.blk.frozen 1;have l1:=h.o.blk.lt;have i1: -9223372036854775808≤(((aZ 2 rb)).at_:Int)+1∧(((aZ 2 rb)).at_:Int)+1≤9223372036854775807:=ω;have Qw:=au.own h.o (aj w7 ⟨gB,1,none⟩ (.int .i64 ((((aZ 2 rb)).at_:Int)+1)));have hA:=ζ h.o.Jf;have hP2:=ζ (Qw.blk hP.o δ);have qV:=ζ (Qw.blk hR.o δ);have fG:=ζ (hG.o.trans (Qw.mono qF.o));have hPB:¬gP=gB:=fun e=>F8 hP.o h.o.blk δ e
   have XB:¬gR=gB:=fun e=>F8 hR.o h.o.blk δ e
   have hBR:¬gB=gR:=fun e=>XB e.symm
   (try clear o_);(try clear oZ);(try clear oQ);(try clear qc);(try clear pY)
   have o_:w7.cell? ⟨gP,0,none⟩=_:=hP.o.cell 0;have oZ:w7.cell? ⟨gP,1,none⟩=_:=hP.o.cell 1;have qc:=hP.o.frozen 0;have pY:=hP.o.frozen 1;have oQ:=hP.o.lt;(try clear nH);(try clear nG);(try clear mV);(try clear ny);(try clear ni)
   have nH:w7.cell? ⟨gR,0,none⟩=_:=hR.o.cell 0;have nG:w7.cell? ⟨gR,1,none⟩=_:=hR.o.cell 1;have ny:=hR.o.frozen 0;have ni:=hR.o.frozen 1;have mV:=hR.o.lt;clear Qw;go_wp2;clear c1 f1 l1 i1 hPB XB hBR;clear o_ oZ qc pY oQ;clear nH nG ny ni mV;clear hP hR hG h;have h:=hA;have hR:=qV;have hG:=fG;clear hA hP2 qV fG;generalize w7.setCell ⟨gB,1,none⟩ (.int .i64 ((((aZ 2 rb)).at_:Int)+1))=wz at *
   have jh:=hR.o.aW 0 (.int .i64 (p1:Int));have lX:=jh.aW 1 (.int .i64 (p2:Int));have pR:=(hG.o.dn (g:=gR) (i:=0) hgr.o hb0.o (.int .i64 (p1:Int))).dn (g:=gR) (i:=1) hgr.o hb0.o (.int .i64 (p2:Int));have uM:=(h.o.far hR.o δ (aj wz ⟨gR,0,none⟩ (.int .i64 (p1:Int)))).far jh δ (aj _ ⟨gR,1,none⟩ (.int .i64 (p2:Int)));clear hR hG h jh;generalize (wz.setCell ⟨gR,0,none⟩ (.int .i64 (p1:Int))).setCell ⟨gR,1,none⟩ (.int .i64 (p2:Int))=w7 at *
   have e0:=lX.c0;have e1:=lX.c1;refine bodyPost_ret (v:=dh (p1,p2)) ?_ rfl ⟨?_,?_⟩
   ·simp[dh,results,Tryz.results274,go_sem,e0,e1]
   ·rw[TU.o]
   ·rw[TU.o];exact⟨_,_,uM,pR⟩
theorem afU {w:World} {base gB dp:Nat} {s:List UInt8} {b:PB} {c:UInt8} {sub:Option (PB→PB×rD)} {xs:List vP} {sv:Value} (wV:U3 s sub dp) (hsp:KQ s 11 sub) (h:jd w base gB s b xs sv) (hb:base≤w.heap.size) (xR:s.length≤100) (hcs:s[b.at_]? = some c) (hc:dR b≤8*b.at_+61) :
 Calls Tryz.prog 274 #[.pointer (some ⟨gB,0,none⟩),.int .i64 (dp:Int)] w (gY base gB s w (bW s sub c b)):=by
 by_cases vU:c = 40
 ·cases YH:sub with
  | none=>rw[←YH];exact abR wV hsp h hb xR hcs hc vU YH
  | some f=>rw[←YH];exact abQ wV hsp h hb xR hcs hc vU YH
 ·by_cases BN:c = 91
  ·exact Yd h hb xR hcs hc vU BN
  ·by_cases IB:c = 46
   ·exact afT h hb xR hcs hc vU BN IB
   ·by_cases OM:c = 92
    ·cases hp:yc s (aI b) with
     | none=>exact UR h hb xR hcs hc vU BN IB OM hp
     | some d=>exact Yb h hb xR hcs hc vU BN IB OM hp
    ·by_cases ho:aaj c = true
     ·exact afS h hb xR hcs hc vU BN IB OM ho
     ·exact Yc h hb xR hcs hc vU BN IB OM ho
theorem afV {s:List UInt8} {k:Nat} {sub:Option (PB→PB×rD)} {c:UInt8} {b:PB} (hs:KQ s k sub) (hb:b.at_<s.length):b.at_+1≤(bW s sub c b).1.at_:=by
 have ha:(aI b).at_=b.at_+1:=rfl;have AQ:(aI b).at_≤s.length:=ω;have ho:∀ws z,(jy ws z).1.at_=z.at_:=fun ws z=>(tV ws z).2.2.1
 unfold bW;split
 ·split
  ·rw[ho,dF];omega
  ·rename_i f;have h1:=(hs f rfl (aI b) AQ).1.at_;simp only;split
   ·show _≤(f (aI b)).1.at_+1;omega
   ·show _≤(aZ 2 (f (aI b)).1).at_+1;rw[dF];omega
 ·split
  ·have h1:=(F7 (s:=s) (b:=aI b) (WP.of_le AQ)).1.at_;simp only;rw[ho];omega
  ·split
   ·rw[ho];omega
   ·split
    ·split
     ·rw[ho];show _≤(aZ 2 (aI b)).at_+1;rw[dF];omega
     ·rw[ho];show _≤(aI b).at_+1;omega
    ·split
     ·rw[ho,dF];omega
     ·rw[ho];omega
theorem ag6 {w:World} {base gB dp:Nat} {s:List UInt8} {b:PB} {sub:Option (PB→PB×rD)} {xs:List vP} {sv:Value} (wV:U3 s sub dp) (hsp:KQ s 11 sub) (h:jd w base gB s b xs sv) (hb:base≤w.heap.size) (xR:s.length≤100) (hW:WP s 12 b) (hc:dR b≤8*b.at_+60) :
 Calls Tryz.prog 265 #[.pointer (some ⟨gB,0,none⟩),.int .i64 (dp:Int)] w (gY base gB s w (lM s sub b)):=by
 have qF:Hid (∀t∈[358],t∈TS):=ζ (by intro t ht;simp[TS,TB] at *;exact .inr (.inl ht));have lq:Hid (∀t∈TB,t∈TS):=ζ (fun t ht=>List.mem_cons_of_mem _ ht);have hR:=aF.new w 360 #[.int .i64 0,.int .i64 0];have hg1:ah w (w.alloc (.cells #[.int .i64 0,.int .i64 0] 360)):=(ah.refl _).alloc _;replace hR:=ζ hR;have hG:=ζ (au.grows (T:=TS) hg1 hb);replace h:=ζ (h.grows hg1);have hb0:Hid (BLe base w):=ζ hb;replace hb:=ζ (Nat.le_trans hb hg1.size);have hgr:Hid (GLe w w.heap.size):=ζ (Nat.le_refl _);have hrp:Hid (lM s sub b = EZ s sub (s.length+1) (b.dO.length,b.dO.length) (aT b)):=ζ rfl;replace wV:=ζ wV;replace hsp:=ζ hsp;replace hW:=ζ hW;replace hc:=ζ hc;clear hg1;go_enter Tryz.func265,Tryz.ntmps265
 go_wp2_with fail;generalize w.alloc (.cells #[.int .i64 0,.int .i64 0] 360)=w0 at *
 generalize w.heap.size=gR at *
 refine (rV h.o hb.o (by have:=iH b;have:=hc.o;have:=hW.o.1;omega)).mono ?_;rintro e w1 ⟨rfl,sv1,h',dJ⟩;replace h:=ζ h';clear h';(try replace hX:=ζ ((dJ.mono lq.o).blk hX.o δ))
 (try replace hP:=ζ ((dJ.mono lq.o).blk hP.o δ))
 (try replace hR:=ζ ((dJ.mono lq.o).blk hR.o δ))
 replace hG:=ζ (hG.o.trans (dJ.mono lq.o));replace hb:=ζ (Nat.le_trans hb0.o hG.o.size);clear dJ;have hI:Hid (IL (b.dO.length,b.dO.length) (aT b)):=ζ ⟨by rw[fM];simp,by rw[fM];simp⟩;have hW1:Hid (WP s 12 (aT b)):=hW;have hc1:Hid (dR (aT b)≤8*(aT b).at_+61):=ζ (by have:=oI b;have:=hc.o;have:(aT b).at_=b.at_:=rfl;omega);generalize aT b = b1 at *
 generalize b.dO.length=N at *
 go_wp2_with fail;have hgP:Hid (GLe w w1.heap.size):=ζ hG.o.size;have hRP:Hid (gR≠w1.heap.size):=ζ (by have:=hR.o.lt;omega);have hP:=aF.new w1 360 #[.int .i64 (N:Int),.int .i64 (N:Int)];have dw:ah w1 (w1.alloc (.cells #[.int .i64 (N:Int),.int .i64 (N:Int)] 360)):=(ah.refl _).alloc _;(try replace hX:=ζ (hX.o.grows dw))
 (try replace hR:=ζ (hR.o.grows dw))
 replace h:=ζ (h.o.grows dw);replace hG:=ζ (hG.o.trans (au.grows dw hb.o));replace hb:=ζ (Nat.le_trans hb.o dw.size);clear dw;generalize w1.alloc (.cells #[.int .i64 (N:Int),.int .i64 (N:Int)] 360)=w2 at *
 generalize w1.heap.size=gP at *
 replace hP:=ζ hP;obtain⟨R,hRR⟩:∃R,R=EZ s sub (s.length+1) (N,N) b1:=⟨_,rfl⟩;rw[←hRR] at hrp;replace hRR:=ζ hRR;go_loopw [] (fun wr=>∃(f q:Nat) (bq:PB) (xq:List vP) (vq:Value),Hid (s.length≤f + bq.at_)∧Hid (R=EZ s sub f (N,q) bq)∧Hid (WP s 12 bq)∧Hid (IL (N,q) bq)∧Hid (dR bq≤8*bq.at_+61)∧Hid (jd wr base gB s bq xq vq)∧Hid (aF wr gP 360 #[.int .i64 (N:Int),.int .i64 (q:Int)])∧Hid (aF wr gR 360 #[.int .i64 0,.int .i64 0])∧Hid (au TS base w wr)) (fun wr=>s.length+20-(match wr.cell? ⟨gB,1,none⟩ with | some v=>(intOf v).toNat | none=>0))
 case atStart=>exact⟨s.length+1,N,b1,_,_,ζ ω,hRR,hW1,hI,hc1,h,hP,hR,hG⟩
 case round=>
  clear hRR hW1 hI hc1 h hP hR hG hb;obtain⟨f,q,bq,xq,vq,hf,qV,Rx,hI,rC,h,hP,hR,hG⟩:=hrel;have hb:=ζ (Nat.le_trans hb0.o hG.o.size);have hstep:=ZI (sub:=sub) (p:=(N,q)) hf.o;rw[←qV.o] at hstep;clear qV;have yh:Hid (∀(w':World) (b':PB) xs' Vy,jd w' base gB s b' xs' Vy→(match w'.cell? ⟨gB,1,none⟩ with | some v=>(intOf v).toNat | none=>0)=b'.at_):=ζ (fun w' b' _ _ hh=>by
   have e:w'.cell? ⟨gB,1,none⟩=some (.int .i64 (b'.at_:Int)):=(hh.blk.cell 1).trans rfl;rw[e];simp[intOf])
  have Nq:=ζ (yh.o _ _ _ _ h.o);go_wp2_with fail;refine (dQ h.o).mono ?_;rintro e w1 ⟨rfl,bU⟩;replace h:=ζ (h.o.grows bU);replace hG:=ζ (hG.o.trans (au.grows bU hb.o));replace hb:=ζ (Nat.le_trans hb.o bU.size);(try replace aG:=ζ (aG.o.grows bU))
  (try replace hX:=ζ (hX.o.grows bU))
  (try replace hP:=ζ (hP.o.grows bU))
  (try replace hR:=ζ (hR.o.grows bU))
  clear bU;cases hp:yc s bq with
  | none=>
   simp only[sW,hp];rw[hp] at hstep;replace hstep:=ζ hstep;clear hp;(try clear o_);(try clear oZ);(try clear oQ);(try clear qc);(try clear pY)
   have o_:w1.cell? ⟨gP,0,none⟩=_:=hP.o.cell 0;have oZ:w1.cell? ⟨gP,1,none⟩=_:=hP.o.cell 1;have qc:=hP.o.frozen 0;have pY:=hP.o.frozen 1;have oQ:=hP.o.lt;(try clear nH);(try clear nG);(try clear mV);(try clear ny);(try clear ni)
   have nH:w1.cell? ⟨gR,0,none⟩=_:=hR.o.cell 0;have nG:w1.cell? ⟨gR,1,none⟩=_:=hR.o.cell 1;have ny:=hR.o.frozen 0;have ni:=hR.o.frozen 1;have mV:=hR.o.lt;go_wp2;clear o_ oZ qc pY oQ;clear nH nG ny ni mV;clear hP;have jh:=hR.o.aW 0 (.int .i64 (N:Int));have lX:=jh.aW 1 (.int .i64 (q:Int));have pR:=(hG.o.dn (g:=gR) (i:=0) hgr.o hb0.o (.int .i64 (N:Int))).dn (g:=gR) (i:=1) hgr.o hb0.o (.int .i64 (q:Int));have uM:=(h.o.far hR.o δ (aj w1 ⟨gR,0,none⟩ (.int .i64 (N:Int)))).far jh δ (aj _ ⟨gR,1,none⟩ (.int .i64 (q:Int)));clear hR hG h jh;generalize (w1.setCell ⟨gR,0,none⟩ (.int .i64 (N:Int))).setCell ⟨gR,1,none⟩ (.int .i64 (q:Int))=w7 at *
   have e0:=lX.c0;have e1:=lX.c1;refine bodyPost_ret (v:=dh (N,q)) ?_ rfl ⟨?_,?_⟩
   ·simp[dh,results,Tryz.results265,go_sem,e0,e1]
   ·rw[hrp.o,hstep.o]
   ·rw[hrp.o,hstep.o];exact⟨_,_,uM,pR⟩
  | some c=>
   simp only[sW,hp];rw[hp] at hstep;have hlen:=ζ (iY hp).2.1;have hcs:=ζ (iY hp).2.2;clear hp;by_cases DJ:c = 124
   ·have i124:(c.toNat:Int)=124:=by rw[DJ];rfl
    simp only[DJ,true_or,if_true] at hstep;replace hstep:=ζ hstep;clear DJ;(try clear o_);(try clear oZ);(try clear oQ);(try clear qc);(try clear pY)
    have o_:w1.cell? ⟨gP,0,none⟩=_:=hP.o.cell 0;have oZ:w1.cell? ⟨gP,1,none⟩=_:=hP.o.cell 1;have qc:=hP.o.frozen 0;have pY:=hP.o.frozen 1;have oQ:=hP.o.lt;(try clear nH);(try clear nG);(try clear mV);(try clear ny);(try clear ni)
    have nH:w1.cell? ⟨gR,0,none⟩=_:=hR.o.cell 0;have nG:w1.cell? ⟨gR,1,none⟩=_:=hR.o.cell 1;have ny:=hR.o.frozen 0;have ni:=hR.o.frozen 1;have mV:=hR.o.lt;go_wp2;clear o_ oZ qc pY oQ;clear nH nG ny ni mV;clear hP;have jh:=hR.o.aW 0 (.int .i64 (N:Int));have lX:=jh.aW 1 (.int .i64 (q:Int));have pR:=(hG.o.dn (g:=gR) (i:=0) hgr.o hb0.o (.int .i64 (N:Int))).dn (g:=gR) (i:=1) hgr.o hb0.o (.int .i64 (q:Int));have uM:=(h.o.far hR.o δ (aj w1 ⟨gR,0,none⟩ (.int .i64 (N:Int)))).far jh δ (aj _ ⟨gR,1,none⟩ (.int .i64 (q:Int)));clear hR hG h jh;generalize (w1.setCell ⟨gR,0,none⟩ (.int .i64 (N:Int))).setCell ⟨gR,1,none⟩ (.int .i64 (q:Int))=w7 at *
    have e0:=lX.c0;have e1:=lX.c1;refine bodyPost_ret (v:=dh (N,q)) ?_ rfl ⟨?_,?_⟩
    ·simp[dh,results,Tryz.results265,go_sem,e0,e1]
    ·rw[hrp.o,hstep.o]
    ·rw[hrp.o,hstep.o];exact⟨_,_,uM,pR⟩
   ·have i124:¬(c.toNat:Int)=124:=fun e=>DJ (UInt8.toNat_inj.1 (by show c.toNat=124;omega))
    by_cases h41:c = 41
    ·have i41:(c.toNat:Int)=41:=by rw[h41];rfl
     simp only[h41,or_true,if_true] at hstep;replace hstep:=ζ hstep;clear DJ h41;(try clear o_);(try clear oZ);(try clear oQ);(try clear qc);(try clear pY)
     have o_:w1.cell? ⟨gP,0,none⟩=_:=hP.o.cell 0;have oZ:w1.cell? ⟨gP,1,none⟩=_:=hP.o.cell 1;have qc:=hP.o.frozen 0;have pY:=hP.o.frozen 1;have oQ:=hP.o.lt;(try clear nH);(try clear nG);(try clear mV);(try clear ny);(try clear ni)
     have nH:w1.cell? ⟨gR,0,none⟩=_:=hR.o.cell 0;have nG:w1.cell? ⟨gR,1,none⟩=_:=hR.o.cell 1;have ny:=hR.o.frozen 0;have ni:=hR.o.frozen 1;have mV:=hR.o.lt;go_wp2;clear o_ oZ qc pY oQ;clear nH nG ny ni mV;clear hP;have jh:=hR.o.aW 0 (.int .i64 (N:Int));have lX:=jh.aW 1 (.int .i64 (q:Int));have pR:=(hG.o.dn (g:=gR) (i:=0) hgr.o hb0.o (.int .i64 (N:Int))).dn (g:=gR) (i:=1) hgr.o hb0.o (.int .i64 (q:Int));have uM:=(h.o.far hR.o δ (aj w1 ⟨gR,0,none⟩ (.int .i64 (N:Int)))).far jh δ (aj _ ⟨gR,1,none⟩ (.int .i64 (q:Int)));clear hR hG h jh;generalize (w1.setCell ⟨gR,0,none⟩ (.int .i64 (N:Int))).setCell ⟨gR,1,none⟩ (.int .i64 (q:Int))=w7 at *
     have e0:=lX.c0;have e1:=lX.c1;refine bodyPost_ret (v:=dh (N,q)) ?_ rfl ⟨?_,?_⟩
     ·simp[dh,results,Tryz.results265,go_sem,e0,e1]
     ·rw[hrp.o,hstep.o]
     ·rw[hrp.o,hstep.o];exact⟨_,_,uM,pR⟩
    ·have i41:¬(c.toNat:Int)=41:=fun e=>h41 (UInt8.toNat_inj.1 (by show c.toNat=41;omega))
     simp only[DJ,h41,or_self,if_false] at hstep;have aqM:((c.toNat:Int)==124)=false:=by simpa using i124
     have b41:((c.toNat:Int)==41)=false:=by simpa using i41
     clear DJ h41 i124 i41;have hao:=UU (c:=c) hsp.o ω hlen.o;have xQ:=N7 hao.2.1 hao.2.2;replace hao:=ζ hao;replace xQ:=ζ xQ;replace hstep:=ζ hstep;go_wp2_with fail;refine (afU wV.o hsp.o h.o hb.o xR hcs.o (by have:=rC.o;omega)).mono ?_;rintro e w2 ⟨rfl,xs2,sv2,h',dJ⟩;replace h:=ζ h';clear h';(try replace hX:=ζ (dJ.blk hX.o δ))
     (try replace hP:=ζ (dJ.blk hP.o δ))
     (try replace hR:=ζ (dJ.blk hR.o δ))
     replace hG:=ζ (hG.o.trans dJ);replace hb:=ζ (Nat.le_trans hb0.o hG.o.size);clear dJ;have hac:Hid (dR (bW s sub c bq).1<100000∧(bW s sub c bq).1.at_<100000):=ζ (by
      have h1:=hao.o.1.cost;have h2:=hao.o.2.1.1;have h3:=rC.o;omega)
     go_wp2_with fail;refine (Zu h.o hb.o hao.o.2.2 (by have:=hac.o.2;omega) (by have:=hac.o.1;omega)).mono ?_;rintro e w3 ⟨rfl,xs3,sv3,h',dJ⟩;replace h:=ζ h';clear h';(try replace hX:=ζ ((dJ.mono lq.o).blk hX.o δ))
     (try replace hP:=ζ ((dJ.mono lq.o).blk hP.o δ))
     (try replace hR:=ζ ((dJ.mono lq.o).blk hR.o δ))
     replace hG:=ζ (hG.o.trans (dJ.mono lq.o));replace hb:=ζ (Nat.le_trans hb0.o hG.o.size);clear dJ;have Oz:Hid (s.length≤(f - 1)+(fB s (bW s sub c bq).1 (bW s sub c bq).2).1.at_∧bq.at_<(fB s (bW s sub c bq).1 (bW s sub c bq).2).1.at_∧dR (fB s (bW s sub c bq).1 (bW s sub c bq).2).1+1≤8*(fB s (bW s sub c bq).1 (bW s sub c bq).2).1.at_+61∧bq.dO.length≤(fB s (bW s sub c bq).1 (bW s sub c bq).2).1.dO.length):=ζ (by
      have h1:=hao.o.1;have h2:=xQ.o.1;have h3:=rC.o;have h4:=hf.o;have h5:=h1.at_;have h6:=h2.at_;have h7:=h1.cost;have h8:=h2.cost;have h9:=h1.len;have h10:=h2.len;have h11:=afV (c:=c) hsp.o hlen.o;omega)
     have hI3:Hid (IL (N,(fB s (bW s sub c bq).1 (bW s sub c bq).2).2.2) (fB s (bW s sub c bq).1 (bW s sub c bq).2).1):=ζ ⟨Nat.lt_of_lt_of_le hI.o.1 Oz.o.2.2.2,xQ.o.2.2.2⟩;have hq4:=ζ (Nat.lt_of_lt_of_le hI.o.2 Oz.o.2.2.2);have hWt:=ζ xQ.o.2.1;have htI:=ζ xQ.o.2.2;clear hac hao xQ rC hI Rx hf;generalize fB s (bW s sub c bq).1 (bW s sub c bq).2=rt at *
     obtain⟨tb,t1,t2⟩:=rt;simp only[dh];(try clear o_);(try clear oZ);(try clear oQ);(try clear qc);(try clear pY)
     have o_:w3.cell? ⟨gP,0,none⟩=_:=hP.o.cell 0;have oZ:w3.cell? ⟨gP,1,none⟩=_:=hP.o.cell 1;have qc:=hP.o.frozen 0;have pY:=hP.o.frozen 1;have oQ:=hP.o.lt;go_wp2_with fail;clear o_ oZ qc pY oQ;have hX:=aF.new w3 360 #[.int .i64 (t1:Int),.int .i64 (t2:Int)];have dw:ah w3 (w3.alloc (.cells #[.int .i64 (t1:Int),.int .i64 (t2:Int)] 360)):=(ah.refl _).alloc _;have hPX:Hid (gP<w3.heap.size):=ζ hP.o.lt;replace hP:=ζ (hP.o.grows dw);replace hR:=ζ (hR.o.grows dw);replace h:=ζ (h.o.grows dw);replace hG:=ζ (hG.o.trans (au.grows dw hb.o));replace hb:Hid (base≤(w3.alloc (.cells #[.int .i64 (t1:Int),.int .i64 (t2:Int)] 360)).heap.size):=ζ (Nat.le_trans hb.o dw.size);clear dw;generalize w3.alloc (.cells #[.int .i64 (t1:Int),.int .i64 (t2:Int)] 360)=w4 at *
     generalize w3.heap.size=gX at *
     replace hX:=ζ hX;refine (m_ (i:=q) (j:=t1) h.o hb.o hq4.o (by have:=Oz.o.2.2.1;have:=hWt.o.1;omega)).mono ?_;rintro e w5 ⟨rfl,xs5,h',dJ⟩;replace h:=ζ h';clear h';(try replace hX:=ζ ((dJ.mono lq.o).blk hX.o δ))
     (try replace hP:=ζ ((dJ.mono lq.o).blk hP.o δ))
     (try replace hR:=ζ ((dJ.mono lq.o).blk hR.o δ))
     replace hG:=ζ (hG.o.trans (dJ.mono lq.o));replace hb:=ζ (Nat.le_trans hb0.o hG.o.size);clear dJ;have uN:=ζ (h.o.far hP.o δ (aj w5 ⟨gP,1,none⟩ (.int .i64 (t2:Int))));have hP6:Hid (aF (w5.setCell ⟨gP,1,none⟩ (.int .i64 (t2:Int))) gP 360 #[.int .i64 (N:Int),.int .i64 (t2:Int)]):=ζ (hP.o.aW 1 (.int .i64 (t2:Int)));have hR6:=ζ (hR.o.far (p:=⟨gP,1,none⟩) hRP.o (.int .i64 (t2:Int)));have GV:=ζ (hG.o.dn (g:=gP) (i:=1) hgP.o hb0.o (.int .i64 (t2:Int)));have OH:=ζ (oJ q t1 tb);(try clear o_);(try clear oZ);(try clear oQ);(try clear qc);(try clear pY)
     have o_:w5.cell? ⟨gP,0,none⟩=_:=hP.o.cell 0;have oZ:w5.cell? ⟨gP,1,none⟩=_:=hP.o.cell 1;have qc:=hP.o.frozen 0;have pY:=hP.o.frozen 1;have oQ:=hP.o.lt;(try clear Le);(try clear Ld);(try clear KY);(try clear Lc);(try clear La)
     have Le:w5.cell? ⟨gX,0,none⟩=_:=hX.o.cell 0;have Ld:w5.cell? ⟨gX,1,none⟩=_:=hX.o.cell 1;have Lc:=hX.o.frozen 0;have La:=hX.o.frozen 1;have KY:=hX.o.lt;go_wp2;go_roundw
     case rel=>exact⟨f - 1,t2,aX q t1 tb,xs5,sv3,ζ Oz.o.1,hstep,ζ (ae_ hWt.o),ζ (IL.mono hI3.o (by rw[iF];exact Nat.le_refl _)),ζ (by have:=OH.o;have:=Oz.o.2.2.1;show _≤8*tb.at_+61;omega),uN,hP6,hR6,GV⟩
     case measure=>rw[yh.o _ _ _ _ uN.o,Nq.o];have:=Oz.o.2.1;have:=hlen.o;show _ - tb.at_<_;omega
theorem Q5 {s:List UInt8} {sub:Option (PB→PB×rD)} {f:Nat} {p:rD} {b:PB} (hf:1≤f):gJ s sub f p b =
 if yc s (aX (lM s sub b).2.2 p.2 (aX p.1 (lM s sub b).2.1 (lM s sub b).1))=some 124 then gJ s sub (f - 1) p (aI (aX (lM s sub b).2.2 p.2 (aX p.1 (lM s sub b).2.1 (lM s sub b).1))) else (aX (lM s sub b).2.2 p.2 (aX p.1 (lM s sub b).2.1 (lM s sub b).1),p):=by
 cases f with
 | zero=>omega
 | succ f=>rfl
theorem O1 {w:World} {base gB dp:Nat} {s:List UInt8} {b:PB} {sub:Option (PB→PB×rD)} {xs:List vP} {sv:Value} (wV:U3 s sub dp) (hsp:KQ s 11 sub) (h:jd w base gB s b xs sv) (hb:base≤w.heap.size) (xR:s.length≤100) (hW:b.at_≤s.length) (hc:dR b≤8*b.at_+53) :
 Calls Tryz.prog 249 #[.pointer (some ⟨gB,0,none⟩),.int .i64 (dp:Int)] w (gY base gB s w (gJ s sub (s.length+1) (b.dO.length,b.dO.length+1) (aT (aT b)))):=by
 have qF:Hid (∀t∈[358],t∈TS):=ζ (by intro t ht;simp[TS,TB] at *;exact .inr (.inl ht));have lq:Hid (∀t∈TB,t∈TS):=ζ (fun t ht=>List.mem_cons_of_mem _ ht);have hR:=aF.new w 360 #[.int .i64 0,.int .i64 0];have hg1:ah w (w.alloc (.cells #[.int .i64 0,.int .i64 0] 360)):=(ah.refl _).alloc _;replace hR:=ζ hR;have hG:=ζ (au.grows (T:=TS) hg1 hb);replace h:=ζ (h.grows hg1);have hb0:Hid (BLe base w):=ζ hb;replace hb:=ζ (Nat.le_trans hb hg1.size);have hgr:Hid (GLe w w.heap.size):=ζ (Nat.le_refl _);replace wV:=ζ wV;replace hsp:=ζ hsp;replace hW:=ζ hW;replace hc:=ζ hc;clear hg1;obtain⟨R,hRR⟩:∃R,R=gJ s sub (s.length+1) (b.dO.length,b.dO.length+1) (aT (aT b)):=⟨_,rfl⟩;rw[←hRR];replace hRR:=ζ hRR;go_enter Tryz.func249,Tryz.ntmps249
 go_wp2_with fail;generalize w.alloc (.cells #[.int .i64 0,.int .i64 0] 360)=w0 at *
 generalize w.heap.size=gR at *
 refine (rV h.o hb.o (by have:=iH b;have:=hc.o;have:=hW.o;omega)).mono ?_;rintro e w1 ⟨rfl,sv1,h',dJ⟩;replace h:=ζ h';clear h';(try replace hX:=ζ ((dJ.mono lq.o).blk hX.o δ))
 (try replace hP:=ζ ((dJ.mono lq.o).blk hP.o δ))
 (try replace hR:=ζ ((dJ.mono lq.o).blk hR.o δ))
 replace hG:=ζ (hG.o.trans (dJ.mono lq.o));replace hb:=ζ (Nat.le_trans hb0.o hG.o.size);clear dJ;go_wp2_with fail;refine (rV h.o hb.o (by have:=iH b;have:=hc.o;have:=hW.o;rw[fM];omega)).mono ?_;rintro e w2 ⟨rfl,sv2,h',dJ⟩;replace h:=ζ h';clear h';(try replace hX:=ζ ((dJ.mono lq.o).blk hX.o δ))
 (try replace hP:=ζ ((dJ.mono lq.o).blk hP.o δ))
 (try replace hR:=ζ ((dJ.mono lq.o).blk hR.o δ))
 replace hG:=ζ (hG.o.trans (dJ.mono lq.o));replace hb:=ζ (Nat.le_trans hb0.o hG.o.size);clear dJ;rw[fM];have hI:Hid (IL (b.dO.length,b.dO.length+1) (aT (aT b))):=ζ ⟨by rw[fM,fM];simp;omega,by rw[fM,fM];simp⟩;have hW1:Hid ((aT (aT b)).at_≤s.length):=hW;have hc1:Hid (dR (aT (aT b))≤8*(aT (aT b)).at_+55):=ζ (by have:=oI b;have:=oI (aT b);have:=hc.o;have:(aT (aT b)).at_=b.at_:=rfl;omega);generalize aT (aT b)=b1 at *
 generalize b.dO.length=N at *
 have hgP:Hid (GLe w w2.heap.size):=ζ hG.o.size;go_wp2_with fail;have hP:=aF.new w2 360 #[.int .i64 (N:Int),.int .i64 ((N:Int)+1)];have dw:ah w2 (w2.alloc (.cells #[.int .i64 (N:Int),.int .i64 ((N:Int)+1)] 360)):=(ah.refl _).alloc _;(try replace hX:=ζ (hX.o.grows dw))
 (try replace hR:=ζ (hR.o.grows dw))
 replace h:=ζ (h.o.grows dw);replace hG:=ζ (hG.o.trans (au.grows dw hb.o));replace hb:=ζ (Nat.le_trans hb.o dw.size);clear dw;generalize w2.alloc (.cells #[.int .i64 (N:Int),.int .i64 ((N:Int)+1)] 360)=w3 at *
 generalize w2.heap.size=gP at *
 replace hP:=ζ hP;go_loopw [] (fun wr=>∃(f:Nat) (bq:PB) (xq:List vP) (vq:Value),Hid (s.length+1≤f + bq.at_)∧Hid (R=gJ s sub f (N,N+1) bq)∧Hid (bq.at_≤s.length)∧Hid (IL (N,N+1) bq)∧Hid (dR bq≤8*bq.at_+55)∧Hid (jd wr base gB s bq xq vq)∧Hid (aF wr gP 360 #[.int .i64 (N:Int),.int .i64 ((N:Int)+1)])∧Hid (aF wr gR 360 #[.int .i64 0,.int .i64 0])∧Hid (au TS base w wr)) (fun wr=>s.length+20-(match wr.cell? ⟨gB,1,none⟩ with | some v=>(intOf v).toNat | none=>0))
 case atStart=>exact⟨s.length+1,b1,_,_,ζ ω,hRR,hW1,hI,hc1,h,hP,hR,hG⟩
 case round=>
  clear hRR hW1 hI hc1 h hP hR hG hb;obtain⟨f,bq,xq,vq,hf,qV,Rx,hI,rC,h,hP,hR,hG⟩:=hrel;have hb:=ζ (Nat.le_trans hb0.o hG.o.size);have hstep:=Q5 (s:=s) (sub:=sub) (p:=(N,N+1)) (b:=bq) (f:=f) (by have:=hf.o;have:=Rx.o;omega);rw[←qV.o] at hstep;clear qV;have yh:Hid (∀(w':World) (b':PB) xs' Vy,jd w' base gB s b' xs' Vy→(match w'.cell? ⟨gB,1,none⟩ with | some v=>(intOf v).toNat | none=>0)=b'.at_):=ζ (fun w' b' _ _ hh=>by
   have e:w'.cell? ⟨gB,1,none⟩=some (.int .i64 (b'.at_:Int)):=(hh.blk.cell 1).trans rfl;rw[e];simp[intOf])
  have Nq:=ζ (yh.o _ _ _ _ h.o);have hro:=ζ (Yq hsp.o ω (WP.of_le (k:=12) Rx.o));replace hstep:=ζ hstep;go_wp2_with fail;refine (ag6 wV.o hsp.o h.o hb.o xR (WP.of_le Rx.o) (by have:=rC.o;omega)).mono ?_;rintro e w4 ⟨rfl,xs4,sv4,h',dJ⟩;replace h:=ζ h';clear h';(try replace hX:=ζ (dJ.blk hX.o δ))
  (try replace hP:=ζ (dJ.blk hP.o δ))
  (try replace hR:=ζ (dJ.blk hR.o δ))
  replace hG:=ζ (hG.o.trans dJ);replace hb:=ζ (Nat.le_trans hb0.o hG.o.size);clear dJ;have Oz:Hid (bq.at_≤(lM s sub bq).1.at_∧dR (lM s sub bq).1≤8*(lM s sub bq).1.at_+56∧bq.dO.length≤(lM s sub bq).1.dO.length∧(lM s sub bq).1.at_≤s.length+12):=ζ (by
   have h1:=hro.o.1;have h2:=rC.o;have h3:=h1.cost;have h4:=h1.at_;have h5:=h1.len;have h6:=hro.o.2.1.1;omega)
  have htI:=ζ hro.o.2.2;clear hro rC;generalize lM s sub bq=rt at *
  obtain⟨tb,t1,t2⟩:=rt;simp only[dh];(try clear o_);(try clear oZ);(try clear oQ);(try clear qc);(try clear pY)
  have o_:w4.cell? ⟨gP,0,none⟩=_:=hP.o.cell 0;have oZ:w4.cell? ⟨gP,1,none⟩=_:=hP.o.cell 1;have qc:=hP.o.frozen 0;have pY:=hP.o.frozen 1;have oQ:=hP.o.lt;go_wp2_with fail;clear o_ oZ qc pY oQ;have hX:=aF.new w4 360 #[.int .i64 (t1:Int),.int .i64 (t2:Int)];have dw:ah w4 (w4.alloc (.cells #[.int .i64 (t1:Int),.int .i64 (t2:Int)] 360)):=(ah.refl _).alloc _;have hPX:Hid (gP<w4.heap.size):=ζ hP.o.lt;replace hP:=ζ (hP.o.grows dw);replace hR:=ζ (hR.o.grows dw);replace h:=ζ (h.o.grows dw);replace hG:=ζ (hG.o.trans (au.grows dw hb.o));replace hb:Hid (base≤(w4.alloc (.cells #[.int .i64 (t1:Int),.int .i64 (t2:Int)] 360)).heap.size):=ζ (Nat.le_trans hb.o dw.size);clear dw;generalize w4.alloc (.cells #[.int .i64 (t1:Int),.int .i64 (t2:Int)] 360)=w5 at *
  generalize w4.heap.size=gX at *
  replace hX:=ζ hX;refine (m_ (i:=N) (j:=t1) h.o hb.o (Nat.lt_of_lt_of_le hI.o.1 Oz.o.2.2.1) (by have:=Oz.o;omega)).mono ?_;rintro e w6 ⟨rfl,xs6,h',dJ⟩;replace h:=ζ h';clear h';(try replace hX:=ζ ((dJ.mono lq.o).blk hX.o δ))
  (try replace hP:=ζ ((dJ.mono lq.o).blk hP.o δ))
  (try replace hR:=ζ ((dJ.mono lq.o).blk hR.o δ))
  replace hG:=ζ (hG.o.trans (dJ.mono lq.o));replace hb:=ζ (Nat.le_trans hb0.o hG.o.size);clear dJ;have OH:=ζ (oJ N t1 tb);(try clear o_);(try clear oZ);(try clear oQ);(try clear qc);(try clear pY)
  have o_:w6.cell? ⟨gP,0,none⟩=_:=hP.o.cell 0;have oZ:w6.cell? ⟨gP,1,none⟩=_:=hP.o.cell 1;have qc:=hP.o.frozen 0;have pY:=hP.o.frozen 1;have oQ:=hP.o.lt;(try clear Le);(try clear Ld);(try clear KY);(try clear Lc);(try clear La)
  have Le:w6.cell? ⟨gX,0,none⟩=_:=hX.o.cell 0;have Ld:w6.cell? ⟨gX,1,none⟩=_:=hX.o.cell 1;have Lc:=hX.o.frozen 0;have La:=hX.o.frozen 1;have KY:=hX.o.lt;go_wp2_with fail;clear o_ oZ qc pY oQ;clear Le Ld Lc La KY;refine (m_ (i:=t2) (j:=N+1) h.o hb.o (by rw[iF];exact htI.o.2) (by have:=Oz.o;have:=OH.o;omega)).mono ?_;rintro e w7 ⟨rfl,xs7,h',dJ⟩;replace h:=ζ h';clear h';(try replace hX:=ζ ((dJ.mono lq.o).blk hX.o δ))
  (try replace hP:=ζ ((dJ.mono lq.o).blk hP.o δ))
  (try replace hR:=ζ ((dJ.mono lq.o).blk hR.o δ))
  replace hG:=ζ (hG.o.trans (dJ.mono lq.o));replace hb:=ζ (Nat.le_trans hb0.o hG.o.size);clear dJ;have apy:=ζ (oJ t2 (N+1) (aX N t1 tb));have hI7:Hid (IL (N,N+1) (aX t2 (N+1) (aX N t1 tb))):=ζ (IL.mono hI.o (by rw[iF,iF];exact Oz.o.2.2.1));have hq7:Hid (bq.at_≤(aX t2 (N+1) (aX N t1 tb)).at_∧dR (aX t2 (N+1) (aX N t1 tb))≤8*(aX t2 (N+1) (aX N t1 tb)).at_+58):=ζ (by
   have h1:=Oz.o;have h2:=OH.o;have h3:=apy.o;have h4:(aX t2 (N+1) (aX N t1 tb)).at_=tb.at_:=rfl;rw[h4];omega)
  clear OH apy hX htI hI hPX Oz;have hstep:Hid (R=if yc s (aX t2 (N+1) (aX N t1 tb))=some 124 then gJ s sub (f - 1) (N,N+1) (aI (aX t2 (N+1) (aX N t1 tb))) else (aX t2 (N+1) (aX N t1 tb),(N,N+1))):=hstep;generalize aX t2 (N+1) (aX N t1 tb)=b7 at *
  go_wp2_with fail;refine (dQ h.o).mono ?_;rintro e w8 ⟨rfl,Au⟩;replace h:=ζ (h.o.grows Au);replace hG:=ζ (hG.o.trans (au.grows Au hb.o));replace hb:=ζ (Nat.le_trans hb.o Au.size);(try replace aG:=ζ (aG.o.grows Au))
  (try replace hX:=ζ (hX.o.grows Au))
  (try replace hP:=ζ (hP.o.grows Au))
  (try replace hR:=ζ (hR.o.grows Au))
  clear Au;cases hp:yc s b7 with
  | none=>
   simp only[sW,hp];have hst:Hid (R=(b7,(N,N+1))):=ζ (by rw[hstep.o,hp];rfl);clear hp hstep;have hstep:=hst;(try clear o_);(try clear oZ);(try clear oQ);(try clear qc);(try clear pY)
   have o_:w8.cell? ⟨gP,0,none⟩=_:=hP.o.cell 0;have oZ:w8.cell? ⟨gP,1,none⟩=_:=hP.o.cell 1;have qc:=hP.o.frozen 0;have pY:=hP.o.frozen 1;have oQ:=hP.o.lt;(try clear nH);(try clear nG);(try clear mV);(try clear ny);(try clear ni)
   have nH:w8.cell? ⟨gR,0,none⟩=_:=hR.o.cell 0;have nG:w8.cell? ⟨gR,1,none⟩=_:=hR.o.cell 1;have ny:=hR.o.frozen 0;have ni:=hR.o.frozen 1;have mV:=hR.o.lt;go_wp2;clear o_ oZ qc pY oQ;clear nH nG ny ni mV;clear hP;have jh:=hR.o.aW 0 (.int .i64 (N:Int));have lX:=jh.aW 1 (.int .i64 ((N:Int)+1));have pR:=(hG.o.dn (g:=gR) (i:=0) hgr.o hb0.o (.int .i64 (N:Int))).dn (g:=gR) (i:=1) hgr.o hb0.o (.int .i64 ((N:Int)+1));have uM:=(h.o.far hR.o δ (aj w8 ⟨gR,0,none⟩ (.int .i64 (N:Int)))).far jh δ (aj _ ⟨gR,1,none⟩ (.int .i64 ((N:Int)+1)));clear hR hG h jh;generalize (w8.setCell ⟨gR,0,none⟩ (.int .i64 (N:Int))).setCell ⟨gR,1,none⟩ (.int .i64 ((N:Int)+1))=w7 at *
   have e0:=lX.c0;have e1:=lX.c1;refine bodyPost_ret (v:=dh (N,N+1)) ?_ rfl ⟨?_,?_⟩
   ·simp[dh,results,Tryz.results249,go_sem,e0,e1]
   ·rw[hstep.o]
   ·rw[hstep.o];exact⟨_,_,uM,pR⟩
  | some c=>
   simp only[sW,hp];by_cases DJ:c = 124
   ·have i124:(c.toNat:Int)=124:=by rw[DJ];rfl
    have aqM:((c.toNat:Int)==124)=true:=by rw[i124];rfl
    have hst:Hid (R=gJ s sub (f - 1) (N,N+1) (aI b7)):=ζ (by rw[hstep.o,hp,DJ];rfl);have hlt:=ζ (iY hp).2.1;have aoZ:b7.at_<100000:=by have:=hlt.o;omega
    clear hp hstep DJ;have c1:w8.cell? ⟨gB,1,none⟩=some (.int .i64 (b7.at_:Int)):=(h.o.blk.cell 1).trans rfl;have f1:=h.o.blk.frozen 1;have l1:=h.o.blk.lt;have i1: -9223372036854775808≤(b7.at_:Int)+1∧(b7.at_:Int)+1≤9223372036854775807:=ω;have Qw:=au.own h.o (aj w8 ⟨gB,1,none⟩ (.int .i64 ((b7.at_:Int)+1)));have hA:=ζ h.o.Jf;have hP2:=ζ (Qw.blk hP.o δ);have qV:=ζ (Qw.blk hR.o δ);have fG:=ζ (hG.o.trans (Qw.mono qF.o));clear Qw;go_wp2;go_roundw
    case rel=>exact⟨f - 1,aI b7,xs7,sv4,ζ (by have:=hf.o;have:=hq7.o.1;simp only[aI];omega),hst,ζ (by have:=hlt.o;simp only[aI];omega),ζ hI7.o,ζ (by have:=hq7.o.2;rw[FZ];simp only[aI];omega),hA,hP2,qV,fG⟩
    case measure=>rw[yh.o _ _ _ _ hA.o,Nq.o];have:=hq7.o.1;have:=hlt.o;simp only[aI];omega
   ·have i124:¬(c.toNat:Int)=124:=fun e=>DJ (UInt8.toNat_inj.1 (by show c.toNat=124;omega))
    have aqM:((c.toNat:Int)==124)=false:=by simpa using i124
    have hst:Hid (R=(b7,(N,N+1))):=ζ (by rw[hstep.o,hp];simp[DJ]);clear hp hstep DJ;have hstep:=hst;(try clear o_);(try clear oZ);(try clear oQ);(try clear qc);(try clear pY)
    have o_:w8.cell? ⟨gP,0,none⟩=_:=hP.o.cell 0;have oZ:w8.cell? ⟨gP,1,none⟩=_:=hP.o.cell 1;have qc:=hP.o.frozen 0;have pY:=hP.o.frozen 1;have oQ:=hP.o.lt;(try clear nH);(try clear nG);(try clear mV);(try clear ny);(try clear ni)
    have nH:w8.cell? ⟨gR,0,none⟩=_:=hR.o.cell 0;have nG:w8.cell? ⟨gR,1,none⟩=_:=hR.o.cell 1;have ny:=hR.o.frozen 0;have ni:=hR.o.frozen 1;have mV:=hR.o.lt;go_wp2;clear o_ oZ qc pY oQ;clear nH nG ny ni mV;clear hP;have jh:=hR.o.aW 0 (.int .i64 (N:Int));have lX:=jh.aW 1 (.int .i64 ((N:Int)+1));have pR:=(hG.o.dn (g:=gR) (i:=0) hgr.o hb0.o (.int .i64 (N:Int))).dn (g:=gR) (i:=1) hgr.o hb0.o (.int .i64 ((N:Int)+1));have uM:=(h.o.far hR.o δ (aj w8 ⟨gR,0,none⟩ (.int .i64 (N:Int)))).far jh δ (aj _ ⟨gR,1,none⟩ (.int .i64 ((N:Int)+1)));clear hR hG h jh;generalize (w8.setCell ⟨gR,0,none⟩ (.int .i64 (N:Int))).setCell ⟨gR,1,none⟩ (.int .i64 ((N:Int)+1))=w7 at *
    have e0:=lX.c0;have e1:=lX.c1;refine bodyPost_ret (v:=dh (N,N+1)) ?_ rfl ⟨?_,?_⟩
    ·simp[dh,results,Tryz.results249,go_sem,e0,e1]
    ·rw[hstep.o]
    ·rw[hstep.o];exact⟨_,_,uM,pR⟩
theorem XZ {s:List UInt8} (xR:s.length≤100):∀(d dp:Nat),d + dp=8→∀(w:World) (base gB:Nat) (b:PB) (xs:List vP) (sv:Value),jd w base gB s b xs sv→base≤w.heap.size→b.at_≤s.length→dR b≤8*b.at_+53→
 Calls Tryz.prog 249 #[.pointer (some ⟨gB,0,none⟩),.int .i64 (dp:Int)] w (gY base gB s w (jS s d b)):=by
 intro d;induction d with
 | zero=>
  intro dp hdp w base gB b xs sv h hb hW hc;have:dp=8:=ω;subst this;exact O1 (sub:=none) ⟨fun _=>rfl,fun f hf=>by cases hf⟩ (fun f hf=>by cases hf) h hb xR hW hc
 | succ d ih=>
  intro dp hdp w base gB b xs sv h hb hW hc;refine O1 (sub:=some (jS s d)) ⟨fun hf=>(by cases hf),fun f hf=> ?_⟩ (fun f hf=> ?_) h hb xR hW hc
  ·injection hf with hf
   subst hf;refine⟨ω,fun w base gB b xs sv h hb hW hc=> ?_⟩;exact ih (dp+1) ω w base gB b xs sv h hb hW hc
  ·injection hf with hf
   subst hf;intro b hb;have:=X0 s d b hb;exact⟨this.1,this.2.1.weak ω,this.2.2⟩
structure aqU (w:World) (base:Nat) (xs:List vP) (sv:Value) (dO:List PSt):Prop where
 own:Own w base 377 3 DV sv xs
 len:xs.length=dO.length
 st:∀(i:Nat) x y,xs[i]? = some x→dO[i]? = some y→x.next=y.next∧II w base x.pv y.set∧Own w base 3 1 encI x.fv y.free
def ave (w:World) (base:Nat) (s:List UInt8) (v:Value):Option aqX→Prop
 | none=>v =.pointer none
 | some p=>∃g xs sv,v =.pointer (some ⟨g,0,none⟩)∧aF w g 363 #[.string ⟨s.toArray⟩,sv,.int .i64 (p.start:Int),.int .i64 (p.stop:Int)]∧aqU w base xs sv p.dO
def af6 (s:List UInt8) (w:World) (e:Ending) (w':World):Prop:=
 ∃v,e =.returned (.tuple #[v,.int .i64 (rU s:Int)])∧ave w' w.heap.size s v (Gw s)∧ah w w'
theorem adp (w:World) (s:List UInt8):Calls Tryz.prog 221 #[.string ⟨s.toArray⟩] w (af6 s w):=by
 by_cases xR:s.length≤100
 ·have hli:¬(s.length:Int)>100:=ω;have hpe:Hid (rU s = (xJ s).1.err):=ζ (by unfold rU;rw[if_neg ω]);have Nj:Hid (Gw s = if (xJ s).1.err≠0 then none else some ⟨(xJ s).1.dO,(xJ s).2.1,(xJ s).2.2⟩):=ζ (by
   unfold Gw;by_cases h0:(xJ s).1.err≠0
   ·rw[if_pos (.inr h0),if_pos h0]
   ·rw[if_neg (by simp only[h0,or_false];omega),if_neg h0])
  have hB0:=aF.new w 358 #[.string ⟨s.toArray⟩,.int .i64 0,.int .i64 0,.slice none 0 0];have hg1:ah w (w.alloc (.cells #[.string ⟨s.toArray⟩,.int .i64 0,.int .i64 0,.slice none 0 0] 358)):=(ah.refl _).alloc _;have h:jd (w.alloc (.cells #[.string ⟨s.toArray⟩,.int .i64 0,.int .i64 0,.slice none 0 0] 358)) w.heap.size w.heap.size s ⟨0,0,[]⟩ [] (.slice none 0 0):=
   ⟨hB0,Nat.le_refl _,Own.jA _ _ _ _ _,rfl,fun i x y h1 _=>by simp at h1,fun i j x y g h1=>by simp at h1⟩
  have hG:=ζ (au.grows (T:=TS) hg1 (Nat.le_refl _));have hb0:Hid (BLe w.heap.size w):=ζ (Nat.le_refl _);have hb:=ζ hg1.size;have qF:Hid (∀t∈[358],t∈TS):=ζ (by intro t ht;simp[TS,TB] at *;exact .inr (.inl ht));have Oy:Hid (xJ s = (if (jS s 8 ⟨0,0,[]⟩).1.at_<s.length then aZ 2 (jS s 8 ⟨0,0,[]⟩).1 else (jS s 8 ⟨0,0,[]⟩).1,(jS s 8 ⟨0,0,[]⟩).2)):=ζ rfl;replace h:=ζ h;clear hB0 hg1;go_enter Tryz.func221,Tryz.ntmps221
  go_wp2_with fail;refine (XZ xR 8 0 rfl _ _ _ _ _ _ h.o hb.o (Nat.zero_le _) (by simp[dR,lC])).mono ?_;rintro e w2 ⟨rfl,xs,sv,h',dJ⟩;replace h:=ζ h';clear h';(try replace hX:=ζ (dJ.blk hX.o δ))
  (try replace hP:=ζ (dJ.blk hP.o δ))
  (try replace hR:=ζ (dJ.blk hR.o δ))
  replace hG:=ζ (hG.o.trans dJ);replace hb:=ζ (Nat.le_trans hb0.o hG.o.size);clear dJ;generalize jS s 8 ⟨0,0,[]⟩=rt at *
  obtain⟨tb,t1,t2⟩:=rt;simp only[dh];simp only at Oy;generalize hgB:w.heap.size=gB at *
  replace hgB:=ζ hgB;have c1:w2.cell? ⟨gB,1,none⟩=some (.int .i64 (tb.at_:Int)):=(h.o.blk.cell 1).trans rfl;have l1:=h.o.blk.lt;by_cases hlt:tb.at_<s.length
  ·have ahE:(tb.at_:Int)<(s.length:Int):=ω;rw[if_pos hlt] at Oy;go_wp2_with fail;clear c1 l1;have hP:=aF.new w2 360 #[.int .i64 (t1:Int),.int .i64 (t2:Int)];have dw:ah w2 (w2.alloc (.cells #[.int .i64 (t1:Int),.int .i64 (t2:Int)] 360)):=(ah.refl _).alloc _;(try replace hX:=ζ (hX.o.grows dw))
   (try replace hR:=ζ (hR.o.grows dw))
   replace h:=ζ (h.o.grows dw);replace hG:=ζ (hG.o.trans (au.grows dw hb.o));replace hb:=ζ (Nat.le_trans hb.o dw.size);clear dw;generalize w2.alloc (.cells #[.int .i64 (t1:Int),.int .i64 (t2:Int)] 360)=w3 at *
   generalize w2.heap.size=gP at *
   replace hP:=ζ hP;refine (ji h.o).mono ?_;rintro e w4 ⟨rfl,Uc,dB⟩;(try replace aG:=ζ (aG.o.tk (au.own h.o dB) δ))
   (try replace hX:=ζ ((au.own h.o dB).blk hX.o δ))
   (try replace hP:=ζ ((au.own h.o dB).blk hP.o δ))
   (try replace hR:=ζ ((au.own h.o dB).blk hR.o δ))
   replace hG:=ζ (hG.o.trans ((au.own h.o dB).mono qF.o));replace h:=ζ Uc;replace hb:=ζ (Nat.le_trans hb0.o hG.o.size);clear Uc dB;have aoS:=zB (e:=2) δ tb;have aei:Hid (rU s = (aZ 2 tb).err):=ζ (by rw[hpe.o,Oy.o]);have aeh:Hid (Gw s = none):=ζ (by rw[Nj.o,Oy.o,if_pos aoS]);have c2:w4.cell? ⟨gB,2,none⟩=some (.int .i64 ((aZ 2 tb).err:Int)):=(h.o.blk.cell 2).trans rfl;have l2:=h.o.blk.lt;have hne:¬((aZ 2 tb).err:Int)=0:=ω;clear aoS Oy hpe Nj;generalize (aZ 2 tb).err=er at *
   go_wp2_with fail;refine aH κ ?_;refine rK (.range 6) 0 ?_;iterate 6 refine aC ?_
   refine aB ?_;refine aJ κ (fun wN hN hS=> ?_);clear c2 l2;go_wp2;go_ret2;refine⟨.pointer none,?_,?_,?_⟩
   ·rw[aei.o];rfl
   ·rw[aeh.o];rfl
   ·exact (ah.of (hgB.o ▸ hG.o.below)).trans hN
  ·have ahE:¬(tb.at_:Int)<(s.length:Int):=ω;rw[if_neg hlt] at Oy;have c2:w2.cell? ⟨gB,2,none⟩=some (.int .i64 (tb.err:Int)):=(h.o.blk.cell 2).trans rfl;have aei:Hid (rU s = tb.err):=ζ (by rw[hpe.o,Oy.o]);by_cases he:tb.err=0
   ·have aeh:Hid (Gw s = some ⟨tb.dO,t1,t2⟩):=ζ (by rw[Nj.o,Oy.o,if_neg (by simpa using he)]);have c3:w2.cell? ⟨gB,3,none⟩=some sv:=(h.o.blk.cell 3).trans rfl;have hei:(tb.err:Int)=0:=ω;rw[he] at aei;clear Oy hpe Nj hlt he;obtain⟨sA,sc,hsv,-,-,-⟩:=h.o.own.arr Xr;obtain⟨sn,nP⟩:∃n,n = xs.length:=⟨_,rfl⟩;rw[←nP] at hsv;subst hsv;clear nP;go_wp2_with fail;clear c1 c2 c3 l1;have hP:=aF.new w2 360 #[.int .i64 (t1:Int),.int .i64 (t2:Int)];have dw:ah w2 (w2.alloc (.cells #[.int .i64 (t1:Int),.int .i64 (t2:Int)] 360)):=(ah.refl _).alloc _;(try replace hX:=ζ (hX.o.grows dw))
    (try replace hR:=ζ (hR.o.grows dw))
    replace h:=ζ (h.o.grows dw);replace hG:=ζ (hG.o.trans (au.grows dw hb.o));replace hb:=ζ (Nat.le_trans hb.o dw.size);clear dw;generalize w2.alloc (.cells #[.int .i64 (t1:Int),.int .i64 (t2:Int)] 360)=w3 at *
    generalize w2.heap.size=gP at *
    replace hP:=ζ hP;have c3:w3.cell? ⟨gB,3,none⟩=some (.slice sA sn sc):=(h.o.blk.cell 3).trans rfl;have l1:=h.o.blk.lt;have o_:=hP.o.c0;have oZ:=hP.o.c1;have oQ:=hP.o.lt;clear hP;refine aH κ ?_;refine rK (.range 10) 3 ?_;iterate 10 refine aC ?_
    refine aB ?_;refine aK [10] κ σ (fun wN hN hS=>(ay.cons rfl (fun K' hK=> ?_) ay.nil));replace h:=ζ (h.o.grows hN);replace hG:=ζ (hG.o.trans (au.grows hN hb.o));replace hb:=ζ (Nat.le_trans hb.o hN.size);try replace gQ:=ζ (gQ.o.grows hN)
    clear hN;go_simp;refine hK.o _ _ ?_ (fun hS=> ?_)
    ·exact ah.trans (by assumption) ((ah.refl _).alloc _)
    have gQ:=ζ (aF.new wN 363 #[.string ⟨s.toArray⟩,.slice sA sn sc,.int .i64 (t1:Int),.int .i64 (t2:Int)]);have dw:ah wN (wN.alloc (.cells #[.string ⟨s.toArray⟩,.slice sA sn sc,.int .i64 (t1:Int),.int .i64 (t2:Int)] 363)):=(ah.refl _).alloc _;replace h:=ζ (h.o.grows dw);replace hG:=ζ (hG.o.trans (au.grows dw hb.o));replace hb:=ζ (Nat.le_trans hb.o dw.size);clear dw;obtain⟨gT,Dw⟩:∃g,g = wN.heap.size:=⟨_,rfl⟩;rw[←Dw] at gQ;replace Dw:=ζ Dw;clear hK hS;refine rK [11,12] 0 ?_;iterate 2 refine aC ?_
    refine aB ?_;refine aJ κ (fun wN hN hS=> ?_);replace h:=ζ (h.o.grows hN);replace hG:=ζ (hG.o.trans (au.grows hN hb.o));replace hb:=ζ (Nat.le_trans hb.o hN.size);try replace gQ:=ζ (gQ.o.grows hN)
    clear c3 l1 o_ oZ oQ;go_wp2;go_ret2;refine⟨.pointer (some ⟨gT,0,none⟩),?_,?_,ah.of (hgB.o ▸ hG.o.below)⟩
    ·rw[aei.o,Dw.o];rfl
    ·rw[aeh.o,hgB.o];exact⟨_,xs,.slice sA sn sc,rfl,gQ.o,h.o.own,h.o.len,h.o.st⟩
   ·have aeh:Hid (Gw s = none):=ζ (by rw[Nj.o,Oy.o,if_pos he]);have hei:¬(tb.err:Int)=0:=ω;clear Oy hpe Nj hlt he;go_wp2_with fail;clear c1 c2 l1;have hP:=aF.new w2 360 #[.int .i64 (t1:Int),.int .i64 (t2:Int)];have dw:ah w2 (w2.alloc (.cells #[.int .i64 (t1:Int),.int .i64 (t2:Int)] 360)):=(ah.refl _).alloc _;(try replace hX:=ζ (hX.o.grows dw))
    (try replace hR:=ζ (hR.o.grows dw))
    replace h:=ζ (h.o.grows dw);replace hG:=ζ (hG.o.trans (au.grows dw hb.o));replace hb:=ζ (Nat.le_trans hb.o dw.size);clear dw;generalize w2.alloc (.cells #[.int .i64 (t1:Int),.int .i64 (t2:Int)] 360)=w3 at *
    generalize w2.heap.size=gP at *
    replace hP:=ζ hP;have c2:w3.cell? ⟨gB,2,none⟩=some (.int .i64 (tb.err:Int)):=(h.o.blk.cell 2).trans rfl;have l1:=h.o.blk.lt;refine aH κ ?_;refine rK (.range 6) 0 ?_;iterate 6 refine aC ?_
    refine aB ?_;refine aJ κ (fun wN hN hS=> ?_);clear c2 l1;go_wp2;go_ret2;refine⟨.pointer none,?_,?_,?_⟩
    ·rw[aei.o];rfl
    ·rw[aeh.o];rfl
    ·exact (ah.of (hgB.o ▸ hG.o.below)).trans hN
 ·have hli:(s.length:Int)>100:=ω;have hpe:rU s = 4:=by unfold rU;rw[if_pos ω]
  have Nj:Gw s = none:=by unfold Gw;rw[if_pos (.inl ω)]
  replace hpe:=ζ hpe;replace Nj:=ζ Nj;go_enter Tryz.func221,Tryz.ntmps221
  go_wp2;go_ret2;refine⟨.pointer none,?_,?_,ah.refl w⟩
  ·rw[hpe.o];rfl
  ·rw[Nj.o];rfl
end Go.Proofs.YtbhikkgpcmkonaaGreatDoor
