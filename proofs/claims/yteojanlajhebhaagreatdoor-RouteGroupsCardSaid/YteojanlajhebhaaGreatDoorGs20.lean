/- Parts: RefJ RefK RefI RefL RefM -/
import Derived.Test.YteojanlajhebhaaGreatDoorGs0
import Derived.Test.YteojanlajhebhaaGreatDoorGs19
import Derived.Test.YteojanlajhebhaaGreatDoorGs18
import Derived.Test.YteojanlajhebhaaGreatDoorGs7
import Derived.Great.Walk
set_option maxRecDepth 100000
set_option maxHeartbeats 12800000
namespace Go.Proofs.YteojanlajhebhaaGreatDoor
open Go.RowKit
section
variable {w:World} {g d:Nat} {s:List UInt8} {b:PB} {dv:Value} {sub:Option (PB→PB×bF)}
theorem Zg (h:oV w g s b) (hp:kK s b = some 42) (ha:b.at_<1000) :
 Calls Tryz.prog 157 #[.pointer (some ⟨g,0,none⟩),dv] w (uV g s (d + 1) w (jw s sub 42 b)):=by
 have jm:iV s b =.tuple #[.int .u8 42,.bool true]:=by simp only[iV,hp];rfl
 have hat:Hid (jw s sub 42 b = (aW 2 (aH b),.set (bn 42))):=ζ rfl;clear hp;have hsz:=ζ (show (Tryz.prog.info? 149).map (·.size)=some (au 0 aV aI).size by rw[aN];exact aZ);have eP:=ζ (show Tryz.zeroCells149.size=(au 0 aV aI).size by rw[dn]);have h1:=ζ (bT (k:=0) (f:=aV) (kv:=aI) rfl);have hl:=h.lt;have jE:Hid (w.heap.size≠g):=ζ ω;have hb2:Hid (w.heap.size≤w.heap.size):=ζ (Nat.le_refl _);have aG:=ζ (aS.new w 149 (au 0 aV aI));have hG:=ζ (((ah.refl w).alloc (.cells (au 0 aV aI) 149)).keeps (some g));replace h:=ζ (h.grows ((ah.refl w).alloc (.cells (au 0 aV aI) 149)));go_enter Tryz.func157,Tryz.ntmps157
 go_wp2_with fail;rw[dn];clear hl;generalize hgr:w.heap.size=g2 at jE aG ⊢;generalize w.alloc (.cells (au 0 aV aI) 149)=w1 at *
 rw[hgr] at hb2;have hb2:Hid (w.heap.size≤g2):=ζ (Nat.le_of_eq hgr);clear hgr;go_wp2_with fail;refine (bP h.o).mono ?_;rintro e w2 ⟨rfl,fG⟩;replace h:=ζ (h.o.grows fG);replace hG:=ζ (hG.o.trans (fG.keeps (some g)));(try replace hF:=ζ (hF.o.grows fG))
 (try replace aG:=ζ (aG.o.grows fG))
 clear fG;rw[jm];have c1:w2.cell? ⟨g,1,none⟩=some (.int .i64 (b.at_:Int)):=(h.o.cell 1).trans rfl;have f1:=h.o.frozen 1;have l1:=h.o.lt;have i1: -9223372036854775808≤(b.at_:Int)+1∧(b.at_:Int)+1≤9223372036854775807:=ω;have hA:=ζ (iR h.o);have aO:=aj w2 ⟨g,1,none⟩ (.int .i64 ((b.at_:Int)+1));have gU:=ζ (hG.o.trans aO);replace aG:=ζ (aG.o.far (p:=⟨g,1,none⟩) jE.o (.int .i64 ((b.at_:Int)+1)));replace aO:=ζ aO;have hsw:=ζ hG.o.size;go_simp;iterate 44 go_step
 clear c1 f1 l1 i1 h hG aO;have jT:Hid ((w2.setCell ⟨g,1,none⟩ (.int .i64 ((b.at_:Int)+1))).heap.size=w2.heap.size):=ζ (World.size_setCell _ _ _);generalize w2.setCell ⟨g,1,none⟩ (.int .i64 ((b.at_:Int)+1))=w3 at *
 iterate 12 go_step
 refine wpList_store_row rfl 149 (.tmp 7) (.tmp 25) rfl w3.heap.size (au 0 aV aI) rfl κ 149 _ (heap_alloc_new w3 _) hsz.o eP.o h1.o ?_;rw[World.setRow_alloc_new];have uH:=hsw.o;have hF:=ζ (aS.new w3 149 (au 0 aV aI));have Iw:=aG.o.lt;have E8:=hA.o.lt;have xZ:w3.heap.size=w2.heap.size:=jT.o;have ER:Hid (w.heap.size≤w3.heap.size):=ζ ω;have hFg:Hid (w3.heap.size≠g):=ζ ω;have hne:Hid (w3.heap.size≠g2):=ζ ω;have h:=ζ (hA.o.grows ((ah.refl w3).alloc (.cells (au 0 aV aI) 149)));have hG:=ζ (gU.o.trans (((ah.refl w3).alloc (.cells (au 0 aV aI) 149)).keeps (some g)));replace aG:=ζ (aG.o.grows ((ah.refl w3).alloc (.cells (au 0 aV aI) 149)));clear hA gU hsw Iw E8 xZ uH jT;go_simp;generalize w3.alloc (.cells (au 0 aV aI) 149)=w4 at *
 generalize w3.heap.size=gn at *
 clear hsz eP h1;go_wp2_with fail;refine (jI h.o).mono ?_;rintro e w5 ⟨rfl,AY,jo⟩;replace hG:=ζ (hG.o.trans jo);(try replace hF:=ζ (hF.o.but jo hFg.o))
 (try replace aG:=ζ (aG.o.but jo jE.o))
 replace h:=ζ AY;clear AY jo;have hcb:42<256:=δ;have e2:au 0 (fun j=>if j = 42 then true else aV j) aI=au 0 (bn 42) aI:=iP fun j _=>by
  unfold bn Jg aV;by_cases e:j = 42
  ·subst e;simp
  ·rw[if_neg e];by_cases h2:42≤j
   ·rw[decide_eq_true h2,decide_eq_false ω];rfl
   ·rw[decide_eq_false h2];rfl
 have hF2:Hid (dZ (w5.setCell ⟨gn,1+42,none⟩ (.bool true)) gn 0 (bn 42) aI):=ζ (by
  rw[dZ,←e2];exact dZ.bit hF.o hcb true)
 have cF:=(hF.o.cell (1+42)).trans (je hcb);have fF:=hF.o.frozen (1+42);have lF:=hF.o.lt;have h2:=ζ (h.o.far (p:=⟨gn,1+42,none⟩) (fun e=>hFg.o e.symm) (.bool true));have tZ:=ζ (aG.o.far (p:=⟨gn,1+42,none⟩) (fun e=>hne.o e.symm) (.bool true));have iC:=ζ (hG.o.andThen (aj w5 ⟨gn,1+42,none⟩ (.bool true)) (fun j e=>by injection e with e;subst e;exact .inl ER.o));clear hF h aG hG e2;have hF:=hF2;have h:=h2;have aG:=tZ;have hG:=iC;clear hF2 h2 tZ iC;have hsz:=ζ (show (Tryz.prog.info? 149).map (·.size)=some (au 0 (bn 42) aI).size by rw[aN];exact aZ);have eP:=ζ (show (au 0 aV aI).size=(au 0 (bn 42) aI).size from (aN _ _ _).trans (aN _ _ _).symm);have h1:=ζ (bT (k:=0) (f:=(bn 42)) (kv:=aI) rfl);have yh:=ζ (h.o.but (aF (w5.setCell ⟨gn,1+42,none⟩ (.bool true)) g2 (au 0 (bn 42) aI)) (fun e=>jE.o e.symm));have jr:Hid (dZ ((w5.setCell ⟨gn,1+42,none⟩ (.bool true)).setRow g2 (au 0 (bn 42) aI)) g2 0 (bn 42) aI):=ζ (setRow_heap _ _ _ _ _ _ aG.o);have CP:=ζ (hG.o.andThen (aF (w5.setCell ⟨gn,1+42,none⟩ (.bool true)) g2 (au 0 (bn 42) aI)) (fun j e=>by injection e with e;subst e;exact .inl hb2.o));go_wp2_with (first | (refine wpList_load_row rfl 149 (.tmp 7) rfl gn rfl 149 (au 0 (bn 42) aI) (0,0) _ hF.o Tryz.underlying149 rfl hsz.o ?_) | (refine wpList_store_row rfl 149 (.tmp 4) (.tmp 105) rfl g2 (au 0 (bn 42) aI) rfl rfl 149 _ aG.o hsz.o (by first | exact eP.o | rfl) h1.o ?_));refine bodyPost_ret (v:=.agg (au 0 (bn 42) aI)) (results_cell_row (p:=4) (ty:=149) κ _ _ g2 149 (au 0 (bn 42) aI) (0,0) _ rfl jr.o Tryz.underlying149 rfl hsz.o) rfl ?_;rw[hat.o];exact⟨vw (bn 42),_,rfl,yh.o,CP.o,bI.leaf _ _ _ _ _,fun _=>rfl⟩
theorem Zf (h:oV w g s b) (hp:kK s b = some 43) (ha:b.at_<1000) :
 Calls Tryz.prog 157 #[.pointer (some ⟨g,0,none⟩),dv] w (uV g s (d + 1) w (jw s sub 43 b)):=by
 have jm:iV s b =.tuple #[.int .u8 43,.bool true]:=by simp only[iV,hp];rfl
 have hat:Hid (jw s sub 43 b = (aW 2 (aH b),.set (bn 43))):=ζ rfl;clear hp;have hsz:=ζ (show (Tryz.prog.info? 149).map (·.size)=some (au 0 aV aI).size by rw[aN];exact aZ);have eP:=ζ (show Tryz.zeroCells149.size=(au 0 aV aI).size by rw[dn]);have h1:=ζ (bT (k:=0) (f:=aV) (kv:=aI) rfl);have hl:=h.lt;have jE:Hid (w.heap.size≠g):=ζ ω;have hb2:Hid (w.heap.size≤w.heap.size):=ζ (Nat.le_refl _);have aG:=ζ (aS.new w 149 (au 0 aV aI));have hG:=ζ (((ah.refl w).alloc (.cells (au 0 aV aI) 149)).keeps (some g));replace h:=ζ (h.grows ((ah.refl w).alloc (.cells (au 0 aV aI) 149)));go_enter Tryz.func157,Tryz.ntmps157
 go_wp2_with fail;rw[dn];clear hl;generalize hgr:w.heap.size=g2 at jE aG ⊢;generalize w.alloc (.cells (au 0 aV aI) 149)=w1 at *
 rw[hgr] at hb2;have hb2:Hid (w.heap.size≤g2):=ζ (Nat.le_of_eq hgr);clear hgr;go_wp2_with fail;refine (bP h.o).mono ?_;rintro e w2 ⟨rfl,fG⟩;replace h:=ζ (h.o.grows fG);replace hG:=ζ (hG.o.trans (fG.keeps (some g)));(try replace hF:=ζ (hF.o.grows fG))
 (try replace aG:=ζ (aG.o.grows fG))
 clear fG;rw[jm];have c1:w2.cell? ⟨g,1,none⟩=some (.int .i64 (b.at_:Int)):=(h.o.cell 1).trans rfl;have f1:=h.o.frozen 1;have l1:=h.o.lt;have i1: -9223372036854775808≤(b.at_:Int)+1∧(b.at_:Int)+1≤9223372036854775807:=ω;have hA:=ζ (iR h.o);have aO:=aj w2 ⟨g,1,none⟩ (.int .i64 ((b.at_:Int)+1));have gU:=ζ (hG.o.trans aO);replace aG:=ζ (aG.o.far (p:=⟨g,1,none⟩) jE.o (.int .i64 ((b.at_:Int)+1)));replace aO:=ζ aO;have hsw:=ζ hG.o.size;go_simp;iterate 44 go_step
 clear c1 f1 l1 i1 h hG aO;have jT:Hid ((w2.setCell ⟨g,1,none⟩ (.int .i64 ((b.at_:Int)+1))).heap.size=w2.heap.size):=ζ (World.size_setCell _ _ _);generalize w2.setCell ⟨g,1,none⟩ (.int .i64 ((b.at_:Int)+1))=w3 at *
 iterate 12 go_step
 refine wpList_store_row rfl 149 (.tmp 7) (.tmp 25) rfl w3.heap.size (au 0 aV aI) rfl κ 149 _ (heap_alloc_new w3 _) hsz.o eP.o h1.o ?_;rw[World.setRow_alloc_new];have uH:=hsw.o;have hF:=ζ (aS.new w3 149 (au 0 aV aI));have Iw:=aG.o.lt;have E8:=hA.o.lt;have xZ:w3.heap.size=w2.heap.size:=jT.o;have ER:Hid (w.heap.size≤w3.heap.size):=ζ ω;have hFg:Hid (w3.heap.size≠g):=ζ ω;have hne:Hid (w3.heap.size≠g2):=ζ ω;have h:=ζ (hA.o.grows ((ah.refl w3).alloc (.cells (au 0 aV aI) 149)));have hG:=ζ (gU.o.trans (((ah.refl w3).alloc (.cells (au 0 aV aI) 149)).keeps (some g)));replace aG:=ζ (aG.o.grows ((ah.refl w3).alloc (.cells (au 0 aV aI) 149)));clear hA gU hsw Iw E8 xZ uH jT;go_simp;generalize w3.alloc (.cells (au 0 aV aI) 149)=w4 at *
 generalize w3.heap.size=gn at *
 clear hsz eP h1;go_wp2_with fail;refine (jI h.o).mono ?_;rintro e w5 ⟨rfl,AY,jo⟩;replace hG:=ζ (hG.o.trans jo);(try replace hF:=ζ (hF.o.but jo hFg.o))
 (try replace aG:=ζ (aG.o.but jo jE.o))
 replace h:=ζ AY;clear AY jo;have hcb:43<256:=δ;have e2:au 0 (fun j=>if j = 43 then true else aV j) aI=au 0 (bn 43) aI:=iP fun j _=>by
  unfold bn Jg aV;by_cases e:j = 43
  ·subst e;simp
  ·rw[if_neg e];by_cases h2:43≤j
   ·rw[decide_eq_true h2,decide_eq_false ω];rfl
   ·rw[decide_eq_false h2];rfl
 have hF2:Hid (dZ (w5.setCell ⟨gn,1+43,none⟩ (.bool true)) gn 0 (bn 43) aI):=ζ (by
  rw[dZ,←e2];exact dZ.bit hF.o hcb true)
 have cF:=(hF.o.cell (1+43)).trans (je hcb);have fF:=hF.o.frozen (1+43);have lF:=hF.o.lt;have h2:=ζ (h.o.far (p:=⟨gn,1+43,none⟩) (fun e=>hFg.o e.symm) (.bool true));have tZ:=ζ (aG.o.far (p:=⟨gn,1+43,none⟩) (fun e=>hne.o e.symm) (.bool true));have iC:=ζ (hG.o.andThen (aj w5 ⟨gn,1+43,none⟩ (.bool true)) (fun j e=>by injection e with e;subst e;exact .inl ER.o));clear hF h aG hG e2;have hF:=hF2;have h:=h2;have aG:=tZ;have hG:=iC;clear hF2 h2 tZ iC;have hsz:=ζ (show (Tryz.prog.info? 149).map (·.size)=some (au 0 (bn 43) aI).size by rw[aN];exact aZ);have eP:=ζ (show (au 0 aV aI).size=(au 0 (bn 43) aI).size from (aN _ _ _).trans (aN _ _ _).symm);have h1:=ζ (bT (k:=0) (f:=(bn 43)) (kv:=aI) rfl);have yh:=ζ (h.o.but (aF (w5.setCell ⟨gn,1+43,none⟩ (.bool true)) g2 (au 0 (bn 43) aI)) (fun e=>jE.o e.symm));have jr:Hid (dZ ((w5.setCell ⟨gn,1+43,none⟩ (.bool true)).setRow g2 (au 0 (bn 43) aI)) g2 0 (bn 43) aI):=ζ (setRow_heap _ _ _ _ _ _ aG.o);have CP:=ζ (hG.o.andThen (aF (w5.setCell ⟨gn,1+43,none⟩ (.bool true)) g2 (au 0 (bn 43) aI)) (fun j e=>by injection e with e;subst e;exact .inl hb2.o));go_wp2_with (first | (refine wpList_load_row rfl 149 (.tmp 7) rfl gn rfl 149 (au 0 (bn 43) aI) (0,0) _ hF.o Tryz.underlying149 rfl hsz.o ?_) | (refine wpList_store_row rfl 149 (.tmp 4) (.tmp 105) rfl g2 (au 0 (bn 43) aI) rfl rfl 149 _ aG.o hsz.o (by first | exact eP.o | rfl) h1.o ?_));refine bodyPost_ret (v:=.agg (au 0 (bn 43) aI)) (results_cell_row (p:=4) (ty:=149) κ _ _ g2 149 (au 0 (bn 43) aI) (0,0) _ rfl jr.o Tryz.underlying149 rfl hsz.o) rfl ?_;rw[hat.o];exact⟨vw (bn 43),_,rfl,yh.o,CP.o,bI.leaf _ _ _ _ _,fun _=>rfl⟩
theorem Ze (h:oV w g s b) (hp:kK s b = some 63) (ha:b.at_<1000) :
 Calls Tryz.prog 157 #[.pointer (some ⟨g,0,none⟩),dv] w (uV g s (d + 1) w (jw s sub 63 b)):=by
 have jm:iV s b =.tuple #[.int .u8 63,.bool true]:=by simp only[iV,hp];rfl
 have hat:Hid (jw s sub 63 b = (aW 2 (aH b),.set (bn 63))):=ζ rfl;clear hp;have hsz:=ζ (show (Tryz.prog.info? 149).map (·.size)=some (au 0 aV aI).size by rw[aN];exact aZ);have eP:=ζ (show Tryz.zeroCells149.size=(au 0 aV aI).size by rw[dn]);have h1:=ζ (bT (k:=0) (f:=aV) (kv:=aI) rfl);have hl:=h.lt;have jE:Hid (w.heap.size≠g):=ζ ω;have hb2:Hid (w.heap.size≤w.heap.size):=ζ (Nat.le_refl _);have aG:=ζ (aS.new w 149 (au 0 aV aI));have hG:=ζ (((ah.refl w).alloc (.cells (au 0 aV aI) 149)).keeps (some g));replace h:=ζ (h.grows ((ah.refl w).alloc (.cells (au 0 aV aI) 149)));go_enter Tryz.func157,Tryz.ntmps157
 go_wp2_with fail;rw[dn];clear hl;generalize hgr:w.heap.size=g2 at jE aG ⊢;generalize w.alloc (.cells (au 0 aV aI) 149)=w1 at *
 rw[hgr] at hb2;have hb2:Hid (w.heap.size≤g2):=ζ (Nat.le_of_eq hgr);clear hgr;go_wp2_with fail;refine (bP h.o).mono ?_;rintro e w2 ⟨rfl,fG⟩;replace h:=ζ (h.o.grows fG);replace hG:=ζ (hG.o.trans (fG.keeps (some g)));(try replace hF:=ζ (hF.o.grows fG))
 (try replace aG:=ζ (aG.o.grows fG))
 clear fG;rw[jm];have c1:w2.cell? ⟨g,1,none⟩=some (.int .i64 (b.at_:Int)):=(h.o.cell 1).trans rfl;have f1:=h.o.frozen 1;have l1:=h.o.lt;have i1: -9223372036854775808≤(b.at_:Int)+1∧(b.at_:Int)+1≤9223372036854775807:=ω;have hA:=ζ (iR h.o);have aO:=aj w2 ⟨g,1,none⟩ (.int .i64 ((b.at_:Int)+1));have gU:=ζ (hG.o.trans aO);replace aG:=ζ (aG.o.far (p:=⟨g,1,none⟩) jE.o (.int .i64 ((b.at_:Int)+1)));replace aO:=ζ aO;have hsw:=ζ hG.o.size;go_simp;iterate 44 go_step
 clear c1 f1 l1 i1 h hG aO;have jT:Hid ((w2.setCell ⟨g,1,none⟩ (.int .i64 ((b.at_:Int)+1))).heap.size=w2.heap.size):=ζ (World.size_setCell _ _ _);generalize w2.setCell ⟨g,1,none⟩ (.int .i64 ((b.at_:Int)+1))=w3 at *
 iterate 12 go_step
 refine wpList_store_row rfl 149 (.tmp 7) (.tmp 25) rfl w3.heap.size (au 0 aV aI) rfl κ 149 _ (heap_alloc_new w3 _) hsz.o eP.o h1.o ?_;rw[World.setRow_alloc_new];have uH:=hsw.o;have hF:=ζ (aS.new w3 149 (au 0 aV aI));have Iw:=aG.o.lt;have E8:=hA.o.lt;have xZ:w3.heap.size=w2.heap.size:=jT.o;have ER:Hid (w.heap.size≤w3.heap.size):=ζ ω;have hFg:Hid (w3.heap.size≠g):=ζ ω;have hne:Hid (w3.heap.size≠g2):=ζ ω;have h:=ζ (hA.o.grows ((ah.refl w3).alloc (.cells (au 0 aV aI) 149)));have hG:=ζ (gU.o.trans (((ah.refl w3).alloc (.cells (au 0 aV aI) 149)).keeps (some g)));replace aG:=ζ (aG.o.grows ((ah.refl w3).alloc (.cells (au 0 aV aI) 149)));clear hA gU hsw Iw E8 xZ uH jT;go_simp;generalize w3.alloc (.cells (au 0 aV aI) 149)=w4 at *
 generalize w3.heap.size=gn at *
 clear hsz eP h1;go_wp2_with fail;refine (jI h.o).mono ?_;rintro e w5 ⟨rfl,AY,jo⟩;replace hG:=ζ (hG.o.trans jo);(try replace hF:=ζ (hF.o.but jo hFg.o))
 (try replace aG:=ζ (aG.o.but jo jE.o))
 replace h:=ζ AY;clear AY jo;have hcb:63<256:=δ;have e2:au 0 (fun j=>if j = 63 then true else aV j) aI=au 0 (bn 63) aI:=iP fun j _=>by
  unfold bn Jg aV;by_cases e:j = 63
  ·subst e;simp
  ·rw[if_neg e];by_cases h2:63≤j
   ·rw[decide_eq_true h2,decide_eq_false ω];rfl
   ·rw[decide_eq_false h2];rfl
 have hF2:Hid (dZ (w5.setCell ⟨gn,1+63,none⟩ (.bool true)) gn 0 (bn 63) aI):=ζ (by
  rw[dZ,←e2];exact dZ.bit hF.o hcb true)
 have cF:=(hF.o.cell (1+63)).trans (je hcb);have fF:=hF.o.frozen (1+63);have lF:=hF.o.lt;have h2:=ζ (h.o.far (p:=⟨gn,1+63,none⟩) (fun e=>hFg.o e.symm) (.bool true));have tZ:=ζ (aG.o.far (p:=⟨gn,1+63,none⟩) (fun e=>hne.o e.symm) (.bool true));have iC:=ζ (hG.o.andThen (aj w5 ⟨gn,1+63,none⟩ (.bool true)) (fun j e=>by injection e with e;subst e;exact .inl ER.o));clear hF h aG hG e2;have hF:=hF2;have h:=h2;have aG:=tZ;have hG:=iC;clear hF2 h2 tZ iC;have hsz:=ζ (show (Tryz.prog.info? 149).map (·.size)=some (au 0 (bn 63) aI).size by rw[aN];exact aZ);have eP:=ζ (show (au 0 aV aI).size=(au 0 (bn 63) aI).size from (aN _ _ _).trans (aN _ _ _).symm);have h1:=ζ (bT (k:=0) (f:=(bn 63)) (kv:=aI) rfl);have yh:=ζ (h.o.but (aF (w5.setCell ⟨gn,1+63,none⟩ (.bool true)) g2 (au 0 (bn 63) aI)) (fun e=>jE.o e.symm));have jr:Hid (dZ ((w5.setCell ⟨gn,1+63,none⟩ (.bool true)).setRow g2 (au 0 (bn 63) aI)) g2 0 (bn 63) aI):=ζ (setRow_heap _ _ _ _ _ _ aG.o);have CP:=ζ (hG.o.andThen (aF (w5.setCell ⟨gn,1+63,none⟩ (.bool true)) g2 (au 0 (bn 63) aI)) (fun j e=>by injection e with e;subst e;exact .inl hb2.o));go_wp2_with (first | (refine wpList_load_row rfl 149 (.tmp 7) rfl gn rfl 149 (au 0 (bn 63) aI) (0,0) _ hF.o Tryz.underlying149 rfl hsz.o ?_) | (refine wpList_store_row rfl 149 (.tmp 4) (.tmp 105) rfl g2 (au 0 (bn 63) aI) rfl rfl 149 _ aG.o hsz.o (by first | exact eP.o | rfl) h1.o ?_));refine bodyPost_ret (v:=.agg (au 0 (bn 63) aI)) (results_cell_row (p:=4) (ty:=149) κ _ _ g2 149 (au 0 (bn 63) aI) (0,0) _ rfl jr.o Tryz.underlying149 rfl hsz.o) rfl ?_;rw[hat.o];exact⟨vw (bn 63),_,rfl,yh.o,CP.o,bI.leaf _ _ _ _ _,fun _=>rfl⟩
theorem Zd (h:oV w g s b) (hp:kK s b = some 93) (ha:b.at_<1000) :
 Calls Tryz.prog 157 #[.pointer (some ⟨g,0,none⟩),dv] w (uV g s (d + 1) w (jw s sub 93 b)):=by
 have jm:iV s b =.tuple #[.int .u8 93,.bool true]:=by simp only[iV,hp];rfl
 have hat:Hid (jw s sub 93 b = (aW 2 (aH b),.set (bn 93))):=ζ rfl;clear hp;have hsz:=ζ (show (Tryz.prog.info? 149).map (·.size)=some (au 0 aV aI).size by rw[aN];exact aZ);have eP:=ζ (show Tryz.zeroCells149.size=(au 0 aV aI).size by rw[dn]);have h1:=ζ (bT (k:=0) (f:=aV) (kv:=aI) rfl);have hl:=h.lt;have jE:Hid (w.heap.size≠g):=ζ ω;have hb2:Hid (w.heap.size≤w.heap.size):=ζ (Nat.le_refl _);have aG:=ζ (aS.new w 149 (au 0 aV aI));have hG:=ζ (((ah.refl w).alloc (.cells (au 0 aV aI) 149)).keeps (some g));replace h:=ζ (h.grows ((ah.refl w).alloc (.cells (au 0 aV aI) 149)));go_enter Tryz.func157,Tryz.ntmps157
 go_wp2_with fail;rw[dn];clear hl;generalize hgr:w.heap.size=g2 at jE aG ⊢;generalize w.alloc (.cells (au 0 aV aI) 149)=w1 at *
 rw[hgr] at hb2;have hb2:Hid (w.heap.size≤g2):=ζ (Nat.le_of_eq hgr);clear hgr;go_wp2_with fail;refine (bP h.o).mono ?_;rintro e w2 ⟨rfl,fG⟩;replace h:=ζ (h.o.grows fG);replace hG:=ζ (hG.o.trans (fG.keeps (some g)));(try replace hF:=ζ (hF.o.grows fG))
 (try replace aG:=ζ (aG.o.grows fG))
 clear fG;rw[jm];have c1:w2.cell? ⟨g,1,none⟩=some (.int .i64 (b.at_:Int)):=(h.o.cell 1).trans rfl;have f1:=h.o.frozen 1;have l1:=h.o.lt;have i1: -9223372036854775808≤(b.at_:Int)+1∧(b.at_:Int)+1≤9223372036854775807:=ω;have hA:=ζ (iR h.o);have aO:=aj w2 ⟨g,1,none⟩ (.int .i64 ((b.at_:Int)+1));have gU:=ζ (hG.o.trans aO);replace aG:=ζ (aG.o.far (p:=⟨g,1,none⟩) jE.o (.int .i64 ((b.at_:Int)+1)));replace aO:=ζ aO;have hsw:=ζ hG.o.size;go_simp;iterate 44 go_step
 clear c1 f1 l1 i1 h hG aO;have jT:Hid ((w2.setCell ⟨g,1,none⟩ (.int .i64 ((b.at_:Int)+1))).heap.size=w2.heap.size):=ζ (World.size_setCell _ _ _);generalize w2.setCell ⟨g,1,none⟩ (.int .i64 ((b.at_:Int)+1))=w3 at *
 iterate 12 go_step
 refine wpList_store_row rfl 149 (.tmp 7) (.tmp 25) rfl w3.heap.size (au 0 aV aI) rfl κ 149 _ (heap_alloc_new w3 _) hsz.o eP.o h1.o ?_;rw[World.setRow_alloc_new];have uH:=hsw.o;have hF:=ζ (aS.new w3 149 (au 0 aV aI));have Iw:=aG.o.lt;have E8:=hA.o.lt;have xZ:w3.heap.size=w2.heap.size:=jT.o;have ER:Hid (w.heap.size≤w3.heap.size):=ζ ω;have hFg:Hid (w3.heap.size≠g):=ζ ω;have hne:Hid (w3.heap.size≠g2):=ζ ω;have h:=ζ (hA.o.grows ((ah.refl w3).alloc (.cells (au 0 aV aI) 149)));have hG:=ζ (gU.o.trans (((ah.refl w3).alloc (.cells (au 0 aV aI) 149)).keeps (some g)));replace aG:=ζ (aG.o.grows ((ah.refl w3).alloc (.cells (au 0 aV aI) 149)));clear hA gU hsw Iw E8 xZ uH jT;go_simp;generalize w3.alloc (.cells (au 0 aV aI) 149)=w4 at *
 generalize w3.heap.size=gn at *
 clear hsz eP h1;go_wp2_with fail;refine (jI h.o).mono ?_;rintro e w5 ⟨rfl,AY,jo⟩;replace hG:=ζ (hG.o.trans jo);(try replace hF:=ζ (hF.o.but jo hFg.o))
 (try replace aG:=ζ (aG.o.but jo jE.o))
 replace h:=ζ AY;clear AY jo;have hcb:93<256:=δ;have e2:au 0 (fun j=>if j = 93 then true else aV j) aI=au 0 (bn 93) aI:=iP fun j _=>by
  unfold bn Jg aV;by_cases e:j = 93
  ·subst e;simp
  ·rw[if_neg e];by_cases h2:93≤j
   ·rw[decide_eq_true h2,decide_eq_false ω];rfl
   ·rw[decide_eq_false h2];rfl
 have hF2:Hid (dZ (w5.setCell ⟨gn,1+93,none⟩ (.bool true)) gn 0 (bn 93) aI):=ζ (by
  rw[dZ,←e2];exact dZ.bit hF.o hcb true)
 have cF:=(hF.o.cell (1+93)).trans (je hcb);have fF:=hF.o.frozen (1+93);have lF:=hF.o.lt;have h2:=ζ (h.o.far (p:=⟨gn,1+93,none⟩) (fun e=>hFg.o e.symm) (.bool true));have tZ:=ζ (aG.o.far (p:=⟨gn,1+93,none⟩) (fun e=>hne.o e.symm) (.bool true));have iC:=ζ (hG.o.andThen (aj w5 ⟨gn,1+93,none⟩ (.bool true)) (fun j e=>by injection e with e;subst e;exact .inl ER.o));clear hF h aG hG e2;have hF:=hF2;have h:=h2;have aG:=tZ;have hG:=iC;clear hF2 h2 tZ iC;have hsz:=ζ (show (Tryz.prog.info? 149).map (·.size)=some (au 0 (bn 93) aI).size by rw[aN];exact aZ);have eP:=ζ (show (au 0 aV aI).size=(au 0 (bn 93) aI).size from (aN _ _ _).trans (aN _ _ _).symm);have h1:=ζ (bT (k:=0) (f:=(bn 93)) (kv:=aI) rfl);have yh:=ζ (h.o.but (aF (w5.setCell ⟨gn,1+93,none⟩ (.bool true)) g2 (au 0 (bn 93) aI)) (fun e=>jE.o e.symm));have jr:Hid (dZ ((w5.setCell ⟨gn,1+93,none⟩ (.bool true)).setRow g2 (au 0 (bn 93) aI)) g2 0 (bn 93) aI):=ζ (setRow_heap _ _ _ _ _ _ aG.o);have CP:=ζ (hG.o.andThen (aF (w5.setCell ⟨gn,1+93,none⟩ (.bool true)) g2 (au 0 (bn 93) aI)) (fun j e=>by injection e with e;subst e;exact .inl hb2.o));go_wp2_with (first | (refine wpList_load_row rfl 149 (.tmp 7) rfl gn rfl 149 (au 0 (bn 93) aI) (0,0) _ hF.o Tryz.underlying149 rfl hsz.o ?_) | (refine wpList_store_row rfl 149 (.tmp 4) (.tmp 105) rfl g2 (au 0 (bn 93) aI) rfl rfl 149 _ aG.o hsz.o (by first | exact eP.o | rfl) h1.o ?_));refine bodyPost_ret (v:=.agg (au 0 (bn 93) aI)) (results_cell_row (p:=4) (ty:=149) κ _ _ g2 149 (au 0 (bn 93) aI) (0,0) _ rfl jr.o Tryz.underlying149 rfl hsz.o) rfl ?_;rw[hat.o];exact⟨vw (bn 93),_,rfl,yh.o,CP.o,bI.leaf _ _ _ _ _,fun _=>rfl⟩
theorem afX (h:oV w g s b) (hp:kK s b = some 46) (ha:b.at_<1000) :
 Calls Tryz.prog 157 #[.pointer (some ⟨g,0,none⟩),dv] w (uV g s (d + 1) w (jw s sub 46 b)):=by
 have jm:iV s b =.tuple #[.int .u8 46,.bool true]:=by simp only[iV,hp];rfl
 have hat:Hid (jw s sub 46 b = (aH b,.set (fun _=>true))):=ζ rfl;clear hp;have hsz:=ζ (show (Tryz.prog.info? 149).map (·.size)=some (au 0 aV aI).size by rw[aN];exact aZ);have eP:=ζ (show Tryz.zeroCells149.size=(au 0 aV aI).size by rw[dn]);have h1:=ζ (bT (k:=0) (f:=aV) (kv:=aI) rfl);have hl:=h.lt;have jE:Hid (w.heap.size≠g):=ζ ω;have hb2:Hid (w.heap.size≤w.heap.size):=ζ (Nat.le_refl _);have aG:=ζ (aS.new w 149 (au 0 aV aI));have hG:=ζ (((ah.refl w).alloc (.cells (au 0 aV aI) 149)).keeps (some g));replace h:=ζ (h.grows ((ah.refl w).alloc (.cells (au 0 aV aI) 149)));go_enter Tryz.func157,Tryz.ntmps157
 go_wp2_with fail;rw[dn];clear hl;generalize hgr:w.heap.size=g2 at jE aG ⊢;generalize w.alloc (.cells (au 0 aV aI) 149)=w1 at *
 rw[hgr] at hb2;have hb2:Hid (w.heap.size≤g2):=ζ (Nat.le_of_eq hgr);clear hgr;go_wp2_with fail;refine (bP h.o).mono ?_;rintro e w2 ⟨rfl,fG⟩;replace h:=ζ (h.o.grows fG);replace hG:=ζ (hG.o.trans (fG.keeps (some g)));(try replace hF:=ζ (hF.o.grows fG))
 (try replace aG:=ζ (aG.o.grows fG))
 clear fG;rw[jm];have c1:w2.cell? ⟨g,1,none⟩=some (.int .i64 (b.at_:Int)):=(h.o.cell 1).trans rfl;have f1:=h.o.frozen 1;have l1:=h.o.lt;have i1: -9223372036854775808≤(b.at_:Int)+1∧(b.at_:Int)+1≤9223372036854775807:=ω;have hA:=ζ (iR h.o);have aO:=aj w2 ⟨g,1,none⟩ (.int .i64 ((b.at_:Int)+1));have gU:=ζ (hG.o.trans aO);replace aG:=ζ (aG.o.far (p:=⟨g,1,none⟩) jE.o (.int .i64 ((b.at_:Int)+1)));replace aO:=ζ aO;have hsw:=ζ hG.o.size;go_simp;iterate 44 go_step
 clear c1 f1 l1 i1 h hG aO;have jT:Hid ((w2.setCell ⟨g,1,none⟩ (.int .i64 ((b.at_:Int)+1))).heap.size=w2.heap.size):=ζ (World.size_setCell _ _ _);generalize w2.setCell ⟨g,1,none⟩ (.int .i64 ((b.at_:Int)+1))=w3 at *
 iterate 12 go_step
 refine wpList_store_row rfl 149 (.tmp 7) (.tmp 25) rfl w3.heap.size (au 0 aV aI) rfl κ 149 _ (heap_alloc_new w3 _) hsz.o eP.o h1.o ?_;rw[World.setRow_alloc_new];have uH:=hsw.o;have hF:=ζ (aS.new w3 149 (au 0 aV aI));have Iw:=aG.o.lt;have E8:=hA.o.lt;have xZ:w3.heap.size=w2.heap.size:=jT.o;have ER:Hid (w.heap.size≤w3.heap.size):=ζ ω;have hFg:Hid (w3.heap.size≠g):=ζ ω;have hne:Hid (w3.heap.size≠g2):=ζ ω;have h:=ζ (hA.o.grows ((ah.refl w3).alloc (.cells (au 0 aV aI) 149)));have hG:=ζ (gU.o.trans (((ah.refl w3).alloc (.cells (au 0 aV aI) 149)).keeps (some g)));replace aG:=ζ (aG.o.grows ((ah.refl w3).alloc (.cells (au 0 aV aI) 149)));clear hA gU hsw Iw E8 xZ uH jT;go_simp;generalize w3.alloc (.cells (au 0 aV aI) 149)=w4 at *
 generalize w3.heap.size=gn at *
 clear hsz eP h1;go_wp2_with fail;refine amj hF π ?_;intros
 rename_i wz hz;obtain⟨YB,qI⟩:=hz;replace h:=ζ (h.o.but qI.o (fun e=>hFg.o e.symm));replace aG:=ζ (aG.o.but qI.o (fun e=>hne.o e.symm));replace hG:=ζ (hG.o.andThen qI.o (fun j e=>by injection e with e;subst e;exact .inl ER.o));clear qI hF;have hF:=YB;clear YB;have hsz:=ζ (show (Tryz.prog.info? 149).map (·.size)=some (au 0 (fun _=>true) aI).size by rw[aN];exact aZ);have eP:=ζ (show (au 0 aV aI).size=(au 0 (fun _=>true) aI).size from (aN _ _ _).trans (aN _ _ _).symm);have h1:=ζ (bT (k:=0) (f:=(fun _=>true)) (kv:=aI) rfl);have yh:=ζ (h.o.but (aF wz g2 (au 0 (fun _=>true) aI)) (fun e=>jE.o e.symm));have jr:Hid (dZ (wz.setRow g2 (au 0 (fun _=>true) aI)) g2 0 (fun _=>true) aI):=ζ (setRow_heap _ _ _ _ _ _ aG.o);have CP:=ζ (hG.o.andThen (aF wz g2 (au 0 (fun _=>true) aI)) (fun j e=>by injection e with e;subst e;exact .inl hb2.o));go_wp2_with (first | (refine wpList_load_row rfl 149 (.tmp 7) rfl gn rfl 149 (au 0 (fun _=>true) aI) (0,0) _ hF.o Tryz.underlying149 rfl hsz.o ?_) | (refine wpList_store_row rfl 149 (.tmp 4) (.tmp 68) rfl g2 (au 0 (fun _=>true) aI) rfl rfl 149 _ aG.o hsz.o (by first | exact eP.o | rfl) h1.o ?_));refine bodyPost_ret (v:=.agg (au 0 (fun _=>true) aI)) (results_cell_row (p:=4) (ty:=149) κ _ _ g2 149 (au 0 (fun _=>true) aI) (0,0) _ rfl jr.o Tryz.underlying149 rfl hsz.o) rfl ?_;rw[hat.o];exact⟨vw (fun _=>true),_,rfl,yh.o,CP.o,bI.leaf _ _ _ _ _,fun _=>rfl⟩
theorem Zi (h:oV w g s b) (hp:kK s b = some 91) (ha:b.at_<1000) (tX:s.length≤100) :
 Calls Tryz.prog 157 #[.pointer (some ⟨g,0,none⟩),dv] w (uV g s (d + 1) w (jw s sub 91 b)):=by
 have jm:iV s b =.tuple #[.int .u8 91,.bool true]:=by simp only[iV,hp];rfl
 have hat:Hid (jw s sub 91 b = ((tq s (aH b)).1,.set (tq s (aH b)).2)):=ζ rfl;have wL:Hid ((aH b).at_≤s.length):=ζ (dN hp).2.1;clear hp;have hsz:=ζ (show (Tryz.prog.info? 149).map (·.size)=some (au 0 aV aI).size by rw[aN];exact aZ);have eP:=ζ (show Tryz.zeroCells149.size=(au 0 aV aI).size by rw[dn]);have h1:=ζ (bT (k:=0) (f:=aV) (kv:=aI) rfl);have hl:=h.lt;have jE:Hid (w.heap.size≠g):=ζ ω;have hb2:Hid (w.heap.size≤w.heap.size):=ζ (Nat.le_refl _);have aG:=ζ (aS.new w 149 (au 0 aV aI));have hG:=ζ (((ah.refl w).alloc (.cells (au 0 aV aI) 149)).keeps (some g));replace h:=ζ (h.grows ((ah.refl w).alloc (.cells (au 0 aV aI) 149)));go_enter Tryz.func157,Tryz.ntmps157
 go_wp2_with fail;rw[dn];clear hl;generalize hgr:w.heap.size=g2 at jE aG ⊢;generalize w.alloc (.cells (au 0 aV aI) 149)=w1 at *
 rw[hgr] at hb2;have hb2:Hid (w.heap.size≤g2):=ζ (Nat.le_of_eq hgr);clear hgr;go_wp2_with fail;refine (bP h.o).mono ?_;rintro e w2 ⟨rfl,fG⟩;replace h:=ζ (h.o.grows fG);replace hG:=ζ (hG.o.trans (fG.keeps (some g)));(try replace hF:=ζ (hF.o.grows fG))
 (try replace aG:=ζ (aG.o.grows fG))
 clear fG;rw[jm];have c1:w2.cell? ⟨g,1,none⟩=some (.int .i64 (b.at_:Int)):=(h.o.cell 1).trans rfl;have f1:=h.o.frozen 1;have l1:=h.o.lt;have i1: -9223372036854775808≤(b.at_:Int)+1∧(b.at_:Int)+1≤9223372036854775807:=ω;have hA:=ζ (iR h.o);have aO:=aj w2 ⟨g,1,none⟩ (.int .i64 ((b.at_:Int)+1));have gU:=ζ (hG.o.trans aO);replace aG:=ζ (aG.o.far (p:=⟨g,1,none⟩) jE.o (.int .i64 ((b.at_:Int)+1)));replace aO:=ζ aO;have hsw:=ζ hG.o.size;go_simp;iterate 44 go_step
 clear c1 f1 l1 i1 h hG aO;have jT:Hid ((w2.setCell ⟨g,1,none⟩ (.int .i64 ((b.at_:Int)+1))).heap.size=w2.heap.size):=ζ (World.size_setCell _ _ _);generalize w2.setCell ⟨g,1,none⟩ (.int .i64 ((b.at_:Int)+1))=w3 at *
 iterate 12 go_step
 refine wpList_store_row rfl 149 (.tmp 7) (.tmp 25) rfl w3.heap.size (au 0 aV aI) rfl κ 149 _ (heap_alloc_new w3 _) hsz.o eP.o h1.o ?_;rw[World.setRow_alloc_new];have uH:=hsw.o;have hF:=ζ (aS.new w3 149 (au 0 aV aI));have Iw:=aG.o.lt;have E8:=hA.o.lt;have xZ:w3.heap.size=w2.heap.size:=jT.o;have ER:Hid (w.heap.size≤w3.heap.size):=ζ ω;have hFg:Hid (w3.heap.size≠g):=ζ ω;have hne:Hid (w3.heap.size≠g2):=ζ ω;have h:=ζ (hA.o.grows ((ah.refl w3).alloc (.cells (au 0 aV aI) 149)));have hG:=ζ (gU.o.trans (((ah.refl w3).alloc (.cells (au 0 aV aI) 149)).keeps (some g)));replace aG:=ζ (aG.o.grows ((ah.refl w3).alloc (.cells (au 0 aV aI) 149)));clear hA gU hsw Iw E8 xZ uH jT;go_simp;generalize w3.alloc (.cells (au 0 aV aI) 149)=w4 at *
 generalize w3.heap.size=gn at *
 clear hsz eP h1;go_wp2_with fail;refine (acw h.o tX wL.o).mono ?_;rintro e w5 ⟨fz,rfl,Qg,sQ,hfz⟩;replace aG:=ζ (aG.o.but sQ jE.o);replace hG:=ζ (hG.o.trans sQ);replace h:=ζ Qg;clear hF sQ Qg;have hsz:=ζ (show (Tryz.prog.info? 149).map (·.size)=some (au 0 fz aI).size by rw[aN];exact aZ);have eP:=ζ (show (au 0 aV aI).size=(au 0 fz aI).size by rw[aN,aN]);have h1:=ζ (bT (k:=0) (f:=fz) (kv:=aI) rfl);have yh:=ζ (h.o.but (aF w5 g2 (au 0 fz aI)) (fun e=>jE.o e.symm));have jr:Hid (dZ (w5.setRow g2 (au 0 fz aI)) g2 0 fz aI):=ζ (setRow_heap _ _ _ _ _ _ aG.o);have CP:=ζ (hG.o.andThen (aF w5 g2 (au 0 fz aI)) (fun j e=>by injection e with e;subst e;exact .inl hb2.o));go_wp2_with (refine wpList_store_row rfl 149 (.tmp 4) (.tmp 72) rfl g2 (au 0 fz aI) rfl rfl 149 _ aG.o hsz.o eP.o h1.o ?_);refine bodyPost_ret (v:=.agg (au 0 fz aI)) (results_cell_row (p:=4) (ty:=149) κ _ _ g2 149 (au 0 fz aI) (0,0) _ rfl jr.o Tryz.underlying149 rfl hsz.o) rfl ?_;rw[hat.o];exact⟨vw fz,_,rfl,yh.o,CP.o,bI.leaf _ _ _ _ _,fun he=>by rw[hfz he]⟩
theorem afW (h:oV w g s b) (hp:kK s b = some 92) (ha:b.at_<1000) :
 Calls Tryz.prog 157 #[.pointer (some ⟨g,0,none⟩),dv] w (uV g s (d + 1) w (jw s sub 92 b)):=by
 have jm:iV s b =.tuple #[.int .u8 92,.bool true]:=by simp only[iV,hp];rfl
 have agN:jw s sub 92 b = (match kK s (aH b) with
  | none=>(aH (aW 2 (aH b)),.set (bn 0))
  | some d=>(aH (aH b),.set (bn d.toNat))):=rfl
 cases hq:kK s (aH b) with
 | none=>
  rw[hq] at agN;have hat:=ζ agN;have vP:iV s (aH b)=.tuple #[.int .u8 0,.bool false]:=by simp only[iV,hq]
  have hfa:(aW 2 (aH b)).at_<2000:=by rw[bD];show b.at_+1<2000;omega
  clear hp agN hq;have hsz:=ζ (show (Tryz.prog.info? 149).map (·.size)=some (au 0 aV aI).size by rw[aN];exact aZ);have eP:=ζ (show Tryz.zeroCells149.size=(au 0 aV aI).size by rw[dn]);have h1:=ζ (bT (k:=0) (f:=aV) (kv:=aI) rfl);have hl:=h.lt;have jE:Hid (w.heap.size≠g):=ζ ω;have hb2:Hid (w.heap.size≤w.heap.size):=ζ (Nat.le_refl _);have aG:=ζ (aS.new w 149 (au 0 aV aI));have hG:=ζ (((ah.refl w).alloc (.cells (au 0 aV aI) 149)).keeps (some g));replace h:=ζ (h.grows ((ah.refl w).alloc (.cells (au 0 aV aI) 149)));go_enter Tryz.func157,Tryz.ntmps157
  go_wp2_with fail;rw[dn];clear hl;generalize hgr:w.heap.size=g2 at jE aG ⊢;generalize w.alloc (.cells (au 0 aV aI) 149)=w1 at *
  rw[hgr] at hb2;have hb2:Hid (w.heap.size≤g2):=ζ (Nat.le_of_eq hgr);clear hgr;go_wp2_with fail;refine (bP h.o).mono ?_;rintro e w2 ⟨rfl,fG⟩;replace h:=ζ (h.o.grows fG);replace hG:=ζ (hG.o.trans (fG.keeps (some g)));(try replace hF:=ζ (hF.o.grows fG))
  (try replace aG:=ζ (aG.o.grows fG))
  clear fG;rw[jm];have c1:w2.cell? ⟨g,1,none⟩=some (.int .i64 (b.at_:Int)):=(h.o.cell 1).trans rfl;have f1:=h.o.frozen 1;have l1:=h.o.lt;have i1: -9223372036854775808≤(b.at_:Int)+1∧(b.at_:Int)+1≤9223372036854775807:=ω;have hA:=ζ (iR h.o);have aO:=aj w2 ⟨g,1,none⟩ (.int .i64 ((b.at_:Int)+1));have gU:=ζ (hG.o.trans aO);replace aG:=ζ (aG.o.far (p:=⟨g,1,none⟩) jE.o (.int .i64 ((b.at_:Int)+1)));replace aO:=ζ aO;have hsw:=ζ hG.o.size;go_simp;iterate 44 go_step
  clear c1 f1 l1 i1 h hG aO;have jT:Hid ((w2.setCell ⟨g,1,none⟩ (.int .i64 ((b.at_:Int)+1))).heap.size=w2.heap.size):=ζ (World.size_setCell _ _ _);generalize w2.setCell ⟨g,1,none⟩ (.int .i64 ((b.at_:Int)+1))=w3 at *
  iterate 12 go_step
  refine wpList_store_row rfl 149 (.tmp 7) (.tmp 25) rfl w3.heap.size (au 0 aV aI) rfl κ 149 _ (heap_alloc_new w3 _) hsz.o eP.o h1.o ?_;rw[World.setRow_alloc_new];have uH:=hsw.o;have hF:=ζ (aS.new w3 149 (au 0 aV aI));have Iw:=aG.o.lt;have E8:=hA.o.lt;have xZ:w3.heap.size=w2.heap.size:=jT.o;have ER:Hid (w.heap.size≤w3.heap.size):=ζ ω;have hFg:Hid (w3.heap.size≠g):=ζ ω;have hne:Hid (w3.heap.size≠g2):=ζ ω;have h:=ζ (hA.o.grows ((ah.refl w3).alloc (.cells (au 0 aV aI) 149)));have hG:=ζ (gU.o.trans (((ah.refl w3).alloc (.cells (au 0 aV aI) 149)).keeps (some g)));replace aG:=ζ (aG.o.grows ((ah.refl w3).alloc (.cells (au 0 aV aI) 149)));clear hA gU hsw Iw E8 xZ uH jT;go_simp;generalize w3.alloc (.cells (au 0 aV aI) 149)=w4 at *
  generalize w3.heap.size=gn at *
  clear hsz eP h1;go_wp2_with fail;refine (bP h.o).mono ?_;rintro e w5 ⟨rfl,jo⟩;replace h:=ζ (h.o.grows jo);replace hG:=ζ (hG.o.trans (jo.keeps (some g)));(try replace hF:=ζ (hF.o.grows jo))
  (try replace aG:=ζ (aG.o.grows jo))
  clear jo;rw[vP];clear vP;go_wp2_with fail;refine (jI h.o).mono ?_;rintro e w6 ⟨rfl,akO,fJ⟩;replace hG:=ζ (hG.o.trans fJ);(try replace hF:=ζ (hF.o.but fJ hFg.o))
  (try replace aG:=ζ (aG.o.but fJ jE.o))
  replace h:=ζ akO;clear akO fJ;have hcb:0<256:=δ;have c1:w6.cell? ⟨g,1,none⟩=some (.int .i64 (((aW 2 (aH b))).at_:Int)):=(h.o.cell 1).trans rfl;have f1:=h.o.frozen 1;have l1:=h.o.lt;have i1: -9223372036854775808≤(((aW 2 (aH b))).at_:Int)+1∧(((aW 2 (aH b))).at_:Int)+1≤9223372036854775807:=by first | omega | (simp only[aH];omega)
  have hA:=ζ (iR h.o);have gU:=ζ (hG.o.trans (aj w6 ⟨g,1,none⟩ (.int .i64 ((((aW 2 (aH b))).at_:Int)+1))));replace hF:=ζ (hF.o.far (p:=⟨g,1,none⟩) hFg.o (.int .i64 ((((aW 2 (aH b))).at_:Int)+1)));replace aG:=ζ (aG.o.far (p:=⟨g,1,none⟩) jE.o (.int .i64 ((((aW 2 (aH b))).at_:Int)+1)));clear h hG;have h:=hA;have hG:=gU;clear hA gU;have e2:au 0 (fun j=>if j = 0 then true else aV j) aI=au 0 (bn 0) aI:=iP fun j _=>by
   unfold bn Jg aV;by_cases e:j = 0
   ·subst e;simp
   ·rw[if_neg e];by_cases h2:0≤j
    ·rw[decide_eq_true h2,decide_eq_false ω];rfl
    ·rw[decide_eq_false h2];rfl
  have hF2:Hid (dZ ((w6.setCell ⟨g,1,none⟩ (.int .i64 (((aW 2 (aH b)).at_:Int)+1))).setCell ⟨gn,1+0,none⟩ (.bool true)) gn 0 (bn 0) aI):=ζ (by
   rw[dZ,←e2];exact dZ.bit hF.o hcb true)
  have cF:=(hF.o.cell (1+0)).trans (je hcb);have fF:=hF.o.frozen (1+0);have lF:=hF.o.lt;have h2:=ζ (h.o.far (p:=⟨gn,1+0,none⟩) (fun e=>hFg.o e.symm) (.bool true));have tZ:=ζ (aG.o.far (p:=⟨gn,1+0,none⟩) (fun e=>hne.o e.symm) (.bool true));have iC:=ζ (hG.o.andThen (aj (w6.setCell ⟨g,1,none⟩ (.int .i64 (((aW 2 (aH b)).at_:Int)+1))) ⟨gn,1+0,none⟩ (.bool true)) (fun j e=>by injection e with e;subst e;exact .inl ER.o));clear hF h aG hG e2;have hF:=hF2;have h:=h2;have aG:=tZ;have hG:=iC;clear hF2 h2 tZ iC;have hsz:=ζ (show (Tryz.prog.info? 149).map (·.size)=some (au 0 (bn 0) aI).size by rw[aN];exact aZ);have eP:=ζ (show (au 0 aV aI).size=(au 0 (bn 0) aI).size from (aN _ _ _).trans (aN _ _ _).symm);have h1:=ζ (bT (k:=0) (f:=(bn 0)) (kv:=aI) rfl);have yh:=ζ (h.o.but (aF ((w6.setCell ⟨g,1,none⟩ (.int .i64 (((aW 2 (aH b)).at_:Int)+1))).setCell ⟨gn,1+0,none⟩ (.bool true)) g2 (au 0 (bn 0) aI)) (fun e=>jE.o e.symm));have jr:Hid (dZ (((w6.setCell ⟨g,1,none⟩ (.int .i64 (((aW 2 (aH b)).at_:Int)+1))).setCell ⟨gn,1+0,none⟩ (.bool true)).setRow g2 (au 0 (bn 0) aI)) g2 0 (bn 0) aI):=ζ (setRow_heap _ _ _ _ _ _ aG.o);have CP:=ζ (hG.o.andThen (aF ((w6.setCell ⟨g,1,none⟩ (.int .i64 (((aW 2 (aH b)).at_:Int)+1))).setCell ⟨gn,1+0,none⟩ (.bool true)) g2 (au 0 (bn 0) aI)) (fun j e=>by injection e with e;subst e;exact .inl hb2.o));go_wp2_with (first | (refine wpList_load_row rfl 149 (.tmp 7) rfl gn rfl 149 (au 0 (bn 0) aI) (0,0) _ hF.o Tryz.underlying149 rfl hsz.o ?_) | (refine wpList_store_row rfl 149 (.tmp 4) (.tmp 94) rfl g2 (au 0 (bn 0) aI) rfl rfl 149 _ aG.o hsz.o (by first | exact eP.o | rfl) h1.o ?_));refine bodyPost_ret (v:=.agg (au 0 (bn 0) aI)) (results_cell_row (p:=4) (ty:=149) κ _ _ g2 149 (au 0 (bn 0) aI) (0,0) _ rfl jr.o Tryz.underlying149 rfl hsz.o) rfl ?_;rw[hat.o];exact⟨vw (bn 0),_,rfl,yh.o,CP.o,bI.leaf _ _ _ _ _,fun _=>rfl⟩
 | some q=>
  rw[hq] at agN;have hat:=ζ agN;have vP:iV s (aH b)=.tuple #[.int .u8 (q.toNat:Int),.bool true]:=by simp only[iV,hq]
  have hcb:=UInt8.toNat_lt q;have avW:(q.toNat:Int)<256:=ω;clear hp agN hq;have hsz:=ζ (show (Tryz.prog.info? 149).map (·.size)=some (au 0 aV aI).size by rw[aN];exact aZ);have eP:=ζ (show Tryz.zeroCells149.size=(au 0 aV aI).size by rw[dn]);have h1:=ζ (bT (k:=0) (f:=aV) (kv:=aI) rfl);have hl:=h.lt;have jE:Hid (w.heap.size≠g):=ζ ω;have hb2:Hid (w.heap.size≤w.heap.size):=ζ (Nat.le_refl _);have aG:=ζ (aS.new w 149 (au 0 aV aI));have hG:=ζ (((ah.refl w).alloc (.cells (au 0 aV aI) 149)).keeps (some g));replace h:=ζ (h.grows ((ah.refl w).alloc (.cells (au 0 aV aI) 149)));go_enter Tryz.func157,Tryz.ntmps157
  go_wp2_with fail;rw[dn];clear hl;generalize hgr:w.heap.size=g2 at jE aG ⊢;generalize w.alloc (.cells (au 0 aV aI) 149)=w1 at *
  rw[hgr] at hb2;have hb2:Hid (w.heap.size≤g2):=ζ (Nat.le_of_eq hgr);clear hgr;go_wp2_with fail;refine (bP h.o).mono ?_;rintro e w2 ⟨rfl,fG⟩;replace h:=ζ (h.o.grows fG);replace hG:=ζ (hG.o.trans (fG.keeps (some g)));(try replace hF:=ζ (hF.o.grows fG))
  (try replace aG:=ζ (aG.o.grows fG))
  clear fG;rw[jm];have c1:w2.cell? ⟨g,1,none⟩=some (.int .i64 (b.at_:Int)):=(h.o.cell 1).trans rfl;have f1:=h.o.frozen 1;have l1:=h.o.lt;have i1: -9223372036854775808≤(b.at_:Int)+1∧(b.at_:Int)+1≤9223372036854775807:=ω;have hA:=ζ (iR h.o);have aO:=aj w2 ⟨g,1,none⟩ (.int .i64 ((b.at_:Int)+1));have gU:=ζ (hG.o.trans aO);replace aG:=ζ (aG.o.far (p:=⟨g,1,none⟩) jE.o (.int .i64 ((b.at_:Int)+1)));replace aO:=ζ aO;have hsw:=ζ hG.o.size;go_simp;iterate 44 go_step
  clear c1 f1 l1 i1 h hG aO;have jT:Hid ((w2.setCell ⟨g,1,none⟩ (.int .i64 ((b.at_:Int)+1))).heap.size=w2.heap.size):=ζ (World.size_setCell _ _ _);generalize w2.setCell ⟨g,1,none⟩ (.int .i64 ((b.at_:Int)+1))=w3 at *
  iterate 12 go_step
  refine wpList_store_row rfl 149 (.tmp 7) (.tmp 25) rfl w3.heap.size (au 0 aV aI) rfl κ 149 _ (heap_alloc_new w3 _) hsz.o eP.o h1.o ?_;rw[World.setRow_alloc_new];have uH:=hsw.o;have hF:=ζ (aS.new w3 149 (au 0 aV aI));have Iw:=aG.o.lt;have E8:=hA.o.lt;have xZ:w3.heap.size=w2.heap.size:=jT.o;have ER:Hid (w.heap.size≤w3.heap.size):=ζ ω;have hFg:Hid (w3.heap.size≠g):=ζ ω;have hne:Hid (w3.heap.size≠g2):=ζ ω;have h:=ζ (hA.o.grows ((ah.refl w3).alloc (.cells (au 0 aV aI) 149)));have hG:=ζ (gU.o.trans (((ah.refl w3).alloc (.cells (au 0 aV aI) 149)).keeps (some g)));replace aG:=ζ (aG.o.grows ((ah.refl w3).alloc (.cells (au 0 aV aI) 149)));clear hA gU hsw Iw E8 xZ uH jT;go_simp;generalize w3.alloc (.cells (au 0 aV aI) 149)=w4 at *
  generalize w3.heap.size=gn at *
  clear hsz eP h1;go_wp2_with fail;refine (bP h.o).mono ?_;rintro e w5 ⟨rfl,jo⟩;replace h:=ζ (h.o.grows jo);replace hG:=ζ (hG.o.trans (jo.keeps (some g)));(try replace hF:=ζ (hF.o.grows jo))
  (try replace aG:=ζ (aG.o.grows jo))
  clear jo;rw[vP];clear vP;have c1:w5.cell? ⟨g,1,none⟩=some (.int .i64 (((aH b)).at_:Int)):=(h.o.cell 1).trans rfl;have f1:=h.o.frozen 1;have l1:=h.o.lt;have i1: -9223372036854775808≤(((aH b)).at_:Int)+1∧(((aH b)).at_:Int)+1≤9223372036854775807:=by first | omega | (simp only[aH];omega)
  have hA:=ζ (iR h.o);have gU:=ζ (hG.o.trans (aj w5 ⟨g,1,none⟩ (.int .i64 ((((aH b)).at_:Int)+1))));replace hF:=ζ (hF.o.far (p:=⟨g,1,none⟩) hFg.o (.int .i64 ((((aH b)).at_:Int)+1)));replace aG:=ζ (aG.o.far (p:=⟨g,1,none⟩) jE.o (.int .i64 ((((aH b)).at_:Int)+1)));clear h hG;have h:=hA;have hG:=gU;clear hA gU;have e2:au 0 (fun j=>if j = q.toNat then true else aV j) aI=au 0 (bn q.toNat) aI:=iP fun j _=>by
   unfold bn Jg aV;by_cases e:j = q.toNat
   ·subst e;simp
   ·rw[if_neg e];by_cases h2:q.toNat≤j
    ·rw[decide_eq_true h2,decide_eq_false ω];rfl
    ·rw[decide_eq_false h2];rfl
  have hF2:Hid (dZ ((w5.setCell ⟨g,1,none⟩ (.int .i64 (((aH b).at_:Int)+1))).setCell ⟨gn,1+q.toNat,none⟩ (.bool true)) gn 0 (bn q.toNat) aI):=ζ (by
   rw[dZ,←e2];exact dZ.bit hF.o hcb true)
  have cF:=(hF.o.cell (1+q.toNat)).trans (je hcb);have fF:=hF.o.frozen (1+q.toNat);have lF:=hF.o.lt;have h2:=ζ (h.o.far (p:=⟨gn,1+q.toNat,none⟩) (fun e=>hFg.o e.symm) (.bool true));have tZ:=ζ (aG.o.far (p:=⟨gn,1+q.toNat,none⟩) (fun e=>hne.o e.symm) (.bool true));have iC:=ζ (hG.o.andThen (aj (w5.setCell ⟨g,1,none⟩ (.int .i64 (((aH b).at_:Int)+1))) ⟨gn,1+q.toNat,none⟩ (.bool true)) (fun j e=>by injection e with e;subst e;exact .inl ER.o));clear hF h aG hG e2;have hF:=hF2;have h:=h2;have aG:=tZ;have hG:=iC;clear hF2 h2 tZ iC;have hsz:=ζ (show (Tryz.prog.info? 149).map (·.size)=some (au 0 (bn q.toNat) aI).size by rw[aN];exact aZ);have eP:=ζ (show (au 0 aV aI).size=(au 0 (bn q.toNat) aI).size from (aN _ _ _).trans (aN _ _ _).symm);have h1:=ζ (bT (k:=0) (f:=(bn q.toNat)) (kv:=aI) rfl);have yh:=ζ (h.o.but (aF ((w5.setCell ⟨g,1,none⟩ (.int .i64 (((aH b).at_:Int)+1))).setCell ⟨gn,1+q.toNat,none⟩ (.bool true)) g2 (au 0 (bn q.toNat) aI)) (fun e=>jE.o e.symm));have jr:Hid (dZ (((w5.setCell ⟨g,1,none⟩ (.int .i64 (((aH b).at_:Int)+1))).setCell ⟨gn,1+q.toNat,none⟩ (.bool true)).setRow g2 (au 0 (bn q.toNat) aI)) g2 0 (bn q.toNat) aI):=ζ (setRow_heap _ _ _ _ _ _ aG.o);have CP:=ζ (hG.o.andThen (aF ((w5.setCell ⟨g,1,none⟩ (.int .i64 (((aH b).at_:Int)+1))).setCell ⟨gn,1+q.toNat,none⟩ (.bool true)) g2 (au 0 (bn q.toNat) aI)) (fun j e=>by injection e with e;subst e;exact .inl hb2.o));go_wp2_with (first | (refine wpList_load_row rfl 149 (.tmp 7) rfl gn rfl 149 (au 0 (bn q.toNat) aI) (0,0) _ hF.o Tryz.underlying149 rfl hsz.o ?_) | (refine wpList_store_row rfl 149 (.tmp 4) (.tmp 94) rfl g2 (au 0 (bn q.toNat) aI) rfl rfl 149 _ aG.o hsz.o (by first | exact eP.o | rfl) h1.o ?_));refine bodyPost_ret (v:=.agg (au 0 (bn q.toNat) aI)) (results_cell_row (p:=4) (ty:=149) κ _ _ g2 149 (au 0 (bn q.toNat) aI) (0,0) _ rfl jr.o Tryz.underlying149 rfl hsz.o) rfl ?_;rw[hat.o];exact⟨vw (bn q.toNat),_,rfl,yh.o,CP.o,bI.leaf _ _ _ _ _,fun _=>rfl⟩
end
end Go.Proofs.YteojanlajhebhaaGreatDoor
namespace Go.Proofs.YteojanlajhebhaaGreatDoor
theorem afZ (s:List UInt8) (r:PB×UInt8):(if kK s r.1=some 45∧r.1.at_+1<s.length∧s[r.1.at_+1]?≠some 93 then cZ s (aH r.1) else r)=dP s r:=rfl
theorem Ld {s:List UInt8}:∀(n:Nat) (first:Bool) (b:PB) (f:Nat→Bool),WP s 2 b→b.at_≤(jR s n first b f).1.at_∧WP s 2 (jR s n first b f).1
 | 0,_,b,_,h=>⟨by show _≤(aW 2 b).at_;rw[bD];exact Nat.le_refl _,kD δ h.1⟩
 | n + 1,first,b,f,h=>by
  rw[jR];cases hp:kK s b with
  | none=>exact⟨by show _≤(aW 2 b).at_;rw[bD];exact Nat.le_refl _,kD δ h.1⟩
  | some d=>
   obtain⟨h1,h2,_⟩:=dN hp;simp only;split
   ·split
    ·exact⟨by show _≤(aW 2 (aH b)).at_;rw[bD];exact Nat.le_succ _,kD δ (by show b.at_+1≤_;omega)⟩
    ·exact⟨Nat.le_succ _,WP.of_le (by show b.at_+1≤_;omega)⟩
   ·obtain⟨_,s2,s3,s4⟩:=wU (s:=s) h2;obtain⟨_,q2,_,q4⟩:=VK (s:=s) (b:=b) (r:=cZ s b) (wU h2);rw[afZ];have hW:WP s 2 (if (dP s (cZ s b)).2.toNat<(cZ s b).2.toNat then aW 2 (dP s (cZ s b)).1 else (dP s (cZ s b)).1):=by
     split
     ·exact kD δ q2.1
     ·exact q2
    have ha:b.at_<(if (dP s (cZ s b)).2.toNat<(cZ s b).2.toNat then aW 2 (dP s (cZ s b)).1 else (dP s (cZ s b)).1).at_:=by
     split
     ·rw[bD];exact q4
     ·exact q4
    obtain⟨r1,r2⟩:=Ld n false _ (Jg f (cZ s b).2.toNat (dP s (cZ s b)).2.toNat) hW;exact⟨ω,r2⟩
theorem aho {s:List UInt8} {b:PB} (h:b.at_≤s.length):b.at_≤(tq s b).1.at_∧WP s 2 (tq s b).1:=by
 unfold tq;split
 ·rename_i hp;have h2:=(dN hp).2.1;obtain⟨r1,r2⟩:=Ld (s:=s) (s.length+1) true (aH b) aV (WP.of_le (by show b.at_+1≤_;omega));exact⟨by have:(aH b).at_=b.at_+1:=rfl;show _≤(jR s (s.length+1) true (aH b) aV).1.at_;omega,r2⟩
 ·exact Ld _ _ _ _ (WP.of_le h)
def aaB (s:List UInt8) (k:Nat) (sub:Option (PB→PB×bF)):Prop:=∀f,sub=some f→∀b,b.at_≤s.length→b.at_≤(f b).1.at_∧WP s k (f b).1
theorem aax {s:List UInt8} {k:Nat} {sub:Option (PB→PB×bF)} (hk:2≤k) (hs:aaB s k sub) {c:UInt8} {b:PB} (hb:b.at_<s.length):b.at_+1≤(jw s sub c b).1.at_∧WP s (k+1) (jw s sub c b).1:=by
 have ha:(aH b).at_=b.at_+1:=rfl;have wL:(aH b).at_≤s.length:=ω;have hf:∀e,e≠0→b.at_+1≤(aW e (aH b)).at_∧WP s (k+1) (aW e (aH b)):=fun e he=>⟨by rw[bD];omega,kD he ω⟩
 unfold jw;split
 ·cases sub with
  | none=>exact hf 3 δ
  | some f=>
   obtain⟨h1,h2⟩:=hs f rfl (aH b) wL;simp only;split
   ·rename_i hp;have h3:=(dN hp).2.1;exact⟨by show _≤(f (aH b)).1.at_+1;omega,WP.of_le (by show (f (aH b)).1.at_+1≤_;omega)⟩
   ·refine⟨by show _≤(aW 2 (f (aH b)).1).at_+1;rw[bD];omega,⟨?_,fun h0=>absurd h0 (iQ δ _)⟩⟩;show (aW 2 (f (aH b)).1).at_+1≤_
    rw[bD];have:=h2.1;omega
 ·split
  ·obtain⟨h1,h2⟩:=aho (s:=s) wL;exact⟨by show _≤(tq s (aH b)).1.at_;omega,h2.weak ω⟩
  ·split
   ·exact⟨Nat.le_of_eq ha.symm,WP.of_le wL⟩
   ·split
    ·split
     ·refine⟨by show _≤(aW 2 (aH b)).at_+1;rw[bD];omega,⟨?_,fun h0=>absurd h0 (iQ δ _)⟩⟩;show (aW 2 (aH b)).at_+1≤_
      rw[bD];omega
     ·rename_i hp;have h3:=(dN hp).2.1;exact⟨by show _≤(aH b).at_+1;omega,WP.of_le (by show (aH b).at_+1≤_;omega)⟩
    ·split
     ·exact hf 2 δ
     ·exact⟨Nat.le_of_eq ha.symm,WP.of_le wL⟩
theorem afn {s:List UInt8} {k:Nat} {b:PB} {x:bF} (h:WP s k b):b.at_≤(nD s b x).1.at_∧WP s k (nD s b x).1:=by
 unfold nD;split
 ·exact⟨Nat.le_refl _,h⟩
 ·rename_i c hp;have h3:=(dN hp).2.1;split
  ·exact⟨Nat.le_succ _,WP.of_le (by show b.at_+1≤_;omega)⟩
  ·exact⟨Nat.le_refl _,h⟩
theorem ab1 {s:List UInt8} {sub:Option (PB→PB×bF)} {n:Nat} {l:List bF} {b:PB} (hf:s.length≤n + b.at_):yA s sub n l b = match kK s b with
 | none=>(b,l)
 | some c=>if c = 124∨c = 41 then (b,l) else yA s sub (n - 1) (l ++[(nD s (jw s sub c b).1 (jw s sub c b).2).2]) (nD s (jw s sub c b).1 (jw s sub c b).2).1:=by
 cases n with
 | zero=>
  have hp:kK s b = none:=by
   unfold kK;split
   ·exact List.getElem?_eq_none ω
   ·rfl
  rw[hp];rfl
 | succ n=>rfl
theorem Y6 {s:List UInt8} {k:Nat} {sub:Option (PB→PB×bF)} (hk:2≤k) (hs:aaB s k sub):∀(n:Nat) (l:List bF) (b:PB),WP s (k+1) b→b.at_≤(yA s sub n l b).1.at_∧WP s (k+1) (yA s sub n l b).1
 | 0,_,_,h=>⟨Nat.le_refl _,h⟩
 | n + 1,l,b,h=>by
  rw[yA];cases hp:kK s b with
  | none=>exact⟨Nat.le_refl _,h⟩
  | some c=>
   have h2:=(dN hp).2.1;simp only;split
   ·exact⟨Nat.le_refl _,h⟩
   ·obtain⟨a1,a2⟩:=aax hk hs (c:=c) h2;obtain⟨t1,t2⟩:=afn (x:=(jw s sub c b).2) a2;obtain⟨r1,r2⟩:=Y6 hk hs n (l ++[(nD s (jw s sub c b).1 (jw s sub c b).2).2]) _ t2;exact⟨ω,r2⟩
theorem aeg {s:List UInt8} {k:Nat} {sub:Option (PB→PB×bF)} (hk:2≤k) (hs:aaB s k sub) {b:PB} (h:WP s (k+1) b):b.at_≤(EK s sub b).1.at_∧WP s (k+1) (EK s sub b).1:=Y6 hk hs _ _ _ h
theorem Vb {s:List UInt8} {sub:Option (PB→PB×bF)} {n:Nat} {l:List bF} {b:PB} (hn:1≤n):jd s sub n l b =
 if kK s (EK s sub b).1=some 124 then jd s sub (n - 1) (l ++[(EK s sub b).2]) (aH (EK s sub b).1) else ((EK s sub b).1,l ++[(EK s sub b).2]):=by
 cases n with
 | zero=>omega
 | succ n=>rfl
theorem Jb {s:List UInt8} {k:Nat} {sub:Option (PB→PB×bF)} (hk:2≤k) (hs:aaB s k sub):∀(n:Nat) (l:List bF) (b:PB),WP s (k+1) b→b.at_≤(jd s sub n l b).1.at_∧WP s (k+1) (jd s sub n l b).1
 | 0,_,_,h=>⟨Nat.le_refl _,h⟩
 | n + 1,l,b,h=>by
  rw[jd];obtain⟨r1,r2⟩:=aeg hk hs h;split
  ·rename_i hp;have h2:=(dN hp).2.1;obtain⟨q1,q2⟩:=Jb hk hs n (l ++[(EK s sub b).2]) (aH (EK s sub b).1) (WP.of_le (by show (EK s sub b).1.at_+1≤_;omega));exact⟨by have:(aH (EK s sub b).1).at_=(EK s sub b).1.at_+1:=rfl;omega,q2⟩
  ·exact⟨r1,r2⟩
theorem KZ (s:List UInt8):∀(d:Nat) (b:PB),b.at_≤s.length→b.at_≤(m_ s d b).1.at_∧WP s (d + 3) (m_ s d b).1
 | 0,b,h=>Jb (k:=2) (Nat.le_refl _) (fun f hf=>by cases hf) _ _ _ (WP.of_le h)
 | d + 1,b,h=>Jb (k:=d + 3) ω (fun f hf b hb=>by injection hf with hf;subst hf;exact KZ s d b hb) _ _ _ (WP.of_le h)
end Go.Proofs.YteojanlajhebhaaGreatDoor
namespace Go.Proofs.YteojanlajhebhaaGreatDoor
open Go.RowKit
section
variable {w w':World} {base b2:Nat} {S S2:Nat→Prop} {v:Value} {l:List bF} {P P2:um→bF→Prop}
theorem wC.to (h:wC w base S P v l) (hb:b2≤base) (hS:∀g,S g→base≤g→g < w.heap.size→S2 g) (hP:∀x y,P x y→P2 x y):wC w b2 S2 P2 v l:=by
 obtain⟨xs,h1,h2,h3,h4⟩:=h;refine⟨xs,h1.ig hb,fun g hg=> ?_,h3,fun i x y hx hy=>hP x y (h4 i x y hx hy)⟩;obtain⟨h5,cs,h6⟩:=h1.kY g hg;exact hS g (h2 g hg) h5 h6.lt
end
theorem bI.to {w:World} {base b2:Nat} {S S2:Nat→Prop} (hb:b2≤base) (hS:∀g,S g→base≤g→g < w.heap.size→S2 g):∀(d d2:Nat) (x:um) (n:bF),d≤d2→bI w base S d x n→bI w b2 S2 d2 x n:=by
 intro d;induction d with
 | zero=>intro d2 x n _ h;exact h.elim
 | succ d ih=>
  intro d2 x n hd h;obtain⟨d2,rfl⟩:∃k,d2=k+1:=⟨d2-1,ω⟩;have hP:∀x y,bI w base S d x y→bI w b2 S2 d2 x y:=fun x y=>ih d2 x y ω
  cases n with
  | set f=>exact h
  | alt l=>exact⟨h.1,h.2.1,h.2.2.to hb hS hP⟩
  | row l=>exact⟨h.1,h.2.1,h.2.2.to hb hS hP⟩
  | rep k y=>exact⟨h.1,h.2.1,h.2.2.1,h.2.2.2.to hb hS hP⟩
structure uf (w:World) (base:Nat) (X:Nat→Prop) (d:Nat) (v:Value) (xs:List um) (l:List bF):Prop where
 own:Own w base 149 258 oU v xs
 apart:∀g,v.ownBlock=some g→¬X g
 len:xs.length=l.length
 at_:∀(i:Nat) (x:um) (y:bF),xs[i]? = some x→l[i]? = some y→bI w base (fun j=>¬X j∧v.ownBlock≠some j) d x y
theorem uf.nil (w:World) (base:Nat) (X:Nat→Prop) (d:Nat):uf w base X d aI [] [] where
 own:=Own.iH w base _ _ _
 apart:=fun g hg=>by cases hg
 len:=rfl
 at_:=fun i x y hx=>by simp at hx
theorem uf.keep {w w':World} {base d:Nat} {X:Nat→Prop} {v:Value} {xs:List um} {l:List bF} {row:Option Nat} (h:uf w base X d v xs l) (hg:w.grownBy w' row) (hr:∀g,row=some g→X g):uf w' base X d v xs l where
 own:=h.own.kept' hg (fun g hg hv=>h.apart g hv (hr g hg))
 apart:=h.apart
 len:=h.len
 at_:=fun i x y hx hy=>bI.keep hg (fun g hg hS=>hS.1 (hr g hg)) d x y (h.at_ i x y hx hy)
theorem uf.grows {w w':World} {base d:Nat} {X:Nat→Prop} {v:Value} {xs:List um} {l:List bF} (h:uf w base X d v xs l) (hg:ah w w'):uf w' base X d v xs l:=
 h.keep (hg.keeps none) (fun _ e=>by cases e)
theorem uf.out {w:World} {base d:Nat} {X X2:Nat→Prop} {v:Value} {xs:List um} {l:List bF} (h:uf w base X d v xs l) (hX:∀g,base≤g→g < w.heap.size→X2 g→X g):uf w base X2 d v xs l where
 own:=h.own
 apart:=fun g hg hx=>by
  obtain⟨h5,cs,h6⟩:=h.own.kY g hg;exact h.apart g hg (hX g h5 h6.lt hx)
 len:=h.len
 at_:=fun i x y hx hy=>bI.to (Nat.le_refl _) (fun g hS h1 h2=>⟨fun hx=>hS.1 (hX g h1 h2 hx),hS.2⟩) d d x y (Nat.le_refl _) (h.at_ i x y hx hy)
theorem uf.push {w w':World} {base d:Nat} {X S:Nat→Prop} {v v':Value} {xs:List um} {l:List bF} {x:um} {y:bF} (h:uf w base X d v xs l) (hy:bI w base S d x y) (hS:∀j,S j→j < w.heap.size→¬X j∧v.ownBlock≠some j)
 (hO:Own w' base 149 258 oU v' (xs++[x])) (hg:w.grownBy w' v.ownBlock) (hat:v'.ownBlock=v.ownBlock∨v'.ownBlock=some w.heap.size) (hX:¬X w.heap.size):uf w' base X d v' (xs++[x]) (l ++[y]) where
 own:=hO
 apart:=fun g hv=>by
  rcases hat with e | e
  ·rw[e] at hv;exact h.apart g hv
  ·rw[e] at hv;injection hv with hv;rw[←hv];exact hX
 len:=by rw[List.length_append,List.length_append,h.len];rfl
 at_:=fun i a b ha hb=>by
  have key:∀a b,bI w base (fun j=>¬X j∧v.ownBlock≠some j) d a b→bI w' base (fun j=>¬X j∧v'.ownBlock≠some j) d a b:=fun a b hab=>by
   have h1:=bI.to (S2:=fun j=>(¬X j∧v.ownBlock≠some j)∧j < w.heap.size) (Nat.le_refl base) (fun g hS _ h2=>⟨hS,h2⟩) d d a b (Nat.le_refl _) hab;have h2:=bI.keep hg (fun g hg hS=>hS.1.2 hg) d a b h1;refine bI.to (Nat.le_refl base) (fun g hS _ _=>⟨hS.1.1,fun e=> ?_⟩) d d a b (Nat.le_refl _) h2;rcases hat with e2 | e2
   ·exact hS.1.2 (e2.symm.trans e)
   ·rw[e2] at e;injection e with e;have:=hS.2;omega
  rcases Nat.lt_or_ge i xs.length with hi | hi
  ·rw[List.getElem?_append_left hi] at ha;rw[List.getElem?_append_left (by rw[←h.len];exact hi)] at hb;exact key a b (h.at_ i a b ha hb)
  ·have hi2:i = xs.length:=by have:=(List.getElem?_eq_some_iff.1 ha).1;simp at this;omega
   subst hi2;simp at ha;rw[h.len] at hb;simp at hb;subst ha hb;exact key _ _ (bI.to (Nat.le_refl base) (fun g hS' _ h2=>hS g hS' h2) d d _ _ (Nat.le_refl _) hy)
theorem uf.in_ {w:World} {base d:Nat} {X S:Nat→Prop} {v:Value} {xs:List um} {l:List bF} (h:uf w base X d v xs l) (hS:∀j,base≤j→S j):wC w base S (bI w base S d) v l:=
 ⟨xs,h.own,fun g hg=>hS g (h.own.kY g hg).1,h.len,fun i x y hx hy=>bI.to (Nat.le_refl _) (fun g _ h1 _=>hS g h1) d d x y (Nat.le_refl _) (h.at_ i x y hx hy)⟩
theorem EN (x:um):(oU x).length=258:=zi x
theorem ahy:iK Tryz.prog 147 149 258 288:=iK.mk' (z:=.agg (au 0 aV aI)) Tryz.underlying147 κ κ ω
theorem Xb {w:World} {base g:Nat} (x:um) (hb:base≤g) (hg:w.heap[g]? = some (.cells x.cells 149 (0,0))):Own w base 149 258 oU (.slice (some ⟨g,0,none⟩) 1 1) [x]:=
 Own.mk_ (xs:=[x]) (cap:=1) EN ω hb hg σ (by simp[maxLen]) (by rw[Nat.one_mul];exact aN _ _ _) (fun q hq r hr=>by
  have hq0:q=0:=by simp at hq;omega
  subst hq0;simp[oU])
def TR (s:List UInt8) (sub:Option (PB→PB×bF)) (deep D:Nat):Prop:=match sub with
 | none=>8≤deep
 | some f=>deep<8∧∀(w:World) (g:Nat) (b:PB),oV w g s b→b.at_≤s.length→Calls Tryz.prog 127 #[.pointer (some ⟨g,0,none⟩),.int .i64 ((deep:Int)+1)] w (uV g s D w (f b))
theorem YF (x:um):x.cells.all (·.oneCell')=true:=bT rfl
theorem kW (x:um):x.cells.size=258:=aN _ _ _
theorem Zh {w:World} {g deep D k:Nat} {s:List UInt8} {b:PB} {sub:Option (PB→PB×bF)} (hD:1≤D) (jc:TR s sub deep D) (hk:k≤100) (hsr:aaB s k sub) (h:oV w g s b) (hp:kK s b = some 40) (tX:s.length≤100) :
 Calls Tryz.prog 157 #[.pointer (some ⟨g,0,none⟩),.int .i64 (deep:Int)] w (uV g s D w (jw s sub 40 b)):=by
 have jm:iV s b =.tuple #[.int .u8 40,.bool true]:=by simp only[iV,hp];rfl
 have wL:Hid ((aH b).at_≤s.length):=ζ (dN hp).2.1;have ha:b.at_<1000:=by have:=(dN hp).2.1;omega
 cases sub with
 | none=>
  have asX:(8:Int)≤(deep:Int):=by have:8≤deep:=jc;omega
  have hat:Hid (jw s none 40 b = (aW 3 (aH b),.set aV)):=ζ rfl;clear hp jc;have hsz:=ζ (show (Tryz.prog.info? 149).map (·.size)=some (au 0 aV aI).size by rw[aN];exact aZ);have eP:=ζ (show Tryz.zeroCells149.size=(au 0 aV aI).size by rw[dn]);have h1:=ζ (bT (k:=0) (f:=aV) (kv:=aI) rfl);have hl:=h.lt;have jE:Hid (w.heap.size≠g):=ζ ω;have hb2:Hid (w.heap.size≤w.heap.size):=ζ (Nat.le_refl _);have aG:=ζ (aS.new w 149 (au 0 aV aI));have hG:=ζ (((ah.refl w).alloc (.cells (au 0 aV aI) 149)).keeps (some g));replace h:=ζ (h.grows ((ah.refl w).alloc (.cells (au 0 aV aI) 149)));go_enter Tryz.func157,Tryz.ntmps157
  go_wp2_with fail;rw[dn];clear hl;generalize hgr:w.heap.size=g2 at jE aG ⊢;generalize w.alloc (.cells (au 0 aV aI) 149)=w1 at *
  rw[hgr] at hb2;have hb2:Hid (w.heap.size≤g2):=ζ (Nat.le_of_eq hgr);clear hgr;go_wp2_with fail;refine (bP h.o).mono ?_;rintro e w2 ⟨rfl,fG⟩;replace h:=ζ (h.o.grows fG);replace hG:=ζ (hG.o.trans (fG.keeps (some g)));(try replace hF:=ζ (hF.o.grows fG))
  (try replace aG:=ζ (aG.o.grows fG))
  clear fG;rw[jm];have c1:w2.cell? ⟨g,1,none⟩=some (.int .i64 (b.at_:Int)):=(h.o.cell 1).trans rfl;have f1:=h.o.frozen 1;have l1:=h.o.lt;have i1: -9223372036854775808≤(b.at_:Int)+1∧(b.at_:Int)+1≤9223372036854775807:=ω;have hA:=ζ (iR h.o);have aO:=aj w2 ⟨g,1,none⟩ (.int .i64 ((b.at_:Int)+1));have gU:=ζ (hG.o.trans aO);replace aG:=ζ (aG.o.far (p:=⟨g,1,none⟩) jE.o (.int .i64 ((b.at_:Int)+1)));replace aO:=ζ aO;have hsw:=ζ hG.o.size;go_simp;iterate 44 go_step
  clear c1 f1 l1 i1 h hG aO;have jT:Hid ((w2.setCell ⟨g,1,none⟩ (.int .i64 ((b.at_:Int)+1))).heap.size=w2.heap.size):=ζ (World.size_setCell _ _ _);generalize w2.setCell ⟨g,1,none⟩ (.int .i64 ((b.at_:Int)+1))=w3 at *
  iterate 12 go_step
  refine wpList_store_row rfl 149 (.tmp 7) (.tmp 25) rfl w3.heap.size (au 0 aV aI) rfl κ 149 _ (heap_alloc_new w3 _) hsz.o eP.o h1.o ?_;rw[World.setRow_alloc_new];have uH:=hsw.o;have hF:=ζ (aS.new w3 149 (au 0 aV aI));have Iw:=aG.o.lt;have E8:=hA.o.lt;have xZ:w3.heap.size=w2.heap.size:=jT.o;have ER:Hid (w.heap.size≤w3.heap.size):=ζ ω;have hFg:Hid (w3.heap.size≠g):=ζ ω;have hne:Hid (w3.heap.size≠g2):=ζ ω;have h:=ζ (hA.o.grows ((ah.refl w3).alloc (.cells (au 0 aV aI) 149)));have hG:=ζ (gU.o.trans (((ah.refl w3).alloc (.cells (au 0 aV aI) 149)).keeps (some g)));replace aG:=ζ (aG.o.grows ((ah.refl w3).alloc (.cells (au 0 aV aI) 149)));clear hA gU hsw Iw E8 xZ uH jT;go_simp;generalize w3.alloc (.cells (au 0 aV aI) 149)=w4 at *
  generalize w3.heap.size=gn at *
  clear hsz eP h1;go_wp2_with fail;refine (jI h.o).mono ?_;rintro e w5 ⟨rfl,AY,jo⟩;replace hG:=ζ (hG.o.trans jo);(try replace hF:=ζ (hF.o.but jo hFg.o))
  (try replace aG:=ζ (aG.o.but jo jE.o))
  replace h:=ζ AY;clear AY jo;have hsz:=ζ (show (Tryz.prog.info? 149).map (·.size)=some (au 0 aV aI).size by rw[aN];exact aZ);have eP:=ζ (show (au 0 aV aI).size=(au 0 aV aI).size from (aN _ _ _).trans (aN _ _ _).symm);have h1:=ζ (bT (k:=0) (f:=aV) (kv:=aI) rfl);have yh:=ζ (h.o.but (aF w5 g2 (au 0 aV aI)) (fun e=>jE.o e.symm));have jr:Hid (dZ (w5.setRow g2 (au 0 aV aI)) g2 0 aV aI):=ζ (setRow_heap _ _ _ _ _ _ aG.o);have CP:=ζ (hG.o.andThen (aF w5 g2 (au 0 aV aI)) (fun j e=>by injection e with e;subst e;exact .inl hb2.o));go_wp2_with (first | (refine wpList_load_row rfl 149 (.tmp 7) rfl gn rfl 149 (au 0 aV aI) (0,0) _ hF.o Tryz.underlying149 rfl hsz.o ?_) | (refine wpList_store_row rfl 149 (.tmp 4) (.tmp 33) rfl g2 (au 0 aV aI) rfl rfl 149 _ aG.o hsz.o (by first | exact eP.o | rfl) h1.o ?_));refine bodyPost_ret (v:=.agg (au 0 aV aI)) (results_cell_row (p:=4) (ty:=149) κ _ _ g2 149 (au 0 aV aI) (0,0) _ rfl jr.o Tryz.underlying149 rfl hsz.o) rfl ?_;rw[hat.o];obtain⟨D,rfl⟩:∃q,D=q+1:=⟨D-1,ω⟩;exact⟨vw aV,_,rfl,yh.o,CP.o,bI.leaf _ _ _ _ _,fun _=>rfl⟩
 | some f=>
  have asX:¬(8:Int)≤(deep:Int):=by have:deep<8:=jc.1;omega
  have hat:Hid (jw s (some f) 40 b = (aH (if kK s (f (aH b)).1=some 41 then (f (aH b)).1 else aW 2 (f (aH b)).1),(f (aH b)).2)):=ζ rfl;have Pe:=ζ jc.2;have MF:=ζ (hsr f rfl (aH b) wL.o).2.1;clear hp jc;have hsz:=ζ (show (Tryz.prog.info? 149).map (·.size)=some (au 0 aV aI).size by rw[aN];exact aZ);have eP:=ζ (show Tryz.zeroCells149.size=(au 0 aV aI).size by rw[dn]);have h1:=ζ (bT (k:=0) (f:=aV) (kv:=aI) rfl);have hl:=h.lt;have jE:Hid (w.heap.size≠g):=ζ ω;have hb2:Hid (w.heap.size≤w.heap.size):=ζ (Nat.le_refl _);have aG:=ζ (aS.new w 149 (au 0 aV aI));have hG:=ζ (((ah.refl w).alloc (.cells (au 0 aV aI) 149)).keeps (some g));replace h:=ζ (h.grows ((ah.refl w).alloc (.cells (au 0 aV aI) 149)));go_enter Tryz.func157,Tryz.ntmps157
  go_wp2_with fail;rw[dn];clear hl;generalize hgr:w.heap.size=g2 at jE aG ⊢;generalize w.alloc (.cells (au 0 aV aI) 149)=w1 at *
  rw[hgr] at hb2;have hb2:Hid (w.heap.size≤g2):=ζ (Nat.le_of_eq hgr);clear hgr;go_wp2_with fail;refine (bP h.o).mono ?_;rintro e w2 ⟨rfl,fG⟩;replace h:=ζ (h.o.grows fG);replace hG:=ζ (hG.o.trans (fG.keeps (some g)));(try replace hF:=ζ (hF.o.grows fG))
  (try replace aG:=ζ (aG.o.grows fG))
  clear fG;rw[jm];have c1:w2.cell? ⟨g,1,none⟩=some (.int .i64 (b.at_:Int)):=(h.o.cell 1).trans rfl;have f1:=h.o.frozen 1;have l1:=h.o.lt;have i1: -9223372036854775808≤(b.at_:Int)+1∧(b.at_:Int)+1≤9223372036854775807:=ω;have hA:=ζ (iR h.o);have aO:=aj w2 ⟨g,1,none⟩ (.int .i64 ((b.at_:Int)+1));have gU:=ζ (hG.o.trans aO);replace aG:=ζ (aG.o.far (p:=⟨g,1,none⟩) jE.o (.int .i64 ((b.at_:Int)+1)));replace aO:=ζ aO;have hsw:=ζ hG.o.size;go_simp;iterate 44 go_step
  clear c1 f1 l1 i1 h hG aO;have jT:Hid ((w2.setCell ⟨g,1,none⟩ (.int .i64 ((b.at_:Int)+1))).heap.size=w2.heap.size):=ζ (World.size_setCell _ _ _);generalize w2.setCell ⟨g,1,none⟩ (.int .i64 ((b.at_:Int)+1))=w3 at *
  iterate 12 go_step
  refine wpList_store_row rfl 149 (.tmp 7) (.tmp 25) rfl w3.heap.size (au 0 aV aI) rfl κ 149 _ (heap_alloc_new w3 _) hsz.o eP.o h1.o ?_;rw[World.setRow_alloc_new];have uH:=hsw.o;have hF:=ζ (aS.new w3 149 (au 0 aV aI));have Iw:=aG.o.lt;have E8:=hA.o.lt;have xZ:w3.heap.size=w2.heap.size:=jT.o;have ER:Hid (w.heap.size≤w3.heap.size):=ζ ω;have hFg:Hid (w3.heap.size≠g):=ζ ω;have hne:Hid (w3.heap.size≠g2):=ζ ω;have h:=ζ (hA.o.grows ((ah.refl w3).alloc (.cells (au 0 aV aI) 149)));have hG:=ζ (gU.o.trans (((ah.refl w3).alloc (.cells (au 0 aV aI) 149)).keeps (some g)));replace aG:=ζ (aG.o.grows ((ah.refl w3).alloc (.cells (au 0 aV aI) 149)));clear hA gU hsw Iw E8 xZ uH jT;go_simp;generalize w3.alloc (.cells (au 0 aV aI) 149)=w4 at *
  generalize w3.heap.size=gn at *
  clear hsz eP h1;have hl4:=ζ (show gn<w4.heap.size∧g < w4.heap.size∧g2<w4.heap.size from ⟨hF.o.lt,h.o.lt,aG.o.lt⟩);have hsw:=ζ (show w.heap.size≤w4.heap.size from hG.o.size);have hx:=ζ (Pe.o w4 g (aH b) h.o wL.o);clear Pe;go_wp2_with fail;refine (hx.o).mono ?_;rintro e w5 ⟨x,n,rfl,Qg,sQ,hN5,hn5⟩;replace hF:=ζ (hF.o.but sQ hFg.o);replace aG:=ζ (aG.o.but sQ jE.o);replace hG:=ζ (hG.o.trans sQ);replace h:=ζ Qg;replace hn5:=ζ hn5;clear sQ Qg hx;generalize hr:f (aH b)=r at *
  have hra:r.1.at_≤300:=by have:=MF.o;omega
  have hsz:=ζ (show (Tryz.prog.info? 149).map (·.size)=some x.cells.size by rw[kW];exact aZ);have eP:=ζ (show (au 0 aV aI).size=x.cells.size from (aN _ _ _).trans (kW x).symm);have h1:=ζ (YF x);have hNg:Hid (¬fresh w4 g):=ζ (fun hf=>by have:=hl4.o.2.1;unfold fresh at hf;omega);have hNr:Hid (¬fresh w4 g2):=ζ (fun hf=>by have:=hl4.o.2.2;unfold fresh at hf;omega);have XD:=ζ (bI.keep (aF w5 gn x.cells) (fun j e=>by injection e with e;subst e;have:=hl4.o.1;intro hf;unfold fresh at hf;omega) _ _ _ hN5);have hF6:Hid (aS (w5.setRow gn x.cells) gn 149 x.cells):=ζ (setRow_heap _ _ _ _ _ _ hF.o);have h6:=ζ (h.o.but (aF w5 gn x.cells) (fun e=>hFg.o e.symm));have aof:=ζ (aG.o.but (aF w5 gn x.cells) (fun e=>hne.o e.symm));have JY:=ζ (hG.o.andThen (aF w5 gn x.cells) (fun j e=>by injection e with e;subst e;exact .inl ER.o));clear hN5 h hG;go_wp2_with (refine wpList_store_row rfl 149 (.tmp 7) (.tmp 37) rfl gn x.cells rfl rfl 149 _ hF.o hsz.o eP.o h1.o ?_);clear hF aG;generalize w5.setRow gn x.cells=w6 at *
  have hF:=hF6;have h:=h6;have aG:=aof;have hG:=JY;clear hF6 h6 aof JY;by_cases hc:kK s r.1=some 41
  ·have vP:iV s r.1=.tuple #[.int .u8 41,.bool true]:=by simp only[iV,hc];rfl
   have ES:=hat.o;rw[if_pos hc] at ES;replace hat:=ζ ES;clear ES hc;go_wp2_with fail;refine (bP h.o).mono ?_;rintro e w7 ⟨rfl,qN⟩;replace h:=ζ (h.o.grows qN);replace hG:=ζ (hG.o.trans (qN.keeps (some g)));replace hF:=ζ (hF.o.grows qN);replace aG:=ζ (aG.o.grows qN);replace XD:=ζ (XD.o.grows qN);clear qN;rw[vP];clear vP;replace XD:=ζ (bI.keep (aj w7 ⟨g,1,none⟩ (.int .i64 (((r.1).at_:Int)+1))) (fun j e=>by injection e with e;subst e;exact hNg.o) _ _ _ XD.o);have c1:w7.cell? ⟨g,1,none⟩=some (.int .i64 ((r.1).at_:Int)):=(h.o.cell 1).trans rfl;have f1:=h.o.frozen 1;have l1:=h.o.lt;have i1: -9223372036854775808≤((r.1).at_:Int)+1∧((r.1).at_:Int)+1≤9223372036854775807:=by first | omega | (simp only[aH];omega)
   have hA:=ζ (iR h.o);have gU:=ζ (hG.o.trans (aj w7 ⟨g,1,none⟩ (.int .i64 (((r.1).at_:Int)+1))));replace hF:=ζ (hF.o.far (p:=⟨g,1,none⟩) hFg.o (.int .i64 (((r.1).at_:Int)+1)));replace aG:=ζ (aG.o.far (p:=⟨g,1,none⟩) jE.o (.int .i64 (((r.1).at_:Int)+1)));clear h hG;have h:=hA;have hG:=gU;clear hA gU;have yh:=ζ (h.o.but (aF (w7.setCell ⟨g,1,none⟩ (.int .i64 (((r.1).at_:Int)+1))) g2 x.cells) (fun e=>jE.o e.symm));have jr:Hid (aS ((w7.setCell ⟨g,1,none⟩ (.int .i64 (((r.1).at_:Int)+1))).setRow g2 x.cells) g2 149 x.cells):=ζ (setRow_heap _ _ _ _ _ _ aG.o);have CP:=ζ (hG.o.andThen (aF (w7.setCell ⟨g,1,none⟩ (.int .i64 (((r.1).at_:Int)+1))) g2 x.cells) (fun j e=>by injection e with e;subst e;exact .inl hb2.o));have hNy:=ζ (bI.keep (aF (w7.setCell ⟨g,1,none⟩ (.int .i64 (((r.1).at_:Int)+1))) g2 x.cells) (fun j e=>by injection e with e;subst e;exact hNr.o) _ _ _ XD.o);go_wp2_with (first | (refine wpList_load_row rfl 149 (.tmp 7) rfl gn rfl 149 x.cells (0,0) _ hF.o Tryz.underlying149 rfl hsz.o ?_) | (refine wpList_store_row rfl 149 (.tmp 4) (.tmp 58) rfl g2 x.cells rfl rfl 149 _ aG.o hsz.o eP.o h1.o ?_));refine bodyPost_ret (v:=.agg x.cells) (results_cell_row (p:=4) (ty:=149) κ _ _ g2 149 x.cells (0,0) _ rfl jr.o Tryz.underlying149 rfl hsz.o) rfl ?_;rw[hat.o];exact⟨x,n,rfl,yh.o,CP.o,bI.to hsw.o (fun j hj _ _=>Nat.le_trans hsw.o hj) _ _ _ _ (Nat.le_refl _) hNy.o,fun he=>hn5.o he⟩
  ·have ES:=hat.o;rw[if_neg hc] at ES;replace hat:=ζ ES;have hfa:(aW 2 r.1).at_≤300:=by rw[bD];exact hra
   have lN:Hid ((aH (aW 2 r.1)).err≠0):=ζ (iQ δ r.1);cases hq:kK s r.1 with
   | none=>
    have vP:iV s r.1=.tuple #[.int .u8 0,.bool false]:=by simp only[iV,hq]
    clear ES hc hq;go_wp2_with fail;refine (bP h.o).mono ?_;rintro e w7 ⟨rfl,qN⟩;replace h:=ζ (h.o.grows qN);replace hG:=ζ (hG.o.trans (qN.keeps (some g)));replace hF:=ζ (hF.o.grows qN);replace aG:=ζ (aG.o.grows qN);replace XD:=ζ (XD.o.grows qN);clear qN;rw[vP];clear vP;go_wp2_with fail;refine (jI h.o).mono ?_;rintro e w8 ⟨rfl,Td,su⟩;replace hG:=ζ (hG.o.trans su);replace hF:=ζ (hF.o.but su hFg.o);replace aG:=ζ (aG.o.but su jE.o);replace XD:=ζ (bI.keep su (fun j e=>by injection e with e;subst e;exact hNg.o) _ _ _ XD.o);replace h:=ζ Td;clear Td su;replace XD:=ζ (bI.keep (aj w8 ⟨g,1,none⟩ (.int .i64 ((((aW 2 r.1)).at_:Int)+1))) (fun j e=>by injection e with e;subst e;exact hNg.o) _ _ _ XD.o);have c1:w8.cell? ⟨g,1,none⟩=some (.int .i64 (((aW 2 r.1)).at_:Int)):=(h.o.cell 1).trans rfl;have f1:=h.o.frozen 1;have l1:=h.o.lt;have i1: -9223372036854775808≤(((aW 2 r.1)).at_:Int)+1∧(((aW 2 r.1)).at_:Int)+1≤9223372036854775807:=by first | omega | (simp only[aH];omega)
    have hA:=ζ (iR h.o);have gU:=ζ (hG.o.trans (aj w8 ⟨g,1,none⟩ (.int .i64 ((((aW 2 r.1)).at_:Int)+1))));replace hF:=ζ (hF.o.far (p:=⟨g,1,none⟩) hFg.o (.int .i64 ((((aW 2 r.1)).at_:Int)+1)));replace aG:=ζ (aG.o.far (p:=⟨g,1,none⟩) jE.o (.int .i64 ((((aW 2 r.1)).at_:Int)+1)));clear h hG;have h:=hA;have hG:=gU;clear hA gU;have yh:=ζ (h.o.but (aF (w8.setCell ⟨g,1,none⟩ (.int .i64 ((((aW 2 r.1)).at_:Int)+1))) g2 x.cells) (fun e=>jE.o e.symm));have jr:Hid (aS ((w8.setCell ⟨g,1,none⟩ (.int .i64 ((((aW 2 r.1)).at_:Int)+1))).setRow g2 x.cells) g2 149 x.cells):=ζ (setRow_heap _ _ _ _ _ _ aG.o);have CP:=ζ (hG.o.andThen (aF (w8.setCell ⟨g,1,none⟩ (.int .i64 ((((aW 2 r.1)).at_:Int)+1))) g2 x.cells) (fun j e=>by injection e with e;subst e;exact .inl hb2.o));have hNy:=ζ (bI.keep (aF (w8.setCell ⟨g,1,none⟩ (.int .i64 ((((aW 2 r.1)).at_:Int)+1))) g2 x.cells) (fun j e=>by injection e with e;subst e;exact hNr.o) _ _ _ XD.o);go_wp2_with (first | (refine wpList_load_row rfl 149 (.tmp 7) rfl gn rfl 149 x.cells (0,0) _ hF.o Tryz.underlying149 rfl hsz.o ?_) | (refine wpList_store_row rfl 149 (.tmp 4) (.tmp 58) rfl g2 x.cells rfl rfl 149 _ aG.o hsz.o eP.o h1.o ?_));refine bodyPost_ret (v:=.agg x.cells) (results_cell_row (p:=4) (ty:=149) κ _ _ g2 149 x.cells (0,0) _ rfl jr.o Tryz.underlying149 rfl hsz.o) rfl ?_;rw[hat.o];exact⟨x,n,rfl,yh.o,CP.o,bI.to hsw.o (fun j hj _ _=>Nat.le_trans hsw.o hj) _ _ _ _ (Nat.le_refl _) hNy.o,fun he=>absurd he lN.o⟩
   | some q=>
    have vP:iV s r.1=.tuple #[.int .u8 (q.toNat:Int),.bool true]:=by simp only[iV,hq]
    have avh:¬(q.toNat:Int)=41:=fun e=>hc (by rw[hq];congr 1;exact UInt8.toNat_inj.1 (by show q.toNat=41;omega))
    have hqb:((q.toNat:Int) != 41)=true:=by rw[bne_iff_ne];exact avh
    clear ES hc hq;go_wp2_with fail;refine (bP h.o).mono ?_;rintro e w7 ⟨rfl,qN⟩;replace h:=ζ (h.o.grows qN);replace hG:=ζ (hG.o.trans (qN.keeps (some g)));replace hF:=ζ (hF.o.grows qN);replace aG:=ζ (aG.o.grows qN);replace XD:=ζ (XD.o.grows qN);clear qN;rw[vP];clear vP;go_wp2_with fail;refine (jI h.o).mono ?_;rintro e w8 ⟨rfl,Td,su⟩;replace hG:=ζ (hG.o.trans su);replace hF:=ζ (hF.o.but su hFg.o);replace aG:=ζ (aG.o.but su jE.o);replace XD:=ζ (bI.keep su (fun j e=>by injection e with e;subst e;exact hNg.o) _ _ _ XD.o);replace h:=ζ Td;clear Td su;replace XD:=ζ (bI.keep (aj w8 ⟨g,1,none⟩ (.int .i64 ((((aW 2 r.1)).at_:Int)+1))) (fun j e=>by injection e with e;subst e;exact hNg.o) _ _ _ XD.o);have c1:w8.cell? ⟨g,1,none⟩=some (.int .i64 (((aW 2 r.1)).at_:Int)):=(h.o.cell 1).trans rfl;have f1:=h.o.frozen 1;have l1:=h.o.lt;have i1: -9223372036854775808≤(((aW 2 r.1)).at_:Int)+1∧(((aW 2 r.1)).at_:Int)+1≤9223372036854775807:=by first | omega | (simp only[aH];omega)
    have hA:=ζ (iR h.o);have gU:=ζ (hG.o.trans (aj w8 ⟨g,1,none⟩ (.int .i64 ((((aW 2 r.1)).at_:Int)+1))));replace hF:=ζ (hF.o.far (p:=⟨g,1,none⟩) hFg.o (.int .i64 ((((aW 2 r.1)).at_:Int)+1)));replace aG:=ζ (aG.o.far (p:=⟨g,1,none⟩) jE.o (.int .i64 ((((aW 2 r.1)).at_:Int)+1)));clear h hG;have h:=hA;have hG:=gU;clear hA gU;have yh:=ζ (h.o.but (aF (w8.setCell ⟨g,1,none⟩ (.int .i64 ((((aW 2 r.1)).at_:Int)+1))) g2 x.cells) (fun e=>jE.o e.symm));have jr:Hid (aS ((w8.setCell ⟨g,1,none⟩ (.int .i64 ((((aW 2 r.1)).at_:Int)+1))).setRow g2 x.cells) g2 149 x.cells):=ζ (setRow_heap _ _ _ _ _ _ aG.o);have CP:=ζ (hG.o.andThen (aF (w8.setCell ⟨g,1,none⟩ (.int .i64 ((((aW 2 r.1)).at_:Int)+1))) g2 x.cells) (fun j e=>by injection e with e;subst e;exact .inl hb2.o));have hNy:=ζ (bI.keep (aF (w8.setCell ⟨g,1,none⟩ (.int .i64 ((((aW 2 r.1)).at_:Int)+1))) g2 x.cells) (fun j e=>by injection e with e;subst e;exact hNr.o) _ _ _ XD.o);go_wp2_with (first | (refine wpList_load_row rfl 149 (.tmp 7) rfl gn rfl 149 x.cells (0,0) _ hF.o Tryz.underlying149 rfl hsz.o ?_) | (refine wpList_store_row rfl 149 (.tmp 4) (.tmp 58) rfl g2 x.cells rfl rfl 149 _ aG.o hsz.o eP.o h1.o ?_));refine bodyPost_ret (v:=.agg x.cells) (results_cell_row (p:=4) (ty:=149) κ _ _ g2 149 x.cells (0,0) _ rfl jr.o Tryz.underlying149 rfl hsz.o) rfl ?_;rw[hat.o];exact⟨x,n,rfl,yh.o,CP.o,bI.to hsw.o (fun j hj _ _=>Nat.le_trans hsw.o hj) _ _ _ _ (Nat.le_refl _) hNy.o,fun he=>absurd he lN.o⟩
theorem KG (k:Nat) (A:Option Addr) (m c:Nat):Tryz.prog.built 149 [(0,.int .i64 (k:Int)),(2,.slice A m c)]=some (au k aV (.slice A m c)):=by kernel_rfl
theorem oz (k:Nat) (f:Nat→Bool) (kv:Value):Tryz.prog.builtSlice 149 1 [(0,.agg (au k f kv))]=some (au k f kv):=by kernel_rfl
theorem VO (k:Nat):Tryz.prog.built 149 [(0,.int .i64 (k:Int))]=some (au k aV aI):=by kernel_rfl
theorem afY {w:World} {g deep D k:Nat} {s:List UInt8} {b:PB} {c:UInt8} {sub:Option (PB→PB×bF)} (hD:1≤D) (jc:TR s sub deep D) (hk:k≤100) (hsr:aaB s k sub) (h:oV w g s b) (hp:kK s b = some c) (tX:s.length≤100) :
 Calls Tryz.prog 157 #[.pointer (some ⟨g,0,none⟩),.int .i64 (deep:Int)] w (uV g s D w (jw s sub c b)):=by
 have ha:b.at_<1000:=by have:=(dN hp).2.1;omega
 obtain⟨D,rfl⟩:∃q,D=q+1:=⟨D-1,ω⟩;by_cases A_:c = 40
 ·subst A_;exact Zh hD jc hk hsr h hp tX
 ·by_cases Iq:c = 91
  ·subst Iq;exact Zi h hp ha tX
  ·by_cases JZ:c = 46
   ·subst JZ;exact afX h hp ha
   ·by_cases Oi:c = 92
    ·subst Oi;exact afW h hp ha
    ·by_cases h1:c = 42
     ·subst h1;exact Zg h hp ha
     ·by_cases h2:c = 43
      ·subst h2;exact Zf h hp ha
      ·by_cases h3:c = 63
       ·subst h3;exact Ze h hp ha
       ·by_cases h4:c = 93
        ·subst h4;exact Zd h hp ha
        ·exact afV h hp ha A_ Iq JZ Oi (by simp[h1,h2,h3,h4])
end Go.Proofs.YteojanlajhebhaaGreatDoor
