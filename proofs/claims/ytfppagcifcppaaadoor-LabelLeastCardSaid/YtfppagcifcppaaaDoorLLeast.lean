/- The walk of the law LabelLeast. -/
import Derived.Test.YtfppagcifcppaaaDoorLLeastP
import Derived.Test.YtfppagcifcppaaaDoorComK
namespace Go.Proofs.YtfppagcifcppaaaDoor
open Go.RowKit

def LeastR (w : World) (g : Nat) (t : TypeId) (ca cb : Value) (cs : Array Value) (w' : World) : Prop := TwoR w g (g + 1) t ca cb w' ∧ Blk w' (g + 1 + 1) t cs
def LaidR (w : World) (t : TypeId) (J M : Array Value) (f : Nat → Value) (w' : World) : Prop := ∃ g h, f 7 = .pointer (some ⟨g, 0, none⟩) ∧ f 8 = .pointer (some ⟨h, 0, none⟩) ∧ Blk w' g t J ∧ Blk w' h t M ∧ Grows w w'
def UpR (n : Nat) (w : World) (up : Bool) (f : Nat → Value) (w' : World) : Prop := f n = .bool up ∧ Grows w w'
set_option maxRecDepth 100000 in
set_option maxHeartbeats 12800000 in
theorem least_law (a b c : Lab) (w : World) (he : LibEnv w) (ha : a.ok) (hb : b.ok) (hc : c.ok) :
    Calls Tryd.prog 14 #[.agg #[.int .i64 a.lv, .int .u32 (a.c : Int)], .agg #[.int .i64 b.lv, .int .u32 (b.c : Int)], .agg #[.int .i64 c.lv, .int .u32 (c.c : Int)]] w fun e w' => e = .returned (.bool true) ∧ Grows w w' := by
  have cL := fun o o' o'' => llives_any (((w.alloc o).alloc o').alloc o'') (he.grows ((((Grows.refl w).alloc o).alloc o').alloc o''))
  clear he
  replace cL := Lib.hid cL
  go_enter Tryd.func14, Tryd.ntmps14
  go_wp2_with fail
  refine (cL.out _ _ _).mono ?_
  rintro e w1 ⟨rfl, hb1⟩
  have blA : Blk w1 w.heap.size 62 #[.int .i64 a.lv, .int .u32 (a.c : Int)] := (((Blk.new w _ _).alloc _).alloc _).grows hb1
  have blB : Blk w1 (w.heap.size + 1) 62 #[.int .i64 b.lv, .int .u32 (b.c : Int)] := ((Blk.new1 w _ _ _).alloc _).grows hb1
  have blC : Blk w1 (w.heap.size + 1 + 1) 62 #[.int .i64 c.lv, .int .u32 (c.c : Int)] := (Blk.new2 w _ _ _ _).grows hb1
  have hg : Grows w w1 := ((((Grows.refl _).alloc _).alloc _).alloc _).trans hb1
  clear hb1 cL
  go_wp2_with fail
  apply wp_cut (R := LeastR w w.heap.size 62 (.int .u32 (a.c : Int)) (.int .u32 (b.c : Int)) #[.int .i64 c.lv, .int .u32 (c.c : Int)])
  case h1 =>
    have d0A := blA.cell 0
    have d0B := blB.cell 0
    have sA := blA.lt
    have sB := blB.lt
    have f0A := blA.frozen 0
    have f0B := blB.frozen 0
    refine wp_region_altb (w.heap.size) (by kernel_rfl) ?_
    refine wpAnyH_run (l' := #[true, false, false, false, false, true, false, false, false, false, false, false, false, false]) [(0, true), (5, true)] 12 (by kernel_rfl) (by intro c a d v w h; cases d <;> exact h) rfl (by kernel_rfl) (Below.refl _ _).drew ?_
    iterate 2 (refine wpMixK_q rfl (fun K hK => ?_); go_simp; (try go_bits); first | (refine hK _ ?_; clear hK K) | (apply Exists.intro; refine ⟨fun wq hsq => ?_, hK _ ?_⟩; (first | (go_simp; done) | ((try go_simp); (try simp only [↓IntWalk.iteOmega]); (try go_bits); rfl) | (obtain ⟨hcq, hfq⟩ := bcellsB hsq; go_simp; done) | (obtain ⟨hcq, hfq⟩ := bcellsB hsq; (try go_simp); (try simp only [↓IntWalk.iteOmega]); (try go_bits); rfl)); clear hK K))
    refine wpMixK_nil (fun hS => ?_)
    refine wpAnyH_alt [1, 6] (by kernel_rfl) (by simp) (AllReadyH.cons rfl (fun K' hK => ?_) (AllReadyH.cons rfl (fun K' hK => ?_) AllReadyH.nil))
    · skip
      try clear hS
      go_simp
      refine hK.out _ _ ?_ (fun hS => ?_)
      · repeat (first | assumption | exact Below.refl _ _ | apply Below.drew | apply below_drewN | (refine Below.alloc2t ?_ (by first | rfl | simp) (by first | omega | (simp; omega) | simp)) | (refine Below.alloc ?_ (by first | omega | (simp; omega) | simp) _) | (refine Below.setCell ?_ (by first | omega | (simp; omega) | simp) _))
      clear hK
      refine wpAnyH_run (l' := #[true, true, true, true, true, true, false, false, false, false, true, false, false, false]) [(2, true), (3, true), (4, true), (10, true)] 7 (by kernel_rfl) (by intro c a d v w h; cases d <;> exact h) rfl (by kernel_rfl) hS ?_
      clear hS
      iterate 4 (refine wpMixK_q rfl (fun K hK => ?_); go_simp; (try go_bits); first | (refine hK _ ?_; clear hK K) | (apply Exists.intro; refine ⟨fun wq hsq => ?_, hK _ ?_⟩; (first | (go_simp; done) | ((try go_simp); (try simp only [↓IntWalk.iteOmega]); (try go_bits); rfl) | (obtain ⟨hcq, hfq⟩ := bcellsB hsq; go_simp; done) | (obtain ⟨hcq, hfq⟩ := bcellsB hsq; (try go_simp); (try simp only [↓IntWalk.iteOmega]); (try go_bits); rfl)); clear hK K))
      refine wpMixK_nil (fun hS => ?_)
      refine wpAnyH_alt [6, 11] (by kernel_rfl) (by simp) (AllReadyH.cons rfl (fun K' hK => ?_) (AllReadyH.cons rfl (fun K' hK => ?_) AllReadyH.nil))
      · skip
        try clear hS
        go_simp
        refine hK.out _ _ ?_ (fun hS => ?_)
        · repeat (first | assumption | exact Below.refl _ _ | apply Below.drew | apply below_drewN | (refine Below.alloc2t ?_ (by first | rfl | simp) (by first | omega | (simp; omega) | simp)) | (refine Below.alloc ?_ (by first | omega | (simp; omega) | simp) _) | (refine Below.setCell ?_ (by first | omega | (simp; omega) | simp) _))
        clear hK
        refine wpAnyH_run (l' := #[true, true, true, true, true, true, true, true, true, true, true, true, true, true]) [(7, true), (8, true), (9, true), (11, false), (12, true), (13, false)] 0 (by kernel_rfl) (by intro c a d v w h; cases d <;> exact h) rfl (by kernel_rfl) hS ?_
        clear hS
        iterate 3 (refine wpMixK_q rfl (fun K hK => ?_); go_simp; (try go_bits); first | (refine hK _ ?_; clear hK K) | (apply Exists.intro; refine ⟨fun wq hsq => ?_, hK _ ?_⟩; (first | (go_simp; done) | ((try go_simp); (try simp only [↓IntWalk.iteOmega]); (try go_bits); rfl) | (obtain ⟨hcq, hfq⟩ := bcellsB hsq; go_simp; done) | (obtain ⟨hcq, hfq⟩ := bcellsB hsq; (try go_simp); (try simp only [↓IntWalk.iteOmega]); (try go_bits); rfl)); clear hK K))
        refine wpMixK_m rfl (fun K' hK => ?_)
        go_simp
        refine hK.out _ _ ?_ (fun hS => ?_)
        · repeat (first | assumption | exact Below.refl _ _ | apply Below.drew | apply below_drewN | (refine Below.alloc2t ?_ (by first | rfl | simp) (by first | omega | (simp; omega) | simp)) | (refine Below.alloc ?_ (by first | omega | (simp; omega) | simp) _) | (refine Below.setCell ?_ (by first | omega | (simp; omega) | simp) _))
        clear hK hS
        iterate 1 (refine wpMixK_q rfl (fun K hK => ?_); go_simp; (try go_bits); first | (refine hK _ ?_; clear hK K) | (apply Exists.intro; refine ⟨fun wq hsq => ?_, hK _ ?_⟩; (first | (go_simp; done) | ((try go_simp); (try simp only [↓IntWalk.iteOmega]); (try go_bits); rfl) | (obtain ⟨hcq, hfq⟩ := bcellsB hsq; go_simp; done) | (obtain ⟨hcq, hfq⟩ := bcellsB hsq; (try go_simp); (try simp only [↓IntWalk.iteOmega]); (try go_bits); rfl)); clear hK K))
        refine wpMixK_m rfl (fun K' hK => ?_)
        go_simp
        refine hK.out _ _ ?_ (fun hS => ?_)
        · repeat (first | assumption | exact Below.refl _ _ | apply Below.drew | apply below_drewN | (refine Below.alloc2t ?_ (by first | rfl | simp) (by first | omega | (simp; omega) | simp)) | (refine Below.alloc ?_ (by first | omega | (simp; omega) | simp) _) | (refine Below.setCell ?_ (by first | omega | (simp; omega) | simp) _))
        clear hK hS
        refine wpMixK_nil (fun hS => ?_)
        refine wpAnyH_end (by kernel_rfl) ?_
        try clear hS
        go_simp
        refine ⟨rfl, ⟨_, _, (m8 a.lv).1, (m8 a.lv).2, (m8 b.lv).1, (m8 b.lv).2, ?_⟩, ?_⟩
        · exact two_set blA blB (by omega) hg (Nat.le_refl _) (by omega)
        · exact ((blC.far (p := ⟨w.heap.size, 0, none⟩) (by simp; omega) _).far (p := ⟨w.heap.size + 1, 0, none⟩) (by simp) _).drew
      · skip
        try clear hS
        go_simp
        refine hK.out _ _ ?_ (fun hS => ?_)
        · repeat (first | assumption | exact Below.refl _ _ | apply Below.drew | apply below_drewN | (refine Below.alloc2t ?_ (by first | rfl | simp) (by first | omega | (simp; omega) | simp)) | (refine Below.alloc ?_ (by first | omega | (simp; omega) | simp) _) | (refine Below.setCell ?_ (by first | omega | (simp; omega) | simp) _))
        clear hK
        refine wpAnyH_run (l' := #[true, true, true, true, true, true, true, true, true, true, true, true, true, true]) [(6, false), (7, true), (8, true), (9, true), (12, true), (13, false)] 0 (by kernel_rfl) (by intro c a d v w h; cases d <;> exact h) rfl (by kernel_rfl) hS ?_
        clear hS
        refine wpMixK_m rfl (fun K' hK => ?_)
        go_simp
        refine hK.out _ _ ?_ (fun hS => ?_)
        · repeat (first | assumption | exact Below.refl _ _ | apply Below.drew | apply below_drewN | (refine Below.alloc2t ?_ (by first | rfl | simp) (by first | omega | (simp; omega) | simp)) | (refine Below.alloc ?_ (by first | omega | (simp; omega) | simp) _) | (refine Below.setCell ?_ (by first | omega | (simp; omega) | simp) _))
        clear hK hS
        iterate 4 (refine wpMixK_q rfl (fun K hK => ?_); go_simp; (try go_bits); first | (refine hK _ ?_; clear hK K) | (apply Exists.intro; refine ⟨fun wq hsq => ?_, hK _ ?_⟩; (first | (go_simp; done) | ((try go_simp); (try simp only [↓IntWalk.iteOmega]); (try go_bits); rfl) | (obtain ⟨hcq, hfq⟩ := bcellsB hsq; go_simp; done) | (obtain ⟨hcq, hfq⟩ := bcellsB hsq; (try go_simp); (try simp only [↓IntWalk.iteOmega]); (try go_bits); rfl)); clear hK K))
        refine wpMixK_m rfl (fun K' hK => ?_)
        go_simp
        refine hK.out _ _ ?_ (fun hS => ?_)
        · repeat (first | assumption | exact Below.refl _ _ | apply Below.drew | apply below_drewN | (refine Below.alloc2t ?_ (by first | rfl | simp) (by first | omega | (simp; omega) | simp)) | (refine Below.alloc ?_ (by first | omega | (simp; omega) | simp) _) | (refine Below.setCell ?_ (by first | omega | (simp; omega) | simp) _))
        clear hK hS
        refine wpMixK_nil (fun hS => ?_)
        refine wpAnyH_end (by kernel_rfl) ?_
        try clear hS
        go_simp
        refine ⟨rfl, ⟨_, _, (m8 a.lv).1, (m8 a.lv).2, (m8 b.lv).1, (m8 b.lv).2, ?_⟩, ?_⟩
        · exact two_set blA blB (by omega) hg (Nat.le_refl _) (by omega)
        · exact ((blC.far (p := ⟨w.heap.size, 0, none⟩) (by simp; omega) _).far (p := ⟨w.heap.size + 1, 0, none⟩) (by simp) _).drew
    · skip
      try clear hS
      go_simp
      refine hK.out _ _ ?_ (fun hS => ?_)
      · repeat (first | assumption | exact Below.refl _ _ | apply Below.drew | apply below_drewN | (refine Below.alloc2t ?_ (by first | rfl | simp) (by first | omega | (simp; omega) | simp)) | (refine Below.alloc ?_ (by first | omega | (simp; omega) | simp) _) | (refine Below.setCell ?_ (by first | omega | (simp; omega) | simp) _))
      clear hK
      refine wpAnyH_run (l' := #[true, true, true, true, true, true, true, true, true, true, true, true, true, true]) [(7, true), (8, true), (9, true), (1, false), (2, true), (3, true), (4, true), (10, true), (11, false), (12, true), (13, false)] 0 (by kernel_rfl) (by intro c a d v w h; cases d <;> exact h) rfl (by kernel_rfl) hS ?_
      clear hS
      iterate 3 (refine wpMixK_q rfl (fun K hK => ?_); go_simp; (try go_bits); first | (refine hK _ ?_; clear hK K) | (apply Exists.intro; refine ⟨fun wq hsq => ?_, hK _ ?_⟩; (first | (go_simp; done) | ((try go_simp); (try simp only [↓IntWalk.iteOmega]); (try go_bits); rfl) | (obtain ⟨hcq, hfq⟩ := bcellsB hsq; go_simp; done) | (obtain ⟨hcq, hfq⟩ := bcellsB hsq; (try go_simp); (try simp only [↓IntWalk.iteOmega]); (try go_bits); rfl)); clear hK K))
      refine wpMixK_m rfl (fun K' hK => ?_)
      go_simp
      refine hK.out _ _ ?_ (fun hS => ?_)
      · repeat (first | assumption | exact Below.refl _ _ | apply Below.drew | apply below_drewN | (refine Below.alloc2t ?_ (by first | rfl | simp) (by first | omega | (simp; omega) | simp)) | (refine Below.alloc ?_ (by first | omega | (simp; omega) | simp) _) | (refine Below.setCell ?_ (by first | omega | (simp; omega) | simp) _))
      clear hK hS
      iterate 4 (refine wpMixK_q rfl (fun K hK => ?_); go_simp; (try go_bits); first | (refine hK _ ?_; clear hK K) | (apply Exists.intro; refine ⟨fun wq hsq => ?_, hK _ ?_⟩; (first | (go_simp; done) | ((try go_simp); (try simp only [↓IntWalk.iteOmega]); (try go_bits); rfl) | (obtain ⟨hcq, hfq⟩ := bcellsB hsq; go_simp; done) | (obtain ⟨hcq, hfq⟩ := bcellsB hsq; (try go_simp); (try simp only [↓IntWalk.iteOmega]); (try go_bits); rfl)); clear hK K))
      refine wpMixK_m rfl (fun K' hK => ?_)
      go_simp
      refine hK.out _ _ ?_ (fun hS => ?_)
      · repeat (first | assumption | exact Below.refl _ _ | apply Below.drew | apply below_drewN | (refine Below.alloc2t ?_ (by first | rfl | simp) (by first | omega | (simp; omega) | simp)) | (refine Below.alloc ?_ (by first | omega | (simp; omega) | simp) _) | (refine Below.setCell ?_ (by first | omega | (simp; omega) | simp) _))
      clear hK hS
      iterate 1 (refine wpMixK_q rfl (fun K hK => ?_); go_simp; (try go_bits); first | (refine hK _ ?_; clear hK K) | (apply Exists.intro; refine ⟨fun wq hsq => ?_, hK _ ?_⟩; (first | (go_simp; done) | ((try go_simp); (try simp only [↓IntWalk.iteOmega]); (try go_bits); rfl) | (obtain ⟨hcq, hfq⟩ := bcellsB hsq; go_simp; done) | (obtain ⟨hcq, hfq⟩ := bcellsB hsq; (try go_simp); (try simp only [↓IntWalk.iteOmega]); (try go_bits); rfl)); clear hK K))
      refine wpMixK_m rfl (fun K' hK => ?_)
      go_simp
      refine hK.out _ _ ?_ (fun hS => ?_)
      · repeat (first | assumption | exact Below.refl _ _ | apply Below.drew | apply below_drewN | (refine Below.alloc2t ?_ (by first | rfl | simp) (by first | omega | (simp; omega) | simp)) | (refine Below.alloc ?_ (by first | omega | (simp; omega) | simp) _) | (refine Below.setCell ?_ (by first | omega | (simp; omega) | simp) _))
      clear hK hS
      refine wpMixK_nil (fun hS => ?_)
      refine wpAnyH_end (by kernel_rfl) ?_
      try clear hS
      go_simp
      refine ⟨rfl, ⟨_, _, (m8 a.lv).1, (m8 a.lv).2, (m8 b.lv).1, (m8 b.lv).2, ?_⟩, ?_⟩
      · exact two_set blA blB (by omega) hg (Nat.le_refl _) (by omega)
      · exact ((blC.far (p := ⟨w.heap.size, 0, none⟩) (by simp; omega) _).far (p := ⟨w.heap.size + 1, 0, none⟩) (by simp) _).drew
  intro w2 hR
  clear hg blA blB blC
  obtain ⟨⟨A', B', a0, a7, b0, b7, blA, blB, hg2⟩, blC⟩ := hR
  have hra : labRight (⟨A', a.c⟩ : Lab).lv = true := labRight_iff.2 ⟨a0, a7⟩
  have hrb : labRight (⟨B', b.c⟩ : Lab).lv = true := labRight_iff.2 ⟨b0, b7⟩
  have hx : (⟨A', a.c⟩ : Lab).ok := ha
  have hy : (⟨B', b.c⟩ : Lab).ok := hb
  change Blk w2 w.heap.size 62 #[.int .i64 (⟨A', a.c⟩ : Lab).lv, .int .u32 ((⟨A', a.c⟩ : Lab).c : Int)] at blA
  change Blk w2 (w.heap.size + 1) 62 #[.int .i64 (⟨B', b.c⟩ : Lab).lv, .int .u32 ((⟨B', b.c⟩ : Lab).c : Int)] at blB
  generalize (⟨A', a.c⟩ : Lab) = x at *
  generalize (⟨B', b.c⟩ : Lab) = y at *
  clear a0 a7 b0 b7 ha hb
  have hJo : (joinL x y).ok := joinL_lt hx hy
  have hMo : (meetL x y).ok := meetL_lt hx
  have cJ := fun W => lJoin_any x y W hx hy
  have cM := fun W => lMeet_any x y W hx hy
  have cJ' := fun W => lJoin_any y x W hy hx
  have cM' := fun W => lMeet_any y x W hy hx
  rw [join_comm y x] at cJ'
  rw [meet_comm y x] at cM'
  have cxc := fun W => lFlows_any x c W hx hc
  have cyc := fun W => lFlows_any y c W hy hc
  have ccx := fun W => lFlows_any c x W hc hx
  have ccy := fun W => lFlows_any c y W hc hy
  have cxy := fun W => lFlows_any x y W hx hy
  have cxJ := fun W => lFlows_any x (joinL x y) W hx hJo
  have cyJ := fun W => lFlows_any y (joinL x y) W hy hJo
  have cMx := fun W => lFlows_any (meetL x y) x W hMo hx
  have cMy := fun W => lFlows_any (meetL x y) y W hMo hy
  have cJc := fun W => lFlows_any (joinL x y) c W hJo hc
  have ccM := fun W => lFlows_any c (meetL x y) W hc hMo
  rw [flows_joinL hra hrb] at cxJ
  rw [flows_joinR hra hrb] at cyJ
  rw [flows_meetL hra hrb] at cMx
  rw [flows_meetR hra hrb] at cMy
  rw [join_flows hra hrb] at cJc
  rw [flows_meet hra hrb] at ccM
  have hcase := flows_same hx hy hra hrb
  clear hx hy hc hra hrb hJo hMo
  generalize joinL x y = J at *
  generalize meetL x y = M at *
  generalize flowsL x c = fxc at *
  generalize flowsL y c = fyc at *
  generalize flowsL c x = fcx at *
  generalize flowsL c y = fcy at *
  generalize flowsL x y = fxy at *
  have hup : (fxc = false ∧ (fxc && fyc) = false) ∨ (fxc = true ∧ fyc = (fxc && fyc)) := by cases fxc <;> simp
  have hdn : (fcx = false ∧ (fcx && fcy) = false) ∨ (fcx = true ∧ fcy = (fcx && fcy)) := by cases fcx <;> simp
  generalize (fxc && fyc) = up at *
  generalize (fcx && fcy) = down at *
  replace hup := Lib.hid hup
  replace hdn := Lib.hid hdn
  replace cJ := Lib.hid cJ
  replace cM := Lib.hid cM
  replace cJ' := Lib.hid cJ'
  replace cM' := Lib.hid cM'
  replace cxc := Lib.hid cxc
  replace cyc := Lib.hid cyc
  replace ccx := Lib.hid ccx
  replace ccy := Lib.hid ccy
  replace cxy := Lib.hid cxy
  replace cxJ := Lib.hid cxJ
  replace cyJ := Lib.hid cyJ
  replace cMx := Lib.hid cMx
  replace cMy := Lib.hid cMy
  replace cJc := Lib.hid cJc
  replace ccM := Lib.hid ccM
  replace hcase := Lib.hid hcase
  go_wp2_with fail
  apply wp_cutS (is := [7, 8]) (R := LaidR w2 62 #[.int .i64 J.lv, .int .u32 (J.c : Int)] #[.int .i64 M.lv, .int .u32 (M.c : Int)])
  case h1 =>
    have d0A := blA.cell 0
    have d1A := blA.cell 1
    have sA := blA.lt
    have d0B := blB.cell 0
    have d1B := blB.cell 1
    have sB := blB.lt
    refine wp_region_k (by kernel_rfl) ?_
    refine wpAnyK_run (l' := #[true, true, true, true, true, true, false, false, false, false]) [0, 1, 2, 3, 4, 5] 4 up_grows (by kernel_rfl) (by intro c a d v w h; cases d <;> exact h) rfl (by kernel_rfl) ?_
    iterate 2 (refine wpMixC_q rfl (fun K hK => ?_); go_simp; (try go_bits); first | (refine hK.out _ ?_; clear hK K) | (apply Exists.intro; refine ⟨fun wq hsq => ?_, hK.out _ ?_⟩; (first | (go_simp; done) | ((try go_simp); (try simp only [↓IntWalk.iteOmega]); (try go_bits); rfl) | (obtain ⟨hcq, hfq⟩ := bcells hsq; go_simp; done) | (obtain ⟨hcq, hfq⟩ := bcells hsq; (try go_simp); (try simp only [↓IntWalk.iteOmega]); (try go_bits); rfl)); clear hK K))
    refine wpMixC_c (.agg #[.int .i64 J.lv, .int .u32 (J.c : Int)]) rfl (by first | rfl | (go_simp; done)) (fun wq hsq => ?_) ?_
    · obtain ⟨hcq, hfq⟩ := bcells hsq
      go_simp
      exact Calls.mono (cJ.out wq) (fun e w'' h => h)
    go_simp
    iterate 2 (refine wpMixC_q rfl (fun K hK => ?_); go_simp; (try go_bits); first | (refine hK.out _ ?_; clear hK K) | (apply Exists.intro; refine ⟨fun wq hsq => ?_, hK.out _ ?_⟩; (first | (go_simp; done) | ((try go_simp); (try simp only [↓IntWalk.iteOmega]); (try go_bits); rfl) | (obtain ⟨hcq, hfq⟩ := bcells hsq; go_simp; done) | (obtain ⟨hcq, hfq⟩ := bcells hsq; (try go_simp); (try simp only [↓IntWalk.iteOmega]); (try go_bits); rfl)); clear hK K))
    refine wpMixC_c (.agg #[.int .i64 M.lv, .int .u32 (M.c : Int)]) rfl (by first | rfl | (go_simp; done)) (fun wq hsq => ?_) ?_
    · obtain ⟨hcq, hfq⟩ := bcells hsq
      go_simp
      exact Calls.mono (cM.out wq) (fun e w'' h => h)
    go_simp
    refine wpMixC_nil ?_
    refine wpAnyK_alt [6, 7] (by kernel_rfl) (by simp) (fun wN hN hS => (AllReadyK.cons rfl (fun K' hK => ?_) (AllReadyK.cons rfl (fun K' hK => ?_) AllReadyK.nil)))
    · skip
      try replace bl7 := bl7.grows hN
      try replace bl8 := bl8.grows hN
      clear hN
      have hge7 := hS.size
      try have hlt := bl8.lt
      go_simp
      refine hK.out _ _ ?_ (fun hS => ?_)
      · repeat (first | assumption | exact Grows.refl _ | apply Grows.drew | apply Grows.drewN | refine Grows.alloc ?_ _ | (refine Grows.setCell ?_ (by first | (simp; done) | (simp; omega) | omega) _) | (refine Grows.trans ?_ (by assumption)))
      first | have bl7 := new_of hS | have bl7 := new_of' hS
      try replace bl8 := alloc_of hS bl8
      clear hK hS
      refine wpAnyK_alt [7] (by kernel_rfl) (by simp) (fun wN hN hS => (AllReadyK.cons rfl (fun K' hK => ?_) AllReadyK.nil))
      try replace bl7 := bl7.grows hN
      try replace bl8 := bl8.grows hN
      clear hN
      have hge8 := hS.size
      try have hlt := bl7.lt
      go_simp
      refine hK.out _ _ ?_ (fun hS => ?_)
      · repeat (first | assumption | exact Grows.refl _ | apply Grows.drew | apply Grows.drewN | refine Grows.alloc ?_ _ | (refine Grows.setCell ?_ (by first | (simp; done) | (simp; omega) | omega) _) | (refine Grows.trans ?_ (by assumption)))
      first | have bl8 := new_of hS | have bl8 := new_of' hS
      try replace bl7 := alloc_of hS bl7
      clear hK hS
      refine wpAnyK_alt [8] (by kernel_rfl) (by simp) (fun wN hN hS => (AllReadyK.cons rfl (fun K' hK => ?_) AllReadyK.nil))
      try replace bl7 := bl7.grows hN
      try replace bl8 := bl8.grows hN
      clear hN
      have f70 := bl7.frozen 0
      have f71 := bl7.frozen 1
      have c70 := bl7.cell 0
      have c71 := bl7.cell 1
      have s7 := bl7.lt
      go_simp
      refine hK.out _ _ ?_ (fun hS => ?_)
      · repeat (first | assumption | exact Grows.refl _ | apply Grows.drew | apply Grows.drewN | refine Grows.alloc ?_ _ | (refine Grows.setCell ?_ (by first | (simp; done) | (simp; omega) | omega) _) | (refine Grows.trans ?_ (by assumption)))
      replace bl7 := upd bl7 hS #[.int .i64 J.lv, .int .u32 (J.c : Int)] (set2 bl7)
      replace bl8 := same bl8 hS (far2 bl8 (by omega))
      clear f70 f71 c70 c71 s7
      clear hK hS
      refine wpAnyK_alt [9] (by kernel_rfl) (by simp) (fun wN hN hS => (AllReadyK.cons rfl (fun K' hK => ?_) AllReadyK.nil))
      try replace bl7 := bl7.grows hN
      try replace bl8 := bl8.grows hN
      clear hN
      have f80 := bl8.frozen 0
      have f81 := bl8.frozen 1
      have c80 := bl8.cell 0
      have c81 := bl8.cell 1
      have s8 := bl8.lt
      go_simp
      refine hK.out _ _ ?_ (fun hS => ?_)
      · repeat (first | assumption | exact Grows.refl _ | apply Grows.drew | apply Grows.drewN | refine Grows.alloc ?_ _ | (refine Grows.setCell ?_ (by first | (simp; done) | (simp; omega) | omega) _) | (refine Grows.trans ?_ (by assumption)))
      replace bl8 := upd bl8 hS #[.int .i64 M.lv, .int .u32 (M.c : Int)] (set2 bl8)
      replace bl7 := same bl7 hS (far2 bl7 (by omega))
      clear f80 f81 c80 c81 s8
      clear hK hS
      refine wpAnyK_end (by kernel_rfl) (fun wN hN hS => ?_)
      try replace bl7 := bl7.grows hN
      try replace bl8 := bl8.grows hN
      refine ⟨(by
        simp only [resetAll, List.foldl_cons, List.foldl_nil]
        go_simp
        try rfl
      ), _, _, rfl, rfl, bl7, bl8, ?_⟩
      repeat (first | assumption | exact Grows.refl _ | apply Grows.drew | apply Grows.drewN | refine Grows.alloc ?_ _ | (refine Grows.setCell ?_ (by first | (simp; done) | (simp; omega) | omega) _) | (refine Grows.trans ?_ (by assumption)))
    · skip
      try replace bl7 := bl7.grows hN
      try replace bl8 := bl8.grows hN
      clear hN
      have hge8 := hS.size
      try have hlt := bl7.lt
      go_simp
      refine hK.out _ _ ?_ (fun hS => ?_)
      · repeat (first | assumption | exact Grows.refl _ | apply Grows.drew | apply Grows.drewN | refine Grows.alloc ?_ _ | (refine Grows.setCell ?_ (by first | (simp; done) | (simp; omega) | omega) _) | (refine Grows.trans ?_ (by assumption)))
      first | have bl8 := new_of hS | have bl8 := new_of' hS
      try replace bl7 := alloc_of hS bl7
      clear hK hS
      refine wpAnyK_alt [6] (by kernel_rfl) (by simp) (fun wN hN hS => (AllReadyK.cons rfl (fun K' hK => ?_) AllReadyK.nil))
      try replace bl7 := bl7.grows hN
      try replace bl8 := bl8.grows hN
      clear hN
      have hge7 := hS.size
      try have hlt := bl8.lt
      go_simp
      refine hK.out _ _ ?_ (fun hS => ?_)
      · repeat (first | assumption | exact Grows.refl _ | apply Grows.drew | apply Grows.drewN | refine Grows.alloc ?_ _ | (refine Grows.setCell ?_ (by first | (simp; done) | (simp; omega) | omega) _) | (refine Grows.trans ?_ (by assumption)))
      first | have bl7 := new_of hS | have bl7 := new_of' hS
      try replace bl8 := alloc_of hS bl8
      clear hK hS
      refine wpAnyK_alt [8] (by kernel_rfl) (by simp) (fun wN hN hS => (AllReadyK.cons rfl (fun K' hK => ?_) AllReadyK.nil))
      try replace bl7 := bl7.grows hN
      try replace bl8 := bl8.grows hN
      clear hN
      have f70 := bl7.frozen 0
      have f71 := bl7.frozen 1
      have c70 := bl7.cell 0
      have c71 := bl7.cell 1
      have s7 := bl7.lt
      go_simp
      refine hK.out _ _ ?_ (fun hS => ?_)
      · repeat (first | assumption | exact Grows.refl _ | apply Grows.drew | apply Grows.drewN | refine Grows.alloc ?_ _ | (refine Grows.setCell ?_ (by first | (simp; done) | (simp; omega) | omega) _) | (refine Grows.trans ?_ (by assumption)))
      replace bl7 := upd bl7 hS #[.int .i64 J.lv, .int .u32 (J.c : Int)] (set2 bl7)
      replace bl8 := same bl8 hS (far2 bl8 (by omega))
      clear f70 f71 c70 c71 s7
      clear hK hS
      refine wpAnyK_alt [9] (by kernel_rfl) (by simp) (fun wN hN hS => (AllReadyK.cons rfl (fun K' hK => ?_) AllReadyK.nil))
      try replace bl7 := bl7.grows hN
      try replace bl8 := bl8.grows hN
      clear hN
      have f80 := bl8.frozen 0
      have f81 := bl8.frozen 1
      have c80 := bl8.cell 0
      have c81 := bl8.cell 1
      have s8 := bl8.lt
      go_simp
      refine hK.out _ _ ?_ (fun hS => ?_)
      · repeat (first | assumption | exact Grows.refl _ | apply Grows.drew | apply Grows.drewN | refine Grows.alloc ?_ _ | (refine Grows.setCell ?_ (by first | (simp; done) | (simp; omega) | omega) _) | (refine Grows.trans ?_ (by assumption)))
      replace bl8 := upd bl8 hS #[.int .i64 M.lv, .int .u32 (M.c : Int)] (set2 bl8)
      replace bl7 := same bl7 hS (far2 bl7 (by omega))
      clear f80 f81 c80 c81 s8
      clear hK hS
      refine wpAnyK_end (by kernel_rfl) (fun wN hN hS => ?_)
      try replace bl7 := bl7.grows hN
      try replace bl8 := bl8.grows hN
      refine ⟨(by
        simp only [resetAll, List.foldl_cons, List.foldl_nil]
        go_simp
        try rfl
      ), _, _, rfl, rfl, bl7, bl8, ?_⟩
      repeat (first | assumption | exact Grows.refl _ | apply Grows.drew | apply Grows.drewN | refine Grows.alloc ?_ _ | (refine Grows.setCell ?_ (by first | (simp; done) | (simp; omega) | omega) _) | (refine Grows.trans ?_ (by assumption)))
  intro f w3 hR
  obtain ⟨gJ, gM, e7, e8, bJ, bM, hg3⟩ := hR
  simp only [fillAll, List.foldl_cons, List.foldl_nil, e7, e8]
  replace blA := blA.grows hg3
  (try clear d0A); (try clear d1A); (try clear sA)
  have d0A := blA.cell 0
  have d1A := blA.cell 1
  have sA := blA.lt
  replace blB := blB.grows hg3
  (try clear d0B); (try clear d1B); (try clear sB)
  have d0B := blB.cell 0
  have d1B := blB.cell 1
  have sB := blB.lt
  replace blC := blC.grows hg3
  (try clear d0C); (try clear d1C); (try clear sC)
  have d0C := blC.cell 0
  have d1C := blC.cell 1
  have sC := blC.lt
  go_step
  go_step
  go_step
  apply wp_cutS (is := [33, 34, 35, 36, 37, 38, 9]) (R := UpR 9 w3 up)
  case h1 =>
    rcases hup.out with ⟨e1, e2⟩ | ⟨e1, e2⟩
    · have cx0 := cxc.out
      rw [e1] at cx0
      replace cx0 := Lib.hid cx0
      replace e2 := Lib.hid e2
      clear e1
      go_wp2_with fail
      refine (cx0.out _).mono ?_
      rintro e v1 ⟨rfl, hb1⟩
      go_wp2
      refine ⟨(by
        simp only [resetAll, List.foldl_cons, List.foldl_nil]
        go_simp
        try rfl
      ), ?_, hb1⟩
      rw [e2.out]
      rfl
    · have cx0 := cxc.out
      rw [e1] at cx0
      replace cx0 := Lib.hid cx0
      have cy0 := cyc.out
      rw [e2] at cy0
      replace cy0 := Lib.hid cy0
      clear e1 e2
      go_wp2_with fail
      refine (cx0.out _).mono ?_
      rintro e v1 ⟨rfl, hb1⟩
      replace blA := blA.grows hb1
      (try clear d0A); (try clear d1A); (try clear sA)
      have d0A := blA.cell 0
      have d1A := blA.cell 1
      have sA := blA.lt
      replace blB := blB.grows hb1
      (try clear d0B); (try clear d1B); (try clear sB)
      have d0B := blB.cell 0
      have d1B := blB.cell 1
      have sB := blB.lt
      replace blC := blC.grows hb1
      (try clear d0C); (try clear d1C); (try clear sC)
      have d0C := blC.cell 0
      have d1C := blC.cell 1
      have sC := blC.lt
      go_wp2_with fail
      refine (cy0.out _).mono ?_
      rintro e v2 ⟨rfl, hb2⟩
      go_wp2
      refine ⟨(by
        simp only [resetAll, List.foldl_cons, List.foldl_nil]
        go_simp
        try rfl
      ), rfl, hb1.trans hb2⟩
  intro f' w4 hR
  obtain ⟨e9, hg4⟩ := hR
  simp only [fillAll, List.foldl_cons, List.foldl_nil, e9]
  replace bJ := bJ.grows hg4
  replace bM := bM.grows hg4
  replace blA := blA.grows hg4
  (try clear d0A); (try clear d1A); (try clear sA)
  have d0A := blA.cell 0
  have d1A := blA.cell 1
  have sA := blA.lt
  replace blB := blB.grows hg4
  (try clear d0B); (try clear d1B); (try clear sB)
  have d0B := blB.cell 0
  have d1B := blB.cell 1
  have sB := blB.lt
  replace blC := blC.grows hg4
  (try clear d0C); (try clear d1C); (try clear sC)
  have d0C := blC.cell 0
  have d1C := blC.cell 1
  have sC := blC.lt
  replace hg3 := hg3.trans hg4
  clear hg4 cJ cM cxc cyc hup
  go_step
  go_step
  go_step
  apply wp_cutS (is := [41, 42, 43, 44, 45, 46, 10]) (R := UpR 10 w4 down)
  case h1 =>
    rcases hdn.out with ⟨e1, e2⟩ | ⟨e1, e2⟩
    · have cx0 := ccx.out
      rw [e1] at cx0
      replace cx0 := Lib.hid cx0
      replace e2 := Lib.hid e2
      clear e1
      go_wp2_with fail
      refine (cx0.out _).mono ?_
      rintro e v1 ⟨rfl, hb1⟩
      go_wp2
      refine ⟨(by
        simp only [resetAll, List.foldl_cons, List.foldl_nil]
        go_simp
        try rfl
      ), ?_, hb1⟩
      rw [e2.out]
      rfl
    · have cx0 := ccx.out
      rw [e1] at cx0
      replace cx0 := Lib.hid cx0
      have cy0 := ccy.out
      rw [e2] at cy0
      replace cy0 := Lib.hid cy0
      clear e1 e2
      go_wp2_with fail
      refine (cx0.out _).mono ?_
      rintro e v1 ⟨rfl, hb1⟩
      replace blA := blA.grows hb1
      (try clear d0A); (try clear d1A); (try clear sA)
      have d0A := blA.cell 0
      have d1A := blA.cell 1
      have sA := blA.lt
      replace blB := blB.grows hb1
      (try clear d0B); (try clear d1B); (try clear sB)
      have d0B := blB.cell 0
      have d1B := blB.cell 1
      have sB := blB.lt
      replace blC := blC.grows hb1
      (try clear d0C); (try clear d1C); (try clear sC)
      have d0C := blC.cell 0
      have d1C := blC.cell 1
      have sC := blC.lt
      go_wp2_with fail
      refine (cy0.out _).mono ?_
      rintro e v2 ⟨rfl, hb2⟩
      go_wp2
      refine ⟨(by
        simp only [resetAll, List.foldl_cons, List.foldl_nil]
        go_simp
        try rfl
      ), rfl, hb1.trans hb2⟩
  intro f'' w5 hR
  obtain ⟨e10, hg5⟩ := hR
  simp only [fillAll, List.foldl_cons, List.foldl_nil, e10]
  go_simp
  replace bJ := bJ.grows hg5
  replace bM := bM.grows hg5
  have d0J := bJ.cell 0
  have d1J := bJ.cell 1
  have sJ := bJ.lt
  have d0M := bM.cell 0
  have d1M := bM.cell 1
  have sM := bM.lt
  replace blA := blA.grows hg5
  (try clear d0A); (try clear d1A); (try clear sA)
  have d0A := blA.cell 0
  have d1A := blA.cell 1
  have sA := blA.lt
  replace blB := blB.grows hg5
  (try clear d0B); (try clear d1B); (try clear sB)
  have d0B := blB.cell 0
  have d1B := blB.cell 1
  have sB := blB.lt
  replace blC := blC.grows hg5
  (try clear d0C); (try clear d1C); (try clear sC)
  have d0C := blC.cell 0
  have d1C := blC.cell 1
  have sC := blC.lt
  have hgw := hg2.trans (hg3.trans hg5)
  clear hg2 hg3 hg5 ccx ccy hdn
  go_wp2_with fail
  refine wp_region_k (by kernel_rfl) ?_
  refine wpAnyK_run (l' := #[true, true, true, true, true, true, true, true, true, true, true, true, true, true, true, true, true, true, true, true, true, true, true, true, true, true, true, true, true, true, true, true, true, true, true, true, true, true, true, true, true, true, true, true, true, true, true, true, true, true, true, true, true, true, true, true, true, true, true, true, true, true, true, true, true]) (0 :: 1 :: 2 :: 3 :: 4 :: 5 :: 6 :: 7 :: 8 :: 9 :: 10 :: 11 :: 12 :: 13 :: 14 :: 15 :: 16 :: 17 :: 18 :: 19 :: 20 :: 21 :: 22 :: 23 :: 24 :: 25 :: 26 :: 27 :: 28 :: 29 :: 30 :: 31 :: 32 :: 33 :: 34 :: 35 :: 36 :: 37 :: 38 :: 39 :: 40 :: 41 :: 42 :: 43 :: 44 :: 45 :: 46 :: 47 :: 48 :: 49 :: 50 :: 51 :: 52 :: 53 :: 54 :: 55 :: 56 :: 57 :: 58 :: 59 :: 60 :: 61 :: 62 :: 63 :: 64 :: []) 0 up_grows (by kernel_rfl) (by intro c a d v w h; cases d <;> exact h) rfl (by kernel_rfl) ?_
  iterate 2 (refine wpMixC_q rfl (fun K hK => ?_); go_simp; (try go_bits); first | (refine hK.out _ ?_; clear hK K) | (apply Exists.intro; refine ⟨fun wq hsq => ?_, hK.out _ ?_⟩; (first | (go_simp; done) | ((try go_simp); (try simp only [↓IntWalk.iteOmega]); (try go_bits); rfl) | (obtain ⟨hcq, hfq⟩ := bcells hsq; go_simp; done) | (obtain ⟨hcq, hfq⟩ := bcells hsq; (try go_simp); (try simp only [↓IntWalk.iteOmega]); (try go_bits); rfl)); clear hK K))
  refine wpMixC_c (.bool true) rfl (by first | rfl | (go_simp; done)) (fun wq hsq => ?_) ?_
  · obtain ⟨hcq, hfq⟩ := bcells hsq
    go_simp
    exact Calls.mono (cxJ.out wq) (fun e w'' h => h)
  go_simp
  iterate 3 (refine wpMixC_q rfl (fun K hK => ?_); go_simp; (try go_bits); first | (refine hK.out _ ?_; clear hK K) | (apply Exists.intro; refine ⟨fun wq hsq => ?_, hK.out _ ?_⟩; (first | (go_simp; done) | ((try go_simp); (try simp only [↓IntWalk.iteOmega]); (try go_bits); rfl) | (obtain ⟨hcq, hfq⟩ := bcells hsq; go_simp; done) | (obtain ⟨hcq, hfq⟩ := bcells hsq; (try go_simp); (try simp only [↓IntWalk.iteOmega]); (try go_bits); rfl)); clear hK K))
  refine wpMixC_c (.bool true) rfl (by first | rfl | (go_simp; done)) (fun wq hsq => ?_) ?_
  · obtain ⟨hcq, hfq⟩ := bcells hsq
    go_simp
    exact Calls.mono (cyJ.out wq) (fun e w'' h => h)
  go_simp
  iterate 4 (refine wpMixC_q rfl (fun K hK => ?_); go_simp; (try go_bits); first | (refine hK.out _ ?_; clear hK K) | (apply Exists.intro; refine ⟨fun wq hsq => ?_, hK.out _ ?_⟩; (first | (go_simp; done) | ((try go_simp); (try simp only [↓IntWalk.iteOmega]); (try go_bits); rfl) | (obtain ⟨hcq, hfq⟩ := bcells hsq; go_simp; done) | (obtain ⟨hcq, hfq⟩ := bcells hsq; (try go_simp); (try simp only [↓IntWalk.iteOmega]); (try go_bits); rfl)); clear hK K))
  refine wpMixC_c (.bool true) rfl (by first | rfl | (go_simp; done)) (fun wq hsq => ?_) ?_
  · obtain ⟨hcq, hfq⟩ := bcells hsq
    go_simp
    exact Calls.mono (cMx.out wq) (fun e w'' h => h)
  go_simp
  iterate 4 (refine wpMixC_q rfl (fun K hK => ?_); go_simp; (try go_bits); first | (refine hK.out _ ?_; clear hK K) | (apply Exists.intro; refine ⟨fun wq hsq => ?_, hK.out _ ?_⟩; (first | (go_simp; done) | ((try go_simp); (try simp only [↓IntWalk.iteOmega]); (try go_bits); rfl) | (obtain ⟨hcq, hfq⟩ := bcells hsq; go_simp; done) | (obtain ⟨hcq, hfq⟩ := bcells hsq; (try go_simp); (try simp only [↓IntWalk.iteOmega]); (try go_bits); rfl)); clear hK K))
  refine wpMixC_c (.bool true) rfl (by first | rfl | (go_simp; done)) (fun wq hsq => ?_) ?_
  · obtain ⟨hcq, hfq⟩ := bcells hsq
    go_simp
    exact Calls.mono (cMy.out wq) (fun e w'' h => h)
  go_simp
  iterate 5 (refine wpMixC_q rfl (fun K hK => ?_); go_simp; (try go_bits); first | (refine hK.out _ ?_; clear hK K) | (apply Exists.intro; refine ⟨fun wq hsq => ?_, hK.out _ ?_⟩; (first | (go_simp; done) | ((try go_simp); (try simp only [↓IntWalk.iteOmega]); (try go_bits); rfl) | (obtain ⟨hcq, hfq⟩ := bcells hsq; go_simp; done) | (obtain ⟨hcq, hfq⟩ := bcells hsq; (try go_simp); (try simp only [↓IntWalk.iteOmega]); (try go_bits); rfl)); clear hK K))
  refine wpMixC_c (.bool up) rfl (by first | rfl | (go_simp; done)) (fun wq hsq => ?_) ?_
  · obtain ⟨hcq, hfq⟩ := bcells hsq
    go_simp
    exact Calls.mono (cJc.out wq) (fun e w'' h => h)
  go_simp
  iterate 6 (refine wpMixC_q rfl (fun K hK => ?_); go_simp; (try go_bits); first | (refine hK.out _ ?_; clear hK K) | (apply Exists.intro; refine ⟨fun wq hsq => ?_, hK.out _ ?_⟩; (first | (go_simp; done) | ((try go_simp); (try simp only [↓IntWalk.iteOmega]); (try go_bits); rfl) | (obtain ⟨hcq, hfq⟩ := bcells hsq; go_simp; done) | (obtain ⟨hcq, hfq⟩ := bcells hsq; (try go_simp); (try simp only [↓IntWalk.iteOmega]); (try go_bits); rfl)); clear hK K))
  refine wpMixC_c (.bool down) rfl (by first | rfl | (go_simp; done)) (fun wq hsq => ?_) ?_
  · obtain ⟨hcq, hfq⟩ := bcells hsq
    go_simp
    exact Calls.mono (ccM.out wq) (fun e w'' h => h)
  go_simp
  iterate 5 (refine wpMixC_q rfl (fun K hK => ?_); go_simp; (try go_bits); first | (refine hK.out _ ?_; clear hK K) | (apply Exists.intro; refine ⟨fun wq hsq => ?_, hK.out _ ?_⟩; (first | (go_simp; done) | ((try go_simp); (try simp only [↓IntWalk.iteOmega]); (try go_bits); rfl) | (obtain ⟨hcq, hfq⟩ := bcells hsq; go_simp; done) | (obtain ⟨hcq, hfq⟩ := bcells hsq; (try go_simp); (try simp only [↓IntWalk.iteOmega]); (try go_bits); rfl)); clear hK K))
  refine wpMixC_c (.bool fxy) rfl (by first | rfl | (go_simp; done)) (fun wq hsq => ?_) ?_
  · obtain ⟨hcq, hfq⟩ := bcells hsq
    go_simp
    exact Calls.mono (cxy.out wq) (fun e w'' h => h)
  go_simp
  iterate 2 (refine wpMixC_q rfl (fun K hK => ?_); go_simp; (try go_bits); first | (refine hK.out _ ?_; clear hK K) | (apply Exists.intro; refine ⟨fun wq hsq => ?_, hK.out _ ?_⟩; (first | (go_simp; done) | ((try go_simp); (try simp only [↓IntWalk.iteOmega]); (try go_bits); rfl) | (obtain ⟨hcq, hfq⟩ := bcells hsq; go_simp; done) | (obtain ⟨hcq, hfq⟩ := bcells hsq; (try go_simp); (try simp only [↓IntWalk.iteOmega]); (try go_bits); rfl)); clear hK K))
  refine wpMixC_v (.bool fxy) rfl (by first | rfl | (go_simp; done)) (fun wq hsq => ?_) ?_
  · rcases hcase.out with ⟨rfl, rfl, rfl⟩ | ⟨rfl, h1, h2⟩ | ⟨rfl, h1, h2, h3, h4⟩
    · go_simp
    · go_simp
    · go_simp
  go_simp
  iterate 5 (refine wpMixC_q rfl (fun K hK => ?_); go_simp; (try go_bits); first | (refine hK.out _ ?_; clear hK K) | (apply Exists.intro; refine ⟨fun wq hsq => ?_, hK.out _ ?_⟩; (first | (go_simp; done) | ((try go_simp); (try simp only [↓IntWalk.iteOmega]); (try go_bits); rfl) | (obtain ⟨hcq, hfq⟩ := bcells hsq; go_simp; done) | (obtain ⟨hcq, hfq⟩ := bcells hsq; (try go_simp); (try simp only [↓IntWalk.iteOmega]); (try go_bits); rfl)); clear hK K))
  refine wpMixC_c (.bool fxy) rfl (by first | rfl | (go_simp; done)) (fun wq hsq => ?_) ?_
  · obtain ⟨hcq, hfq⟩ := bcells hsq
    go_simp
    exact Calls.mono (cxy.out wq) (fun e w'' h => h)
  go_simp
  iterate 2 (refine wpMixC_q rfl (fun K hK => ?_); go_simp; (try go_bits); first | (refine hK.out _ ?_; clear hK K) | (apply Exists.intro; refine ⟨fun wq hsq => ?_, hK.out _ ?_⟩; (first | (go_simp; done) | ((try go_simp); (try simp only [↓IntWalk.iteOmega]); (try go_bits); rfl) | (obtain ⟨hcq, hfq⟩ := bcells hsq; go_simp; done) | (obtain ⟨hcq, hfq⟩ := bcells hsq; (try go_simp); (try simp only [↓IntWalk.iteOmega]); (try go_bits); rfl)); clear hK K))
  refine wpMixC_v (.bool fxy) rfl (by first | rfl | (go_simp; done)) (fun wq hsq => ?_) ?_
  · rcases hcase.out with ⟨rfl, rfl, rfl⟩ | ⟨rfl, h1, h2⟩ | ⟨rfl, h1, h2, h3, h4⟩
    · go_simp
    · go_simp
    · go_simp
  go_simp
  iterate 5 (refine wpMixC_q rfl (fun K hK => ?_); go_simp; (try go_bits); first | (refine hK.out _ ?_; clear hK K) | (apply Exists.intro; refine ⟨fun wq hsq => ?_, hK.out _ ?_⟩; (first | (go_simp; done) | ((try go_simp); (try simp only [↓IntWalk.iteOmega]); (try go_bits); rfl) | (obtain ⟨hcq, hfq⟩ := bcells hsq; go_simp; done) | (obtain ⟨hcq, hfq⟩ := bcells hsq; (try go_simp); (try simp only [↓IntWalk.iteOmega]); (try go_bits); rfl)); clear hK K))
  refine wpMixC_c (.agg #[.int .i64 J.lv, .int .u32 (J.c : Int)]) rfl (by first | rfl | (go_simp; done)) (fun wq hsq => ?_) ?_
  · obtain ⟨hcq, hfq⟩ := bcells hsq
    go_simp
    exact Calls.mono (cJ'.out wq) (fun e w'' h => h)
  go_simp
  iterate 6 (refine wpMixC_q rfl (fun K hK => ?_); go_simp; (try go_bits); first | (refine hK.out _ ?_; clear hK K) | (apply Exists.intro; refine ⟨fun wq hsq => ?_, hK.out _ ?_⟩; (first | (go_simp; done) | ((try go_simp); (try simp only [↓IntWalk.iteOmega]); (try go_bits); rfl) | (obtain ⟨hcq, hfq⟩ := bcells hsq; go_simp; done) | (obtain ⟨hcq, hfq⟩ := bcells hsq; (try go_simp); (try simp only [↓IntWalk.iteOmega]); (try go_bits); rfl)); clear hK K))
  refine wpMixC_c (.agg #[.int .i64 M.lv, .int .u32 (M.c : Int)]) rfl (by first | rfl | (go_simp; done)) (fun wq hsq => ?_) ?_
  · obtain ⟨hcq, hfq⟩ := bcells hsq
    go_simp
    exact Calls.mono (cM'.out wq) (fun e w'' h => h)
  go_simp
  iterate 4 (refine wpMixC_q rfl (fun K hK => ?_); go_simp; (try go_bits); first | (refine hK.out _ ?_; clear hK K) | (apply Exists.intro; refine ⟨fun wq hsq => ?_, hK.out _ ?_⟩; (first | (go_simp; done) | ((try go_simp); (try simp only [↓IntWalk.iteOmega]); (try go_bits); rfl) | (obtain ⟨hcq, hfq⟩ := bcells hsq; go_simp; done) | (obtain ⟨hcq, hfq⟩ := bcells hsq; (try go_simp); (try simp only [↓IntWalk.iteOmega]); (try go_bits); rfl)); clear hK K))
  refine wpMixC_nil ?_
  refine wpAnyK_end (by kernel_rfl) (fun wN hN hS => ?_)
  go_wp2
  go_ret
  exact ⟨rfl, hgw.trans hS⟩
end Go.Proofs.YtfppagcifcppaaaDoor
