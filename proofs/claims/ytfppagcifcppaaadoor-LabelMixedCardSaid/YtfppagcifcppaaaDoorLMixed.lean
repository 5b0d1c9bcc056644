/- The walk of the law LabelMixed. -/
import Derived.Test.YtfppagcifcppaaaDoorLMixedP
namespace Go.Proofs.YtfppagcifcppaaaDoor
open Go.RowKit

def LaidP (w : World) (i j : Nat) (t : TypeId) (J M : Array Value) (f : Nat → Value) (w' : World) : Prop := ∃ g h, f i = .pointer (some ⟨g, 0, none⟩) ∧ f j = .pointer (some ⟨h, 0, none⟩) ∧ Blk w' g t J ∧ Blk w' h t M ∧ Grows w w'
set_option maxRecDepth 100000 in
set_option maxHeartbeats 12800000 in
theorem mixed_law (a b c : Lab) (w : World) (he : LibEnv w) (ha : a.ok) (hb : b.ok) (hc : c.ok) :
    Calls Tryd.prog 16 #[.agg #[.int .i64 a.lv, .int .u32 (a.c : Int)], .agg #[.int .i64 b.lv, .int .u32 (b.c : Int)], .agg #[.int .i64 c.lv, .int .u32 (c.c : Int)]] w fun e w' => e = .returned (.bool true) ∧ Grows w w' := by
  have cL := fun o o' o'' => llives_any (((w.alloc o).alloc o').alloc o'') (he.grows ((((Grows.refl w).alloc o).alloc o').alloc o''))
  clear he
  replace cL := Lib.hid cL
  go_enter Tryd.func16, Tryd.ntmps16
  go_wp2_with fail
  refine (cL.out _ _ _).mono ?_
  rintro e w1 ⟨rfl, hb1⟩
  have blA : Blk w1 w.heap.size 62 #[.int .i64 a.lv, .int .u32 (a.c : Int)] := (((Blk.new w _ _).alloc _).alloc _).grows hb1
  have blB : Blk w1 (w.heap.size + 1) 62 #[.int .i64 b.lv, .int .u32 (b.c : Int)] := ((Blk.new1 w _ _ _).alloc _).grows hb1
  have blC : Blk w1 (w.heap.size + 1 + 1) 62 #[.int .i64 c.lv, .int .u32 (c.c : Int)] := (Blk.new2 w _ _ _ _).grows hb1
  have hg : Grows w w1 := ((((Grows.refl _).alloc _).alloc _).alloc _).trans hb1
  clear hb1 cL
  go_wp2_with fail
  apply wp_cut (R := ThreeR w w.heap.size (w.heap.size + 1) (w.heap.size + 1 + 1) 62 (.int .u32 (a.c : Int)) (.int .u32 (b.c : Int)) (.int .u32 (c.c : Int)))
  case h1 =>
    have d0A := blA.cell 0
    have d0B := blB.cell 0
    have d0C := blC.cell 0
    have sA := blA.lt
    have sB := blB.lt
    have sC := blC.lt
    have f0A := blA.frozen 0
    have f0B := blB.frozen 0
    have f0C := blC.frozen 0
    refine wp_region_altb (w.heap.size) (by kernel_rfl) ?_
    refine wpAnyH_run (l' := #[true, false, false, false, false, true, false, false, false, false, true, false, false, false, false, false, false, false, false, false, false]) [(0, true), (5, true), (10, true)] 18 (by kernel_rfl) (by intro c a d v w h; cases d <;> exact h) rfl (by kernel_rfl) (Below.refl _ _).drew ?_
    iterate 3 (refine wpMixK_q rfl (fun K hK => ?_); go_simp; (try go_bits); first | (refine hK _ ?_; clear hK K) | (apply Exists.intro; refine ⟨fun wq hsq => ?_, hK _ ?_⟩; (first | (go_simp; done) | ((try go_simp); (try simp only [↓IntWalk.iteOmega]); (try go_bits); rfl) | (obtain ⟨hcq, hfq⟩ := bcellsB hsq; go_simp; done) | (obtain ⟨hcq, hfq⟩ := bcellsB hsq; (try go_simp); (try simp only [↓IntWalk.iteOmega]); (try go_bits); rfl)); clear hK K))
    refine wpMixK_nil (fun hS => ?_)
    refine wpAnyH_alt [1, 6, 11] (by kernel_rfl) (by simp) (AllReadyH.cons rfl (fun K' hK => ?_) (AllReadyH.cons rfl (fun K' hK => ?_) (AllReadyH.cons rfl (fun K' hK => ?_) AllReadyH.nil)))
    · skip
      try clear hS
      go_simp
      refine hK.out _ _ ?_ (fun hS => ?_)
      · repeat (first | assumption | exact Below.refl _ _ | apply Below.drew | apply below_drewN | (refine Below.alloc2t ?_ (by first | rfl | simp) (by first | omega | (simp; omega) | simp)) | (refine Below.alloc ?_ (by first | omega | (simp; omega) | simp) _) | (refine Below.setCell ?_ (by first | omega | (simp; omega) | simp) _))
      clear hK
      refine wpAnyH_run (l' := #[true, true, true, true, true, true, false, false, false, false, true, false, false, false, false, true, false, false, false, false, false]) [(2, true), (3, true), (4, true), (15, true)] 13 (by kernel_rfl) (by intro c a d v w h; cases d <;> exact h) rfl (by kernel_rfl) hS ?_
      clear hS
      iterate 4 (refine wpMixK_q rfl (fun K hK => ?_); go_simp; (try go_bits); first | (refine hK _ ?_; clear hK K) | (apply Exists.intro; refine ⟨fun wq hsq => ?_, hK _ ?_⟩; (first | (go_simp; done) | ((try go_simp); (try simp only [↓IntWalk.iteOmega]); (try go_bits); rfl) | (obtain ⟨hcq, hfq⟩ := bcellsB hsq; go_simp; done) | (obtain ⟨hcq, hfq⟩ := bcellsB hsq; (try go_simp); (try simp only [↓IntWalk.iteOmega]); (try go_bits); rfl)); clear hK K))
      refine wpMixK_nil (fun hS => ?_)
      refine wpAnyH_alt [6, 11, 16] (by kernel_rfl) (by simp) (AllReadyH.cons rfl (fun K' hK => ?_) (AllReadyH.cons rfl (fun K' hK => ?_) (AllReadyH.cons rfl (fun K' hK => ?_) AllReadyH.nil)))
      · skip
        try clear hS
        go_simp
        refine hK.out _ _ ?_ (fun hS => ?_)
        · repeat (first | assumption | exact Below.refl _ _ | apply Below.drew | apply below_drewN | (refine Below.alloc2t ?_ (by first | rfl | simp) (by first | omega | (simp; omega) | simp)) | (refine Below.alloc ?_ (by first | omega | (simp; omega) | simp) _) | (refine Below.setCell ?_ (by first | omega | (simp; omega) | simp) _))
        clear hK
        refine wpAnyH_run (l' := #[true, true, true, true, true, true, true, true, true, true, true, false, false, false, false, true, false, false, false, false, false]) [(7, true), (8, true), (9, true)] 9 (by kernel_rfl) (by intro c a d v w h; cases d <;> exact h) rfl (by kernel_rfl) hS ?_
        clear hS
        iterate 3 (refine wpMixK_q rfl (fun K hK => ?_); go_simp; (try go_bits); first | (refine hK _ ?_; clear hK K) | (apply Exists.intro; refine ⟨fun wq hsq => ?_, hK _ ?_⟩; (first | (go_simp; done) | ((try go_simp); (try simp only [↓IntWalk.iteOmega]); (try go_bits); rfl) | (obtain ⟨hcq, hfq⟩ := bcellsB hsq; go_simp; done) | (obtain ⟨hcq, hfq⟩ := bcellsB hsq; (try go_simp); (try simp only [↓IntWalk.iteOmega]); (try go_bits); rfl)); clear hK K))
        refine wpMixK_nil (fun hS => ?_)
        refine wpAnyH_alt [11, 16] (by kernel_rfl) (by simp) (AllReadyH.cons rfl (fun K' hK => ?_) (AllReadyH.cons rfl (fun K' hK => ?_) AllReadyH.nil))
        · skip
          try clear hS
          go_simp
          refine hK.out _ _ ?_ (fun hS => ?_)
          · repeat (first | assumption | exact Below.refl _ _ | apply Below.drew | apply below_drewN | (refine Below.alloc2t ?_ (by first | rfl | simp) (by first | omega | (simp; omega) | simp)) | (refine Below.alloc ?_ (by first | omega | (simp; omega) | simp) _) | (refine Below.setCell ?_ (by first | omega | (simp; omega) | simp) _))
          clear hK
          refine wpAnyH_run (l' := #[true, true, true, true, true, true, true, true, true, true, true, true, true, true, true, true, true, true, true, true, true]) [(12, true), (13, true), (14, true), (16, false), (17, true), (18, false), (19, true), (20, false)] 0 (by kernel_rfl) (by intro c a d v w h; cases d <;> exact h) rfl (by kernel_rfl) hS ?_
          clear hS
          iterate 3 (refine wpMixK_q rfl (fun K hK => ?_); go_simp; (try go_bits); first | (refine hK _ ?_; clear hK K) | (apply Exists.intro; refine ⟨fun wq hsq => ?_, hK _ ?_⟩; (first | (go_simp; done) | ((try go_simp); (try simp only [↓IntWalk.iteOmega]); (try go_bits); rfl) | (obtain ⟨hcq, hfq⟩ := bcellsB hsq; go_simp; done) | (obtain ⟨hcq, hfq⟩ := bcellsB hsq; (try go_simp); (try simp only [↓IntWalk.iteOmega]); (try go_bits); rfl)); clear hK K))
          refine wpMixK_m rfl (fun K' hK => ?_)
          go_simp
          refine hK.out _ _ ?_ (fun hS => ?_)
          · repeat (first | assumption | exact Below.refl _ _ | apply Below.drew | apply below_drewN | (refine Below.alloc2t ?_ (by first | rfl | simp) (by first | omega | (simp; omega) | simp)) | (refine Below.alloc ?_ (by first | omega | (simp; omega) | simp) _) | (refine Below.setCell ?_ (by first | omega | (simp; omega) | simp) _))
          clear hK hS
          iterate 1 (refine wpMixK_q rfl (fun K hK => ?_); go_simp; (try go_bits); first | (refine hK _ ?_; clear hK K) | (apply Exists.intro; refine ⟨fun wq hsq => ?_, hK _ ?_⟩; (first | (go_simp; done) | ((try go_simp); (try simp only [↓IntWalk.iteOmega]); (try go_bits); rfl) | (obtain ⟨hcq, hfq⟩ := bcellsB hsq; go_simp; done) | (obtain ⟨hcq, hfq⟩ := bcellsB hsq; (try go_simp); (try simp only [↓IntWalk.iteOmega]); (try go_bits); rfl)); clear hK K))
          refine wpMixK_m rfl (fun K' hK => ?_)
          go_simp
          refine hK.out _ _ ?_ (fun hS => ?_)
          · repeat (first | assumption | exact Below.refl _ _ | apply Below.drew | apply below_drewN | (refine Below.alloc2t ?_ (by first | rfl | simp) (by first | omega | (simp; omega) | simp)) | (refine Below.alloc ?_ (by first | omega | (simp; omega) | simp) _) | (refine Below.setCell ?_ (by first | omega | (simp; omega) | simp) _))
          clear hK hS
          iterate 1 (refine wpMixK_q rfl (fun K hK => ?_); go_simp; (try go_bits); first | (refine hK _ ?_; clear hK K) | (apply Exists.intro; refine ⟨fun wq hsq => ?_, hK _ ?_⟩; (first | (go_simp; done) | ((try go_simp); (try simp only [↓IntWalk.iteOmega]); (try go_bits); rfl) | (obtain ⟨hcq, hfq⟩ := bcellsB hsq; go_simp; done) | (obtain ⟨hcq, hfq⟩ := bcellsB hsq; (try go_simp); (try simp only [↓IntWalk.iteOmega]); (try go_bits); rfl)); clear hK K))
          refine wpMixK_m rfl (fun K' hK => ?_)
          go_simp
          refine hK.out _ _ ?_ (fun hS => ?_)
          · repeat (first | assumption | exact Below.refl _ _ | apply Below.drew | apply below_drewN | (refine Below.alloc2t ?_ (by first | rfl | simp) (by first | omega | (simp; omega) | simp)) | (refine Below.alloc ?_ (by first | omega | (simp; omega) | simp) _) | (refine Below.setCell ?_ (by first | omega | (simp; omega) | simp) _))
          clear hK hS
          refine wpMixK_nil (fun hS => ?_)
          refine wpAnyH_end (by kernel_rfl) ?_
          try clear hS
          go_simp
          refine ⟨rfl, _, _, _, m8 a.lv, m8 b.lv, m8 c.lv, ?_⟩
          exact three_set blA blB blC (Nat.le_refl _) (by omega) (by omega) hg
        · skip
          try clear hS
          go_simp
          refine hK.out _ _ ?_ (fun hS => ?_)
          · repeat (first | assumption | exact Below.refl _ _ | apply Below.drew | apply below_drewN | (refine Below.alloc2t ?_ (by first | rfl | simp) (by first | omega | (simp; omega) | simp)) | (refine Below.alloc ?_ (by first | omega | (simp; omega) | simp) _) | (refine Below.setCell ?_ (by first | omega | (simp; omega) | simp) _))
          clear hK
          refine wpAnyH_run (l' := #[true, true, true, true, true, true, true, true, true, true, true, false, false, false, false, true, true, true, false, false, false]) [(17, true)] 7 (by kernel_rfl) (by intro c a d v w h; cases d <;> exact h) rfl (by kernel_rfl) hS ?_
          clear hS
          iterate 1 (refine wpMixK_q rfl (fun K hK => ?_); go_simp; (try go_bits); first | (refine hK _ ?_; clear hK K) | (apply Exists.intro; refine ⟨fun wq hsq => ?_, hK _ ?_⟩; (first | (go_simp; done) | ((try go_simp); (try simp only [↓IntWalk.iteOmega]); (try go_bits); rfl) | (obtain ⟨hcq, hfq⟩ := bcellsB hsq; go_simp; done) | (obtain ⟨hcq, hfq⟩ := bcellsB hsq; (try go_simp); (try simp only [↓IntWalk.iteOmega]); (try go_bits); rfl)); clear hK K))
          refine wpMixK_nil (fun hS => ?_)
          refine wpAnyH_alt [11, 18] (by kernel_rfl) (by simp) (AllReadyH.cons rfl (fun K' hK => ?_) (AllReadyH.cons rfl (fun K' hK => ?_) AllReadyH.nil))
          · skip
            try clear hS
            go_simp
            refine hK.out _ _ ?_ (fun hS => ?_)
            · repeat (first | assumption | exact Below.refl _ _ | apply Below.drew | apply below_drewN | (refine Below.alloc2t ?_ (by first | rfl | simp) (by first | omega | (simp; omega) | simp)) | (refine Below.alloc ?_ (by first | omega | (simp; omega) | simp) _) | (refine Below.setCell ?_ (by first | omega | (simp; omega) | simp) _))
            clear hK
            refine wpAnyH_run (l' := #[true, true, true, true, true, true, true, true, true, true, true, true, true, true, true, true, true, true, true, true, true]) [(12, true), (13, true), (14, true), (18, false), (19, true), (20, false)] 0 (by kernel_rfl) (by intro c a d v w h; cases d <;> exact h) rfl (by kernel_rfl) hS ?_
            clear hS
            iterate 3 (refine wpMixK_q rfl (fun K hK => ?_); go_simp; (try go_bits); first | (refine hK _ ?_; clear hK K) | (apply Exists.intro; refine ⟨fun wq hsq => ?_, hK _ ?_⟩; (first | (go_simp; done) | ((try go_simp); (try simp only [↓IntWalk.iteOmega]); (try go_bits); rfl) | (obtain ⟨hcq, hfq⟩ := bcellsB hsq; go_simp; done) | (obtain ⟨hcq, hfq⟩ := bcellsB hsq; (try go_simp); (try simp only [↓IntWalk.iteOmega]); (try go_bits); rfl)); clear hK K))
            refine wpMixK_m rfl (fun K' hK => ?_)
            go_simp
            refine hK.out _ _ ?_ (fun hS => ?_)
            · repeat (first | assumption | exact Below.refl _ _ | apply Below.drew | apply below_drewN | (refine Below.alloc2t ?_ (by first | rfl | simp) (by first | omega | (simp; omega) | simp)) | (refine Below.alloc ?_ (by first | omega | (simp; omega) | simp) _) | (refine Below.setCell ?_ (by first | omega | (simp; omega) | simp) _))
            clear hK hS
            iterate 1 (refine wpMixK_q rfl (fun K hK => ?_); go_simp; (try go_bits); first | (refine hK _ ?_; clear hK K) | (apply Exists.intro; refine ⟨fun wq hsq => ?_, hK _ ?_⟩; (first | (go_simp; done) | ((try go_simp); (try simp only [↓IntWalk.iteOmega]); (try go_bits); rfl) | (obtain ⟨hcq, hfq⟩ := bcellsB hsq; go_simp; done) | (obtain ⟨hcq, hfq⟩ := bcellsB hsq; (try go_simp); (try simp only [↓IntWalk.iteOmega]); (try go_bits); rfl)); clear hK K))
            refine wpMixK_m rfl (fun K' hK => ?_)
            go_simp
            refine hK.out _ _ ?_ (fun hS => ?_)
            · repeat (first | assumption | exact Below.refl _ _ | apply Below.drew | apply below_drewN | (refine Below.alloc2t ?_ (by first | rfl | simp) (by first | omega | (simp; omega) | simp)) | (refine Below.alloc ?_ (by first | omega | (simp; omega) | simp) _) | (refine Below.setCell ?_ (by first | omega | (simp; omega) | simp) _))
            clear hK hS
            refine wpMixK_nil (fun hS => ?_)
            refine wpAnyH_end (by kernel_rfl) ?_
            try clear hS
            go_simp
            refine ⟨rfl, _, _, _, m8 a.lv, m8 b.lv, m8 c.lv, ?_⟩
            exact three_set blA blB blC (Nat.le_refl _) (by omega) (by omega) hg
          · skip
            try clear hS
            go_simp
            refine hK.out _ _ ?_ (fun hS => ?_)
            · repeat (first | assumption | exact Below.refl _ _ | apply Below.drew | apply below_drewN | (refine Below.alloc2t ?_ (by first | rfl | simp) (by first | omega | (simp; omega) | simp)) | (refine Below.alloc ?_ (by first | omega | (simp; omega) | simp) _) | (refine Below.setCell ?_ (by first | omega | (simp; omega) | simp) _))
            clear hK
            refine wpAnyH_run (l' := #[true, true, true, true, true, true, true, true, true, true, true, true, true, true, true, true, true, true, true, true, true]) [(11, false), (12, true), (13, true), (14, true), (19, true), (20, false)] 0 (by kernel_rfl) (by intro c a d v w h; cases d <;> exact h) rfl (by kernel_rfl) hS ?_
            clear hS
            refine wpMixK_m rfl (fun K' hK => ?_)
            go_simp
            refine hK.out _ _ ?_ (fun hS => ?_)
            · repeat (first | assumption | exact Below.refl _ _ | apply Below.drew | apply below_drewN | (refine Below.alloc2t ?_ (by first | rfl | simp) (by first | omega | (simp; omega) | simp)) | (refine Below.alloc ?_ (by first | omega | (simp; omega) | simp) _) | (refine Below.setCell ?_ (by first | omega | (simp; omega) | simp) _))
            clear hK hS
            iterate 4 (refine wpMixK_q rfl (fun K hK => ?_); go_simp; (try go_bits); first | (refine hK _ ?_; clear hK K) | (apply Exists.intro; refine ⟨fun wq hsq => ?_, hK _ ?_⟩; (first | (go_simp; done) | ((try go_simp); (try simp only [↓IntWalk.iteOmega]); (try go_bits); rfl) | (obtain ⟨hcq, hfq⟩ := bcellsB hsq; go_simp; done) | (obtain ⟨hcq, hfq⟩ := bcellsB hsq; (try go_simp); (try simp only [↓IntWalk.iteOmega]); (try go_bits); rfl)); clear hK K))
            refine wpMixK_m rfl (fun K' hK => ?_)
            go_simp
            refine hK.out _ _ ?_ (fun hS => ?_)
            · repeat (first | assumption | exact Below.refl _ _ | apply Below.drew | apply below_drewN | (refine Below.alloc2t ?_ (by first | rfl | simp) (by first | omega | (simp; omega) | simp)) | (refine Below.alloc ?_ (by first | omega | (simp; omega) | simp) _) | (refine Below.setCell ?_ (by first | omega | (simp; omega) | simp) _))
            clear hK hS
            refine wpMixK_nil (fun hS => ?_)
            refine wpAnyH_end (by kernel_rfl) ?_
            try clear hS
            go_simp
            refine ⟨rfl, _, _, _, m8 a.lv, m8 b.lv, m8 c.lv, ?_⟩
            exact three_set blA blB blC (Nat.le_refl _) (by omega) (by omega) hg
      · skip
        try clear hS
        go_simp
        refine hK.out _ _ ?_ (fun hS => ?_)
        · repeat (first | assumption | exact Below.refl _ _ | apply Below.drew | apply below_drewN | (refine Below.alloc2t ?_ (by first | rfl | simp) (by first | omega | (simp; omega) | simp)) | (refine Below.alloc ?_ (by first | omega | (simp; omega) | simp) _) | (refine Below.setCell ?_ (by first | omega | (simp; omega) | simp) _))
        clear hK
        refine wpAnyH_run (l' := #[true, true, true, true, true, true, false, false, false, false, true, true, true, true, true, true, false, false, false, false, false]) [(12, true), (13, true), (14, true)] 9 (by kernel_rfl) (by intro c a d v w h; cases d <;> exact h) rfl (by kernel_rfl) hS ?_
        clear hS
        iterate 3 (refine wpMixK_q rfl (fun K hK => ?_); go_simp; (try go_bits); first | (refine hK _ ?_; clear hK K) | (apply Exists.intro; refine ⟨fun wq hsq => ?_, hK _ ?_⟩; (first | (go_simp; done) | ((try go_simp); (try simp only [↓IntWalk.iteOmega]); (try go_bits); rfl) | (obtain ⟨hcq, hfq⟩ := bcellsB hsq; go_simp; done) | (obtain ⟨hcq, hfq⟩ := bcellsB hsq; (try go_simp); (try simp only [↓IntWalk.iteOmega]); (try go_bits); rfl)); clear hK K))
        refine wpMixK_nil (fun hS => ?_)
        refine wpAnyH_alt [6, 16] (by kernel_rfl) (by simp) (AllReadyH.cons rfl (fun K' hK => ?_) (AllReadyH.cons rfl (fun K' hK => ?_) AllReadyH.nil))
        · skip
          try clear hS
          go_simp
          refine hK.out _ _ ?_ (fun hS => ?_)
          · repeat (first | assumption | exact Below.refl _ _ | apply Below.drew | apply below_drewN | (refine Below.alloc2t ?_ (by first | rfl | simp) (by first | omega | (simp; omega) | simp)) | (refine Below.alloc ?_ (by first | omega | (simp; omega) | simp) _) | (refine Below.setCell ?_ (by first | omega | (simp; omega) | simp) _))
          clear hK
          refine wpAnyH_run (l' := #[true, true, true, true, true, true, true, true, true, true, true, true, true, true, true, true, true, true, true, true, true]) [(7, true), (8, true), (9, true), (16, false), (17, true), (18, false), (19, true), (20, false)] 0 (by kernel_rfl) (by intro c a d v w h; cases d <;> exact h) rfl (by kernel_rfl) hS ?_
          clear hS
          iterate 3 (refine wpMixK_q rfl (fun K hK => ?_); go_simp; (try go_bits); first | (refine hK _ ?_; clear hK K) | (apply Exists.intro; refine ⟨fun wq hsq => ?_, hK _ ?_⟩; (first | (go_simp; done) | ((try go_simp); (try simp only [↓IntWalk.iteOmega]); (try go_bits); rfl) | (obtain ⟨hcq, hfq⟩ := bcellsB hsq; go_simp; done) | (obtain ⟨hcq, hfq⟩ := bcellsB hsq; (try go_simp); (try simp only [↓IntWalk.iteOmega]); (try go_bits); rfl)); clear hK K))
          refine wpMixK_m rfl (fun K' hK => ?_)
          go_simp
          refine hK.out _ _ ?_ (fun hS => ?_)
          · repeat (first | assumption | exact Below.refl _ _ | apply Below.drew | apply below_drewN | (refine Below.alloc2t ?_ (by first | rfl | simp) (by first | omega | (simp; omega) | simp)) | (refine Below.alloc ?_ (by first | omega | (simp; omega) | simp) _) | (refine Below.setCell ?_ (by first | omega | (simp; omega) | simp) _))
          clear hK hS
          iterate 1 (refine wpMixK_q rfl (fun K hK => ?_); go_simp; (try go_bits); first | (refine hK _ ?_; clear hK K) | (apply Exists.intro; refine ⟨fun wq hsq => ?_, hK _ ?_⟩; (first | (go_simp; done) | ((try go_simp); (try simp only [↓IntWalk.iteOmega]); (try go_bits); rfl) | (obtain ⟨hcq, hfq⟩ := bcellsB hsq; go_simp; done) | (obtain ⟨hcq, hfq⟩ := bcellsB hsq; (try go_simp); (try simp only [↓IntWalk.iteOmega]); (try go_bits); rfl)); clear hK K))
          refine wpMixK_m rfl (fun K' hK => ?_)
          go_simp
          refine hK.out _ _ ?_ (fun hS => ?_)
          · repeat (first | assumption | exact Below.refl _ _ | apply Below.drew | apply below_drewN | (refine Below.alloc2t ?_ (by first | rfl | simp) (by first | omega | (simp; omega) | simp)) | (refine Below.alloc ?_ (by first | omega | (simp; omega) | simp) _) | (refine Below.setCell ?_ (by first | omega | (simp; omega) | simp) _))
          clear hK hS
          iterate 1 (refine wpMixK_q rfl (fun K hK => ?_); go_simp; (try go_bits); first | (refine hK _ ?_; clear hK K) | (apply Exists.intro; refine ⟨fun wq hsq => ?_, hK _ ?_⟩; (first | (go_simp; done) | ((try go_simp); (try simp only [↓IntWalk.iteOmega]); (try go_bits); rfl) | (obtain ⟨hcq, hfq⟩ := bcellsB hsq; go_simp; done) | (obtain ⟨hcq, hfq⟩ := bcellsB hsq; (try go_simp); (try simp only [↓IntWalk.iteOmega]); (try go_bits); rfl)); clear hK K))
          refine wpMixK_m rfl (fun K' hK => ?_)
          go_simp
          refine hK.out _ _ ?_ (fun hS => ?_)
          · repeat (first | assumption | exact Below.refl _ _ | apply Below.drew | apply below_drewN | (refine Below.alloc2t ?_ (by first | rfl | simp) (by first | omega | (simp; omega) | simp)) | (refine Below.alloc ?_ (by first | omega | (simp; omega) | simp) _) | (refine Below.setCell ?_ (by first | omega | (simp; omega) | simp) _))
          clear hK hS
          refine wpMixK_nil (fun hS => ?_)
          refine wpAnyH_end (by kernel_rfl) ?_
          try clear hS
          go_simp
          refine ⟨rfl, _, _, _, m8 a.lv, m8 b.lv, m8 c.lv, ?_⟩
          exact three_set blA blB blC (Nat.le_refl _) (by omega) (by omega) hg
        · skip
          try clear hS
          go_simp
          refine hK.out _ _ ?_ (fun hS => ?_)
          · repeat (first | assumption | exact Below.refl _ _ | apply Below.drew | apply below_drewN | (refine Below.alloc2t ?_ (by first | rfl | simp) (by first | omega | (simp; omega) | simp)) | (refine Below.alloc ?_ (by first | omega | (simp; omega) | simp) _) | (refine Below.setCell ?_ (by first | omega | (simp; omega) | simp) _))
          clear hK
          refine wpAnyH_run (l' := #[true, true, true, true, true, true, true, true, true, true, true, true, true, true, true, true, true, true, true, true, true]) [(6, false), (7, true), (8, true), (9, true), (17, true), (18, false), (19, true), (20, false)] 0 (by kernel_rfl) (by intro c a d v w h; cases d <;> exact h) rfl (by kernel_rfl) hS ?_
          clear hS
          refine wpMixK_m rfl (fun K' hK => ?_)
          go_simp
          refine hK.out _ _ ?_ (fun hS => ?_)
          · repeat (first | assumption | exact Below.refl _ _ | apply Below.drew | apply below_drewN | (refine Below.alloc2t ?_ (by first | rfl | simp) (by first | omega | (simp; omega) | simp)) | (refine Below.alloc ?_ (by first | omega | (simp; omega) | simp) _) | (refine Below.setCell ?_ (by first | omega | (simp; omega) | simp) _))
          clear hK hS
          iterate 4 (refine wpMixK_q rfl (fun K hK => ?_); go_simp; (try go_bits); first | (refine hK _ ?_; clear hK K) | (apply Exists.intro; refine ⟨fun wq hsq => ?_, hK _ ?_⟩; (first | (go_simp; done) | ((try go_simp); (try simp only [↓IntWalk.iteOmega]); (try go_bits); rfl) | (obtain ⟨hcq, hfq⟩ := bcellsB hsq; go_simp; done) | (obtain ⟨hcq, hfq⟩ := bcellsB hsq; (try go_simp); (try simp only [↓IntWalk.iteOmega]); (try go_bits); rfl)); clear hK K))
          refine wpMixK_m rfl (fun K' hK => ?_)
          go_simp
          refine hK.out _ _ ?_ (fun hS => ?_)
          · repeat (first | assumption | exact Below.refl _ _ | apply Below.drew | apply below_drewN | (refine Below.alloc2t ?_ (by first | rfl | simp) (by first | omega | (simp; omega) | simp)) | (refine Below.alloc ?_ (by first | omega | (simp; omega) | simp) _) | (refine Below.setCell ?_ (by first | omega | (simp; omega) | simp) _))
          clear hK hS
          iterate 1 (refine wpMixK_q rfl (fun K hK => ?_); go_simp; (try go_bits); first | (refine hK _ ?_; clear hK K) | (apply Exists.intro; refine ⟨fun wq hsq => ?_, hK _ ?_⟩; (first | (go_simp; done) | ((try go_simp); (try simp only [↓IntWalk.iteOmega]); (try go_bits); rfl) | (obtain ⟨hcq, hfq⟩ := bcellsB hsq; go_simp; done) | (obtain ⟨hcq, hfq⟩ := bcellsB hsq; (try go_simp); (try simp only [↓IntWalk.iteOmega]); (try go_bits); rfl)); clear hK K))
          refine wpMixK_m rfl (fun K' hK => ?_)
          go_simp
          refine hK.out _ _ ?_ (fun hS => ?_)
          · repeat (first | assumption | exact Below.refl _ _ | apply Below.drew | apply below_drewN | (refine Below.alloc2t ?_ (by first | rfl | simp) (by first | omega | (simp; omega) | simp)) | (refine Below.alloc ?_ (by first | omega | (simp; omega) | simp) _) | (refine Below.setCell ?_ (by first | omega | (simp; omega) | simp) _))
          clear hK hS
          refine wpMixK_nil (fun hS => ?_)
          refine wpAnyH_end (by kernel_rfl) ?_
          try clear hS
          go_simp
          refine ⟨rfl, _, _, _, m8 a.lv, m8 b.lv, m8 c.lv, ?_⟩
          exact three_set blA blB blC (Nat.le_refl _) (by omega) (by omega) hg
      · skip
        try clear hS
        go_simp
        refine hK.out _ _ ?_ (fun hS => ?_)
        · repeat (first | assumption | exact Below.refl _ _ | apply Below.drew | apply below_drewN | (refine Below.alloc2t ?_ (by first | rfl | simp) (by first | omega | (simp; omega) | simp)) | (refine Below.alloc ?_ (by first | omega | (simp; omega) | simp) _) | (refine Below.setCell ?_ (by first | omega | (simp; omega) | simp) _))
        clear hK
        refine wpAnyH_alt [6, 11] (by kernel_rfl) (by simp) (AllReadyH.cons rfl (fun K' hK => ?_) (AllReadyH.cons rfl (fun K' hK => ?_) AllReadyH.nil))
        · skip
          try clear hS
          go_simp
          refine hK.out _ _ ?_ (fun hS => ?_)
          · repeat (first | assumption | exact Below.refl _ _ | apply Below.drew | apply below_drewN | (refine Below.alloc2t ?_ (by first | rfl | simp) (by first | omega | (simp; omega) | simp)) | (refine Below.alloc ?_ (by first | omega | (simp; omega) | simp) _) | (refine Below.setCell ?_ (by first | omega | (simp; omega) | simp) _))
          clear hK
          refine wpAnyH_run (l' := #[true, true, true, true, true, true, true, true, true, true, true, false, false, false, false, true, true, true, false, false, false]) [(7, true), (8, true), (9, true), (17, true)] 7 (by kernel_rfl) (by intro c a d v w h; cases d <;> exact h) rfl (by kernel_rfl) hS ?_
          clear hS
          iterate 4 (refine wpMixK_q rfl (fun K hK => ?_); go_simp; (try go_bits); first | (refine hK _ ?_; clear hK K) | (apply Exists.intro; refine ⟨fun wq hsq => ?_, hK _ ?_⟩; (first | (go_simp; done) | ((try go_simp); (try simp only [↓IntWalk.iteOmega]); (try go_bits); rfl) | (obtain ⟨hcq, hfq⟩ := bcellsB hsq; go_simp; done) | (obtain ⟨hcq, hfq⟩ := bcellsB hsq; (try go_simp); (try simp only [↓IntWalk.iteOmega]); (try go_bits); rfl)); clear hK K))
          refine wpMixK_nil (fun hS => ?_)
          refine wpAnyH_alt [11, 18] (by kernel_rfl) (by simp) (AllReadyH.cons rfl (fun K' hK => ?_) (AllReadyH.cons rfl (fun K' hK => ?_) AllReadyH.nil))
          · skip
            try clear hS
            go_simp
            refine hK.out _ _ ?_ (fun hS => ?_)
            · repeat (first | assumption | exact Below.refl _ _ | apply Below.drew | apply below_drewN | (refine Below.alloc2t ?_ (by first | rfl | simp) (by first | omega | (simp; omega) | simp)) | (refine Below.alloc ?_ (by first | omega | (simp; omega) | simp) _) | (refine Below.setCell ?_ (by first | omega | (simp; omega) | simp) _))
            clear hK
            refine wpAnyH_run (l' := #[true, true, true, true, true, true, true, true, true, true, true, true, true, true, true, true, true, true, true, true, true]) [(12, true), (13, true), (14, true), (18, false), (19, true), (20, false)] 0 (by kernel_rfl) (by intro c a d v w h; cases d <;> exact h) rfl (by kernel_rfl) hS ?_
            clear hS
            iterate 3 (refine wpMixK_q rfl (fun K hK => ?_); go_simp; (try go_bits); first | (refine hK _ ?_; clear hK K) | (apply Exists.intro; refine ⟨fun wq hsq => ?_, hK _ ?_⟩; (first | (go_simp; done) | ((try go_simp); (try simp only [↓IntWalk.iteOmega]); (try go_bits); rfl) | (obtain ⟨hcq, hfq⟩ := bcellsB hsq; go_simp; done) | (obtain ⟨hcq, hfq⟩ := bcellsB hsq; (try go_simp); (try simp only [↓IntWalk.iteOmega]); (try go_bits); rfl)); clear hK K))
            refine wpMixK_m rfl (fun K' hK => ?_)
            go_simp
            refine hK.out _ _ ?_ (fun hS => ?_)
            · repeat (first | assumption | exact Below.refl _ _ | apply Below.drew | apply below_drewN | (refine Below.alloc2t ?_ (by first | rfl | simp) (by first | omega | (simp; omega) | simp)) | (refine Below.alloc ?_ (by first | omega | (simp; omega) | simp) _) | (refine Below.setCell ?_ (by first | omega | (simp; omega) | simp) _))
            clear hK hS
            iterate 1 (refine wpMixK_q rfl (fun K hK => ?_); go_simp; (try go_bits); first | (refine hK _ ?_; clear hK K) | (apply Exists.intro; refine ⟨fun wq hsq => ?_, hK _ ?_⟩; (first | (go_simp; done) | ((try go_simp); (try simp only [↓IntWalk.iteOmega]); (try go_bits); rfl) | (obtain ⟨hcq, hfq⟩ := bcellsB hsq; go_simp; done) | (obtain ⟨hcq, hfq⟩ := bcellsB hsq; (try go_simp); (try simp only [↓IntWalk.iteOmega]); (try go_bits); rfl)); clear hK K))
            refine wpMixK_m rfl (fun K' hK => ?_)
            go_simp
            refine hK.out _ _ ?_ (fun hS => ?_)
            · repeat (first | assumption | exact Below.refl _ _ | apply Below.drew | apply below_drewN | (refine Below.alloc2t ?_ (by first | rfl | simp) (by first | omega | (simp; omega) | simp)) | (refine Below.alloc ?_ (by first | omega | (simp; omega) | simp) _) | (refine Below.setCell ?_ (by first | omega | (simp; omega) | simp) _))
            clear hK hS
            refine wpMixK_nil (fun hS => ?_)
            refine wpAnyH_end (by kernel_rfl) ?_
            try clear hS
            go_simp
            refine ⟨rfl, _, _, _, m8 a.lv, m8 b.lv, m8 c.lv, ?_⟩
            exact three_set blA blB blC (Nat.le_refl _) (by omega) (by omega) hg
          · skip
            try clear hS
            go_simp
            refine hK.out _ _ ?_ (fun hS => ?_)
            · repeat (first | assumption | exact Below.refl _ _ | apply Below.drew | apply below_drewN | (refine Below.alloc2t ?_ (by first | rfl | simp) (by first | omega | (simp; omega) | simp)) | (refine Below.alloc ?_ (by first | omega | (simp; omega) | simp) _) | (refine Below.setCell ?_ (by first | omega | (simp; omega) | simp) _))
            clear hK
            refine wpAnyH_run (l' := #[true, true, true, true, true, true, true, true, true, true, true, true, true, true, true, true, true, true, true, true, true]) [(11, false), (12, true), (13, true), (14, true), (19, true), (20, false)] 0 (by kernel_rfl) (by intro c a d v w h; cases d <;> exact h) rfl (by kernel_rfl) hS ?_
            clear hS
            refine wpMixK_m rfl (fun K' hK => ?_)
            go_simp
            refine hK.out _ _ ?_ (fun hS => ?_)
            · repeat (first | assumption | exact Below.refl _ _ | apply Below.drew | apply below_drewN | (refine Below.alloc2t ?_ (by first | rfl | simp) (by first | omega | (simp; omega) | simp)) | (refine Below.alloc ?_ (by first | omega | (simp; omega) | simp) _) | (refine Below.setCell ?_ (by first | omega | (simp; omega) | simp) _))
            clear hK hS
            iterate 4 (refine wpMixK_q rfl (fun K hK => ?_); go_simp; (try go_bits); first | (refine hK _ ?_; clear hK K) | (apply Exists.intro; refine ⟨fun wq hsq => ?_, hK _ ?_⟩; (first | (go_simp; done) | ((try go_simp); (try simp only [↓IntWalk.iteOmega]); (try go_bits); rfl) | (obtain ⟨hcq, hfq⟩ := bcellsB hsq; go_simp; done) | (obtain ⟨hcq, hfq⟩ := bcellsB hsq; (try go_simp); (try simp only [↓IntWalk.iteOmega]); (try go_bits); rfl)); clear hK K))
            refine wpMixK_m rfl (fun K' hK => ?_)
            go_simp
            refine hK.out _ _ ?_ (fun hS => ?_)
            · repeat (first | assumption | exact Below.refl _ _ | apply Below.drew | apply below_drewN | (refine Below.alloc2t ?_ (by first | rfl | simp) (by first | omega | (simp; omega) | simp)) | (refine Below.alloc ?_ (by first | omega | (simp; omega) | simp) _) | (refine Below.setCell ?_ (by first | omega | (simp; omega) | simp) _))
            clear hK hS
            refine wpMixK_nil (fun hS => ?_)
            refine wpAnyH_end (by kernel_rfl) ?_
            try clear hS
            go_simp
            refine ⟨rfl, _, _, _, m8 a.lv, m8 b.lv, m8 c.lv, ?_⟩
            exact three_set blA blB blC (Nat.le_refl _) (by omega) (by omega) hg
        · skip
          try clear hS
          go_simp
          refine hK.out _ _ ?_ (fun hS => ?_)
          · repeat (first | assumption | exact Below.refl _ _ | apply Below.drew | apply below_drewN | (refine Below.alloc2t ?_ (by first | rfl | simp) (by first | omega | (simp; omega) | simp)) | (refine Below.alloc ?_ (by first | omega | (simp; omega) | simp) _) | (refine Below.setCell ?_ (by first | omega | (simp; omega) | simp) _))
          clear hK
          refine wpAnyH_run (l' := #[true, true, true, true, true, true, true, true, true, true, true, true, true, true, true, true, true, true, true, true, true]) [(12, true), (13, true), (14, true), (6, false), (7, true), (8, true), (9, true), (17, true), (18, false), (19, true), (20, false)] 0 (by kernel_rfl) (by intro c a d v w h; cases d <;> exact h) rfl (by kernel_rfl) hS ?_
          clear hS
          iterate 3 (refine wpMixK_q rfl (fun K hK => ?_); go_simp; (try go_bits); first | (refine hK _ ?_; clear hK K) | (apply Exists.intro; refine ⟨fun wq hsq => ?_, hK _ ?_⟩; (first | (go_simp; done) | ((try go_simp); (try simp only [↓IntWalk.iteOmega]); (try go_bits); rfl) | (obtain ⟨hcq, hfq⟩ := bcellsB hsq; go_simp; done) | (obtain ⟨hcq, hfq⟩ := bcellsB hsq; (try go_simp); (try simp only [↓IntWalk.iteOmega]); (try go_bits); rfl)); clear hK K))
          refine wpMixK_m rfl (fun K' hK => ?_)
          go_simp
          refine hK.out _ _ ?_ (fun hS => ?_)
          · repeat (first | assumption | exact Below.refl _ _ | apply Below.drew | apply below_drewN | (refine Below.alloc2t ?_ (by first | rfl | simp) (by first | omega | (simp; omega) | simp)) | (refine Below.alloc ?_ (by first | omega | (simp; omega) | simp) _) | (refine Below.setCell ?_ (by first | omega | (simp; omega) | simp) _))
          clear hK hS
          iterate 4 (refine wpMixK_q rfl (fun K hK => ?_); go_simp; (try go_bits); first | (refine hK _ ?_; clear hK K) | (apply Exists.intro; refine ⟨fun wq hsq => ?_, hK _ ?_⟩; (first | (go_simp; done) | ((try go_simp); (try simp only [↓IntWalk.iteOmega]); (try go_bits); rfl) | (obtain ⟨hcq, hfq⟩ := bcellsB hsq; go_simp; done) | (obtain ⟨hcq, hfq⟩ := bcellsB hsq; (try go_simp); (try simp only [↓IntWalk.iteOmega]); (try go_bits); rfl)); clear hK K))
          refine wpMixK_m rfl (fun K' hK => ?_)
          go_simp
          refine hK.out _ _ ?_ (fun hS => ?_)
          · repeat (first | assumption | exact Below.refl _ _ | apply Below.drew | apply below_drewN | (refine Below.alloc2t ?_ (by first | rfl | simp) (by first | omega | (simp; omega) | simp)) | (refine Below.alloc ?_ (by first | omega | (simp; omega) | simp) _) | (refine Below.setCell ?_ (by first | omega | (simp; omega) | simp) _))
          clear hK hS
          iterate 1 (refine wpMixK_q rfl (fun K hK => ?_); go_simp; (try go_bits); first | (refine hK _ ?_; clear hK K) | (apply Exists.intro; refine ⟨fun wq hsq => ?_, hK _ ?_⟩; (first | (go_simp; done) | ((try go_simp); (try simp only [↓IntWalk.iteOmega]); (try go_bits); rfl) | (obtain ⟨hcq, hfq⟩ := bcellsB hsq; go_simp; done) | (obtain ⟨hcq, hfq⟩ := bcellsB hsq; (try go_simp); (try simp only [↓IntWalk.iteOmega]); (try go_bits); rfl)); clear hK K))
          refine wpMixK_m rfl (fun K' hK => ?_)
          go_simp
          refine hK.out _ _ ?_ (fun hS => ?_)
          · repeat (first | assumption | exact Below.refl _ _ | apply Below.drew | apply below_drewN | (refine Below.alloc2t ?_ (by first | rfl | simp) (by first | omega | (simp; omega) | simp)) | (refine Below.alloc ?_ (by first | omega | (simp; omega) | simp) _) | (refine Below.setCell ?_ (by first | omega | (simp; omega) | simp) _))
          clear hK hS
          refine wpMixK_nil (fun hS => ?_)
          refine wpAnyH_end (by kernel_rfl) ?_
          try clear hS
          go_simp
          refine ⟨rfl, _, _, _, m8 a.lv, m8 b.lv, m8 c.lv, ?_⟩
          exact three_set blA blB blC (Nat.le_refl _) (by omega) (by omega) hg
    · skip
      try clear hS
      go_simp
      refine hK.out _ _ ?_ (fun hS => ?_)
      · repeat (first | assumption | exact Below.refl _ _ | apply Below.drew | apply below_drewN | (refine Below.alloc2t ?_ (by first | rfl | simp) (by first | omega | (simp; omega) | simp)) | (refine Below.alloc ?_ (by first | omega | (simp; omega) | simp) _) | (refine Below.setCell ?_ (by first | omega | (simp; omega) | simp) _))
      clear hK
      refine wpAnyH_run (l' := #[true, false, false, false, false, true, true, true, true, true, true, false, false, false, false, false, false, false, false, false, false]) [(7, true), (8, true), (9, true)] 14 (by kernel_rfl) (by intro c a d v w h; cases d <;> exact h) rfl (by kernel_rfl) hS ?_
      clear hS
      iterate 3 (refine wpMixK_q rfl (fun K hK => ?_); go_simp; (try go_bits); first | (refine hK _ ?_; clear hK K) | (apply Exists.intro; refine ⟨fun wq hsq => ?_, hK _ ?_⟩; (first | (go_simp; done) | ((try go_simp); (try simp only [↓IntWalk.iteOmega]); (try go_bits); rfl) | (obtain ⟨hcq, hfq⟩ := bcellsB hsq; go_simp; done) | (obtain ⟨hcq, hfq⟩ := bcellsB hsq; (try go_simp); (try simp only [↓IntWalk.iteOmega]); (try go_bits); rfl)); clear hK K))
      refine wpMixK_nil (fun hS => ?_)
      refine wpAnyH_alt [1, 11] (by kernel_rfl) (by simp) (AllReadyH.cons rfl (fun K' hK => ?_) (AllReadyH.cons rfl (fun K' hK => ?_) AllReadyH.nil))
      · skip
        try clear hS
        go_simp
        refine hK.out _ _ ?_ (fun hS => ?_)
        · repeat (first | assumption | exact Below.refl _ _ | apply Below.drew | apply below_drewN | (refine Below.alloc2t ?_ (by first | rfl | simp) (by first | omega | (simp; omega) | simp)) | (refine Below.alloc ?_ (by first | omega | (simp; omega) | simp) _) | (refine Below.setCell ?_ (by first | omega | (simp; omega) | simp) _))
        clear hK
        refine wpAnyH_run (l' := #[true, true, true, true, true, true, true, true, true, true, true, false, false, false, false, true, false, false, false, false, false]) [(2, true), (3, true), (4, true), (15, true)] 9 (by kernel_rfl) (by intro c a d v w h; cases d <;> exact h) rfl (by kernel_rfl) hS ?_
        clear hS
        iterate 4 (refine wpMixK_q rfl (fun K hK => ?_); go_simp; (try go_bits); first | (refine hK _ ?_; clear hK K) | (apply Exists.intro; refine ⟨fun wq hsq => ?_, hK _ ?_⟩; (first | (go_simp; done) | ((try go_simp); (try simp only [↓IntWalk.iteOmega]); (try go_bits); rfl) | (obtain ⟨hcq, hfq⟩ := bcellsB hsq; go_simp; done) | (obtain ⟨hcq, hfq⟩ := bcellsB hsq; (try go_simp); (try simp only [↓IntWalk.iteOmega]); (try go_bits); rfl)); clear hK K))
        refine wpMixK_nil (fun hS => ?_)
        refine wpAnyH_alt [11, 16] (by kernel_rfl) (by simp) (AllReadyH.cons rfl (fun K' hK => ?_) (AllReadyH.cons rfl (fun K' hK => ?_) AllReadyH.nil))
        · skip
          try clear hS
          go_simp
          refine hK.out _ _ ?_ (fun hS => ?_)
          · repeat (first | assumption | exact Below.refl _ _ | apply Below.drew | apply below_drewN | (refine Below.alloc2t ?_ (by first | rfl | simp) (by first | omega | (simp; omega) | simp)) | (refine Below.alloc ?_ (by first | omega | (simp; omega) | simp) _) | (refine Below.setCell ?_ (by first | omega | (simp; omega) | simp) _))
          clear hK
          refine wpAnyH_run (l' := #[true, true, true, true, true, true, true, true, true, true, true, true, true, true, true, true, true, true, true, true, true]) [(12, true), (13, true), (14, true), (16, false), (17, true), (18, false), (19, true), (20, false)] 0 (by kernel_rfl) (by intro c a d v w h; cases d <;> exact h) rfl (by kernel_rfl) hS ?_
          clear hS
          iterate 3 (refine wpMixK_q rfl (fun K hK => ?_); go_simp; (try go_bits); first | (refine hK _ ?_; clear hK K) | (apply Exists.intro; refine ⟨fun wq hsq => ?_, hK _ ?_⟩; (first | (go_simp; done) | ((try go_simp); (try simp only [↓IntWalk.iteOmega]); (try go_bits); rfl) | (obtain ⟨hcq, hfq⟩ := bcellsB hsq; go_simp; done) | (obtain ⟨hcq, hfq⟩ := bcellsB hsq; (try go_simp); (try simp only [↓IntWalk.iteOmega]); (try go_bits); rfl)); clear hK K))
          refine wpMixK_m rfl (fun K' hK => ?_)
          go_simp
          refine hK.out _ _ ?_ (fun hS => ?_)
          · repeat (first | assumption | exact Below.refl _ _ | apply Below.drew | apply below_drewN | (refine Below.alloc2t ?_ (by first | rfl | simp) (by first | omega | (simp; omega) | simp)) | (refine Below.alloc ?_ (by first | omega | (simp; omega) | simp) _) | (refine Below.setCell ?_ (by first | omega | (simp; omega) | simp) _))
          clear hK hS
          iterate 1 (refine wpMixK_q rfl (fun K hK => ?_); go_simp; (try go_bits); first | (refine hK _ ?_; clear hK K) | (apply Exists.intro; refine ⟨fun wq hsq => ?_, hK _ ?_⟩; (first | (go_simp; done) | ((try go_simp); (try simp only [↓IntWalk.iteOmega]); (try go_bits); rfl) | (obtain ⟨hcq, hfq⟩ := bcellsB hsq; go_simp; done) | (obtain ⟨hcq, hfq⟩ := bcellsB hsq; (try go_simp); (try simp only [↓IntWalk.iteOmega]); (try go_bits); rfl)); clear hK K))
          refine wpMixK_m rfl (fun K' hK => ?_)
          go_simp
          refine hK.out _ _ ?_ (fun hS => ?_)
          · repeat (first | assumption | exact Below.refl _ _ | apply Below.drew | apply below_drewN | (refine Below.alloc2t ?_ (by first | rfl | simp) (by first | omega | (simp; omega) | simp)) | (refine Below.alloc ?_ (by first | omega | (simp; omega) | simp) _) | (refine Below.setCell ?_ (by first | omega | (simp; omega) | simp) _))
          clear hK hS
          iterate 1 (refine wpMixK_q rfl (fun K hK => ?_); go_simp; (try go_bits); first | (refine hK _ ?_; clear hK K) | (apply Exists.intro; refine ⟨fun wq hsq => ?_, hK _ ?_⟩; (first | (go_simp; done) | ((try go_simp); (try simp only [↓IntWalk.iteOmega]); (try go_bits); rfl) | (obtain ⟨hcq, hfq⟩ := bcellsB hsq; go_simp; done) | (obtain ⟨hcq, hfq⟩ := bcellsB hsq; (try go_simp); (try simp only [↓IntWalk.iteOmega]); (try go_bits); rfl)); clear hK K))
          refine wpMixK_m rfl (fun K' hK => ?_)
          go_simp
          refine hK.out _ _ ?_ (fun hS => ?_)
          · repeat (first | assumption | exact Below.refl _ _ | apply Below.drew | apply below_drewN | (refine Below.alloc2t ?_ (by first | rfl | simp) (by first | omega | (simp; omega) | simp)) | (refine Below.alloc ?_ (by first | omega | (simp; omega) | simp) _) | (refine Below.setCell ?_ (by first | omega | (simp; omega) | simp) _))
          clear hK hS
          refine wpMixK_nil (fun hS => ?_)
          refine wpAnyH_end (by kernel_rfl) ?_
          try clear hS
          go_simp
          refine ⟨rfl, _, _, _, m8 a.lv, m8 b.lv, m8 c.lv, ?_⟩
          exact three_set blA blB blC (Nat.le_refl _) (by omega) (by omega) hg
        · skip
          try clear hS
          go_simp
          refine hK.out _ _ ?_ (fun hS => ?_)
          · repeat (first | assumption | exact Below.refl _ _ | apply Below.drew | apply below_drewN | (refine Below.alloc2t ?_ (by first | rfl | simp) (by first | omega | (simp; omega) | simp)) | (refine Below.alloc ?_ (by first | omega | (simp; omega) | simp) _) | (refine Below.setCell ?_ (by first | omega | (simp; omega) | simp) _))
          clear hK
          refine wpAnyH_run (l' := #[true, true, true, true, true, true, true, true, true, true, true, false, false, false, false, true, true, true, false, false, false]) [(17, true)] 7 (by kernel_rfl) (by intro c a d v w h; cases d <;> exact h) rfl (by kernel_rfl) hS ?_
          clear hS
          iterate 1 (refine wpMixK_q rfl (fun K hK => ?_); go_simp; (try go_bits); first | (refine hK _ ?_; clear hK K) | (apply Exists.intro; refine ⟨fun wq hsq => ?_, hK _ ?_⟩; (first | (go_simp; done) | ((try go_simp); (try simp only [↓IntWalk.iteOmega]); (try go_bits); rfl) | (obtain ⟨hcq, hfq⟩ := bcellsB hsq; go_simp; done) | (obtain ⟨hcq, hfq⟩ := bcellsB hsq; (try go_simp); (try simp only [↓IntWalk.iteOmega]); (try go_bits); rfl)); clear hK K))
          refine wpMixK_nil (fun hS => ?_)
          refine wpAnyH_alt [11, 18] (by kernel_rfl) (by simp) (AllReadyH.cons rfl (fun K' hK => ?_) (AllReadyH.cons rfl (fun K' hK => ?_) AllReadyH.nil))
          · skip
            try clear hS
            go_simp
            refine hK.out _ _ ?_ (fun hS => ?_)
            · repeat (first | assumption | exact Below.refl _ _ | apply Below.drew | apply below_drewN | (refine Below.alloc2t ?_ (by first | rfl | simp) (by first | omega | (simp; omega) | simp)) | (refine Below.alloc ?_ (by first | omega | (simp; omega) | simp) _) | (refine Below.setCell ?_ (by first | omega | (simp; omega) | simp) _))
            clear hK
            refine wpAnyH_run (l' := #[true, true, true, true, true, true, true, true, true, true, true, true, true, true, true, true, true, true, true, true, true]) [(12, true), (13, true), (14, true), (18, false), (19, true), (20, false)] 0 (by kernel_rfl) (by intro c a d v w h; cases d <;> exact h) rfl (by kernel_rfl) hS ?_
            clear hS
            iterate 3 (refine wpMixK_q rfl (fun K hK => ?_); go_simp; (try go_bits); first | (refine hK _ ?_; clear hK K) | (apply Exists.intro; refine ⟨fun wq hsq => ?_, hK _ ?_⟩; (first | (go_simp; done) | ((try go_simp); (try simp only [↓IntWalk.iteOmega]); (try go_bits); rfl) | (obtain ⟨hcq, hfq⟩ := bcellsB hsq; go_simp; done) | (obtain ⟨hcq, hfq⟩ := bcellsB hsq; (try go_simp); (try simp only [↓IntWalk.iteOmega]); (try go_bits); rfl)); clear hK K))
            refine wpMixK_m rfl (fun K' hK => ?_)
            go_simp
            refine hK.out _ _ ?_ (fun hS => ?_)
            · repeat (first | assumption | exact Below.refl _ _ | apply Below.drew | apply below_drewN | (refine Below.alloc2t ?_ (by first | rfl | simp) (by first | omega | (simp; omega) | simp)) | (refine Below.alloc ?_ (by first | omega | (simp; omega) | simp) _) | (refine Below.setCell ?_ (by first | omega | (simp; omega) | simp) _))
            clear hK hS
            iterate 1 (refine wpMixK_q rfl (fun K hK => ?_); go_simp; (try go_bits); first | (refine hK _ ?_; clear hK K) | (apply Exists.intro; refine ⟨fun wq hsq => ?_, hK _ ?_⟩; (first | (go_simp; done) | ((try go_simp); (try simp only [↓IntWalk.iteOmega]); (try go_bits); rfl) | (obtain ⟨hcq, hfq⟩ := bcellsB hsq; go_simp; done) | (obtain ⟨hcq, hfq⟩ := bcellsB hsq; (try go_simp); (try simp only [↓IntWalk.iteOmega]); (try go_bits); rfl)); clear hK K))
            refine wpMixK_m rfl (fun K' hK => ?_)
            go_simp
            refine hK.out _ _ ?_ (fun hS => ?_)
            · repeat (first | assumption | exact Below.refl _ _ | apply Below.drew | apply below_drewN | (refine Below.alloc2t ?_ (by first | rfl | simp) (by first | omega | (simp; omega) | simp)) | (refine Below.alloc ?_ (by first | omega | (simp; omega) | simp) _) | (refine Below.setCell ?_ (by first | omega | (simp; omega) | simp) _))
            clear hK hS
            refine wpMixK_nil (fun hS => ?_)
            refine wpAnyH_end (by kernel_rfl) ?_
            try clear hS
            go_simp
            refine ⟨rfl, _, _, _, m8 a.lv, m8 b.lv, m8 c.lv, ?_⟩
            exact three_set blA blB blC (Nat.le_refl _) (by omega) (by omega) hg
          · skip
            try clear hS
            go_simp
            refine hK.out _ _ ?_ (fun hS => ?_)
            · repeat (first | assumption | exact Below.refl _ _ | apply Below.drew | apply below_drewN | (refine Below.alloc2t ?_ (by first | rfl | simp) (by first | omega | (simp; omega) | simp)) | (refine Below.alloc ?_ (by first | omega | (simp; omega) | simp) _) | (refine Below.setCell ?_ (by first | omega | (simp; omega) | simp) _))
            clear hK
            refine wpAnyH_run (l' := #[true, true, true, true, true, true, true, true, true, true, true, true, true, true, true, true, true, true, true, true, true]) [(11, false), (12, true), (13, true), (14, true), (19, true), (20, false)] 0 (by kernel_rfl) (by intro c a d v w h; cases d <;> exact h) rfl (by kernel_rfl) hS ?_
            clear hS
            refine wpMixK_m rfl (fun K' hK => ?_)
            go_simp
            refine hK.out _ _ ?_ (fun hS => ?_)
            · repeat (first | assumption | exact Below.refl _ _ | apply Below.drew | apply below_drewN | (refine Below.alloc2t ?_ (by first | rfl | simp) (by first | omega | (simp; omega) | simp)) | (refine Below.alloc ?_ (by first | omega | (simp; omega) | simp) _) | (refine Below.setCell ?_ (by first | omega | (simp; omega) | simp) _))
            clear hK hS
            iterate 4 (refine wpMixK_q rfl (fun K hK => ?_); go_simp; (try go_bits); first | (refine hK _ ?_; clear hK K) | (apply Exists.intro; refine ⟨fun wq hsq => ?_, hK _ ?_⟩; (first | (go_simp; done) | ((try go_simp); (try simp only [↓IntWalk.iteOmega]); (try go_bits); rfl) | (obtain ⟨hcq, hfq⟩ := bcellsB hsq; go_simp; done) | (obtain ⟨hcq, hfq⟩ := bcellsB hsq; (try go_simp); (try simp only [↓IntWalk.iteOmega]); (try go_bits); rfl)); clear hK K))
            refine wpMixK_m rfl (fun K' hK => ?_)
            go_simp
            refine hK.out _ _ ?_ (fun hS => ?_)
            · repeat (first | assumption | exact Below.refl _ _ | apply Below.drew | apply below_drewN | (refine Below.alloc2t ?_ (by first | rfl | simp) (by first | omega | (simp; omega) | simp)) | (refine Below.alloc ?_ (by first | omega | (simp; omega) | simp) _) | (refine Below.setCell ?_ (by first | omega | (simp; omega) | simp) _))
            clear hK hS
            refine wpMixK_nil (fun hS => ?_)
            refine wpAnyH_end (by kernel_rfl) ?_
            try clear hS
            go_simp
            refine ⟨rfl, _, _, _, m8 a.lv, m8 b.lv, m8 c.lv, ?_⟩
            exact three_set blA blB blC (Nat.le_refl _) (by omega) (by omega) hg
      · skip
        try clear hS
        go_simp
        refine hK.out _ _ ?_ (fun hS => ?_)
        · repeat (first | assumption | exact Below.refl _ _ | apply Below.drew | apply below_drewN | (refine Below.alloc2t ?_ (by first | rfl | simp) (by first | omega | (simp; omega) | simp)) | (refine Below.alloc ?_ (by first | omega | (simp; omega) | simp) _) | (refine Below.setCell ?_ (by first | omega | (simp; omega) | simp) _))
        clear hK
        refine wpAnyH_run (l' := #[true, true, true, true, true, true, true, true, true, true, true, true, true, true, true, true, true, true, true, true, true]) [(12, true), (13, true), (14, true), (1, false), (2, true), (3, true), (4, true), (15, true), (16, false), (17, true), (18, false), (19, true), (20, false)] 0 (by kernel_rfl) (by intro c a d v w h; cases d <;> exact h) rfl (by kernel_rfl) hS ?_
        clear hS
        iterate 3 (refine wpMixK_q rfl (fun K hK => ?_); go_simp; (try go_bits); first | (refine hK _ ?_; clear hK K) | (apply Exists.intro; refine ⟨fun wq hsq => ?_, hK _ ?_⟩; (first | (go_simp; done) | ((try go_simp); (try simp only [↓IntWalk.iteOmega]); (try go_bits); rfl) | (obtain ⟨hcq, hfq⟩ := bcellsB hsq; go_simp; done) | (obtain ⟨hcq, hfq⟩ := bcellsB hsq; (try go_simp); (try simp only [↓IntWalk.iteOmega]); (try go_bits); rfl)); clear hK K))
        refine wpMixK_m rfl (fun K' hK => ?_)
        go_simp
        refine hK.out _ _ ?_ (fun hS => ?_)
        · repeat (first | assumption | exact Below.refl _ _ | apply Below.drew | apply below_drewN | (refine Below.alloc2t ?_ (by first | rfl | simp) (by first | omega | (simp; omega) | simp)) | (refine Below.alloc ?_ (by first | omega | (simp; omega) | simp) _) | (refine Below.setCell ?_ (by first | omega | (simp; omega) | simp) _))
        clear hK hS
        iterate 4 (refine wpMixK_q rfl (fun K hK => ?_); go_simp; (try go_bits); first | (refine hK _ ?_; clear hK K) | (apply Exists.intro; refine ⟨fun wq hsq => ?_, hK _ ?_⟩; (first | (go_simp; done) | ((try go_simp); (try simp only [↓IntWalk.iteOmega]); (try go_bits); rfl) | (obtain ⟨hcq, hfq⟩ := bcellsB hsq; go_simp; done) | (obtain ⟨hcq, hfq⟩ := bcellsB hsq; (try go_simp); (try simp only [↓IntWalk.iteOmega]); (try go_bits); rfl)); clear hK K))
        refine wpMixK_m rfl (fun K' hK => ?_)
        go_simp
        refine hK.out _ _ ?_ (fun hS => ?_)
        · repeat (first | assumption | exact Below.refl _ _ | apply Below.drew | apply below_drewN | (refine Below.alloc2t ?_ (by first | rfl | simp) (by first | omega | (simp; omega) | simp)) | (refine Below.alloc ?_ (by first | omega | (simp; omega) | simp) _) | (refine Below.setCell ?_ (by first | omega | (simp; omega) | simp) _))
        clear hK hS
        iterate 1 (refine wpMixK_q rfl (fun K hK => ?_); go_simp; (try go_bits); first | (refine hK _ ?_; clear hK K) | (apply Exists.intro; refine ⟨fun wq hsq => ?_, hK _ ?_⟩; (first | (go_simp; done) | ((try go_simp); (try simp only [↓IntWalk.iteOmega]); (try go_bits); rfl) | (obtain ⟨hcq, hfq⟩ := bcellsB hsq; go_simp; done) | (obtain ⟨hcq, hfq⟩ := bcellsB hsq; (try go_simp); (try simp only [↓IntWalk.iteOmega]); (try go_bits); rfl)); clear hK K))
        refine wpMixK_m rfl (fun K' hK => ?_)
        go_simp
        refine hK.out _ _ ?_ (fun hS => ?_)
        · repeat (first | assumption | exact Below.refl _ _ | apply Below.drew | apply below_drewN | (refine Below.alloc2t ?_ (by first | rfl | simp) (by first | omega | (simp; omega) | simp)) | (refine Below.alloc ?_ (by first | omega | (simp; omega) | simp) _) | (refine Below.setCell ?_ (by first | omega | (simp; omega) | simp) _))
        clear hK hS
        iterate 1 (refine wpMixK_q rfl (fun K hK => ?_); go_simp; (try go_bits); first | (refine hK _ ?_; clear hK K) | (apply Exists.intro; refine ⟨fun wq hsq => ?_, hK _ ?_⟩; (first | (go_simp; done) | ((try go_simp); (try simp only [↓IntWalk.iteOmega]); (try go_bits); rfl) | (obtain ⟨hcq, hfq⟩ := bcellsB hsq; go_simp; done) | (obtain ⟨hcq, hfq⟩ := bcellsB hsq; (try go_simp); (try simp only [↓IntWalk.iteOmega]); (try go_bits); rfl)); clear hK K))
        refine wpMixK_m rfl (fun K' hK => ?_)
        go_simp
        refine hK.out _ _ ?_ (fun hS => ?_)
        · repeat (first | assumption | exact Below.refl _ _ | apply Below.drew | apply below_drewN | (refine Below.alloc2t ?_ (by first | rfl | simp) (by first | omega | (simp; omega) | simp)) | (refine Below.alloc ?_ (by first | omega | (simp; omega) | simp) _) | (refine Below.setCell ?_ (by first | omega | (simp; omega) | simp) _))
        clear hK hS
        refine wpMixK_nil (fun hS => ?_)
        refine wpAnyH_end (by kernel_rfl) ?_
        try clear hS
        go_simp
        refine ⟨rfl, _, _, _, m8 a.lv, m8 b.lv, m8 c.lv, ?_⟩
        exact three_set blA blB blC (Nat.le_refl _) (by omega) (by omega) hg
    · skip
      try clear hS
      go_simp
      refine hK.out _ _ ?_ (fun hS => ?_)
      · repeat (first | assumption | exact Below.refl _ _ | apply Below.drew | apply below_drewN | (refine Below.alloc2t ?_ (by first | rfl | simp) (by first | omega | (simp; omega) | simp)) | (refine Below.alloc ?_ (by first | omega | (simp; omega) | simp) _) | (refine Below.setCell ?_ (by first | omega | (simp; omega) | simp) _))
      clear hK
      refine wpAnyH_run (l' := #[true, false, false, false, false, true, false, false, false, false, true, true, true, true, true, false, false, false, false, false, false]) [(12, true), (13, true), (14, true)] 14 (by kernel_rfl) (by intro c a d v w h; cases d <;> exact h) rfl (by kernel_rfl) hS ?_
      clear hS
      iterate 3 (refine wpMixK_q rfl (fun K hK => ?_); go_simp; (try go_bits); first | (refine hK _ ?_; clear hK K) | (apply Exists.intro; refine ⟨fun wq hsq => ?_, hK _ ?_⟩; (first | (go_simp; done) | ((try go_simp); (try simp only [↓IntWalk.iteOmega]); (try go_bits); rfl) | (obtain ⟨hcq, hfq⟩ := bcellsB hsq; go_simp; done) | (obtain ⟨hcq, hfq⟩ := bcellsB hsq; (try go_simp); (try simp only [↓IntWalk.iteOmega]); (try go_bits); rfl)); clear hK K))
      refine wpMixK_nil (fun hS => ?_)
      refine wpAnyH_alt [1, 6] (by kernel_rfl) (by simp) (AllReadyH.cons rfl (fun K' hK => ?_) (AllReadyH.cons rfl (fun K' hK => ?_) AllReadyH.nil))
      · skip
        try clear hS
        go_simp
        refine hK.out _ _ ?_ (fun hS => ?_)
        · repeat (first | assumption | exact Below.refl _ _ | apply Below.drew | apply below_drewN | (refine Below.alloc2t ?_ (by first | rfl | simp) (by first | omega | (simp; omega) | simp)) | (refine Below.alloc ?_ (by first | omega | (simp; omega) | simp) _) | (refine Below.setCell ?_ (by first | omega | (simp; omega) | simp) _))
        clear hK
        refine wpAnyH_run (l' := #[true, true, true, true, true, true, false, false, false, false, true, true, true, true, true, true, false, false, false, false, false]) [(2, true), (3, true), (4, true), (15, true)] 9 (by kernel_rfl) (by intro c a d v w h; cases d <;> exact h) rfl (by kernel_rfl) hS ?_
        clear hS
        iterate 4 (refine wpMixK_q rfl (fun K hK => ?_); go_simp; (try go_bits); first | (refine hK _ ?_; clear hK K) | (apply Exists.intro; refine ⟨fun wq hsq => ?_, hK _ ?_⟩; (first | (go_simp; done) | ((try go_simp); (try simp only [↓IntWalk.iteOmega]); (try go_bits); rfl) | (obtain ⟨hcq, hfq⟩ := bcellsB hsq; go_simp; done) | (obtain ⟨hcq, hfq⟩ := bcellsB hsq; (try go_simp); (try simp only [↓IntWalk.iteOmega]); (try go_bits); rfl)); clear hK K))
        refine wpMixK_nil (fun hS => ?_)
        refine wpAnyH_alt [6, 16] (by kernel_rfl) (by simp) (AllReadyH.cons rfl (fun K' hK => ?_) (AllReadyH.cons rfl (fun K' hK => ?_) AllReadyH.nil))
        · skip
          try clear hS
          go_simp
          refine hK.out _ _ ?_ (fun hS => ?_)
          · repeat (first | assumption | exact Below.refl _ _ | apply Below.drew | apply below_drewN | (refine Below.alloc2t ?_ (by first | rfl | simp) (by first | omega | (simp; omega) | simp)) | (refine Below.alloc ?_ (by first | omega | (simp; omega) | simp) _) | (refine Below.setCell ?_ (by first | omega | (simp; omega) | simp) _))
          clear hK
          refine wpAnyH_run (l' := #[true, true, true, true, true, true, true, true, true, true, true, true, true, true, true, true, true, true, true, true, true]) [(7, true), (8, true), (9, true), (16, false), (17, true), (18, false), (19, true), (20, false)] 0 (by kernel_rfl) (by intro c a d v w h; cases d <;> exact h) rfl (by kernel_rfl) hS ?_
          clear hS
          iterate 3 (refine wpMixK_q rfl (fun K hK => ?_); go_simp; (try go_bits); first | (refine hK _ ?_; clear hK K) | (apply Exists.intro; refine ⟨fun wq hsq => ?_, hK _ ?_⟩; (first | (go_simp; done) | ((try go_simp); (try simp only [↓IntWalk.iteOmega]); (try go_bits); rfl) | (obtain ⟨hcq, hfq⟩ := bcellsB hsq; go_simp; done) | (obtain ⟨hcq, hfq⟩ := bcellsB hsq; (try go_simp); (try simp only [↓IntWalk.iteOmega]); (try go_bits); rfl)); clear hK K))
          refine wpMixK_m rfl (fun K' hK => ?_)
          go_simp
          refine hK.out _ _ ?_ (fun hS => ?_)
          · repeat (first | assumption | exact Below.refl _ _ | apply Below.drew | apply below_drewN | (refine Below.alloc2t ?_ (by first | rfl | simp) (by first | omega | (simp; omega) | simp)) | (refine Below.alloc ?_ (by first | omega | (simp; omega) | simp) _) | (refine Below.setCell ?_ (by first | omega | (simp; omega) | simp) _))
          clear hK hS
          iterate 1 (refine wpMixK_q rfl (fun K hK => ?_); go_simp; (try go_bits); first | (refine hK _ ?_; clear hK K) | (apply Exists.intro; refine ⟨fun wq hsq => ?_, hK _ ?_⟩; (first | (go_simp; done) | ((try go_simp); (try simp only [↓IntWalk.iteOmega]); (try go_bits); rfl) | (obtain ⟨hcq, hfq⟩ := bcellsB hsq; go_simp; done) | (obtain ⟨hcq, hfq⟩ := bcellsB hsq; (try go_simp); (try simp only [↓IntWalk.iteOmega]); (try go_bits); rfl)); clear hK K))
          refine wpMixK_m rfl (fun K' hK => ?_)
          go_simp
          refine hK.out _ _ ?_ (fun hS => ?_)
          · repeat (first | assumption | exact Below.refl _ _ | apply Below.drew | apply below_drewN | (refine Below.alloc2t ?_ (by first | rfl | simp) (by first | omega | (simp; omega) | simp)) | (refine Below.alloc ?_ (by first | omega | (simp; omega) | simp) _) | (refine Below.setCell ?_ (by first | omega | (simp; omega) | simp) _))
          clear hK hS
          iterate 1 (refine wpMixK_q rfl (fun K hK => ?_); go_simp; (try go_bits); first | (refine hK _ ?_; clear hK K) | (apply Exists.intro; refine ⟨fun wq hsq => ?_, hK _ ?_⟩; (first | (go_simp; done) | ((try go_simp); (try simp only [↓IntWalk.iteOmega]); (try go_bits); rfl) | (obtain ⟨hcq, hfq⟩ := bcellsB hsq; go_simp; done) | (obtain ⟨hcq, hfq⟩ := bcellsB hsq; (try go_simp); (try simp only [↓IntWalk.iteOmega]); (try go_bits); rfl)); clear hK K))
          refine wpMixK_m rfl (fun K' hK => ?_)
          go_simp
          refine hK.out _ _ ?_ (fun hS => ?_)
          · repeat (first | assumption | exact Below.refl _ _ | apply Below.drew | apply below_drewN | (refine Below.alloc2t ?_ (by first | rfl | simp) (by first | omega | (simp; omega) | simp)) | (refine Below.alloc ?_ (by first | omega | (simp; omega) | simp) _) | (refine Below.setCell ?_ (by first | omega | (simp; omega) | simp) _))
          clear hK hS
          refine wpMixK_nil (fun hS => ?_)
          refine wpAnyH_end (by kernel_rfl) ?_
          try clear hS
          go_simp
          refine ⟨rfl, _, _, _, m8 a.lv, m8 b.lv, m8 c.lv, ?_⟩
          exact three_set blA blB blC (Nat.le_refl _) (by omega) (by omega) hg
        · skip
          try clear hS
          go_simp
          refine hK.out _ _ ?_ (fun hS => ?_)
          · repeat (first | assumption | exact Below.refl _ _ | apply Below.drew | apply below_drewN | (refine Below.alloc2t ?_ (by first | rfl | simp) (by first | omega | (simp; omega) | simp)) | (refine Below.alloc ?_ (by first | omega | (simp; omega) | simp) _) | (refine Below.setCell ?_ (by first | omega | (simp; omega) | simp) _))
          clear hK
          refine wpAnyH_run (l' := #[true, true, true, true, true, true, true, true, true, true, true, true, true, true, true, true, true, true, true, true, true]) [(6, false), (7, true), (8, true), (9, true), (17, true), (18, false), (19, true), (20, false)] 0 (by kernel_rfl) (by intro c a d v w h; cases d <;> exact h) rfl (by kernel_rfl) hS ?_
          clear hS
          refine wpMixK_m rfl (fun K' hK => ?_)
          go_simp
          refine hK.out _ _ ?_ (fun hS => ?_)
          · repeat (first | assumption | exact Below.refl _ _ | apply Below.drew | apply below_drewN | (refine Below.alloc2t ?_ (by first | rfl | simp) (by first | omega | (simp; omega) | simp)) | (refine Below.alloc ?_ (by first | omega | (simp; omega) | simp) _) | (refine Below.setCell ?_ (by first | omega | (simp; omega) | simp) _))
          clear hK hS
          iterate 4 (refine wpMixK_q rfl (fun K hK => ?_); go_simp; (try go_bits); first | (refine hK _ ?_; clear hK K) | (apply Exists.intro; refine ⟨fun wq hsq => ?_, hK _ ?_⟩; (first | (go_simp; done) | ((try go_simp); (try simp only [↓IntWalk.iteOmega]); (try go_bits); rfl) | (obtain ⟨hcq, hfq⟩ := bcellsB hsq; go_simp; done) | (obtain ⟨hcq, hfq⟩ := bcellsB hsq; (try go_simp); (try simp only [↓IntWalk.iteOmega]); (try go_bits); rfl)); clear hK K))
          refine wpMixK_m rfl (fun K' hK => ?_)
          go_simp
          refine hK.out _ _ ?_ (fun hS => ?_)
          · repeat (first | assumption | exact Below.refl _ _ | apply Below.drew | apply below_drewN | (refine Below.alloc2t ?_ (by first | rfl | simp) (by first | omega | (simp; omega) | simp)) | (refine Below.alloc ?_ (by first | omega | (simp; omega) | simp) _) | (refine Below.setCell ?_ (by first | omega | (simp; omega) | simp) _))
          clear hK hS
          iterate 1 (refine wpMixK_q rfl (fun K hK => ?_); go_simp; (try go_bits); first | (refine hK _ ?_; clear hK K) | (apply Exists.intro; refine ⟨fun wq hsq => ?_, hK _ ?_⟩; (first | (go_simp; done) | ((try go_simp); (try simp only [↓IntWalk.iteOmega]); (try go_bits); rfl) | (obtain ⟨hcq, hfq⟩ := bcellsB hsq; go_simp; done) | (obtain ⟨hcq, hfq⟩ := bcellsB hsq; (try go_simp); (try simp only [↓IntWalk.iteOmega]); (try go_bits); rfl)); clear hK K))
          refine wpMixK_m rfl (fun K' hK => ?_)
          go_simp
          refine hK.out _ _ ?_ (fun hS => ?_)
          · repeat (first | assumption | exact Below.refl _ _ | apply Below.drew | apply below_drewN | (refine Below.alloc2t ?_ (by first | rfl | simp) (by first | omega | (simp; omega) | simp)) | (refine Below.alloc ?_ (by first | omega | (simp; omega) | simp) _) | (refine Below.setCell ?_ (by first | omega | (simp; omega) | simp) _))
          clear hK hS
          refine wpMixK_nil (fun hS => ?_)
          refine wpAnyH_end (by kernel_rfl) ?_
          try clear hS
          go_simp
          refine ⟨rfl, _, _, _, m8 a.lv, m8 b.lv, m8 c.lv, ?_⟩
          exact three_set blA blB blC (Nat.le_refl _) (by omega) (by omega) hg
      · skip
        try clear hS
        go_simp
        refine hK.out _ _ ?_ (fun hS => ?_)
        · repeat (first | assumption | exact Below.refl _ _ | apply Below.drew | apply below_drewN | (refine Below.alloc2t ?_ (by first | rfl | simp) (by first | omega | (simp; omega) | simp)) | (refine Below.alloc ?_ (by first | omega | (simp; omega) | simp) _) | (refine Below.setCell ?_ (by first | omega | (simp; omega) | simp) _))
        clear hK
        refine wpAnyH_run (l' := #[true, true, true, true, true, true, true, true, true, true, true, true, true, true, true, true, true, true, true, true, true]) [(7, true), (8, true), (9, true), (1, false), (2, true), (3, true), (4, true), (15, true), (16, false), (17, true), (18, false), (19, true), (20, false)] 0 (by kernel_rfl) (by intro c a d v w h; cases d <;> exact h) rfl (by kernel_rfl) hS ?_
        clear hS
        iterate 3 (refine wpMixK_q rfl (fun K hK => ?_); go_simp; (try go_bits); first | (refine hK _ ?_; clear hK K) | (apply Exists.intro; refine ⟨fun wq hsq => ?_, hK _ ?_⟩; (first | (go_simp; done) | ((try go_simp); (try simp only [↓IntWalk.iteOmega]); (try go_bits); rfl) | (obtain ⟨hcq, hfq⟩ := bcellsB hsq; go_simp; done) | (obtain ⟨hcq, hfq⟩ := bcellsB hsq; (try go_simp); (try simp only [↓IntWalk.iteOmega]); (try go_bits); rfl)); clear hK K))
        refine wpMixK_m rfl (fun K' hK => ?_)
        go_simp
        refine hK.out _ _ ?_ (fun hS => ?_)
        · repeat (first | assumption | exact Below.refl _ _ | apply Below.drew | apply below_drewN | (refine Below.alloc2t ?_ (by first | rfl | simp) (by first | omega | (simp; omega) | simp)) | (refine Below.alloc ?_ (by first | omega | (simp; omega) | simp) _) | (refine Below.setCell ?_ (by first | omega | (simp; omega) | simp) _))
        clear hK hS
        iterate 4 (refine wpMixK_q rfl (fun K hK => ?_); go_simp; (try go_bits); first | (refine hK _ ?_; clear hK K) | (apply Exists.intro; refine ⟨fun wq hsq => ?_, hK _ ?_⟩; (first | (go_simp; done) | ((try go_simp); (try simp only [↓IntWalk.iteOmega]); (try go_bits); rfl) | (obtain ⟨hcq, hfq⟩ := bcellsB hsq; go_simp; done) | (obtain ⟨hcq, hfq⟩ := bcellsB hsq; (try go_simp); (try simp only [↓IntWalk.iteOmega]); (try go_bits); rfl)); clear hK K))
        refine wpMixK_m rfl (fun K' hK => ?_)
        go_simp
        refine hK.out _ _ ?_ (fun hS => ?_)
        · repeat (first | assumption | exact Below.refl _ _ | apply Below.drew | apply below_drewN | (refine Below.alloc2t ?_ (by first | rfl | simp) (by first | omega | (simp; omega) | simp)) | (refine Below.alloc ?_ (by first | omega | (simp; omega) | simp) _) | (refine Below.setCell ?_ (by first | omega | (simp; omega) | simp) _))
        clear hK hS
        iterate 1 (refine wpMixK_q rfl (fun K hK => ?_); go_simp; (try go_bits); first | (refine hK _ ?_; clear hK K) | (apply Exists.intro; refine ⟨fun wq hsq => ?_, hK _ ?_⟩; (first | (go_simp; done) | ((try go_simp); (try simp only [↓IntWalk.iteOmega]); (try go_bits); rfl) | (obtain ⟨hcq, hfq⟩ := bcellsB hsq; go_simp; done) | (obtain ⟨hcq, hfq⟩ := bcellsB hsq; (try go_simp); (try simp only [↓IntWalk.iteOmega]); (try go_bits); rfl)); clear hK K))
        refine wpMixK_m rfl (fun K' hK => ?_)
        go_simp
        refine hK.out _ _ ?_ (fun hS => ?_)
        · repeat (first | assumption | exact Below.refl _ _ | apply Below.drew | apply below_drewN | (refine Below.alloc2t ?_ (by first | rfl | simp) (by first | omega | (simp; omega) | simp)) | (refine Below.alloc ?_ (by first | omega | (simp; omega) | simp) _) | (refine Below.setCell ?_ (by first | omega | (simp; omega) | simp) _))
        clear hK hS
        iterate 1 (refine wpMixK_q rfl (fun K hK => ?_); go_simp; (try go_bits); first | (refine hK _ ?_; clear hK K) | (apply Exists.intro; refine ⟨fun wq hsq => ?_, hK _ ?_⟩; (first | (go_simp; done) | ((try go_simp); (try simp only [↓IntWalk.iteOmega]); (try go_bits); rfl) | (obtain ⟨hcq, hfq⟩ := bcellsB hsq; go_simp; done) | (obtain ⟨hcq, hfq⟩ := bcellsB hsq; (try go_simp); (try simp only [↓IntWalk.iteOmega]); (try go_bits); rfl)); clear hK K))
        refine wpMixK_m rfl (fun K' hK => ?_)
        go_simp
        refine hK.out _ _ ?_ (fun hS => ?_)
        · repeat (first | assumption | exact Below.refl _ _ | apply Below.drew | apply below_drewN | (refine Below.alloc2t ?_ (by first | rfl | simp) (by first | omega | (simp; omega) | simp)) | (refine Below.alloc ?_ (by first | omega | (simp; omega) | simp) _) | (refine Below.setCell ?_ (by first | omega | (simp; omega) | simp) _))
        clear hK hS
        refine wpMixK_nil (fun hS => ?_)
        refine wpAnyH_end (by kernel_rfl) ?_
        try clear hS
        go_simp
        refine ⟨rfl, _, _, _, m8 a.lv, m8 b.lv, m8 c.lv, ?_⟩
        exact three_set blA blB blC (Nat.le_refl _) (by omega) (by omega) hg
  intro w2 hR
  clear hg blA blB blC
  obtain ⟨A', B', C', hA7, hB7, hC7, blA, blB, blC, hg2⟩ := hR
  have hra : labRight (⟨A', a.c⟩ : Lab).lv = true := labRight_iff.2 hA7
  have hrb : labRight (⟨B', b.c⟩ : Lab).lv = true := labRight_iff.2 hB7
  have hrc : labRight (⟨C', c.c⟩ : Lab).lv = true := labRight_iff.2 hC7
  have hx : (⟨A', a.c⟩ : Lab).ok := ha
  have hy : (⟨B', b.c⟩ : Lab).ok := hb
  have hz : (⟨C', c.c⟩ : Lab).ok := hc
  change Blk w2 w.heap.size 62 #[.int .i64 (⟨A', a.c⟩ : Lab).lv, .int .u32 ((⟨A', a.c⟩ : Lab).c : Int)] at blA
  change Blk w2 (w.heap.size + 1) 62 #[.int .i64 (⟨B', b.c⟩ : Lab).lv, .int .u32 ((⟨B', b.c⟩ : Lab).c : Int)] at blB
  change Blk w2 (w.heap.size + 1 + 1) 62 #[.int .i64 (⟨C', c.c⟩ : Lab).lv, .int .u32 ((⟨C', c.c⟩ : Lab).c : Int)] at blC
  generalize (⟨A', a.c⟩ : Lab) = x at *
  generalize (⟨B', b.c⟩ : Lab) = y at *
  generalize (⟨C', c.c⟩ : Lab) = z at *
  clear hA7 hB7 hC7 ha hb hc
  have cJbc := fun W => lJoin_any y z W hy hz
  have cMaJ := fun W => lMeet_any x (joinL y z) W hx (joinL_lt hy hz)
  have cMab := fun W => lMeet_any x y W hx hy
  have cMac := fun W => lMeet_any x z W hx hz
  have cJmm := fun W => lJoin_any (meetL x y) (meetL x z) W (meetL_lt hx) (meetL_lt hx)
  rw [meet_join hra hrb hrc] at cJmm
  have cMbc := fun W => lMeet_any y z W hy hz
  have cJaM := fun W => lJoin_any x (meetL y z) W hx (meetL_lt hy)
  have cJab := fun W => lJoin_any x y W hx hy
  have cJac := fun W => lJoin_any x z W hx hz
  have cMjj := fun W => lMeet_any (joinL x y) (joinL x z) W (joinL_lt hx hy) (joinL_lt hx hz)
  rw [join_meet hra hrb hrc] at cMjj
  have cAb1 := fun W => lJoin_any x (meetL x y) W hx (meetL_lt hx)
  rw [join_absorb hra hrb] at cAb1
  have cAb2 := fun W => lMeet_any x (joinL x y) W hx (joinL_lt hx hy)
  rw [meet_absorb hra hrb] at cAb2
  have cAs1 := fun W => lJoin_any (joinL x y) z W (joinL_lt hx hy) hz
  rw [join_assoc hra hrb hrc] at cAs1
  have cAs2 := fun W => lJoin_any x (joinL y z) W hx (joinL_lt hy hz)
  have cAll := fun A W h => lAll_any A 3 3 [x, y, z] W h (by unfold maxLen; omega) (by
    intro u hu
    simp only [List.mem_cons, List.not_mem_nil, or_false] at hu
    rcases hu with rfl | rfl | rfl <;> assumption)
  rw [acc_three hra hrb hrc] at cAll
  clear hx hy hz hra hrb hrc
  generalize meetL x (joinL y z) = P at *
  generalize joinL x (meetL y z) = R at *
  generalize joinL x (joinL y z) = T at *
  generalize meetL x y = MAB at *
  generalize meetL x z = MAC at *
  generalize meetL y z = MBC at *
  generalize joinL x y = JAB at *
  generalize joinL x z = JAC at *
  generalize joinL y z = JBC at *
  replace cJbc := Lib.hid cJbc
  replace cMaJ := Lib.hid cMaJ
  replace cMab := Lib.hid cMab
  replace cMac := Lib.hid cMac
  replace cJmm := Lib.hid cJmm
  replace cMbc := Lib.hid cMbc
  replace cJaM := Lib.hid cJaM
  replace cJab := Lib.hid cJab
  replace cJac := Lib.hid cJac
  replace cMjj := Lib.hid cMjj
  replace cAb1 := Lib.hid cAb1
  replace cAb2 := Lib.hid cAb2
  replace cAs1 := Lib.hid cAs1
  replace cAs2 := Lib.hid cAs2
  replace cAll := Lib.hid cAll
  go_wp2_with fail
  apply wp_cutS (is := [7, 8]) (R := LaidP w2 7 8 62 #[.int .i64 P.lv, .int .u32 (P.c : Int)] #[.int .i64 P.lv, .int .u32 (P.c : Int)])
  case h1 =>
    have d0A := blA.cell 0
    have d1A := blA.cell 1
    have sA := blA.lt
    have d0B := blB.cell 0
    have d1B := blB.cell 1
    have sB := blB.lt
    have d0C := blC.cell 0
    have d1C := blC.cell 1
    have sC := blC.lt
    refine wp_region_k (by kernel_rfl) ?_
    refine wpAnyK_run (l' := #[true, true, true, true, true, true, true, true, true, true, true, true, false, false, false, false]) [0, 1, 2, 3, 4, 5, 6, 7, 8, 9, 10, 11] 4 up_grows (by kernel_rfl) (by intro c a d v w h; cases d <;> exact h) rfl (by kernel_rfl) ?_
    iterate 3 (refine wpMixC_q rfl (fun K hK => ?_); go_simp; (try go_bits); first | (refine hK.out _ ?_; clear hK K) | (apply Exists.intro; refine ⟨fun wq hsq => ?_, hK.out _ ?_⟩; (first | (go_simp; done) | ((try go_simp); (try simp only [↓IntWalk.iteOmega]); (try go_bits); rfl) | (obtain ⟨hcq, hfq⟩ := bcells hsq; go_simp; done) | (obtain ⟨hcq, hfq⟩ := bcells hsq; (try go_simp); (try simp only [↓IntWalk.iteOmega]); (try go_bits); rfl)); clear hK K))
    refine wpMixC_c (.agg #[.int .i64 JBC.lv, .int .u32 (JBC.c : Int)]) rfl (by first | rfl | (go_simp; done)) (fun wq hsq => ?_) ?_
    · obtain ⟨hcq, hfq⟩ := bcells hsq
      go_simp
      exact Calls.mono (cJbc.out wq) (fun e w'' h => h)
    go_simp
    refine wpMixC_c (.agg #[.int .i64 P.lv, .int .u32 (P.c : Int)]) rfl (by first | rfl | (go_simp; done)) (fun wq hsq => ?_) ?_
    · obtain ⟨hcq, hfq⟩ := bcells hsq
      go_simp
      exact Calls.mono (cMaJ.out wq) (fun e w'' h => h)
    go_simp
    iterate 2 (refine wpMixC_q rfl (fun K hK => ?_); go_simp; (try go_bits); first | (refine hK.out _ ?_; clear hK K) | (apply Exists.intro; refine ⟨fun wq hsq => ?_, hK.out _ ?_⟩; (first | (go_simp; done) | ((try go_simp); (try simp only [↓IntWalk.iteOmega]); (try go_bits); rfl) | (obtain ⟨hcq, hfq⟩ := bcells hsq; go_simp; done) | (obtain ⟨hcq, hfq⟩ := bcells hsq; (try go_simp); (try simp only [↓IntWalk.iteOmega]); (try go_bits); rfl)); clear hK K))
    refine wpMixC_c (.agg #[.int .i64 MAB.lv, .int .u32 (MAB.c : Int)]) rfl (by first | rfl | (go_simp; done)) (fun wq hsq => ?_) ?_
    · obtain ⟨hcq, hfq⟩ := bcells hsq
      go_simp
      exact Calls.mono (cMab.out wq) (fun e w'' h => h)
    go_simp
    iterate 2 (refine wpMixC_q rfl (fun K hK => ?_); go_simp; (try go_bits); first | (refine hK.out _ ?_; clear hK K) | (apply Exists.intro; refine ⟨fun wq hsq => ?_, hK.out _ ?_⟩; (first | (go_simp; done) | ((try go_simp); (try simp only [↓IntWalk.iteOmega]); (try go_bits); rfl) | (obtain ⟨hcq, hfq⟩ := bcells hsq; go_simp; done) | (obtain ⟨hcq, hfq⟩ := bcells hsq; (try go_simp); (try simp only [↓IntWalk.iteOmega]); (try go_bits); rfl)); clear hK K))
    refine wpMixC_c (.agg #[.int .i64 MAC.lv, .int .u32 (MAC.c : Int)]) rfl (by first | rfl | (go_simp; done)) (fun wq hsq => ?_) ?_
    · obtain ⟨hcq, hfq⟩ := bcells hsq
      go_simp
      exact Calls.mono (cMac.out wq) (fun e w'' h => h)
    go_simp
    refine wpMixC_c (.agg #[.int .i64 P.lv, .int .u32 (P.c : Int)]) rfl (by first | rfl | (go_simp; done)) (fun wq hsq => ?_) ?_
    · obtain ⟨hcq, hfq⟩ := bcells hsq
      go_simp
      exact Calls.mono (cJmm.out wq) (fun e w'' h => h)
    go_simp
    refine wpMixC_nil ?_
    refine wpAnyK_alt [12, 13] (by kernel_rfl) (by simp) (fun wN hN hS => (AllReadyK.cons rfl (fun K' hK => ?_) (AllReadyK.cons rfl (fun K' hK => ?_) AllReadyK.nil)))
    · skip
      try replace blS := blS.grows hN
      try replace blT := blT.grows hN
      clear hN
      have hgeS := hS.size
      try have hlt := blT.lt
      go_simp
      refine hK.out _ _ ?_ (fun hS => ?_)
      · repeat (first | assumption | exact Grows.refl _ | apply Grows.drew | apply Grows.drewN | refine Grows.alloc ?_ _ | (refine Grows.setCell ?_ (by first | (simp; done) | (simp; omega) | omega) _) | (refine Grows.trans ?_ (by assumption)))
      first | have blS := new_of hS | have blS := new_of' hS
      try replace blT := alloc_of hS blT
      clear hK hS
      refine wpAnyK_alt [13] (by kernel_rfl) (by simp) (fun wN hN hS => (AllReadyK.cons rfl (fun K' hK => ?_) AllReadyK.nil))
      try replace blS := blS.grows hN
      try replace blT := blT.grows hN
      clear hN
      have hgeT := hS.size
      try have hlt := blS.lt
      go_simp
      refine hK.out _ _ ?_ (fun hS => ?_)
      · repeat (first | assumption | exact Grows.refl _ | apply Grows.drew | apply Grows.drewN | refine Grows.alloc ?_ _ | (refine Grows.setCell ?_ (by first | (simp; done) | (simp; omega) | omega) _) | (refine Grows.trans ?_ (by assumption)))
      first | have blT := new_of hS | have blT := new_of' hS
      try replace blS := alloc_of hS blS
      clear hK hS
      refine wpAnyK_alt [14] (by kernel_rfl) (by simp) (fun wN hN hS => (AllReadyK.cons rfl (fun K' hK => ?_) AllReadyK.nil))
      try replace blS := blS.grows hN
      try replace blT := blT.grows hN
      clear hN
      have fS0 := blS.frozen 0
      have fS1 := blS.frozen 1
      have cS0 := blS.cell 0
      have cS1 := blS.cell 1
      have sS := blS.lt
      go_simp
      refine hK.out _ _ ?_ (fun hS => ?_)
      · repeat (first | assumption | exact Grows.refl _ | apply Grows.drew | apply Grows.drewN | refine Grows.alloc ?_ _ | (refine Grows.setCell ?_ (by first | (simp; done) | (simp; omega) | omega) _) | (refine Grows.trans ?_ (by assumption)))
      replace blS := upd blS hS #[.int .i64 P.lv, .int .u32 (P.c : Int)] (set2 blS)
      replace blT := same blT hS (far2 blT (by omega))
      clear fS0 fS1 cS0 cS1 sS
      clear hK hS
      refine wpAnyK_alt [15] (by kernel_rfl) (by simp) (fun wN hN hS => (AllReadyK.cons rfl (fun K' hK => ?_) AllReadyK.nil))
      try replace blS := blS.grows hN
      try replace blT := blT.grows hN
      clear hN
      have fT0 := blT.frozen 0
      have fT1 := blT.frozen 1
      have cT0 := blT.cell 0
      have cT1 := blT.cell 1
      have sT := blT.lt
      go_simp
      refine hK.out _ _ ?_ (fun hS => ?_)
      · repeat (first | assumption | exact Grows.refl _ | apply Grows.drew | apply Grows.drewN | refine Grows.alloc ?_ _ | (refine Grows.setCell ?_ (by first | (simp; done) | (simp; omega) | omega) _) | (refine Grows.trans ?_ (by assumption)))
      replace blT := upd blT hS #[.int .i64 P.lv, .int .u32 (P.c : Int)] (set2 blT)
      replace blS := same blS hS (far2 blS (by omega))
      clear fT0 fT1 cT0 cT1 sT
      clear hK hS
      refine wpAnyK_end (by kernel_rfl) (fun wN hN hS => ?_)
      try replace blS := blS.grows hN
      try replace blT := blT.grows hN
      refine ⟨(by
        simp only [resetAll, List.foldl_cons, List.foldl_nil]
        go_simp
        try rfl
      ), _, _, rfl, rfl, blS, blT, ?_⟩
      repeat (first | assumption | exact Grows.refl _ | apply Grows.drew | apply Grows.drewN | refine Grows.alloc ?_ _ | (refine Grows.setCell ?_ (by first | (simp; done) | (simp; omega) | omega) _) | (refine Grows.trans ?_ (by assumption)))
    · skip
      try replace blS := blS.grows hN
      try replace blT := blT.grows hN
      clear hN
      have hgeT := hS.size
      try have hlt := blS.lt
      go_simp
      refine hK.out _ _ ?_ (fun hS => ?_)
      · repeat (first | assumption | exact Grows.refl _ | apply Grows.drew | apply Grows.drewN | refine Grows.alloc ?_ _ | (refine Grows.setCell ?_ (by first | (simp; done) | (simp; omega) | omega) _) | (refine Grows.trans ?_ (by assumption)))
      first | have blT := new_of hS | have blT := new_of' hS
      try replace blS := alloc_of hS blS
      clear hK hS
      refine wpAnyK_alt [12] (by kernel_rfl) (by simp) (fun wN hN hS => (AllReadyK.cons rfl (fun K' hK => ?_) AllReadyK.nil))
      try replace blS := blS.grows hN
      try replace blT := blT.grows hN
      clear hN
      have hgeS := hS.size
      try have hlt := blT.lt
      go_simp
      refine hK.out _ _ ?_ (fun hS => ?_)
      · repeat (first | assumption | exact Grows.refl _ | apply Grows.drew | apply Grows.drewN | refine Grows.alloc ?_ _ | (refine Grows.setCell ?_ (by first | (simp; done) | (simp; omega) | omega) _) | (refine Grows.trans ?_ (by assumption)))
      first | have blS := new_of hS | have blS := new_of' hS
      try replace blT := alloc_of hS blT
      clear hK hS
      refine wpAnyK_alt [14] (by kernel_rfl) (by simp) (fun wN hN hS => (AllReadyK.cons rfl (fun K' hK => ?_) AllReadyK.nil))
      try replace blS := blS.grows hN
      try replace blT := blT.grows hN
      clear hN
      have fS0 := blS.frozen 0
      have fS1 := blS.frozen 1
      have cS0 := blS.cell 0
      have cS1 := blS.cell 1
      have sS := blS.lt
      go_simp
      refine hK.out _ _ ?_ (fun hS => ?_)
      · repeat (first | assumption | exact Grows.refl _ | apply Grows.drew | apply Grows.drewN | refine Grows.alloc ?_ _ | (refine Grows.setCell ?_ (by first | (simp; done) | (simp; omega) | omega) _) | (refine Grows.trans ?_ (by assumption)))
      replace blS := upd blS hS #[.int .i64 P.lv, .int .u32 (P.c : Int)] (set2 blS)
      replace blT := same blT hS (far2 blT (by omega))
      clear fS0 fS1 cS0 cS1 sS
      clear hK hS
      refine wpAnyK_alt [15] (by kernel_rfl) (by simp) (fun wN hN hS => (AllReadyK.cons rfl (fun K' hK => ?_) AllReadyK.nil))
      try replace blS := blS.grows hN
      try replace blT := blT.grows hN
      clear hN
      have fT0 := blT.frozen 0
      have fT1 := blT.frozen 1
      have cT0 := blT.cell 0
      have cT1 := blT.cell 1
      have sT := blT.lt
      go_simp
      refine hK.out _ _ ?_ (fun hS => ?_)
      · repeat (first | assumption | exact Grows.refl _ | apply Grows.drew | apply Grows.drewN | refine Grows.alloc ?_ _ | (refine Grows.setCell ?_ (by first | (simp; done) | (simp; omega) | omega) _) | (refine Grows.trans ?_ (by assumption)))
      replace blT := upd blT hS #[.int .i64 P.lv, .int .u32 (P.c : Int)] (set2 blT)
      replace blS := same blS hS (far2 blS (by omega))
      clear fT0 fT1 cT0 cT1 sT
      clear hK hS
      refine wpAnyK_end (by kernel_rfl) (fun wN hN hS => ?_)
      try replace blS := blS.grows hN
      try replace blT := blT.grows hN
      refine ⟨(by
        simp only [resetAll, List.foldl_cons, List.foldl_nil]
        go_simp
        try rfl
      ), _, _, rfl, rfl, blS, blT, ?_⟩
      repeat (first | assumption | exact Grows.refl _ | apply Grows.drew | apply Grows.drewN | refine Grows.alloc ?_ _ | (refine Grows.setCell ?_ (by first | (simp; done) | (simp; omega) | omega) _) | (refine Grows.trans ?_ (by assumption)))
  intro f w3 hR
  obtain ⟨gS, gT, e7, e8, bS, bT, hg3⟩ := hR
  simp only [fillAll, List.foldl_cons, List.foldl_nil, e7, e8]
  go_simp
  replace blA := blA.grows hg3
  (try clear d0A); (try clear d1A); (try clear sA)
  have d0A := blA.cell 0
  have d1A := blA.cell 1
  have sA := blA.lt
  replace blB := blB.grows hg3
  (try clear d0B); (try clear d1B); (try clear sB)
  have d0B := blB.cell 0
  have d1B := blB.cell 1
  have sB := blB.lt
  replace blC := blC.grows hg3
  (try clear d0C); (try clear d1C); (try clear sC)
  have d0C := blC.cell 0
  have d1C := blC.cell 1
  have sC := blC.lt
  clear cMaJ cJmm
  replace hg3 := hg2.trans hg3
  clear hg2
  go_wp2_with fail
  apply wp_cutS (is := [9, 10]) (R := LaidP w3 9 10 62 #[.int .i64 R.lv, .int .u32 (R.c : Int)] #[.int .i64 R.lv, .int .u32 (R.c : Int)])
  case h1 =>
    refine wp_region_k (by kernel_rfl) ?_
    refine wpAnyK_run (l' := #[true, true, true, true, true, true, true, true, true, true, true, true, false, false, false, false]) [0, 1, 2, 3, 4, 5, 6, 7, 8, 9, 10, 11] 4 up_grows (by kernel_rfl) (by intro c a d v w h; cases d <;> exact h) rfl (by kernel_rfl) ?_
    iterate 3 (refine wpMixC_q rfl (fun K hK => ?_); go_simp; (try go_bits); first | (refine hK.out _ ?_; clear hK K) | (apply Exists.intro; refine ⟨fun wq hsq => ?_, hK.out _ ?_⟩; (first | (go_simp; done) | ((try go_simp); (try simp only [↓IntWalk.iteOmega]); (try go_bits); rfl) | (obtain ⟨hcq, hfq⟩ := bcells hsq; go_simp; done) | (obtain ⟨hcq, hfq⟩ := bcells hsq; (try go_simp); (try simp only [↓IntWalk.iteOmega]); (try go_bits); rfl)); clear hK K))
    refine wpMixC_c (.agg #[.int .i64 MBC.lv, .int .u32 (MBC.c : Int)]) rfl (by first | rfl | (go_simp; done)) (fun wq hsq => ?_) ?_
    · obtain ⟨hcq, hfq⟩ := bcells hsq
      go_simp
      exact Calls.mono (cMbc.out wq) (fun e w'' h => h)
    go_simp
    refine wpMixC_c (.agg #[.int .i64 R.lv, .int .u32 (R.c : Int)]) rfl (by first | rfl | (go_simp; done)) (fun wq hsq => ?_) ?_
    · obtain ⟨hcq, hfq⟩ := bcells hsq
      go_simp
      exact Calls.mono (cJaM.out wq) (fun e w'' h => h)
    go_simp
    iterate 2 (refine wpMixC_q rfl (fun K hK => ?_); go_simp; (try go_bits); first | (refine hK.out _ ?_; clear hK K) | (apply Exists.intro; refine ⟨fun wq hsq => ?_, hK.out _ ?_⟩; (first | (go_simp; done) | ((try go_simp); (try simp only [↓IntWalk.iteOmega]); (try go_bits); rfl) | (obtain ⟨hcq, hfq⟩ := bcells hsq; go_simp; done) | (obtain ⟨hcq, hfq⟩ := bcells hsq; (try go_simp); (try simp only [↓IntWalk.iteOmega]); (try go_bits); rfl)); clear hK K))
    refine wpMixC_c (.agg #[.int .i64 JAB.lv, .int .u32 (JAB.c : Int)]) rfl (by first | rfl | (go_simp; done)) (fun wq hsq => ?_) ?_
    · obtain ⟨hcq, hfq⟩ := bcells hsq
      go_simp
      exact Calls.mono (cJab.out wq) (fun e w'' h => h)
    go_simp
    iterate 2 (refine wpMixC_q rfl (fun K hK => ?_); go_simp; (try go_bits); first | (refine hK.out _ ?_; clear hK K) | (apply Exists.intro; refine ⟨fun wq hsq => ?_, hK.out _ ?_⟩; (first | (go_simp; done) | ((try go_simp); (try simp only [↓IntWalk.iteOmega]); (try go_bits); rfl) | (obtain ⟨hcq, hfq⟩ := bcells hsq; go_simp; done) | (obtain ⟨hcq, hfq⟩ := bcells hsq; (try go_simp); (try simp only [↓IntWalk.iteOmega]); (try go_bits); rfl)); clear hK K))
    refine wpMixC_c (.agg #[.int .i64 JAC.lv, .int .u32 (JAC.c : Int)]) rfl (by first | rfl | (go_simp; done)) (fun wq hsq => ?_) ?_
    · obtain ⟨hcq, hfq⟩ := bcells hsq
      go_simp
      exact Calls.mono (cJac.out wq) (fun e w'' h => h)
    go_simp
    refine wpMixC_c (.agg #[.int .i64 R.lv, .int .u32 (R.c : Int)]) rfl (by first | rfl | (go_simp; done)) (fun wq hsq => ?_) ?_
    · obtain ⟨hcq, hfq⟩ := bcells hsq
      go_simp
      exact Calls.mono (cMjj.out wq) (fun e w'' h => h)
    go_simp
    refine wpMixC_nil ?_
    refine wpAnyK_alt [12, 13] (by kernel_rfl) (by simp) (fun wN hN hS => (AllReadyK.cons rfl (fun K' hK => ?_) (AllReadyK.cons rfl (fun K' hK => ?_) AllReadyK.nil)))
    · skip
      try replace blU := blU.grows hN
      try replace blV := blV.grows hN
      clear hN
      have hgeU := hS.size
      try have hlt := blV.lt
      go_simp
      refine hK.out _ _ ?_ (fun hS => ?_)
      · repeat (first | assumption | exact Grows.refl _ | apply Grows.drew | apply Grows.drewN | refine Grows.alloc ?_ _ | (refine Grows.setCell ?_ (by first | (simp; done) | (simp; omega) | omega) _) | (refine Grows.trans ?_ (by assumption)))
      first | have blU := new_of hS | have blU := new_of' hS
      try replace blV := alloc_of hS blV
      clear hK hS
      refine wpAnyK_alt [13] (by kernel_rfl) (by simp) (fun wN hN hS => (AllReadyK.cons rfl (fun K' hK => ?_) AllReadyK.nil))
      try replace blU := blU.grows hN
      try replace blV := blV.grows hN
      clear hN
      have hgeV := hS.size
      try have hlt := blU.lt
      go_simp
      refine hK.out _ _ ?_ (fun hS => ?_)
      · repeat (first | assumption | exact Grows.refl _ | apply Grows.drew | apply Grows.drewN | refine Grows.alloc ?_ _ | (refine Grows.setCell ?_ (by first | (simp; done) | (simp; omega) | omega) _) | (refine Grows.trans ?_ (by assumption)))
      first | have blV := new_of hS | have blV := new_of' hS
      try replace blU := alloc_of hS blU
      clear hK hS
      refine wpAnyK_alt [14] (by kernel_rfl) (by simp) (fun wN hN hS => (AllReadyK.cons rfl (fun K' hK => ?_) AllReadyK.nil))
      try replace blU := blU.grows hN
      try replace blV := blV.grows hN
      clear hN
      have fU0 := blU.frozen 0
      have fU1 := blU.frozen 1
      have cU0 := blU.cell 0
      have cU1 := blU.cell 1
      have sU := blU.lt
      go_simp
      refine hK.out _ _ ?_ (fun hS => ?_)
      · repeat (first | assumption | exact Grows.refl _ | apply Grows.drew | apply Grows.drewN | refine Grows.alloc ?_ _ | (refine Grows.setCell ?_ (by first | (simp; done) | (simp; omega) | omega) _) | (refine Grows.trans ?_ (by assumption)))
      replace blU := upd blU hS #[.int .i64 R.lv, .int .u32 (R.c : Int)] (set2 blU)
      replace blV := same blV hS (far2 blV (by omega))
      clear fU0 fU1 cU0 cU1 sU
      clear hK hS
      refine wpAnyK_alt [15] (by kernel_rfl) (by simp) (fun wN hN hS => (AllReadyK.cons rfl (fun K' hK => ?_) AllReadyK.nil))
      try replace blU := blU.grows hN
      try replace blV := blV.grows hN
      clear hN
      have fV0 := blV.frozen 0
      have fV1 := blV.frozen 1
      have cV0 := blV.cell 0
      have cV1 := blV.cell 1
      have sV := blV.lt
      go_simp
      refine hK.out _ _ ?_ (fun hS => ?_)
      · repeat (first | assumption | exact Grows.refl _ | apply Grows.drew | apply Grows.drewN | refine Grows.alloc ?_ _ | (refine Grows.setCell ?_ (by first | (simp; done) | (simp; omega) | omega) _) | (refine Grows.trans ?_ (by assumption)))
      replace blV := upd blV hS #[.int .i64 R.lv, .int .u32 (R.c : Int)] (set2 blV)
      replace blU := same blU hS (far2 blU (by omega))
      clear fV0 fV1 cV0 cV1 sV
      clear hK hS
      refine wpAnyK_end (by kernel_rfl) (fun wN hN hS => ?_)
      try replace blU := blU.grows hN
      try replace blV := blV.grows hN
      refine ⟨(by
        simp only [resetAll, List.foldl_cons, List.foldl_nil]
        go_simp
        try rfl
      ), _, _, rfl, rfl, blU, blV, ?_⟩
      repeat (first | assumption | exact Grows.refl _ | apply Grows.drew | apply Grows.drewN | refine Grows.alloc ?_ _ | (refine Grows.setCell ?_ (by first | (simp; done) | (simp; omega) | omega) _) | (refine Grows.trans ?_ (by assumption)))
    · skip
      try replace blU := blU.grows hN
      try replace blV := blV.grows hN
      clear hN
      have hgeV := hS.size
      try have hlt := blU.lt
      go_simp
      refine hK.out _ _ ?_ (fun hS => ?_)
      · repeat (first | assumption | exact Grows.refl _ | apply Grows.drew | apply Grows.drewN | refine Grows.alloc ?_ _ | (refine Grows.setCell ?_ (by first | (simp; done) | (simp; omega) | omega) _) | (refine Grows.trans ?_ (by assumption)))
      first | have blV := new_of hS | have blV := new_of' hS
      try replace blU := alloc_of hS blU
      clear hK hS
      refine wpAnyK_alt [12] (by kernel_rfl) (by simp) (fun wN hN hS => (AllReadyK.cons rfl (fun K' hK => ?_) AllReadyK.nil))
      try replace blU := blU.grows hN
      try replace blV := blV.grows hN
      clear hN
      have hgeU := hS.size
      try have hlt := blV.lt
      go_simp
      refine hK.out _ _ ?_ (fun hS => ?_)
      · repeat (first | assumption | exact Grows.refl _ | apply Grows.drew | apply Grows.drewN | refine Grows.alloc ?_ _ | (refine Grows.setCell ?_ (by first | (simp; done) | (simp; omega) | omega) _) | (refine Grows.trans ?_ (by assumption)))
      first | have blU := new_of hS | have blU := new_of' hS
      try replace blV := alloc_of hS blV
      clear hK hS
      refine wpAnyK_alt [14] (by kernel_rfl) (by simp) (fun wN hN hS => (AllReadyK.cons rfl (fun K' hK => ?_) AllReadyK.nil))
      try replace blU := blU.grows hN
      try replace blV := blV.grows hN
      clear hN
      have fU0 := blU.frozen 0
      have fU1 := blU.frozen 1
      have cU0 := blU.cell 0
      have cU1 := blU.cell 1
      have sU := blU.lt
      go_simp
      refine hK.out _ _ ?_ (fun hS => ?_)
      · repeat (first | assumption | exact Grows.refl _ | apply Grows.drew | apply Grows.drewN | refine Grows.alloc ?_ _ | (refine Grows.setCell ?_ (by first | (simp; done) | (simp; omega) | omega) _) | (refine Grows.trans ?_ (by assumption)))
      replace blU := upd blU hS #[.int .i64 R.lv, .int .u32 (R.c : Int)] (set2 blU)
      replace blV := same blV hS (far2 blV (by omega))
      clear fU0 fU1 cU0 cU1 sU
      clear hK hS
      refine wpAnyK_alt [15] (by kernel_rfl) (by simp) (fun wN hN hS => (AllReadyK.cons rfl (fun K' hK => ?_) AllReadyK.nil))
      try replace blU := blU.grows hN
      try replace blV := blV.grows hN
      clear hN
      have fV0 := blV.frozen 0
      have fV1 := blV.frozen 1
      have cV0 := blV.cell 0
      have cV1 := blV.cell 1
      have sV := blV.lt
      go_simp
      refine hK.out _ _ ?_ (fun hS => ?_)
      · repeat (first | assumption | exact Grows.refl _ | apply Grows.drew | apply Grows.drewN | refine Grows.alloc ?_ _ | (refine Grows.setCell ?_ (by first | (simp; done) | (simp; omega) | omega) _) | (refine Grows.trans ?_ (by assumption)))
      replace blV := upd blV hS #[.int .i64 R.lv, .int .u32 (R.c : Int)] (set2 blV)
      replace blU := same blU hS (far2 blU (by omega))
      clear fV0 fV1 cV0 cV1 sV
      clear hK hS
      refine wpAnyK_end (by kernel_rfl) (fun wN hN hS => ?_)
      try replace blU := blU.grows hN
      try replace blV := blV.grows hN
      refine ⟨(by
        simp only [resetAll, List.foldl_cons, List.foldl_nil]
        go_simp
        try rfl
      ), _, _, rfl, rfl, blU, blV, ?_⟩
      repeat (first | assumption | exact Grows.refl _ | apply Grows.drew | apply Grows.drewN | refine Grows.alloc ?_ _ | (refine Grows.setCell ?_ (by first | (simp; done) | (simp; omega) | omega) _) | (refine Grows.trans ?_ (by assumption)))
  intro f w4 hR
  obtain ⟨gU, gV, e9, e10, bU, bV, hg4⟩ := hR
  simp only [fillAll, List.foldl_cons, List.foldl_nil, e9, e10]
  go_simp
  replace bS := bS.grows hg4
  replace bT := bT.grows hg4
  have d0S := bS.cell 0
  have d1S := bS.cell 1
  have sS := bS.lt
  have d0T := bT.cell 0
  have d1T := bT.cell 1
  have sT := bT.lt
  have d0U := bU.cell 0
  have d1U := bU.cell 1
  have sU := bU.lt
  have d0V := bV.cell 0
  have d1V := bV.cell 1
  have sV := bV.lt
  replace blA := blA.grows hg4
  (try clear d0A); (try clear d1A); (try clear sA)
  have d0A := blA.cell 0
  have d1A := blA.cell 1
  have sA := blA.lt
  replace blB := blB.grows hg4
  (try clear d0B); (try clear d1B); (try clear sB)
  have d0B := blB.cell 0
  have d1B := blB.cell 1
  have sB := blB.lt
  replace blC := blC.grows hg4
  (try clear d0C); (try clear d1C); (try clear sC)
  have d0C := blC.cell 0
  have d1C := blC.cell 1
  have sC := blC.lt
  replace hg4 := hg3.trans hg4
  clear hg3 cMac cMbc cJaM cJac cMjj
  go_wp2_with fail
  refine wp_region_k (by kernel_rfl) ?_
  refine wpAnyK_run (l' := #[true, true, true, true, true, true, true, true, true, true, true, true, true, true, true, true, true, true, true, true, true, true, true, true, true, true, true, true, true, true, true, true, true, true, true, true, true, true, true, true, true, true, true, false, false, true, true, true, false, false, false, false, false]) [0, 1, 2, 3, 4, 5, 6, 7, 8, 9, 10, 11, 12, 13, 14, 15, 16, 17, 18, 19, 20, 21, 22, 23, 24, 25, 26, 27, 28, 29, 30, 31, 32, 33, 34, 35, 36, 37, 38, 39, 40, 41, 42, 45, 46, 47] 7 up_grows (by kernel_rfl) (by intro c a d v w h; cases d <;> exact h) rfl (by kernel_rfl) ?_
  iterate 12 (refine wpMixC_q rfl (fun K hK => ?_); go_simp; (try go_bits); first | (refine hK.out _ ?_; clear hK K) | (apply Exists.intro; refine ⟨fun wq hsq => ?_, hK.out _ ?_⟩; (first | (go_simp; done) | ((try go_simp); (try simp only [↓IntWalk.iteOmega]); (try go_bits); rfl) | (obtain ⟨hcq, hfq⟩ := bcells hsq; go_simp; done) | (obtain ⟨hcq, hfq⟩ := bcells hsq; (try go_simp); (try simp only [↓IntWalk.iteOmega]); (try go_bits); rfl)); clear hK K))
  refine wpMixC_c (.agg #[.int .i64 MAB.lv, .int .u32 (MAB.c : Int)]) rfl (by first | rfl | (go_simp; done)) (fun wq hsq => ?_) ?_
  · obtain ⟨hcq, hfq⟩ := bcells hsq
    go_simp
    exact Calls.mono (cMab.out wq) (fun e w'' h => h)
  go_simp
  refine wpMixC_c (.agg #[.int .i64 x.lv, .int .u32 (x.c : Int)]) rfl (by first | rfl | (go_simp; done)) (fun wq hsq => ?_) ?_
  · obtain ⟨hcq, hfq⟩ := bcells hsq
    go_simp
    exact Calls.mono (cAb1.out wq) (fun e w'' h => h)
  go_simp
  iterate 7 (refine wpMixC_q rfl (fun K hK => ?_); go_simp; (try go_bits); first | (refine hK.out _ ?_; clear hK K) | (apply Exists.intro; refine ⟨fun wq hsq => ?_, hK.out _ ?_⟩; (first | (go_simp; done) | ((try go_simp); (try simp only [↓IntWalk.iteOmega]); (try go_bits); rfl) | (obtain ⟨hcq, hfq⟩ := bcells hsq; go_simp; done) | (obtain ⟨hcq, hfq⟩ := bcells hsq; (try go_simp); (try simp only [↓IntWalk.iteOmega]); (try go_bits); rfl)); clear hK K))
  refine wpMixC_c (.agg #[.int .i64 JAB.lv, .int .u32 (JAB.c : Int)]) rfl (by first | rfl | (go_simp; done)) (fun wq hsq => ?_) ?_
  · obtain ⟨hcq, hfq⟩ := bcells hsq
    go_simp
    exact Calls.mono (cJab.out wq) (fun e w'' h => h)
  go_simp
  refine wpMixC_c (.agg #[.int .i64 x.lv, .int .u32 (x.c : Int)]) rfl (by first | rfl | (go_simp; done)) (fun wq hsq => ?_) ?_
  · obtain ⟨hcq, hfq⟩ := bcells hsq
    go_simp
    exact Calls.mono (cAb2.out wq) (fun e w'' h => h)
  go_simp
  iterate 6 (refine wpMixC_q rfl (fun K hK => ?_); go_simp; (try go_bits); first | (refine hK.out _ ?_; clear hK K) | (apply Exists.intro; refine ⟨fun wq hsq => ?_, hK.out _ ?_⟩; (first | (go_simp; done) | ((try go_simp); (try simp only [↓IntWalk.iteOmega]); (try go_bits); rfl) | (obtain ⟨hcq, hfq⟩ := bcells hsq; go_simp; done) | (obtain ⟨hcq, hfq⟩ := bcells hsq; (try go_simp); (try simp only [↓IntWalk.iteOmega]); (try go_bits); rfl)); clear hK K))
  refine wpMixC_c (.agg #[.int .i64 JAB.lv, .int .u32 (JAB.c : Int)]) rfl (by first | rfl | (go_simp; done)) (fun wq hsq => ?_) ?_
  · obtain ⟨hcq, hfq⟩ := bcells hsq
    go_simp
    exact Calls.mono (cJab.out wq) (fun e w'' h => h)
  go_simp
  iterate 1 (refine wpMixC_q rfl (fun K hK => ?_); go_simp; (try go_bits); first | (refine hK.out _ ?_; clear hK K) | (apply Exists.intro; refine ⟨fun wq hsq => ?_, hK.out _ ?_⟩; (first | (go_simp; done) | ((try go_simp); (try simp only [↓IntWalk.iteOmega]); (try go_bits); rfl) | (obtain ⟨hcq, hfq⟩ := bcells hsq; go_simp; done) | (obtain ⟨hcq, hfq⟩ := bcells hsq; (try go_simp); (try simp only [↓IntWalk.iteOmega]); (try go_bits); rfl)); clear hK K))
  refine wpMixC_c (.agg #[.int .i64 T.lv, .int .u32 (T.c : Int)]) rfl (by first | rfl | (go_simp; done)) (fun wq hsq => ?_) ?_
  · obtain ⟨hcq, hfq⟩ := bcells hsq
    go_simp
    exact Calls.mono (cAs1.out wq) (fun e w'' h => h)
  go_simp
  iterate 3 (refine wpMixC_q rfl (fun K hK => ?_); go_simp; (try go_bits); first | (refine hK.out _ ?_; clear hK K) | (apply Exists.intro; refine ⟨fun wq hsq => ?_, hK.out _ ?_⟩; (first | (go_simp; done) | ((try go_simp); (try simp only [↓IntWalk.iteOmega]); (try go_bits); rfl) | (obtain ⟨hcq, hfq⟩ := bcells hsq; go_simp; done) | (obtain ⟨hcq, hfq⟩ := bcells hsq; (try go_simp); (try simp only [↓IntWalk.iteOmega]); (try go_bits); rfl)); clear hK K))
  refine wpMixC_c (.agg #[.int .i64 JBC.lv, .int .u32 (JBC.c : Int)]) rfl (by first | rfl | (go_simp; done)) (fun wq hsq => ?_) ?_
  · obtain ⟨hcq, hfq⟩ := bcells hsq
    go_simp
    exact Calls.mono (cJbc.out wq) (fun e w'' h => h)
  go_simp
  refine wpMixC_c (.agg #[.int .i64 T.lv, .int .u32 (T.c : Int)]) rfl (by first | rfl | (go_simp; done)) (fun wq hsq => ?_) ?_
  · obtain ⟨hcq, hfq⟩ := bcells hsq
    go_simp
    exact Calls.mono (cAs2.out wq) (fun e w'' h => h)
  go_simp
  iterate 9 (refine wpMixC_q rfl (fun K hK => ?_); go_simp; (try go_bits); first | (refine hK.out _ ?_; clear hK K) | (apply Exists.intro; refine ⟨fun wq hsq => ?_, hK.out _ ?_⟩; (first | (go_simp; done) | ((try go_simp); (try simp only [↓IntWalk.iteOmega]); (try go_bits); rfl) | (obtain ⟨hcq, hfq⟩ := bcells hsq; go_simp; done) | (obtain ⟨hcq, hfq⟩ := bcells hsq; (try go_simp); (try simp only [↓IntWalk.iteOmega]); (try go_bits); rfl)); clear hK K))
  refine wpMixC_nil ?_
  refine wpAnyK_alt [43] (by kernel_rfl) (by simp) (fun wN hN hS => (AllReadyK.cons rfl (fun K' hK => ?_) AllReadyK.nil))
  try replace hA3 := hA3.keep hN
  clear hN
  go_simp
  refine hK.out _ _ ?_ (fun hS => ?_)
  · repeat (first | assumption | exact Grows.refl _ | apply Grows.drew | apply Grows.drewN | refine Grows.alloc ?_ _ | (refine Grows.setCell ?_ (by first | (simp; done) | (simp; omega) | omega) _) | (refine Grows.trans ?_ (by assumption)))
  have hA3 := three_of hS x y z
  clear hK hS
  refine wpAnyK_alt [44] (by kernel_rfl) (by simp) (fun wN hN hS => (AllReadyK.cons rfl (fun K' hK => ?_) AllReadyK.nil))
  try replace hA3 := hA3.keep hN
  clear hN
  go_simp
  refine (cAll.out _ _ hA3).mono ?_
  rintro e v9 ⟨rfl, hb9⟩
  refine hK.out _ _ ?_ (fun hS => ?_)
  · repeat (first | assumption | exact Grows.refl _ | apply Grows.drew | apply Grows.drewN | refine Grows.alloc ?_ _ | (refine Grows.setCell ?_ (by first | (simp; done) | (simp; omega) | omega) _) | (refine Grows.trans ?_ (by assumption)))
  clear hK hS
  refine wpAnyK_run (l' := #[true, true, true, true, true, true, true, true, true, true, true, true, true, true, true, true, true, true, true, true, true, true, true, true, true, true, true, true, true, true, true, true, true, true, true, true, true, true, true, true, true, true, true, true, true, true, true, true, true, true, true, true, true]) [48, 49, 50, 51, 52] 0 up_grows (by kernel_rfl) (by intro c a d v w h; cases d <;> exact h) rfl (by kernel_rfl) ?_
  refine wpMixC_c (.agg #[.int .i64 JBC.lv, .int .u32 (JBC.c : Int)]) rfl (by first | rfl | (go_simp; done)) (fun wq hsq => ?_) ?_
  · obtain ⟨hcq, hfq⟩ := bcells hsq
    go_simp
    exact Calls.mono (cJbc.out wq) (fun e w'' h => h)
  go_simp
  refine wpMixC_c (.agg #[.int .i64 T.lv, .int .u32 (T.c : Int)]) rfl (by first | rfl | (go_simp; done)) (fun wq hsq => ?_) ?_
  · obtain ⟨hcq, hfq⟩ := bcells hsq
    go_simp
    exact Calls.mono (cAs2.out wq) (fun e w'' h => h)
  go_simp
  iterate 3 (refine wpMixC_q rfl (fun K hK => ?_); go_simp; (try go_bits); first | (refine hK.out _ ?_; clear hK K) | (apply Exists.intro; refine ⟨fun wq hsq => ?_, hK.out _ ?_⟩; (first | (go_simp; done) | ((try go_simp); (try simp only [↓IntWalk.iteOmega]); (try go_bits); rfl) | (obtain ⟨hcq, hfq⟩ := bcells hsq; go_simp; done) | (obtain ⟨hcq, hfq⟩ := bcells hsq; (try go_simp); (try simp only [↓IntWalk.iteOmega]); (try go_bits); rfl)); clear hK K))
  refine wpMixC_nil ?_
  refine wpAnyK_end (by kernel_rfl) (fun wN hN hS => ?_)
  try replace hA3 := hA3.keep hN
  go_wp2
  go_ret
  exact ⟨rfl, hg4.trans hS⟩
end Go.Proofs.YtfppagcifcppaaaDoor
