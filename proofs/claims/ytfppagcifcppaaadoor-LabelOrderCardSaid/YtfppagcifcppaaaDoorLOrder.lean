/- The walk of the law LabelOrder. -/
import Derived.Test.YtfppagcifcppaaaDoorLLaw
namespace Go.Proofs.YtfppagcifcppaaaDoor
open Go.RowKit

set_option maxRecDepth 100000 in
set_option maxHeartbeats 6400000 in
theorem order_law (a b c : Lab) (w : World) (he : LibEnv w) (ha : a.ok) (hb : b.ok) (hc : c.ok) :
    Calls Tryd.prog 11 #[.agg #[.int .i64 a.lv, .int .u32 (a.c : Int)], .agg #[.int .i64 b.lv, .int .u32 (b.c : Int)], .agg #[.int .i64 c.lv, .int .u32 (c.c : Int)]] w fun e w' => e = .returned (.bool true) ∧ Grows w w' := by
  have cL := fun o o' o'' => llives_any (((w.alloc o).alloc o').alloc o'') (he.grows ((((Grows.refl w).alloc o).alloc o').alloc o''))
  have cAB := fun W => lFlows_any a b W ha hb
  have cBA := fun W => lFlows_any b a W hb ha
  have cBC := fun W => lFlows_any b c W hb hc
  have cAC := fun W => lFlows_any a c W ha hc
  have cAA := fun W => lFlows_any a a W ha ha
  have cRA := fun W => lRight_any a W
  have cRB := fun W => lRight_any b W
  rw [flows_self] at cAA
  have hcase : (flowsL a b = true ∧ flowsL b a = true ∧ labRight a.lv = true ∧ labRight b.lv = true ∧ flowsL b c = true ∧ flowsL a c = true ∧ a = b)
      ∨ (flowsL a b = true ∧ flowsL b a = true ∧ labRight a.lv = true ∧ labRight b.lv = true ∧ flowsL b c = false ∧ a = b)
      ∨ (flowsL a b = true ∧ flowsL b a = false ∧ labRight a.lv = true ∧ labRight b.lv = true ∧ flowsL b c = true ∧ flowsL a c = true)
      ∨ (flowsL a b = true ∧ flowsL b a = false ∧ labRight a.lv = true ∧ labRight b.lv = true ∧ flowsL b c = false)
      ∨ flowsL a b = false := by
    cases hAB : flowsL a b
    · simp
    · have hr := flows_right hAB
      cases hBA : flowsL b a
      · cases hBC : flowsL b c
        · exact .inr (.inr (.inr (.inl ⟨rfl, rfl, hr.1, hr.2, rfl⟩)))
        · exact .inr (.inr (.inl ⟨rfl, rfl, hr.1, hr.2, rfl, flows_trans hAB hBC⟩))
      · have e := flows_anti ha hb hAB hBA
        cases hBC : flowsL b c
        · exact .inr (.inl ⟨rfl, rfl, hr.1, hr.2, rfl, e⟩)
        · exact .inl ⟨rfl, rfl, hr.1, hr.2, rfl, flows_trans hAB hBC, e⟩
  clear ha hb hc he
  generalize flowsL a b = fAB at *
  generalize flowsL b a = fBA at *
  generalize flowsL b c = fBC at *
  generalize flowsL a c = fAC at *
  generalize labRight a.lv = rA at *
  generalize labRight b.lv = rB at *
  replace cL := Lib.hid cL
  replace cAB := Lib.hid cAB
  replace cBA := Lib.hid cBA
  replace cBC := Lib.hid cBC
  replace cAC := Lib.hid cAC
  replace cAA := Lib.hid cAA
  replace cRA := Lib.hid cRA
  replace cRB := Lib.hid cRB
  replace hcase := Lib.hid hcase
  go_enter Tryd.func11, Tryd.ntmps11
  go_wp2_with fail
  refine (cL.out _ _ _).mono ?_
  rintro e w1 ⟨rfl, hb1⟩
  have blA : Blk w1 w.heap.size 62 #[.int .i64 a.lv, .int .u32 (a.c : Int)] := (((Blk.new w _ _).alloc _).alloc _).grows hb1
  have blB : Blk w1 (w.heap.size + 1) 62 #[.int .i64 b.lv, .int .u32 (b.c : Int)] := ((Blk.new1 w _ _ _).alloc _).grows hb1
  have blC : Blk w1 (w.heap.size + 1 + 1) 62 #[.int .i64 c.lv, .int .u32 (c.c : Int)] := (Blk.new2 w _ _ _ _).grows hb1
  have hg : Grows w w1 := ((((Grows.refl _).alloc _).alloc _).alloc _).trans hb1
  clear hb1 cL
  have d0A := blA.cell 0
  have d1A := blA.cell 1
  have d0B := blB.cell 0
  have d1B := blB.cell 1
  have d0C := blC.cell 0
  have d1C := blC.cell 1
  rcases hcase.out with ⟨rfl, rfl, rfl, rfl, rfl, rfl, rfl⟩ | ⟨rfl, rfl, rfl, rfl, rfl, rfl⟩ | ⟨rfl, rfl, rfl, rfl, rfl, rfl⟩ | ⟨rfl, rfl, rfl, rfl, rfl⟩ | rfl
  all_goals clear hcase
  · go_wp2_with fail
    refine (cAB.out _).mono ?_
    rintro e w2 ⟨rfl, hbw2⟩
    replace hg := hg.trans hbw2
    replace blA := blA.grows hbw2
    (try clear d0A); (try clear d1A); (try clear sA)
    have d0A := blA.cell 0
    have d1A := blA.cell 1
    have sA := blA.lt
    replace blB := blB.grows hbw2
    (try clear d0B); (try clear d1B); (try clear sB)
    have d0B := blB.cell 0
    have d1B := blB.cell 1
    have sB := blB.lt
    replace blC := blC.grows hbw2
    (try clear d0C); (try clear d1C); (try clear sC)
    have d0C := blC.cell 0
    have d1C := blC.cell 1
    have sC := blC.lt
    clear hbw2
    go_wp2_with fail
    refine (cBA.out _).mono ?_
    rintro e w3 ⟨rfl, hbw3⟩
    replace hg := hg.trans hbw3
    replace blA := blA.grows hbw3
    (try clear d0A); (try clear d1A); (try clear sA)
    have d0A := blA.cell 0
    have d1A := blA.cell 1
    have sA := blA.lt
    replace blB := blB.grows hbw3
    (try clear d0B); (try clear d1B); (try clear sB)
    have d0B := blB.cell 0
    have d1B := blB.cell 1
    have sB := blB.lt
    replace blC := blC.grows hbw3
    (try clear d0C); (try clear d1C); (try clear sC)
    have d0C := blC.cell 0
    have d1C := blC.cell 1
    have sC := blC.lt
    clear hbw3
    go_wp2_with fail
    refine (cAB.out _).mono ?_
    rintro e w4 ⟨rfl, hbw4⟩
    replace hg := hg.trans hbw4
    replace blA := blA.grows hbw4
    (try clear d0A); (try clear d1A); (try clear sA)
    have d0A := blA.cell 0
    have d1A := blA.cell 1
    have sA := blA.lt
    replace blB := blB.grows hbw4
    (try clear d0B); (try clear d1B); (try clear sB)
    have d0B := blB.cell 0
    have d1B := blB.cell 1
    have sB := blB.lt
    replace blC := blC.grows hbw4
    (try clear d0C); (try clear d1C); (try clear sC)
    have d0C := blC.cell 0
    have d1C := blC.cell 1
    have sC := blC.lt
    clear hbw4
    go_wp2_with fail
    refine (cBC.out _).mono ?_
    rintro e w5 ⟨rfl, hbw5⟩
    replace hg := hg.trans hbw5
    replace blA := blA.grows hbw5
    (try clear d0A); (try clear d1A); (try clear sA)
    have d0A := blA.cell 0
    have d1A := blA.cell 1
    have sA := blA.lt
    replace blB := blB.grows hbw5
    (try clear d0B); (try clear d1B); (try clear sB)
    have d0B := blB.cell 0
    have d1B := blB.cell 1
    have sB := blB.lt
    replace blC := blC.grows hbw5
    (try clear d0C); (try clear d1C); (try clear sC)
    have d0C := blC.cell 0
    have d1C := blC.cell 1
    have sC := blC.lt
    clear hbw5
    go_wp2_with fail
    refine (cAC.out _).mono ?_
    rintro e w6 ⟨rfl, hbw6⟩
    replace hg := hg.trans hbw6
    replace blA := blA.grows hbw6
    (try clear d0A); (try clear d1A); (try clear sA)
    have d0A := blA.cell 0
    have d1A := blA.cell 1
    have sA := blA.lt
    replace blB := blB.grows hbw6
    (try clear d0B); (try clear d1B); (try clear sB)
    have d0B := blB.cell 0
    have d1B := blB.cell 1
    have sB := blB.lt
    replace blC := blC.grows hbw6
    (try clear d0C); (try clear d1C); (try clear sC)
    have d0C := blC.cell 0
    have d1C := blC.cell 1
    have sC := blC.lt
    clear hbw6
    go_wp2_with fail
    refine wp_region_mixg [(0, true), (1, true), (3, true), (2, false), (4, false), (5, true), (6, true), (7, true), (8, true), (9, false), (10, true), (11, true), (12, true), (13, false), (14, true), (15, true), (16, false), (17, true), (18, true), (19, true), (20, true)] (by kernel_rfl) (by kernel_rfl) rfl (by kernel_rfl) (by intro c a d v w h; cases d <;> exact h) ?_
    iterate 3 (refine wpMix_q rfl (fun K hK => ?_); go_simp; (try go_bits); first | (refine hK _ ?_; clear hK K) | (apply Exists.intro; refine ⟨fun wq hsq => ?_, hK _ ?_⟩; (first | (go_simp; done) | ((try go_simp); (try simp only [↓IntWalk.iteOmega]); (try go_bits); rfl) | (obtain ⟨hcq, hfq⟩ := bcells hsq; go_simp; done) | (obtain ⟨hcq, hfq⟩ := bcells hsq; (try go_simp); (try simp only [↓IntWalk.iteOmega]); (try go_bits); rfl)); clear hK K))
    refine wpMix_m rfl (fun K' hK => ?_)
    go_simp
    refine (cAA.out _).mono ?_
    rintro e v1 ⟨rfl, hbv1⟩
    refine hK.out _ _ ?_ (fun hS => ?_)
    · repeat (first | assumption | exact Grows.refl _ | apply Grows.drew | apply Grows.drewN | refine Grows.alloc ?_ _ | (refine Grows.setCell ?_ (by first | (simp; done) | (simp; omega) | omega) _) | (refine Grows.trans ?_ (by assumption)))
    clear hK hS
    refine wpMix_m rfl (fun K' hK => ?_)
    go_simp
    refine (cRA.out _).mono ?_
    rintro e v2 ⟨rfl, hbv2⟩
    refine hK.out _ _ ?_ (fun hS => ?_)
    · repeat (first | assumption | exact Grows.refl _ | apply Grows.drew | apply Grows.drewN | refine Grows.alloc ?_ _ | (refine Grows.setCell ?_ (by first | (simp; done) | (simp; omega) | omega) _) | (refine Grows.trans ?_ (by assumption)))
    clear hK hS
    iterate 4 (refine wpMix_q rfl (fun K hK => ?_); go_simp; (try go_bits); first | (refine hK _ ?_; clear hK K) | (apply Exists.intro; refine ⟨fun wq hsq => ?_, hK _ ?_⟩; (first | (go_simp; done) | ((try go_simp); (try simp only [↓IntWalk.iteOmega]); (try go_bits); rfl) | (obtain ⟨hcq, hfq⟩ := bcells hsq; go_simp; done) | (obtain ⟨hcq, hfq⟩ := bcells hsq; (try go_simp); (try simp only [↓IntWalk.iteOmega]); (try go_bits); rfl)); clear hK K))
    refine wpMix_m rfl (fun K' hK => ?_)
    go_simp
    refine (cAB.out _).mono ?_
    rintro e v3 ⟨rfl, hbv3⟩
    refine hK.out _ _ ?_ (fun hS => ?_)
    · repeat (first | assumption | exact Grows.refl _ | apply Grows.drew | apply Grows.drewN | refine Grows.alloc ?_ _ | (refine Grows.setCell ?_ (by first | (simp; done) | (simp; omega) | omega) _) | (refine Grows.trans ?_ (by assumption)))
    clear hK hS
    iterate 3 (refine wpMix_q rfl (fun K hK => ?_); go_simp; (try go_bits); first | (refine hK _ ?_; clear hK K) | (apply Exists.intro; refine ⟨fun wq hsq => ?_, hK _ ?_⟩; (first | (go_simp; done) | ((try go_simp); (try simp only [↓IntWalk.iteOmega]); (try go_bits); rfl) | (obtain ⟨hcq, hfq⟩ := bcells hsq; go_simp; done) | (obtain ⟨hcq, hfq⟩ := bcells hsq; (try go_simp); (try simp only [↓IntWalk.iteOmega]); (try go_bits); rfl)); clear hK K))
    refine wpMix_m rfl (fun K' hK => ?_)
    go_simp
    refine (cRA.out _).mono ?_
    rintro e v4 ⟨rfl, hbv4⟩
    refine hK.out _ _ ?_ (fun hS => ?_)
    · repeat (first | assumption | exact Grows.refl _ | apply Grows.drew | apply Grows.drewN | refine Grows.alloc ?_ _ | (refine Grows.setCell ?_ (by first | (simp; done) | (simp; omega) | omega) _) | (refine Grows.trans ?_ (by assumption)))
    clear hK hS
    iterate 2 (refine wpMix_q rfl (fun K hK => ?_); go_simp; (try go_bits); first | (refine hK _ ?_; clear hK K) | (apply Exists.intro; refine ⟨fun wq hsq => ?_, hK _ ?_⟩; (first | (go_simp; done) | ((try go_simp); (try simp only [↓IntWalk.iteOmega]); (try go_bits); rfl) | (obtain ⟨hcq, hfq⟩ := bcells hsq; go_simp; done) | (obtain ⟨hcq, hfq⟩ := bcells hsq; (try go_simp); (try simp only [↓IntWalk.iteOmega]); (try go_bits); rfl)); clear hK K))
    refine wpMix_m rfl (fun K' hK => ?_)
    go_simp
    refine (cRB.out _).mono ?_
    rintro e v5 ⟨rfl, hbv5⟩
    refine hK.out _ _ ?_ (fun hS => ?_)
    · repeat (first | assumption | exact Grows.refl _ | apply Grows.drew | apply Grows.drewN | refine Grows.alloc ?_ _ | (refine Grows.setCell ?_ (by first | (simp; done) | (simp; omega) | omega) _) | (refine Grows.trans ?_ (by assumption)))
    clear hK hS
    iterate 4 (refine wpMix_q rfl (fun K hK => ?_); go_simp; (try go_bits); first | (refine hK _ ?_; clear hK K) | (apply Exists.intro; refine ⟨fun wq hsq => ?_, hK _ ?_⟩; (first | (go_simp; done) | ((try go_simp); (try simp only [↓IntWalk.iteOmega]); (try go_bits); rfl) | (obtain ⟨hcq, hfq⟩ := bcells hsq; go_simp; done) | (obtain ⟨hcq, hfq⟩ := bcells hsq; (try go_simp); (try simp only [↓IntWalk.iteOmega]); (try go_bits); rfl)); clear hK K))
    refine wpMix_nil ?_
    go_wp2
    go_ret
    exact ⟨rfl, by
      repeat (first | assumption | exact Grows.refl _ | apply Grows.drew | apply Grows.drewN | refine Grows.alloc ?_ _ | (refine Grows.setCell ?_ (by first | (simp; done) | (simp; omega) | omega) _) | (refine Grows.trans ?_ (by assumption)))
    ⟩
  · go_wp2_with fail
    refine (cAB.out _).mono ?_
    rintro e w2 ⟨rfl, hbw2⟩
    replace hg := hg.trans hbw2
    replace blA := blA.grows hbw2
    (try clear d0A); (try clear d1A); (try clear sA)
    have d0A := blA.cell 0
    have d1A := blA.cell 1
    have sA := blA.lt
    replace blB := blB.grows hbw2
    (try clear d0B); (try clear d1B); (try clear sB)
    have d0B := blB.cell 0
    have d1B := blB.cell 1
    have sB := blB.lt
    replace blC := blC.grows hbw2
    (try clear d0C); (try clear d1C); (try clear sC)
    have d0C := blC.cell 0
    have d1C := blC.cell 1
    have sC := blC.lt
    clear hbw2
    go_wp2_with fail
    refine (cBA.out _).mono ?_
    rintro e w3 ⟨rfl, hbw3⟩
    replace hg := hg.trans hbw3
    replace blA := blA.grows hbw3
    (try clear d0A); (try clear d1A); (try clear sA)
    have d0A := blA.cell 0
    have d1A := blA.cell 1
    have sA := blA.lt
    replace blB := blB.grows hbw3
    (try clear d0B); (try clear d1B); (try clear sB)
    have d0B := blB.cell 0
    have d1B := blB.cell 1
    have sB := blB.lt
    replace blC := blC.grows hbw3
    (try clear d0C); (try clear d1C); (try clear sC)
    have d0C := blC.cell 0
    have d1C := blC.cell 1
    have sC := blC.lt
    clear hbw3
    go_wp2_with fail
    refine (cAB.out _).mono ?_
    rintro e w4 ⟨rfl, hbw4⟩
    replace hg := hg.trans hbw4
    replace blA := blA.grows hbw4
    (try clear d0A); (try clear d1A); (try clear sA)
    have d0A := blA.cell 0
    have d1A := blA.cell 1
    have sA := blA.lt
    replace blB := blB.grows hbw4
    (try clear d0B); (try clear d1B); (try clear sB)
    have d0B := blB.cell 0
    have d1B := blB.cell 1
    have sB := blB.lt
    replace blC := blC.grows hbw4
    (try clear d0C); (try clear d1C); (try clear sC)
    have d0C := blC.cell 0
    have d1C := blC.cell 1
    have sC := blC.lt
    clear hbw4
    go_wp2_with fail
    refine (cBC.out _).mono ?_
    rintro e w5 ⟨rfl, hbw5⟩
    replace hg := hg.trans hbw5
    replace blA := blA.grows hbw5
    (try clear d0A); (try clear d1A); (try clear sA)
    have d0A := blA.cell 0
    have d1A := blA.cell 1
    have sA := blA.lt
    replace blB := blB.grows hbw5
    (try clear d0B); (try clear d1B); (try clear sB)
    have d0B := blB.cell 0
    have d1B := blB.cell 1
    have sB := blB.lt
    replace blC := blC.grows hbw5
    (try clear d0C); (try clear d1C); (try clear sC)
    have d0C := blC.cell 0
    have d1C := blC.cell 1
    have sC := blC.lt
    clear hbw5
    go_wp2_with fail
    refine wp_region_mixg [(0, true), (1, true), (3, true), (2, false), (4, false), (5, true), (6, true), (7, true), (8, true), (9, false), (10, true), (11, true), (12, true), (13, false), (14, true), (15, true), (16, false), (17, true), (18, true), (19, true), (20, true)] (by kernel_rfl) (by kernel_rfl) rfl (by kernel_rfl) (by intro c a d v w h; cases d <;> exact h) ?_
    iterate 3 (refine wpMix_q rfl (fun K hK => ?_); go_simp; (try go_bits); first | (refine hK _ ?_; clear hK K) | (apply Exists.intro; refine ⟨fun wq hsq => ?_, hK _ ?_⟩; (first | (go_simp; done) | ((try go_simp); (try simp only [↓IntWalk.iteOmega]); (try go_bits); rfl) | (obtain ⟨hcq, hfq⟩ := bcells hsq; go_simp; done) | (obtain ⟨hcq, hfq⟩ := bcells hsq; (try go_simp); (try simp only [↓IntWalk.iteOmega]); (try go_bits); rfl)); clear hK K))
    refine wpMix_m rfl (fun K' hK => ?_)
    go_simp
    refine (cAA.out _).mono ?_
    rintro e v1 ⟨rfl, hbv1⟩
    refine hK.out _ _ ?_ (fun hS => ?_)
    · repeat (first | assumption | exact Grows.refl _ | apply Grows.drew | apply Grows.drewN | refine Grows.alloc ?_ _ | (refine Grows.setCell ?_ (by first | (simp; done) | (simp; omega) | omega) _) | (refine Grows.trans ?_ (by assumption)))
    clear hK hS
    refine wpMix_m rfl (fun K' hK => ?_)
    go_simp
    refine (cRA.out _).mono ?_
    rintro e v2 ⟨rfl, hbv2⟩
    refine hK.out _ _ ?_ (fun hS => ?_)
    · repeat (first | assumption | exact Grows.refl _ | apply Grows.drew | apply Grows.drewN | refine Grows.alloc ?_ _ | (refine Grows.setCell ?_ (by first | (simp; done) | (simp; omega) | omega) _) | (refine Grows.trans ?_ (by assumption)))
    clear hK hS
    iterate 4 (refine wpMix_q rfl (fun K hK => ?_); go_simp; (try go_bits); first | (refine hK _ ?_; clear hK K) | (apply Exists.intro; refine ⟨fun wq hsq => ?_, hK _ ?_⟩; (first | (go_simp; done) | ((try go_simp); (try simp only [↓IntWalk.iteOmega]); (try go_bits); rfl) | (obtain ⟨hcq, hfq⟩ := bcells hsq; go_simp; done) | (obtain ⟨hcq, hfq⟩ := bcells hsq; (try go_simp); (try simp only [↓IntWalk.iteOmega]); (try go_bits); rfl)); clear hK K))
    refine wpMix_m rfl (fun K' hK => ?_)
    go_simp
    refine (cAB.out _).mono ?_
    rintro e v3 ⟨rfl, hbv3⟩
    refine hK.out _ _ ?_ (fun hS => ?_)
    · repeat (first | assumption | exact Grows.refl _ | apply Grows.drew | apply Grows.drewN | refine Grows.alloc ?_ _ | (refine Grows.setCell ?_ (by first | (simp; done) | (simp; omega) | omega) _) | (refine Grows.trans ?_ (by assumption)))
    clear hK hS
    iterate 3 (refine wpMix_q rfl (fun K hK => ?_); go_simp; (try go_bits); first | (refine hK _ ?_; clear hK K) | (apply Exists.intro; refine ⟨fun wq hsq => ?_, hK _ ?_⟩; (first | (go_simp; done) | ((try go_simp); (try simp only [↓IntWalk.iteOmega]); (try go_bits); rfl) | (obtain ⟨hcq, hfq⟩ := bcells hsq; go_simp; done) | (obtain ⟨hcq, hfq⟩ := bcells hsq; (try go_simp); (try simp only [↓IntWalk.iteOmega]); (try go_bits); rfl)); clear hK K))
    refine wpMix_m rfl (fun K' hK => ?_)
    go_simp
    refine (cRA.out _).mono ?_
    rintro e v4 ⟨rfl, hbv4⟩
    refine hK.out _ _ ?_ (fun hS => ?_)
    · repeat (first | assumption | exact Grows.refl _ | apply Grows.drew | apply Grows.drewN | refine Grows.alloc ?_ _ | (refine Grows.setCell ?_ (by first | (simp; done) | (simp; omega) | omega) _) | (refine Grows.trans ?_ (by assumption)))
    clear hK hS
    iterate 2 (refine wpMix_q rfl (fun K hK => ?_); go_simp; (try go_bits); first | (refine hK _ ?_; clear hK K) | (apply Exists.intro; refine ⟨fun wq hsq => ?_, hK _ ?_⟩; (first | (go_simp; done) | ((try go_simp); (try simp only [↓IntWalk.iteOmega]); (try go_bits); rfl) | (obtain ⟨hcq, hfq⟩ := bcells hsq; go_simp; done) | (obtain ⟨hcq, hfq⟩ := bcells hsq; (try go_simp); (try simp only [↓IntWalk.iteOmega]); (try go_bits); rfl)); clear hK K))
    refine wpMix_m rfl (fun K' hK => ?_)
    go_simp
    refine (cRB.out _).mono ?_
    rintro e v5 ⟨rfl, hbv5⟩
    refine hK.out _ _ ?_ (fun hS => ?_)
    · repeat (first | assumption | exact Grows.refl _ | apply Grows.drew | apply Grows.drewN | refine Grows.alloc ?_ _ | (refine Grows.setCell ?_ (by first | (simp; done) | (simp; omega) | omega) _) | (refine Grows.trans ?_ (by assumption)))
    clear hK hS
    iterate 4 (refine wpMix_q rfl (fun K hK => ?_); go_simp; (try go_bits); first | (refine hK _ ?_; clear hK K) | (apply Exists.intro; refine ⟨fun wq hsq => ?_, hK _ ?_⟩; (first | (go_simp; done) | ((try go_simp); (try simp only [↓IntWalk.iteOmega]); (try go_bits); rfl) | (obtain ⟨hcq, hfq⟩ := bcells hsq; go_simp; done) | (obtain ⟨hcq, hfq⟩ := bcells hsq; (try go_simp); (try simp only [↓IntWalk.iteOmega]); (try go_bits); rfl)); clear hK K))
    refine wpMix_nil ?_
    go_wp2
    go_ret
    exact ⟨rfl, by
      repeat (first | assumption | exact Grows.refl _ | apply Grows.drew | apply Grows.drewN | refine Grows.alloc ?_ _ | (refine Grows.setCell ?_ (by first | (simp; done) | (simp; omega) | omega) _) | (refine Grows.trans ?_ (by assumption)))
    ⟩
  · go_wp2_with fail
    refine (cAB.out _).mono ?_
    rintro e w2 ⟨rfl, hbw2⟩
    replace hg := hg.trans hbw2
    replace blA := blA.grows hbw2
    (try clear d0A); (try clear d1A); (try clear sA)
    have d0A := blA.cell 0
    have d1A := blA.cell 1
    have sA := blA.lt
    replace blB := blB.grows hbw2
    (try clear d0B); (try clear d1B); (try clear sB)
    have d0B := blB.cell 0
    have d1B := blB.cell 1
    have sB := blB.lt
    replace blC := blC.grows hbw2
    (try clear d0C); (try clear d1C); (try clear sC)
    have d0C := blC.cell 0
    have d1C := blC.cell 1
    have sC := blC.lt
    clear hbw2
    go_wp2_with fail
    refine (cBA.out _).mono ?_
    rintro e w3 ⟨rfl, hbw3⟩
    replace hg := hg.trans hbw3
    replace blA := blA.grows hbw3
    (try clear d0A); (try clear d1A); (try clear sA)
    have d0A := blA.cell 0
    have d1A := blA.cell 1
    have sA := blA.lt
    replace blB := blB.grows hbw3
    (try clear d0B); (try clear d1B); (try clear sB)
    have d0B := blB.cell 0
    have d1B := blB.cell 1
    have sB := blB.lt
    replace blC := blC.grows hbw3
    (try clear d0C); (try clear d1C); (try clear sC)
    have d0C := blC.cell 0
    have d1C := blC.cell 1
    have sC := blC.lt
    clear hbw3
    go_wp2_with fail
    refine (cAB.out _).mono ?_
    rintro e w4 ⟨rfl, hbw4⟩
    replace hg := hg.trans hbw4
    replace blA := blA.grows hbw4
    (try clear d0A); (try clear d1A); (try clear sA)
    have d0A := blA.cell 0
    have d1A := blA.cell 1
    have sA := blA.lt
    replace blB := blB.grows hbw4
    (try clear d0B); (try clear d1B); (try clear sB)
    have d0B := blB.cell 0
    have d1B := blB.cell 1
    have sB := blB.lt
    replace blC := blC.grows hbw4
    (try clear d0C); (try clear d1C); (try clear sC)
    have d0C := blC.cell 0
    have d1C := blC.cell 1
    have sC := blC.lt
    clear hbw4
    go_wp2_with fail
    refine (cBC.out _).mono ?_
    rintro e w5 ⟨rfl, hbw5⟩
    replace hg := hg.trans hbw5
    replace blA := blA.grows hbw5
    (try clear d0A); (try clear d1A); (try clear sA)
    have d0A := blA.cell 0
    have d1A := blA.cell 1
    have sA := blA.lt
    replace blB := blB.grows hbw5
    (try clear d0B); (try clear d1B); (try clear sB)
    have d0B := blB.cell 0
    have d1B := blB.cell 1
    have sB := blB.lt
    replace blC := blC.grows hbw5
    (try clear d0C); (try clear d1C); (try clear sC)
    have d0C := blC.cell 0
    have d1C := blC.cell 1
    have sC := blC.lt
    clear hbw5
    go_wp2_with fail
    refine (cAC.out _).mono ?_
    rintro e w6 ⟨rfl, hbw6⟩
    replace hg := hg.trans hbw6
    replace blA := blA.grows hbw6
    (try clear d0A); (try clear d1A); (try clear sA)
    have d0A := blA.cell 0
    have d1A := blA.cell 1
    have sA := blA.lt
    replace blB := blB.grows hbw6
    (try clear d0B); (try clear d1B); (try clear sB)
    have d0B := blB.cell 0
    have d1B := blB.cell 1
    have sB := blB.lt
    replace blC := blC.grows hbw6
    (try clear d0C); (try clear d1C); (try clear sC)
    have d0C := blC.cell 0
    have d1C := blC.cell 1
    have sC := blC.lt
    clear hbw6
    go_wp2_with fail
    refine wp_region_mixg [(0, true), (1, true), (3, true), (2, false), (4, false), (5, true), (6, true), (7, true), (8, true), (9, false), (10, true), (11, true), (12, true), (13, false), (14, true), (15, true), (16, false), (17, true), (18, true), (19, true), (20, true)] (by kernel_rfl) (by kernel_rfl) rfl (by kernel_rfl) (by intro c a d v w h; cases d <;> exact h) ?_
    iterate 3 (refine wpMix_q rfl (fun K hK => ?_); go_simp; (try go_bits); first | (refine hK _ ?_; clear hK K) | (apply Exists.intro; refine ⟨fun wq hsq => ?_, hK _ ?_⟩; (first | (go_simp; done) | ((try go_simp); (try simp only [↓IntWalk.iteOmega]); (try go_bits); rfl) | (obtain ⟨hcq, hfq⟩ := bcells hsq; go_simp; done) | (obtain ⟨hcq, hfq⟩ := bcells hsq; (try go_simp); (try simp only [↓IntWalk.iteOmega]); (try go_bits); rfl)); clear hK K))
    refine wpMix_m rfl (fun K' hK => ?_)
    go_simp
    refine (cAA.out _).mono ?_
    rintro e v1 ⟨rfl, hbv1⟩
    refine hK.out _ _ ?_ (fun hS => ?_)
    · repeat (first | assumption | exact Grows.refl _ | apply Grows.drew | apply Grows.drewN | refine Grows.alloc ?_ _ | (refine Grows.setCell ?_ (by first | (simp; done) | (simp; omega) | omega) _) | (refine Grows.trans ?_ (by assumption)))
    clear hK hS
    refine wpMix_m rfl (fun K' hK => ?_)
    go_simp
    refine (cRA.out _).mono ?_
    rintro e v2 ⟨rfl, hbv2⟩
    refine hK.out _ _ ?_ (fun hS => ?_)
    · repeat (first | assumption | exact Grows.refl _ | apply Grows.drew | apply Grows.drewN | refine Grows.alloc ?_ _ | (refine Grows.setCell ?_ (by first | (simp; done) | (simp; omega) | omega) _) | (refine Grows.trans ?_ (by assumption)))
    clear hK hS
    iterate 4 (refine wpMix_q rfl (fun K hK => ?_); go_simp; (try go_bits); first | (refine hK _ ?_; clear hK K) | (apply Exists.intro; refine ⟨fun wq hsq => ?_, hK _ ?_⟩; (first | (go_simp; done) | ((try go_simp); (try simp only [↓IntWalk.iteOmega]); (try go_bits); rfl) | (obtain ⟨hcq, hfq⟩ := bcells hsq; go_simp; done) | (obtain ⟨hcq, hfq⟩ := bcells hsq; (try go_simp); (try simp only [↓IntWalk.iteOmega]); (try go_bits); rfl)); clear hK K))
    refine wpMix_m rfl (fun K' hK => ?_)
    go_simp
    refine (cAB.out _).mono ?_
    rintro e v3 ⟨rfl, hbv3⟩
    refine hK.out _ _ ?_ (fun hS => ?_)
    · repeat (first | assumption | exact Grows.refl _ | apply Grows.drew | apply Grows.drewN | refine Grows.alloc ?_ _ | (refine Grows.setCell ?_ (by first | (simp; done) | (simp; omega) | omega) _) | (refine Grows.trans ?_ (by assumption)))
    clear hK hS
    iterate 3 (refine wpMix_q rfl (fun K hK => ?_); go_simp; (try go_bits); first | (refine hK _ ?_; clear hK K) | (apply Exists.intro; refine ⟨fun wq hsq => ?_, hK _ ?_⟩; (first | (go_simp; done) | ((try go_simp); (try simp only [↓IntWalk.iteOmega]); (try go_bits); rfl) | (obtain ⟨hcq, hfq⟩ := bcells hsq; go_simp; done) | (obtain ⟨hcq, hfq⟩ := bcells hsq; (try go_simp); (try simp only [↓IntWalk.iteOmega]); (try go_bits); rfl)); clear hK K))
    refine wpMix_m rfl (fun K' hK => ?_)
    go_simp
    refine (cRA.out _).mono ?_
    rintro e v4 ⟨rfl, hbv4⟩
    refine hK.out _ _ ?_ (fun hS => ?_)
    · repeat (first | assumption | exact Grows.refl _ | apply Grows.drew | apply Grows.drewN | refine Grows.alloc ?_ _ | (refine Grows.setCell ?_ (by first | (simp; done) | (simp; omega) | omega) _) | (refine Grows.trans ?_ (by assumption)))
    clear hK hS
    iterate 2 (refine wpMix_q rfl (fun K hK => ?_); go_simp; (try go_bits); first | (refine hK _ ?_; clear hK K) | (apply Exists.intro; refine ⟨fun wq hsq => ?_, hK _ ?_⟩; (first | (go_simp; done) | ((try go_simp); (try simp only [↓IntWalk.iteOmega]); (try go_bits); rfl) | (obtain ⟨hcq, hfq⟩ := bcells hsq; go_simp; done) | (obtain ⟨hcq, hfq⟩ := bcells hsq; (try go_simp); (try simp only [↓IntWalk.iteOmega]); (try go_bits); rfl)); clear hK K))
    refine wpMix_m rfl (fun K' hK => ?_)
    go_simp
    refine (cRB.out _).mono ?_
    rintro e v5 ⟨rfl, hbv5⟩
    refine hK.out _ _ ?_ (fun hS => ?_)
    · repeat (first | assumption | exact Grows.refl _ | apply Grows.drew | apply Grows.drewN | refine Grows.alloc ?_ _ | (refine Grows.setCell ?_ (by first | (simp; done) | (simp; omega) | omega) _) | (refine Grows.trans ?_ (by assumption)))
    clear hK hS
    iterate 4 (refine wpMix_q rfl (fun K hK => ?_); go_simp; (try go_bits); first | (refine hK _ ?_; clear hK K) | (apply Exists.intro; refine ⟨fun wq hsq => ?_, hK _ ?_⟩; (first | (go_simp; done) | ((try go_simp); (try simp only [↓IntWalk.iteOmega]); (try go_bits); rfl) | (obtain ⟨hcq, hfq⟩ := bcells hsq; go_simp; done) | (obtain ⟨hcq, hfq⟩ := bcells hsq; (try go_simp); (try simp only [↓IntWalk.iteOmega]); (try go_bits); rfl)); clear hK K))
    refine wpMix_nil ?_
    go_wp2
    go_ret
    exact ⟨rfl, by
      repeat (first | assumption | exact Grows.refl _ | apply Grows.drew | apply Grows.drewN | refine Grows.alloc ?_ _ | (refine Grows.setCell ?_ (by first | (simp; done) | (simp; omega) | omega) _) | (refine Grows.trans ?_ (by assumption)))
    ⟩
  · go_wp2_with fail
    refine (cAB.out _).mono ?_
    rintro e w2 ⟨rfl, hbw2⟩
    replace hg := hg.trans hbw2
    replace blA := blA.grows hbw2
    (try clear d0A); (try clear d1A); (try clear sA)
    have d0A := blA.cell 0
    have d1A := blA.cell 1
    have sA := blA.lt
    replace blB := blB.grows hbw2
    (try clear d0B); (try clear d1B); (try clear sB)
    have d0B := blB.cell 0
    have d1B := blB.cell 1
    have sB := blB.lt
    replace blC := blC.grows hbw2
    (try clear d0C); (try clear d1C); (try clear sC)
    have d0C := blC.cell 0
    have d1C := blC.cell 1
    have sC := blC.lt
    clear hbw2
    go_wp2_with fail
    refine (cBA.out _).mono ?_
    rintro e w3 ⟨rfl, hbw3⟩
    replace hg := hg.trans hbw3
    replace blA := blA.grows hbw3
    (try clear d0A); (try clear d1A); (try clear sA)
    have d0A := blA.cell 0
    have d1A := blA.cell 1
    have sA := blA.lt
    replace blB := blB.grows hbw3
    (try clear d0B); (try clear d1B); (try clear sB)
    have d0B := blB.cell 0
    have d1B := blB.cell 1
    have sB := blB.lt
    replace blC := blC.grows hbw3
    (try clear d0C); (try clear d1C); (try clear sC)
    have d0C := blC.cell 0
    have d1C := blC.cell 1
    have sC := blC.lt
    clear hbw3
    go_wp2_with fail
    refine (cAB.out _).mono ?_
    rintro e w4 ⟨rfl, hbw4⟩
    replace hg := hg.trans hbw4
    replace blA := blA.grows hbw4
    (try clear d0A); (try clear d1A); (try clear sA)
    have d0A := blA.cell 0
    have d1A := blA.cell 1
    have sA := blA.lt
    replace blB := blB.grows hbw4
    (try clear d0B); (try clear d1B); (try clear sB)
    have d0B := blB.cell 0
    have d1B := blB.cell 1
    have sB := blB.lt
    replace blC := blC.grows hbw4
    (try clear d0C); (try clear d1C); (try clear sC)
    have d0C := blC.cell 0
    have d1C := blC.cell 1
    have sC := blC.lt
    clear hbw4
    go_wp2_with fail
    refine (cBC.out _).mono ?_
    rintro e w5 ⟨rfl, hbw5⟩
    replace hg := hg.trans hbw5
    replace blA := blA.grows hbw5
    (try clear d0A); (try clear d1A); (try clear sA)
    have d0A := blA.cell 0
    have d1A := blA.cell 1
    have sA := blA.lt
    replace blB := blB.grows hbw5
    (try clear d0B); (try clear d1B); (try clear sB)
    have d0B := blB.cell 0
    have d1B := blB.cell 1
    have sB := blB.lt
    replace blC := blC.grows hbw5
    (try clear d0C); (try clear d1C); (try clear sC)
    have d0C := blC.cell 0
    have d1C := blC.cell 1
    have sC := blC.lt
    clear hbw5
    go_wp2_with fail
    refine wp_region_mixg [(0, true), (1, true), (3, true), (2, false), (4, false), (5, true), (6, true), (7, true), (8, true), (9, false), (10, true), (11, true), (12, true), (13, false), (14, true), (15, true), (16, false), (17, true), (18, true), (19, true), (20, true)] (by kernel_rfl) (by kernel_rfl) rfl (by kernel_rfl) (by intro c a d v w h; cases d <;> exact h) ?_
    iterate 3 (refine wpMix_q rfl (fun K hK => ?_); go_simp; (try go_bits); first | (refine hK _ ?_; clear hK K) | (apply Exists.intro; refine ⟨fun wq hsq => ?_, hK _ ?_⟩; (first | (go_simp; done) | ((try go_simp); (try simp only [↓IntWalk.iteOmega]); (try go_bits); rfl) | (obtain ⟨hcq, hfq⟩ := bcells hsq; go_simp; done) | (obtain ⟨hcq, hfq⟩ := bcells hsq; (try go_simp); (try simp only [↓IntWalk.iteOmega]); (try go_bits); rfl)); clear hK K))
    refine wpMix_m rfl (fun K' hK => ?_)
    go_simp
    refine (cAA.out _).mono ?_
    rintro e v1 ⟨rfl, hbv1⟩
    refine hK.out _ _ ?_ (fun hS => ?_)
    · repeat (first | assumption | exact Grows.refl _ | apply Grows.drew | apply Grows.drewN | refine Grows.alloc ?_ _ | (refine Grows.setCell ?_ (by first | (simp; done) | (simp; omega) | omega) _) | (refine Grows.trans ?_ (by assumption)))
    clear hK hS
    refine wpMix_m rfl (fun K' hK => ?_)
    go_simp
    refine (cRA.out _).mono ?_
    rintro e v2 ⟨rfl, hbv2⟩
    refine hK.out _ _ ?_ (fun hS => ?_)
    · repeat (first | assumption | exact Grows.refl _ | apply Grows.drew | apply Grows.drewN | refine Grows.alloc ?_ _ | (refine Grows.setCell ?_ (by first | (simp; done) | (simp; omega) | omega) _) | (refine Grows.trans ?_ (by assumption)))
    clear hK hS
    iterate 4 (refine wpMix_q rfl (fun K hK => ?_); go_simp; (try go_bits); first | (refine hK _ ?_; clear hK K) | (apply Exists.intro; refine ⟨fun wq hsq => ?_, hK _ ?_⟩; (first | (go_simp; done) | ((try go_simp); (try simp only [↓IntWalk.iteOmega]); (try go_bits); rfl) | (obtain ⟨hcq, hfq⟩ := bcells hsq; go_simp; done) | (obtain ⟨hcq, hfq⟩ := bcells hsq; (try go_simp); (try simp only [↓IntWalk.iteOmega]); (try go_bits); rfl)); clear hK K))
    refine wpMix_m rfl (fun K' hK => ?_)
    go_simp
    refine (cAB.out _).mono ?_
    rintro e v3 ⟨rfl, hbv3⟩
    refine hK.out _ _ ?_ (fun hS => ?_)
    · repeat (first | assumption | exact Grows.refl _ | apply Grows.drew | apply Grows.drewN | refine Grows.alloc ?_ _ | (refine Grows.setCell ?_ (by first | (simp; done) | (simp; omega) | omega) _) | (refine Grows.trans ?_ (by assumption)))
    clear hK hS
    iterate 3 (refine wpMix_q rfl (fun K hK => ?_); go_simp; (try go_bits); first | (refine hK _ ?_; clear hK K) | (apply Exists.intro; refine ⟨fun wq hsq => ?_, hK _ ?_⟩; (first | (go_simp; done) | ((try go_simp); (try simp only [↓IntWalk.iteOmega]); (try go_bits); rfl) | (obtain ⟨hcq, hfq⟩ := bcells hsq; go_simp; done) | (obtain ⟨hcq, hfq⟩ := bcells hsq; (try go_simp); (try simp only [↓IntWalk.iteOmega]); (try go_bits); rfl)); clear hK K))
    refine wpMix_m rfl (fun K' hK => ?_)
    go_simp
    refine (cRA.out _).mono ?_
    rintro e v4 ⟨rfl, hbv4⟩
    refine hK.out _ _ ?_ (fun hS => ?_)
    · repeat (first | assumption | exact Grows.refl _ | apply Grows.drew | apply Grows.drewN | refine Grows.alloc ?_ _ | (refine Grows.setCell ?_ (by first | (simp; done) | (simp; omega) | omega) _) | (refine Grows.trans ?_ (by assumption)))
    clear hK hS
    iterate 2 (refine wpMix_q rfl (fun K hK => ?_); go_simp; (try go_bits); first | (refine hK _ ?_; clear hK K) | (apply Exists.intro; refine ⟨fun wq hsq => ?_, hK _ ?_⟩; (first | (go_simp; done) | ((try go_simp); (try simp only [↓IntWalk.iteOmega]); (try go_bits); rfl) | (obtain ⟨hcq, hfq⟩ := bcells hsq; go_simp; done) | (obtain ⟨hcq, hfq⟩ := bcells hsq; (try go_simp); (try simp only [↓IntWalk.iteOmega]); (try go_bits); rfl)); clear hK K))
    refine wpMix_m rfl (fun K' hK => ?_)
    go_simp
    refine (cRB.out _).mono ?_
    rintro e v5 ⟨rfl, hbv5⟩
    refine hK.out _ _ ?_ (fun hS => ?_)
    · repeat (first | assumption | exact Grows.refl _ | apply Grows.drew | apply Grows.drewN | refine Grows.alloc ?_ _ | (refine Grows.setCell ?_ (by first | (simp; done) | (simp; omega) | omega) _) | (refine Grows.trans ?_ (by assumption)))
    clear hK hS
    iterate 4 (refine wpMix_q rfl (fun K hK => ?_); go_simp; (try go_bits); first | (refine hK _ ?_; clear hK K) | (apply Exists.intro; refine ⟨fun wq hsq => ?_, hK _ ?_⟩; (first | (go_simp; done) | ((try go_simp); (try simp only [↓IntWalk.iteOmega]); (try go_bits); rfl) | (obtain ⟨hcq, hfq⟩ := bcells hsq; go_simp; done) | (obtain ⟨hcq, hfq⟩ := bcells hsq; (try go_simp); (try simp only [↓IntWalk.iteOmega]); (try go_bits); rfl)); clear hK K))
    refine wpMix_nil ?_
    go_wp2
    go_ret
    exact ⟨rfl, by
      repeat (first | assumption | exact Grows.refl _ | apply Grows.drew | apply Grows.drewN | refine Grows.alloc ?_ _ | (refine Grows.setCell ?_ (by first | (simp; done) | (simp; omega) | omega) _) | (refine Grows.trans ?_ (by assumption)))
    ⟩
  · go_wp2_with fail
    refine (cAB.out _).mono ?_
    rintro e w2 ⟨rfl, hbw2⟩
    replace hg := hg.trans hbw2
    replace blA := blA.grows hbw2
    (try clear d0A); (try clear d1A); (try clear sA)
    have d0A := blA.cell 0
    have d1A := blA.cell 1
    have sA := blA.lt
    replace blB := blB.grows hbw2
    (try clear d0B); (try clear d1B); (try clear sB)
    have d0B := blB.cell 0
    have d1B := blB.cell 1
    have sB := blB.lt
    replace blC := blC.grows hbw2
    (try clear d0C); (try clear d1C); (try clear sC)
    have d0C := blC.cell 0
    have d1C := blC.cell 1
    have sC := blC.lt
    clear hbw2
    go_wp2_with fail
    refine (cAB.out _).mono ?_
    rintro e w4 ⟨rfl, hbw4⟩
    replace hg := hg.trans hbw4
    replace blA := blA.grows hbw4
    (try clear d0A); (try clear d1A); (try clear sA)
    have d0A := blA.cell 0
    have d1A := blA.cell 1
    have sA := blA.lt
    replace blB := blB.grows hbw4
    (try clear d0B); (try clear d1B); (try clear sB)
    have d0B := blB.cell 0
    have d1B := blB.cell 1
    have sB := blB.lt
    replace blC := blC.grows hbw4
    (try clear d0C); (try clear d1C); (try clear sC)
    have d0C := blC.cell 0
    have d1C := blC.cell 1
    have sC := blC.lt
    clear hbw4
    go_wp2_with fail
    refine wp_region_mixg [(0, true), (1, true), (3, true), (2, false), (4, false), (5, true), (6, true), (7, true), (8, true), (9, false), (10, true), (11, true), (12, true), (13, false), (14, true), (15, true), (16, false), (17, true), (18, true), (19, true), (20, true)] (by kernel_rfl) (by kernel_rfl) rfl (by kernel_rfl) (by intro c a d v w h; cases d <;> exact h) ?_
    iterate 3 (refine wpMix_q rfl (fun K hK => ?_); go_simp; (try go_bits); first | (refine hK _ ?_; clear hK K) | (apply Exists.intro; refine ⟨fun wq hsq => ?_, hK _ ?_⟩; (first | (go_simp; done) | ((try go_simp); (try simp only [↓IntWalk.iteOmega]); (try go_bits); rfl) | (obtain ⟨hcq, hfq⟩ := bcells hsq; go_simp; done) | (obtain ⟨hcq, hfq⟩ := bcells hsq; (try go_simp); (try simp only [↓IntWalk.iteOmega]); (try go_bits); rfl)); clear hK K))
    refine wpMix_m rfl (fun K' hK => ?_)
    go_simp
    refine (cAA.out _).mono ?_
    rintro e v1 ⟨rfl, hbv1⟩
    refine hK.out _ _ ?_ (fun hS => ?_)
    · repeat (first | assumption | exact Grows.refl _ | apply Grows.drew | apply Grows.drewN | refine Grows.alloc ?_ _ | (refine Grows.setCell ?_ (by first | (simp; done) | (simp; omega) | omega) _) | (refine Grows.trans ?_ (by assumption)))
    clear hK hS
    refine wpMix_m rfl (fun K' hK => ?_)
    go_simp
    refine (cRA.out _).mono ?_
    rintro e v2 ⟨rfl, hbv2⟩
    refine hK.out _ _ ?_ (fun hS => ?_)
    · repeat (first | assumption | exact Grows.refl _ | apply Grows.drew | apply Grows.drewN | refine Grows.alloc ?_ _ | (refine Grows.setCell ?_ (by first | (simp; done) | (simp; omega) | omega) _) | (refine Grows.trans ?_ (by assumption)))
    clear hK hS
    iterate 4 (refine wpMix_q rfl (fun K hK => ?_); go_simp; (try go_bits); first | (refine hK _ ?_; clear hK K) | (apply Exists.intro; refine ⟨fun wq hsq => ?_, hK _ ?_⟩; (first | (go_simp; done) | ((try go_simp); (try simp only [↓IntWalk.iteOmega]); (try go_bits); rfl) | (obtain ⟨hcq, hfq⟩ := bcells hsq; go_simp; done) | (obtain ⟨hcq, hfq⟩ := bcells hsq; (try go_simp); (try simp only [↓IntWalk.iteOmega]); (try go_bits); rfl)); clear hK K))
    refine wpMix_m rfl (fun K' hK => ?_)
    go_simp
    refine (cAB.out _).mono ?_
    rintro e v3 ⟨rfl, hbv3⟩
    refine hK.out _ _ ?_ (fun hS => ?_)
    · repeat (first | assumption | exact Grows.refl _ | apply Grows.drew | apply Grows.drewN | refine Grows.alloc ?_ _ | (refine Grows.setCell ?_ (by first | (simp; done) | (simp; omega) | omega) _) | (refine Grows.trans ?_ (by assumption)))
    clear hK hS
    iterate 3 (refine wpMix_q rfl (fun K hK => ?_); go_simp; (try go_bits); first | (refine hK _ ?_; clear hK K) | (apply Exists.intro; refine ⟨fun wq hsq => ?_, hK _ ?_⟩; (first | (go_simp; done) | ((try go_simp); (try simp only [↓IntWalk.iteOmega]); (try go_bits); rfl) | (obtain ⟨hcq, hfq⟩ := bcells hsq; go_simp; done) | (obtain ⟨hcq, hfq⟩ := bcells hsq; (try go_simp); (try simp only [↓IntWalk.iteOmega]); (try go_bits); rfl)); clear hK K))
    refine wpMix_m rfl (fun K' hK => ?_)
    go_simp
    refine hK.out _ _ ?_ (fun hS => ?_)
    · repeat (first | assumption | exact Grows.refl _ | apply Grows.drew | apply Grows.drewN | refine Grows.alloc ?_ _ | (refine Grows.setCell ?_ (by first | (simp; done) | (simp; omega) | omega) _) | (refine Grows.trans ?_ (by assumption)))
    clear hK hS
    iterate 2 (refine wpMix_q rfl (fun K hK => ?_); go_simp; (try go_bits); first | (refine hK _ ?_; clear hK K) | (apply Exists.intro; refine ⟨fun wq hsq => ?_, hK _ ?_⟩; (first | (go_simp; done) | ((try go_simp); (try simp only [↓IntWalk.iteOmega]); (try go_bits); rfl) | (obtain ⟨hcq, hfq⟩ := bcells hsq; go_simp; done) | (obtain ⟨hcq, hfq⟩ := bcells hsq; (try go_simp); (try simp only [↓IntWalk.iteOmega]); (try go_bits); rfl)); clear hK K))
    refine wpMix_m rfl (fun K' hK => ?_)
    go_simp
    refine hK.out _ _ ?_ (fun hS => ?_)
    · repeat (first | assumption | exact Grows.refl _ | apply Grows.drew | apply Grows.drewN | refine Grows.alloc ?_ _ | (refine Grows.setCell ?_ (by first | (simp; done) | (simp; omega) | omega) _) | (refine Grows.trans ?_ (by assumption)))
    clear hK hS
    iterate 4 (refine wpMix_q rfl (fun K hK => ?_); go_simp; (try go_bits); first | (refine hK _ ?_; clear hK K) | (apply Exists.intro; refine ⟨fun wq hsq => ?_, hK _ ?_⟩; (first | (go_simp; done) | ((try go_simp); (try simp only [↓IntWalk.iteOmega]); (try go_bits); rfl) | (obtain ⟨hcq, hfq⟩ := bcells hsq; go_simp; done) | (obtain ⟨hcq, hfq⟩ := bcells hsq; (try go_simp); (try simp only [↓IntWalk.iteOmega]); (try go_bits); rfl)); clear hK K))
    refine wpMix_nil ?_
    go_wp2
    go_ret
    exact ⟨rfl, by
      repeat (first | assumption | exact Grows.refl _ | apply Grows.drew | apply Grows.drewN | refine Grows.alloc ?_ _ | (refine Grows.setCell ?_ (by first | (simp; done) | (simp; omega) | omega) _) | (refine Grows.trans ?_ (by assumption)))
    ⟩
end Go.Proofs.YtfppagcifcppaaaDoor
