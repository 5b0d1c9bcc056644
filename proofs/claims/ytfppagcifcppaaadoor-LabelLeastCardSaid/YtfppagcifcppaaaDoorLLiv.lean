/- Labels: the document's example holds. -/
import Derived.Test.YtfppagcifcppaaaDoorLabS
import Derived.Test.YtfppagcifcppaaaDoorLabF
namespace Go.Proofs.YtfppagcifcppaaaDoor
open Go.RowKit

instance (x : Lab) : Decidable x.ok := inferInstanceAs (Decidable (_ < _))
theorem lex_text : labText ⟨2, 9⟩ = [50, 43, 48, 44, 51] := by
  have h : teams 9 = [0, 3] := by decide
  unfold labText
  rw [h]
  show Lib.decDigits 2 ++ (if (9 : Nat) = 0 then [] else 43 :: Lib.join [Lib.decDigits 0, Lib.decDigits 3] [44]) = _
  rw [Lib.decDigits_one (by decide), Lib.decDigits_one (by decide), Lib.decDigits_one (by decide)]
  rfl
theorem lex_read {x : Lab} {e : Int} (h : LabIs [50, 43, 48, 44, 51] x e) : x = ⟨2, 9⟩ ∧ e = 0 := h.one (.inl ⟨rfl, by decide, by decide, lex_text⟩)
set_option maxRecDepth 100000 in
set_option maxHeartbeats 1600000 in
theorem llives_any (w : World) (he : LibEnv w) :
    Calls Tryd.prog 37 #[] w fun e w' => e = .returned (.bool true) ∧ Grows w w' := by
  have cJ : ∀ W, Calls Tryd.prog 46 #[.agg #[.int .i64 1, .int .u32 8], .agg #[.int .i64 2, .int .u32 1]] W fun e w' => e = .returned (.agg #[.int .i64 2, .int .u32 9]) ∧ Grows W w' := fun W => by
    have h := lJoin_any ⟨1, 8⟩ ⟨2, 1⟩ W (by decide) (by decide)
    rw [show joinL ⟨1, 8⟩ ⟨2, 1⟩ = ⟨2, 9⟩ from by rw [joinL_yes (by decide) (by decide)]; decide] at h
    exact h
  have cT : ∀ W, Grows w W → Calls Tryd.prog 38 #[.agg #[.int .i64 2, .int .u32 9]] W fun e w' => e = .returned (.tuple #[.string ⟨#[50, 43, 48, 44, 51]⟩, .int .i64 0]) ∧ Grows W w' := fun W hW => by
    have h := lText_any ⟨2, 9⟩ W (by decide) (he.grows hW)
    unfold LTextPost at h
    rw [show labTextV ⟨2, 9⟩ = [50, 43, 48, 44, 51] from by unfold labTextV; rw [if_pos (by decide)]; exact lex_text, show labErr ⟨2, 9⟩ = 0 from by decide] at h
    exact h
  have cR : ∀ W, Grows w W → Calls Tryd.prog 40 #[.string ⟨#[50, 43, 48, 44, 51]⟩] W fun e w' => e = .returned (.tuple #[.agg #[.int .i64 2, .int .u32 9], .int .i64 0]) ∧ Grows W w' := fun W hW => by
    refine (lRead_any [50, 43, 48, 44, 51] (by simp) W (he.grows hW)).mono ?_
    rintro e w' ⟨x, err, rfl, hr, hg⟩
    obtain ⟨rfl, rfl⟩ := lex_read hr
    exact ⟨rfl, hg⟩
  have c1 : ∀ W, Calls Tryd.prog 42 #[.agg #[.int .i64 1, .int .u32 8], .agg #[.int .i64 2, .int .u32 9]] W fun e w' => e = .returned (.bool true) ∧ Grows W w' := fun W => by
    have h := lFlows_any ⟨1, 8⟩ ⟨2, 9⟩ W (by decide) (by decide)
    rw [show flowsL ⟨1, 8⟩ ⟨2, 9⟩ = true from by decide] at h
    exact h
  have c2 : ∀ W, Calls Tryd.prog 42 #[.agg #[.int .i64 2, .int .u32 9], .agg #[.int .i64 1, .int .u32 8]] W fun e w' => e = .returned (.bool false) ∧ Grows W w' := fun W => by
    have h := lFlows_any ⟨2, 9⟩ ⟨1, 8⟩ W (by decide) (by decide)
    rw [show flowsL ⟨2, 9⟩ ⟨1, 8⟩ = false from by decide] at h
    exact h
  replace cJ := Lib.hid cJ
  replace cT := Lib.hid cT
  replace cR := Lib.hid cR
  replace c1 := Lib.hid c1
  replace c2 := Lib.hid c2
  clear he
  go_enter Tryd.func37, Tryd.ntmps37
  go_wp2_with fail
  refine (cJ.out _).mono ?_
  rintro e w1 ⟨rfl, hb1⟩
  have blA : Blk w1 w.heap.size 62 #[.int .i64 1, .int .u32 8] := ((Blk.new w _ _).alloc _).grows hb1
  have blB : Blk w1 (w.heap.size + 1) 62 #[.int .i64 2, .int .u32 1] := (Blk.new1 w _ _ _).grows hb1
  have hg : Grows w w1 := (((Grows.refl _).alloc _).alloc _).trans hb1
  clear hb1
  go_wp2_with fail
  refine (cT.out _ hg).mono ?_
  rintro e w2 ⟨rfl, hb2⟩
  replace blA := blA.grows hb2
  replace blB := blB.grows hb2
  replace hg := hg.trans hb2
  clear hb2
  go_wp2_with fail
  refine (cR.out _ hg).mono ?_
  rintro e w3 ⟨rfl, hb3⟩
  replace blA := (blA.grows hb3).alloc (.cells #[.int .i64 2, .int .u32 9] 62)
  replace blB := (blB.grows hb3).alloc (.cells #[.int .i64 2, .int .u32 9] 62)
  have blC := Blk.new w3 62 #[.int .i64 2, .int .u32 9]
  replace hg := (hg.trans hb3).alloc (.cells #[.int .i64 2, .int .u32 9] 62)
  clear hb3
  have a0 := blA.cell 0
  have a1 := blA.cell 1
  have sA := blA.lt
  have b0 := blB.cell 0
  have b1 := blB.cell 1
  have sB := blB.lt
  have c0 := blC.cell 0
  have c1' := blC.cell 1
  have sC := blC.lt
  go_wp2_with fail
  generalize w3.alloc (.cells #[.int .i64 2, .int .u32 9] 62) = W4 at *
  refine wp_region_mixg [(0, true), (1, true), (2, true), (3, true), (4, true), (5, true), (6, true), (7, true), (8, true), (9, true), (10, true), (11, true), (12, true), (13, true), (14, false), (15, true), (16, true), (17, true), (18, true), (19, true), (20, false), (21, true), (22, true), (23, true), (24, true), (25, false), (26, true), (27, true), (28, true)] (by kernel_rfl) (by kernel_rfl) rfl (by kernel_rfl) (by intro c a d v w h; cases d <;> exact h) ?_
  iterate 14 (refine wpMix_q rfl (fun K hK => ?_); go_simp; (try go_bits); first | (refine hK _ ?_; clear hK K) | (apply Exists.intro; refine ⟨fun wq hsq => ?_, hK _ ?_⟩; (first | (go_simp; done) | ((try go_simp); (try simp only [↓IntWalk.iteOmega]); (try go_bits); rfl) | (obtain ⟨hcq, hfq⟩ := bcells hsq; go_simp; done) | (obtain ⟨hcq, hfq⟩ := bcells hsq; (try go_simp); (try simp only [↓IntWalk.iteOmega]); (try go_bits); rfl)); clear hK K))
  refine wpMix_m rfl (fun K' hK => ?_)
  go_simp
  refine (cJ.out _).mono ?_
  rintro e w4 ⟨rfl, hb4⟩
  refine hK.out _ _ ?_ (fun hS => ?_)
  · repeat (first | assumption | exact Grows.refl _ | apply Grows.drew | apply Grows.drewN | refine Grows.alloc ?_ _ | (refine Grows.setCell ?_ (by first | (simp; done) | (simp; omega) | omega) _) | (refine Grows.trans ?_ (by assumption)))
  clear hK hS
  iterate 5 (refine wpMix_q rfl (fun K hK => ?_); go_simp; (try go_bits); first | (refine hK _ ?_; clear hK K) | (apply Exists.intro; refine ⟨fun wq hsq => ?_, hK _ ?_⟩; (first | (go_simp; done) | ((try go_simp); (try simp only [↓IntWalk.iteOmega]); (try go_bits); rfl) | (obtain ⟨hcq, hfq⟩ := bcells hsq; go_simp; done) | (obtain ⟨hcq, hfq⟩ := bcells hsq; (try go_simp); (try simp only [↓IntWalk.iteOmega]); (try go_bits); rfl)); clear hK K))
  refine wpMix_m rfl (fun K' hK => ?_)
  go_simp
  refine (c1.out _).mono ?_
  rintro e w5 ⟨rfl, hb5⟩
  refine hK.out _ _ ?_ (fun hS => ?_)
  · repeat (first | assumption | exact Grows.refl _ | apply Grows.drew | apply Grows.drewN | refine Grows.alloc ?_ _ | (refine Grows.setCell ?_ (by first | (simp; done) | (simp; omega) | omega) _) | (refine Grows.trans ?_ (by assumption)))
  clear hK hS
  iterate 4 (refine wpMix_q rfl (fun K hK => ?_); go_simp; (try go_bits); first | (refine hK _ ?_; clear hK K) | (apply Exists.intro; refine ⟨fun wq hsq => ?_, hK _ ?_⟩; (first | (go_simp; done) | ((try go_simp); (try simp only [↓IntWalk.iteOmega]); (try go_bits); rfl) | (obtain ⟨hcq, hfq⟩ := bcells hsq; go_simp; done) | (obtain ⟨hcq, hfq⟩ := bcells hsq; (try go_simp); (try simp only [↓IntWalk.iteOmega]); (try go_bits); rfl)); clear hK K))
  refine wpMix_m rfl (fun K' hK => ?_)
  go_simp
  refine (c2.out _).mono ?_
  rintro e w6 ⟨rfl, hb6⟩
  refine hK.out _ _ ?_ (fun hS => ?_)
  · repeat (first | assumption | exact Grows.refl _ | apply Grows.drew | apply Grows.drewN | refine Grows.alloc ?_ _ | (refine Grows.setCell ?_ (by first | (simp; done) | (simp; omega) | omega) _) | (refine Grows.trans ?_ (by assumption)))
  clear hK hS
  iterate 3 (refine wpMix_q rfl (fun K hK => ?_); go_simp; (try go_bits); first | (refine hK _ ?_; clear hK K) | (apply Exists.intro; refine ⟨fun wq hsq => ?_, hK _ ?_⟩; (first | (go_simp; done) | ((try go_simp); (try simp only [↓IntWalk.iteOmega]); (try go_bits); rfl) | (obtain ⟨hcq, hfq⟩ := bcells hsq; go_simp; done) | (obtain ⟨hcq, hfq⟩ := bcells hsq; (try go_simp); (try simp only [↓IntWalk.iteOmega]); (try go_bits); rfl)); clear hK K))
  refine wpMix_nil ?_
  go_wp2
  go_ret
  exact ⟨rfl, by
    repeat (first | assumption | exact Grows.refl _ | apply Grows.drew | apply Grows.drewN | refine Grows.alloc ?_ _ | (refine Grows.setCell ?_ (by first | (simp; done) | (simp; omega) | omega) _) | (refine Grows.trans ?_ (by assumption)))
  ⟩
end Go.Proofs.YtfppagcifcppaaaDoor
