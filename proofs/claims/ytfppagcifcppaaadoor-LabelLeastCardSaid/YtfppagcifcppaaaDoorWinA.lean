/- Windows: contracts of the small functions (Right, time, place, In) and of the reference's. -/
import Derived.Test.YtfppagcifcppaaaDoorKit
namespace Go.Proofs.YtfppagcifcppaaaDoor
open Go.RowKit

def WRight (p f l : Int) : Prop := 0 < p ∧ p ≤ 100000 ∧ 0 ≤ f ∧ f < p ∧ 0 < l ∧ l ≤ p
def wRight (p f l : Int) : Bool := decide (0 < p ∧ p ≤ 100000 ∧ 0 ≤ f ∧ f < p ∧ 0 < l ∧ l ≤ p)
theorem wRight_iff {p f l : Int} : wRight p f l = true ↔ WRight p f l := by simp only [wRight, WRight, decide_eq_true_eq]

set_option maxHeartbeats 400000 in
theorem right_any (p f l : Int) (w : World) :
    Calls Tryd.prog 29 #[.agg #[.int .i64 p, .int .i64 f, .int .i64 l]] w fun e w' => e = .returned (.bool (wRight p f l)) ∧ Grows w w' := by
  go_enter Tryd.func29, Tryd.ntmps29
  go_wp2
  all_goals go_ret
  all_goals refine ⟨ret_bool ?_, (Grows.refl _).alloc _⟩
  all_goals (rw [Bool.eq_iff_iff]; rw [wRight_iff]; unfold WRight; simp only [decide_eq_true_eq, Bool.false_eq_true, false_iff]; omega)

def wTime (n : Int) : Bool := decide (0 ≤ n ∧ n ≤ 1099511627776)
set_option maxHeartbeats 400000 in
theorem time_any (n : Int) (w : World) :
    Calls Tryd.prog 60 #[.int .i64 n] w fun e w' => e = .returned (.bool (wTime n)) ∧ w' = w := by
  go_enter Tryd.func60, Tryd.ntmps60
  go_wp2
  all_goals go_ret
  all_goals refine ⟨ret_bool ?_, rfl⟩
  all_goals (rw [Bool.eq_iff_iff]; simp [wTime]; omega)

set_option maxHeartbeats 400000 in
theorem place_any (p f l n : Int) (w : World) (h : WRight p f l) (h0 : 0 ≤ n) (h1 : n ≤ 1099511627776) :
    Calls Tryd.prog 61 #[.agg #[.int .i64 p, .int .i64 f, .int .i64 l], .int .i64 n] w fun e w' => e = .returned (.int .i64 ((n - f) % p)) ∧ Grows w w' := by
  obtain ⟨g1, g2, g3, g4, g5, g6⟩ := h
  have m0 := Int.emod_nonneg n (show p ≠ 0 by omega)
  have m1 := Int.emod_lt_of_pos n g1
  go_enter Tryd.func61, Tryd.ntmps61
  go_wp2
  go_quiet (fail)
  go_wp2
  go_ret
  exact ⟨ret_int (by simp), ((Grows.refl _).alloc _).drewN _⟩

def wIn (p f l n : Int) : Bool := wRight p f l && wTime n && decide ((n - f) % p < l)
theorem wIn_no {p f l n : Int} (h : wRight p f l = false) : wIn p f l n = false := by simp [wIn, h]
set_option maxHeartbeats 400000 in
theorem in_any (p f l n : Int) (w : World) :
    Calls Tryd.prog 30 #[.agg #[.int .i64 p, .int .i64 f, .int .i64 l], .int .i64 n] w fun e w' => e = .returned (.bool (wIn p f l n)) ∧ Grows w w' := by
  have cR := fun w => right_any p f l w
  have cT := fun w => time_any n w
  cases hr : wRight p f l
  · rw [hr] at cR
    have hfin : wIn p f l n = false := by simp [wIn, hr]
    rw [hfin]
    clear hfin hr
    replace cR := Lib.hid cR
    go_enter Tryd.func30, Tryd.ntmps30
    go_wp2_with fail
    refine wp_region_bel (by kernel_rfl) (by kernel_rfl) ?_
    repeat (refine wpQuiet_step (fun K hK => ?_); go_simp; first | (refine hK _ ?_; clear hK K) | (apply Exists.intro; refine ⟨fun wq hbq => ?_, hK _ ?_⟩; (first | (go_at_call 29; exact Calls.bel hbq (cR.out _)) | (obtain ⟨hcq, hfq⟩ := bcells hbq; go_simp; done) | (obtain ⟨hcq, hfq⟩ := bcells hbq; go_simp; exact ⟨rfl, rfl⟩) | (obtain ⟨hcq, hfq⟩ := bcells hbq; go_simp; rfl)); clear hK K))
    refine wpQuiet_nil ?_
    intro w1 hbw1
    go_wp2
    go_ret
    exact ⟨rfl, ((Grows.refl _).alloc _).trans hbw1⟩
  cases ht : wTime n
  · rw [hr] at cR
    rw [ht] at cT
    have hfin : wIn p f l n = false := by simp [wIn, ht]
    rw [hfin]
    clear hfin hr ht
    replace cR := Lib.hid cR
    replace cT := Lib.hid cT
    go_enter Tryd.func30, Tryd.ntmps30
    go_wp2_with fail
    refine wp_region_bel (by kernel_rfl) (by kernel_rfl) ?_
    repeat (refine wpQuiet_step (fun K hK => ?_); go_simp; first | (refine hK _ ?_; clear hK K) | (apply Exists.intro; refine ⟨fun wq hbq => ?_, hK _ ?_⟩; (first | (go_at_call 29; exact Calls.bel hbq (cR.out _)) | (go_at_call 60; exact Calls.bel_same hbq (cT.out _)) | (obtain ⟨hcq, hfq⟩ := bcells hbq; go_simp; done) | (obtain ⟨hcq, hfq⟩ := bcells hbq; go_simp; exact ⟨rfl, rfl⟩) | (obtain ⟨hcq, hfq⟩ := bcells hbq; go_simp; rfl)); clear hK K))
    refine wpQuiet_nil ?_
    intro w1 hbw1
    go_wp2
    go_ret
    exact ⟨rfl, ((Grows.refl _).alloc _).trans hbw1⟩
  · rw [hr] at cR
    rw [ht] at cT
    have hfin : wIn p f l n = decide ((n - f) % p < l) := by simp [wIn, hr, ht]
    have cP := fun w => place_any p f l n w (wRight_iff.1 hr) (by simp [wTime] at ht; omega) (by simp [wTime] at ht; omega)
    rw [hfin]
    clear hfin hr ht
    replace cR := Lib.hid cR
    replace cT := Lib.hid cT
    replace cP := Lib.hid cP
    go_enter Tryd.func30, Tryd.ntmps30
    go_wp2_with fail
    refine wp_region_bel (by kernel_rfl) (by kernel_rfl) ?_
    repeat (refine wpQuiet_step (fun K hK => ?_); go_simp; first | (refine hK _ ?_; clear hK K) | (apply Exists.intro; refine ⟨fun wq hbq => ?_, hK _ ?_⟩; (first | (go_at_call 29; exact Calls.bel hbq (cR.out _)) | (go_at_call 60; exact Calls.bel_same hbq (cT.out _)) | (go_at_call 61; exact Calls.bel hbq (cP.out _)) | (obtain ⟨hcq, hfq⟩ := bcells hbq; go_simp; done) | (obtain ⟨hcq, hfq⟩ := bcells hbq; go_simp; exact ⟨rfl, rfl⟩) | (obtain ⟨hcq, hfq⟩ := bcells hbq; go_simp; rfl)); clear hK K))
    refine wpQuiet_nil ?_
    intro w1 hbw1
    go_wp2
    go_ret
    exact ⟨rfl, ((Grows.refl _).alloc _).trans hbw1⟩

set_option maxHeartbeats 400000 in
theorem refRight_any (p f l : Int) (w : World) :
    Calls Tryd.prog 35 #[.agg #[.int .i64 p, .int .i64 f, .int .i64 l]] w fun e w' => e = .returned (.bool (wRight p f l)) ∧ Grows w w' := by
  go_enter Tryd.func35, Tryd.ntmps35
  go_wp2
  all_goals go_ret
  all_goals refine ⟨ret_bool ?_, (Grows.refl _).alloc _⟩
  all_goals (rw [Bool.eq_iff_iff]; rw [wRight_iff]; unfold WRight; simp only [decide_eq_true_eq, Bool.false_eq_true, false_iff]; omega)

theorem refIn_eq {p f l n : Int} (h : WRight p f l) : decide ((n - f) % p < l) = if n % p < f then decide (n % p + p < f + l) else decide (n % p < f + l) := by
  obtain ⟨g1, g2, g3, g4, g5, g6⟩ := h
  have m0 := Int.emod_nonneg n (show p ≠ 0 by omega)
  have m1 := Int.emod_lt_of_pos n g1
  have e : (n - f) % p = (n % p - f) % p := by rw [Int.emod_sub_emod]
  rw [e]
  split
  · rename_i h
    have : (n % p - f) % p = n % p - f + p := by
      rw [← Int.add_emod_right, Int.emod_eq_of_lt (by omega) (by omega)]
    rw [this]; congr 1; simp only [eq_iff_iff]; omega
  · rename_i h
    have : (n % p - f) % p = n % p - f := Int.emod_eq_of_lt (by omega) (by omega)
    rw [this]; congr 1; simp only [eq_iff_iff]; omega

set_option maxHeartbeats 800000 in
theorem refIn_any (p f l n : Int) (w : World) :
    Calls Tryd.prog 36 #[.agg #[.int .i64 p, .int .i64 f, .int .i64 l], .int .i64 n] w fun e w' => e = .returned (.bool (wIn p f l n)) ∧ Grows w w' := by
  have cR := fun w => refRight_any p f l w
  cases hr : wRight p f l
  · rw [hr] at cR
    have hfin : wIn p f l n = false := by simp [wIn, hr]
    rw [hfin]
    clear hfin hr
    go_enter Tryd.func36, Tryd.ntmps36
    go_wp2_with (go_at_call 35; refine (cR _).mono ?_; rintro e w1 ⟨rfl, hb⟩)
    go_ret
    exact ⟨rfl, ((Grows.refl _).alloc _).trans hb⟩
  · rw [hr] at cR
    have hR := wRight_iff.1 hr
    have hI : 0 ≤ n → n ≤ 1099511627776 → wIn p f l n = if n % p < f then decide (n % p + p < f + l) else decide (n % p < f + l) := fun h0 h1 => by
      rw [← refIn_eq hR]; simp [wIn, hr, wTime, h0, h1]
    have hN : ¬ (0 ≤ n ∧ n ≤ 1099511627776) → wIn p f l n = false := fun h => by simp [wIn, wTime, h]
    replace hI := Lib.hid hI
    replace hN := Lib.hid hN
    obtain ⟨g1, g2, g3, g4, g5, g6⟩ := hR
    have m0 := Int.emod_nonneg n (show p ≠ 0 by omega)
    have m1 := Int.emod_lt_of_pos n g1
    clear hr
    go_enter Tryd.func36, Tryd.ntmps36
    go_wp2_with (go_at_call 35; refine (cR _).mono ?_; rintro e w1 ⟨rfl, hb⟩; obtain ⟨hc1, hf1⟩ := bcells hb)

    all_goals go_ret
    all_goals refine ⟨ret_bool ?_, ((Grows.refl _).alloc _).trans hb⟩
    all_goals (first | (rw [hN.out (by omega)]; done) | (rw [hI.out (by omega) (by omega)]; first | (rw [if_pos (by omega)]; done) | (rw [if_neg (by omega)]; done)))
end Go.Proofs.YtfppagcifcppaaaDoor
