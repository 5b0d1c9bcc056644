/- Windows: Count and Next, the program's and the reference's. -/
import Derived.Test.YtfppagcifcppaaaDoorWinE
namespace Go.Proofs.YtfppagcifcppaaaDoor
open Go.RowKit

/-- How many of the times from f on, up to t, and fewer than 100000, answer q. -/
def steps (f t : Int) : Nat := (min (t - f + 1) 100000).toNat
def cnt (q : Int → Bool) (f : Int) (k : Nat) : Int := (((List.range k).countP fun i : Nat => q (f + (i : Int)) : Nat) : Int)
theorem cnt_succ (q : Int → Bool) (f : Int) (k : Nat) : cnt q f (k + 1) = cnt q f k + (if q (f + k) = true then 1 else 0) := by
  unfold cnt
  rw [List.range_succ, List.countP_append]
  simp only [List.countP_cons, List.countP_nil, Nat.zero_add]
  split <;> simp
theorem cnt_bd (q : Int → Bool) (f : Int) (k : Nat) : 0 ≤ cnt q f k ∧ cnt q f k ≤ k := by
  unfold cnt
  have := List.countP_le_length (p := fun i : Nat => q (f + i)) (l := List.range k)
  rw [List.length_range] at this
  omega
def mutedAt (ws : List Win) (t : Int) : Bool := (ws.take 20).any (isIn t)
def countW (ws : List Win) (a b : Int) : Int := cnt (mutedAt ws) (max a 0) (steps (max a 0) (min b 1099511627776))
theorem planW_len (ws : List Win) : (planW ws).length ≤ 20 := by
  unfold planW; exact Nat.le_trans (List.length_filter_le _ _) (by rw [List.length_take]; omega)
theorem mutedAt_plan (ws : List Win) (t : Int) : mutedAt (planW ws) t = mutedAt ws t := by
  unfold mutedAt
  rw [List.take_of_length_le (planW_len ws), any_plan]

set_option maxRecDepth 100000 in
set_option maxHeartbeats 1600000 in
theorem refCount_any (A : Option Addr) (m c : Nat) (ws : List Win) (a b : Int) (w : World) (h : Arr w 3 encW A m ws) (hm : m ≤ maxLen) :
    Calls Tryd.prog 23 #[.slice A m c, .int .i64 a, .int .i64 b] w fun e w' => e = .returned (.int .i64 (countW ws a b)) ∧ Grows w w' := by
  have cM := fun t W (hW : Grows w W) => refMuted_any A m c ws t W (h.keep hW) hm
  change ∀ t W, _ → Calls _ _ _ _ fun e w' => e = .returned (.bool (mutedAt ws t)) ∧ _ at cM
  clear h hm

  obtain ⟨F, hF⟩ : ∃ F, F = max a 0 := ⟨_, rfl⟩
  obtain ⟨T, hT⟩ : ∃ T, T = min b 1099511627776 := ⟨_, rfl⟩
  have hfin : countW ws a b = cnt (mutedAt ws) F (steps F T) := by rw [hF, hT]; rfl
  have hN : ∀ k : Nat, k < steps F T ↔ (F + k ≤ T ∧ (k : Int) < 100000) := fun k => by unfold steps; omega
  have hN' : steps F T ≤ 100000 := by unfold steps; omega
  generalize hNN : steps F T = N at *
  generalize mutedAt ws = q at *
  have f0 : 0 ≤ F := by omega
  have t0 : T ≤ 1099511627776 := by omega
  have hmx : (if a < 0 then (0 : Int) else a) = F := by split <;> omega
  have hmn : (if 1099511627776 < b then (1099511627776 : Int) else b) = T := by split <;> omega
  clear hF hT hNN
  replace hfin := Lib.hid hfin
  replace cM := Lib.hid cM
  replace hN := Lib.hid hN
  go_enter Tryd.func23, Tryd.ntmps23
  go_wp2
  go_loopw [7, 8] (fun vn vt wr => ∃ (k : Nat) (τ s : Int), vt = .int .i64 τ ∧ vn = .int .i64 s ∧ τ ≤ F + k ∧ F + k ≤ τ ∧ k ≤ N ∧ Hid (s = cnt q F k) ∧ Grows w wr) (fun _ vt _ => (F + N - intOf vt).toNat)
  case atStart => exact ⟨0, _, _, rfl, rfl, by omega, by omega, by omega, rfl, Grows.refl _⟩
  case round =>
    obtain ⟨k, τ, s, rfl, rfl, h1, h2, hk, hs, hg⟩ := hrel
    have hNk := hN.out k
    have hbd := cnt_bd q F k
    rw [← hs.out] at hbd
    have hcs := cnt_succ q F k
    rw [← hs.out] at hcs
    clear hmx hmn
    by_cases hlt : k < N
    · obtain ⟨j1, j2⟩ := hNk.1 hlt
      have hτ : τ = F + k := by omega
      rw [← hτ] at hcs
      have ht1 : τ ≤ T := by omega
      have ht2 : τ - F < 100000 := by omega
      clear hτ hNk
      obtain ⟨d0, d1⟩ := hbd
      cases hq : q τ
      all_goals
        rw [hq] at hcs
        have cT := fun W hW => cM.out τ W hW
        rw [hq] at cT
        replace cT := Lib.hid cT
        simp at hcs
        replace hcs := Lib.hid hcs
        clear hs hq
        go_wp2_with (go_at_call 21; refine (cT.out _ hg).mono ?_; rintro e w9 ⟨rfl, hb9⟩)
        go_roundw
        case rel => exact ⟨k + 1, τ + 1, _, by go_num, by go_num, by omega, by omega, by omega, hcs.out.symm, hg.trans hb9⟩
        case measure => simp [intOf]; omega
    · obtain rfl : k = N := by omega
      have hno : ¬ (F + k ≤ T ∧ (k : Int) < 100000) := fun hh => hlt (hNk.2 hh)
      clear hNk hlt hcs
      go_wp2
      all_goals go_ret
      all_goals exact ⟨ret_int (by rw [hfin.out]; exact hs.out), hg⟩

set_option maxRecDepth 100000 in
set_option maxHeartbeats 1600000 in
theorem count_any (A : Option Addr) (m c : Nat) (ws : List Win) (a b : Int) (w : World) (h : Arr w 3 encW A m ws) (hcap : m ≤ c) (hcm : c ≤ maxLen) :
    Calls Tryd.prog 22 #[.slice A m c, .int .i64 a, .int .i64 b] w fun e w' => e = .returned (.int .i64 (countW ws a b)) ∧ Grows w w' := by
  have cP := plan_any A m c ws w h hcap hcm
  have cM0 : ∀ A' c' w1, Arr w1 3 encW A' (planW ws).length (planW ws) → (planW ws).length ≤ c' → c' ≤ maxLen → ∀ t W, Grows w1 W → Calls Tryd.prog 20 #[.slice A' (planW ws).length c', .int .i64 t] W fun e w' => e = .returned (.bool (mutedAt ws t)) ∧ Grows W w' := fun A' c' w1 ha h1 h2 t W hW => by
    have := muted_any A' (planW ws).length c' (planW ws) t W (ha.keep hW) h1 h2
    rw [← mutedAt_plan]; exact this
  replace cP := Lib.hid cP
  have cM := cM0
  clear h hcap hcm cM0

  obtain ⟨F, hF⟩ : ∃ F, F = max a 0 := ⟨_, rfl⟩
  obtain ⟨T, hT⟩ : ∃ T, T = min b 1099511627776 := ⟨_, rfl⟩
  have hfin : countW ws a b = cnt (mutedAt ws) F (steps F T) := by rw [hF, hT]; rfl
  have hN : ∀ k : Nat, k < steps F T ↔ (F + k ≤ T ∧ (k : Int) < 100000) := fun k => by unfold steps; omega
  have hN' : steps F T ≤ 100000 := by unfold steps; omega
  generalize hNN : steps F T = N at *
  generalize mutedAt ws = q at *
  have f0 : 0 ≤ F := by omega
  have t0 : T ≤ 1099511627776 := by omega
  have hmx : (if a < 0 then (0 : Int) else a) = F := by split <;> omega
  have hmn : (if 1099511627776 < b then (1099511627776 : Int) else b) = T := by split <;> omega
  clear hF hT hNN
  replace hfin := Lib.hid hfin
  replace cM := Lib.hid cM
  replace hN := Lib.hid hN
  go_enter Tryd.func22, Tryd.ntmps22
  go_wp2_with fail
  refine cP.out.mono ?_
  rintro e w1 ⟨v1, rfl, hown1, hb1⟩
  obtain ⟨A1, c1, rfl, hcap1, hcm1, harr1⟩ := hown1.arr hkW
  replace cM := Lib.hid (cM.out A1 c1 w1 harr1 hcap1 hcm1)
  clear hown1 harr1
  generalize (planW ws).length = m1 at *
  unfold maxLen at hcm1
  go_wp2
  go_loopw [7, 8] (fun vn vt wr => ∃ (k : Nat) (τ s : Int), vt = .int .i64 τ ∧ vn = .int .i64 s ∧ τ ≤ F + k ∧ F + k ≤ τ ∧ k ≤ N ∧ Hid (s = cnt q F k) ∧ Grows w1 wr) (fun _ vt _ => (F + N - intOf vt).toNat)
  case atStart => exact ⟨0, _, _, rfl, rfl, by omega, by omega, by omega, rfl, Grows.refl _⟩
  case round =>
    obtain ⟨k, τ, s, rfl, rfl, h1, h2, hk, hs, hg⟩ := hrel
    have hNk := hN.out k
    have hbd := cnt_bd q F k
    rw [← hs.out] at hbd
    have hcs := cnt_succ q F k
    rw [← hs.out] at hcs
    clear hmx hmn
    by_cases hlt : k < N
    · obtain ⟨j1, j2⟩ := hNk.1 hlt
      have hτ : τ = F + k := by omega
      rw [← hτ] at hcs
      have ht1 : τ ≤ T := by omega
      have ht2 : τ - F < 100000 := by omega
      clear hτ hNk
      obtain ⟨d0, d1⟩ := hbd
      cases hq : q τ
      all_goals
        rw [hq] at hcs
        have cT := fun W hW => cM.out τ W hW
        rw [hq] at cT
        replace cT := Lib.hid cT
        simp at hcs
        replace hcs := Lib.hid hcs
        clear hs hq
        go_wp2_with (go_at_call 20; refine (cT.out _ hg).mono ?_; rintro e w9 ⟨rfl, hb9⟩)
        go_roundw
        case rel => exact ⟨k + 1, τ + 1, _, by go_num, by go_num, by omega, by omega, by omega, hcs.out.symm, hg.trans hb9⟩
        case measure => simp [intOf]; omega
    · obtain rfl : k = N := by omega
      have hno : ¬ (F + k ≤ T ∧ (k : Int) < 100000) := fun hh => hlt (hNk.2 hh)
      clear hNk hlt hcs
      go_wp2
      all_goals go_ret
      all_goals exact ⟨ret_int (by rw [hfin.out]; exact hs.out), hb1.trans hg⟩

end Go.Proofs.YtfppagcifcppaaaDoor
