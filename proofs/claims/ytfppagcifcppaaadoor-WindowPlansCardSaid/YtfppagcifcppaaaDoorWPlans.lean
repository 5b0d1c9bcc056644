/- The walk of the law WindowPlans. -/
import Derived.Test.YtfppagcifcppaaaDoorWinL
namespace Go.Proofs.YtfppagcifcppaaaDoor
open Go.RowKit

set_option maxRecDepth 100000 in
set_option maxHeartbeats 1600000 in
theorem plans_any (A : Option Addr) (m c : Nat) (ws : List Win) (a n : Int) (w : World) (he : LibEnv w) (h : Arr w 3 encW A m ws) (hcap : m ≤ c) (hcm : c ≤ maxLen) :
    Calls Tryd.prog 3 #[.slice A m c, .int .i64 a, .int .i64 n] w fun e w' => e = .returned (.bool true) ∧ Grows w w' := by
  have cL := lives_any w he
  obtain ⟨M, hM, hMm, hM22⟩ : ∃ M : Nat, min (m : Int) 22 = M ∧ M ≤ m ∧ ws.take M = ws.take 22 := by
    by_cases h22 : 22 < m
    · exact ⟨22, by omega, by omega, rfl⟩
    · exact ⟨m, by omega, by omega, take_end h.1 (Nat.le_refl m) (by omega) (by omega)⟩
  have hA := h.take hMm
  rw [hM22] at hA
  replace cL := Lib.hid cL
  replace hA := Lib.hid hA
  clear h hM22
  have hmm : ((maxLen : Nat) : Int) = 9223372036854775807 := by simp [maxLen]
  go_enter Tryd.func3, Tryd.ntmps3
  go_wp2_with fail
  refine cL.out.mono ?_
  rintro e w1 ⟨rfl, hb1⟩
  go_wp2_with fail
  have hA1 := hA.out.keep hb1
  have hlM := hA1.1
  refine (back_any A M c (ws.take 22) w1 hA1 (by omega)).mono ?_
  rintro e w2 ⟨v, rfl, ho, hb2⟩
  rw [List.take_take, Nat.min_self] at ho
  obtain ⟨A2, c2, rfl, hc2, hcm2, hA2⟩ := ho.arr hkW
  have hB2 := hA1.keep hb2
  clear ho hA hA1
  rw [hlM] at hc2 hA2
  simp only [hlM]
  generalize ws.take 22 = us at *
  have hN0 := u64w n
  generalize hN : IntKind.u64.wrap n = N at *
  have hg2 := hb1.trans hb2
  clear hb1 hb2
  replace hA2 := Lib.hid hA2
  replace hB2 := Lib.hid hB2
  go_wp2_with fail
  obtain ⟨R, hR0, hR1, hR⟩ : ∃ R : Int, 0 ≤ R ∧ R < 200 ∧ N % 200 = R := ⟨_, by omega, by omega, rfl⟩
  have cq1 := muted_any A2 M c2 us a w2 hA2.out hc2 hcm2
  have cq2 := fun W (hW : Grows w2 W) => refMuted_any A M c us a W (hB2.out.keep hW) (by omega)
  have cn1 := fun W (hW : Grows w2 W) => count_any A2 M c2 us a (a + R) W (hA2.out.keep hW) hc2 hcm2
  have cn2 := fun W (hW : Grows w2 W) => refCount_any A M c us a (a + R) W (hB2.out.keep hW) (by omega)
  simp only [hR]
  generalize (us.take 20).any (isIn a) = q at *
  generalize countW us a (a + R) = k at *
  replace cq1 := Lib.hid cq1
  replace cq2 := Lib.hid cq2
  replace cn1 := Lib.hid cn1
  replace cn2 := Lib.hid cn2
  clear hR hM hN
  refine cq1.out.mono ?_
  rintro e w3 ⟨rfl, hb3⟩
  go_wp2_with fail
  refine (cq2.out _ hb3).mono ?_
  rintro e w4 ⟨rfl, hb4⟩
  have hb24 := hb3.trans hb4
  clear hb3 hb4 cq1 cq2
  by_cases hlo : -1000 < a
  · by_cases hhi : a ≤ 1099511627776
    · go_wp2_with fail
      refine (cn1.out _ hb24).mono ?_
      rintro e w4a ⟨rfl, hb4a⟩
      go_wp2_with fail
      refine (cn2.out _ (hb24.trans hb4a)).mono ?_
      rintro e w5 ⟨rfl, hb4b⟩
      have hb25 := (hb24.trans hb4a).trans hb4b
      clear hb24 hb4a hb4b cn1 cn2
      go_wp2_with fail
      refine (good_any A M c us w5 (hB2.out.keep hb25) (by omega)).mono ?_
      rintro e w6 ⟨v6, rfl, ho6, hb6⟩
      have hgl : ((us.take 4).map goodW).length ≤ 4 := by simp; omega
      generalize (us.take 4).map goodW = gs at ho6 hgl
      obtain ⟨A6, c6, rfl, hc6, hcm6, hA6⟩ := ho6.arr hkW
      generalize hL : gs.length = L at *
      clear ho6
      replace hA6 := Lib.hid hA6
      go_wp2_with fail
      refine (back_any A6 L c6 gs w6 hA6.out (by omega)).mono ?_
      rintro e w7 ⟨v7, rfl, ho7, hb7⟩
      rw [List.take_of_length_le (by omega)] at ho7
      obtain ⟨A7, c7, rfl, hc7, hcm7, hA7⟩ := ho7.arr hkW
      rw [hL] at hc7 hA7
      simp only [hL]
      clear ho7
      replace hA7 := Lib.hid hA7
      go_wp2_with fail
      refine (next_any A7 L c7 gs a w7 hA7.out hc7 hcm7).mono ?_
      rintro e w8 ⟨n1, ok1, rfl, hn1, hb8⟩
      go_wp2_with fail
      refine (refNext_any A6 L c6 gs a w8 (hA6.out.keep (hb7.trans hb8)) (by omega)).mono ?_
      rintro e w9 ⟨n2, ok2, rfl, hn2, hb9⟩
      obtain ⟨rfl, rfl⟩ := hn1.one hn2
      clear hn1 hn2
      go_wp2_with fail
      go_ret
      exact ⟨rfl, ((((hg2.trans hb25).trans hb6).trans hb7).trans hb8).trans hb9⟩
    · go_wp2_with fail
      refine (good_any A M c us w4 (hB2.out.keep hb24) (by omega)).mono ?_
      rintro e w6 ⟨v6, rfl, ho6, hb6⟩
      have hgl : ((us.take 4).map goodW).length ≤ 4 := by simp; omega
      generalize (us.take 4).map goodW = gs at ho6 hgl
      obtain ⟨A6, c6, rfl, hc6, hcm6, hA6⟩ := ho6.arr hkW
      generalize hL : gs.length = L at *
      clear ho6
      replace hA6 := Lib.hid hA6
      go_wp2_with fail
      refine (back_any A6 L c6 gs w6 hA6.out (by omega)).mono ?_
      rintro e w7 ⟨v7, rfl, ho7, hb7⟩
      rw [List.take_of_length_le (by omega)] at ho7
      obtain ⟨A7, c7, rfl, hc7, hcm7, hA7⟩ := ho7.arr hkW
      rw [hL] at hc7 hA7
      simp only [hL]
      clear ho7
      replace hA7 := Lib.hid hA7
      go_wp2_with fail
      refine (next_any A7 L c7 gs a w7 hA7.out hc7 hcm7).mono ?_
      rintro e w8 ⟨n1, ok1, rfl, hn1, hb8⟩
      go_wp2_with fail
      refine (refNext_any A6 L c6 gs a w8 (hA6.out.keep (hb7.trans hb8)) (by omega)).mono ?_
      rintro e w9 ⟨n2, ok2, rfl, hn2, hb9⟩
      obtain ⟨rfl, rfl⟩ := hn1.one hn2
      clear hn1 hn2
      go_wp2_with fail
      go_ret
      exact ⟨rfl, ((((hg2.trans hb24).trans hb6).trans hb7).trans hb8).trans hb9⟩
  · go_wp2_with fail
    refine (good_any A M c us w4 (hB2.out.keep hb24) (by omega)).mono ?_
    rintro e w6 ⟨v6, rfl, ho6, hb6⟩
    have hgl : ((us.take 4).map goodW).length ≤ 4 := by simp; omega
    generalize (us.take 4).map goodW = gs at ho6 hgl
    obtain ⟨A6, c6, rfl, hc6, hcm6, hA6⟩ := ho6.arr hkW
    generalize hL : gs.length = L at *
    clear ho6
    replace hA6 := Lib.hid hA6
    go_wp2_with fail
    refine (back_any A6 L c6 gs w6 hA6.out (by omega)).mono ?_
    rintro e w7 ⟨v7, rfl, ho7, hb7⟩
    rw [List.take_of_length_le (by omega)] at ho7
    obtain ⟨A7, c7, rfl, hc7, hcm7, hA7⟩ := ho7.arr hkW
    rw [hL] at hc7 hA7
    simp only [hL]
    clear ho7
    replace hA7 := Lib.hid hA7
    go_wp2_with fail
    refine (next_any A7 L c7 gs a w7 hA7.out hc7 hcm7).mono ?_
    rintro e w8 ⟨n1, ok1, rfl, hn1, hb8⟩
    go_wp2_with fail
    refine (refNext_any A6 L c6 gs a w8 (hA6.out.keep (hb7.trans hb8)) (by omega)).mono ?_
    rintro e w9 ⟨n2, ok2, rfl, hn2, hb9⟩
    obtain ⟨rfl, rfl⟩ := hn1.one hn2
    clear hn1 hn2
    go_wp2_with fail
    go_ret
    exact ⟨rfl, ((((hg2.trans hb24).trans hb6).trans hb7).trans hb8).trans hb9⟩
end Go.Proofs.YtfppagcifcppaaaDoor
