/- The reference's Digits: a number's decimal text. -/
import Derived.Test.YtfppagcifcppaaaDoorKit
import Derived.Lib.ItoaNum
namespace Go.Proofs.YtfppagcifcppaaaDoor
open Go.RowKit

theorem dec_step (u : Nat) (h : 0 < u) : Lib.decDigits u = (if 0 < u / 10 then Lib.decDigits (u / 10) else []) ++ [UInt8.ofNat (48 + u % 10)] := by
  by_cases h10 : u < 10
  · rw [Lib.decDigits_one h10, if_neg (by omega), Nat.mod_eq_of_lt h10]; rfl
  · rw [if_pos (by omega)]
    conv => lhs; rw [Lib.decDigits]
    rw [dif_neg h10]
theorem dig_ext (i : Nat) (h : i < 10) : (⟨#[48, 49, 50, 51, 52, 53, 54, 55, 56, 57]⟩ : ByteArray).extract i (i + 1) = ⟨[UInt8.ofNat (48 + i)].toArray⟩ := by
  have : i = 0 ∨ i = 1 ∨ i = 2 ∨ i = 3 ∨ i = 4 ∨ i = 5 ∨ i = 6 ∨ i = 7 ∨ i = 8 ∨ i = 9 := by omega
  rcases this with rfl | rfl | rfl | rfl | rfl | rfl | rfl | rfl | rfl | rfl <;> rfl
set_option maxRecDepth 100000 in
set_option maxHeartbeats 800000 in
theorem digits_any (u : Nat) (hu : u ≤ 9223372036854775807) (w : World) :
    Calls Tryd.prog 65 #[.int .i64 u] w fun e w' => e = .returned (.string ⟨(Lib.decDigits u).toArray⟩) ∧ w' = w := by
  go_enter Tryd.func65, Tryd.ntmps65
  go_wp2
  go_loop [0, 3] (fun vn vs => ∃ (n : Nat) (l : List UInt8), vn = .int .i64 n ∧ vs = .string ⟨l.toArray⟩ ∧ l.length + n ≤ u / 10 + 1 ∧ Hid (Lib.decDigits u = (if 0 < n then Lib.decDigits n else []) ++ l)) (fun vn _ => (intOf vn).toNat)
  case atStart =>
    refine ⟨u / 10, [UInt8.ofNat (48 + u % 10)], by go_num, congrArg Value.string (dig_ext _ (by omega)), by simp; omega, ?_⟩
    by_cases h0 : 0 < u
    · exact dec_step u h0
    · obtain rfl : u = 0 := by omega
      exact Lib.decDigits_one (by omega)
  case round =>
    obtain ⟨n, l, rfl, rfl, hn, hd⟩ := hrel
    by_cases h0 : 0 < n
    · have hs := dec_step n h0
      have hd2 : Lib.decDigits u = (if 0 < n / 10 then Lib.decDigits (n / 10) else []) ++ (UInt8.ofNat (48 + n % 10) :: l) := by
        rw [hd.out, if_pos h0, hs, List.append_assoc]; rfl
      have hx := dig_ext (n % 10) (by omega)
      have hl : ¬ 9223372036854775807 < 1 + l.length := by omega
      replace hd2 := Lib.hid hd2
      clear hd hs
      go_wp2
      go_round
      case rel => exact ⟨n / 10, UInt8.ofNat (48 + n % 10) :: l, by go_num, congrArg Value.string (ByteArray.ext (by simp)), by simp; omega, hd2⟩
      case measure => simp [intOf]; omega
    · go_wp2
      go_ret
      refine ⟨?_, rfl⟩
      have := hd.out
      rw [if_neg h0] at this
      rw [this]; simp
end Go.Proofs.YtfppagcifcppaaaDoor
