/- Plain laws: decimal texts, where they are cut, and what they are read as. -/
import Derived.Lib.ItoaNum
import Derived.Lib.ItoaMem
import Derived.Lib.AtoiTie
import Derived.Lib.AtoiAllCases
import Derived.Lib.CutLaws
namespace Go.Proofs.YtfppagcifcppaaaDoor

theorem decDigits_cons (u : Nat) : Lib.decDigits u = (if u < 10 then [] else Lib.decDigits (u / 10)) ++ [UInt8.ofNat (48 + u % 10)] := by
  by_cases h : u < 10
  · rw [Lib.decDigits_one h, if_pos h, Nat.mod_eq_of_lt h]; rfl
  · rw [if_neg h]
    conv => lhs; rw [Lib.decDigits]
    rw [dif_neg h]
theorem dig_toNat {d : Nat} (h : d < 10) : (UInt8.ofNat (48 + d)).toNat = 48 + d := by
  simp only [UInt8.toNat_ofNat']; omega
theorem decDigits_dig : ∀ (u : Nat) (c : UInt8), c ∈ Lib.decDigits u → 48 ≤ c.toNat ∧ c.toNat ≤ 57 := by
  intro u
  induction u using Nat.strongRecOn with
  | _ u ih =>
    intro c hc
    rw [decDigits_cons] at hc
    rcases List.mem_append.1 hc with h | h
    · by_cases h10 : u < 10
      · simp [h10] at h
      · rw [if_neg h10] at h; exact ih (u / 10) (by omega) c h
    · obtain rfl : c = UInt8.ofNat (48 + u % 10) := by simpa using h
      rw [dig_toNat (by omega)]; omega
theorem decDigits_ne (u : Nat) : Lib.decDigits u ≠ [] := by rw [decDigits_cons]; simp
theorem decFrom_append : ∀ (l : List UInt8) (b : UInt8) (acc : Nat), Lib.decFrom acc (l ++ [b]) = (Lib.decFrom acc l).bind fun n => (Lib.digitVal b).map fun d => n * 10 + d
  | [], b, acc => by cases h : Lib.digitVal b <;> simp [Lib.decFrom, h]
  | x :: l, b, acc => by
    cases h : Lib.digitVal x with
    | none => simp [Lib.decFrom, h]
    | some d => simp only [List.cons_append, Lib.decFrom, h]; exact decFrom_append l b _
theorem decFrom_dec : ∀ u : Nat, Lib.decFrom 0 (Lib.decDigits u) = some u := by
  intro u
  induction u using Nat.strongRecOn with
  | _ u ih =>
    rw [decDigits_cons, decFrom_append]
    have hd : Lib.digitVal (UInt8.ofNat (48 + u % 10)) = some (u % 10) := by
      unfold Lib.digitVal; rw [dig_toNat (by omega), if_pos (by omega)]; congr 1; omega
    by_cases h10 : u < 10
    · rw [if_pos h10, hd]; simp [Lib.decFrom]; omega
    · rw [if_neg h10, ih (u / 10) (by omega), hd]; simp; omega
theorem decDigits_len : ∀ (k u : Nat), u < 10 ^ (k + 1) → (Lib.decDigits u).length ≤ k + 1
  | 0, u, h => by rw [decDigits_cons, if_pos (by omega)]; simp
  | k + 1, u, h => by
    rw [decDigits_cons]
    by_cases h10 : u < 10
    · rw [if_pos h10]; simp
    · rw [if_neg h10, List.length_append]
      have := decDigits_len k (u / 10) (by rw [Nat.pow_succ] at h; omega)
      simp; omega
theorem atoiAll_dec (u : Nat) (h : u < 1000000000000000000) : Lib.atoiAll (Lib.decDigits u) = .ok (u : Int) := by
  have hl : (Lib.decDigits u).length ≤ 18 := decDigits_len 17 u (by omega)
  obtain ⟨c, r, hcr⟩ := List.exists_cons_of_ne_nil (decDigits_ne u)
  have hc := decDigits_dig u c (by rw [hcr]; simp)
  rw [hcr, Lib.atoiAll_plain c r (by omega) (by omega), ← hcr, Lib.signless_short hl]
  have : Lib.decNat (Lib.decDigits u) = some u := by
    unfold Lib.decNat
    rw [if_neg (by simpa using decDigits_ne u)]
    exact decFrom_dec u
  rw [this]; rfl
theorem cut_at (a b : List UInt8) (c : UInt8) (h : c ∉ a) : Lib.cut (a ++ c :: b) [c] = (a, b, true) := by
  have hi : Lib.index (a ++ c :: b) [c] = a.length := by
    refine Lib.index_first (by simp) ?_ (fun j hj => ?_)
    · simp [Lib.occAt, List.isPrefixOf]
    · unfold Lib.occAt
      rw [List.drop_append_of_le_length (by omega)]
      obtain ⟨x, r, hx⟩ : ∃ x r, a.drop j = x :: r := by
        cases h2 : a.drop j with
        | nil => rw [List.drop_eq_nil_iff] at h2; omega
        | cons x r => exact ⟨x, r, rfl⟩
      rw [hx]
      have hm : x ∈ a := List.mem_of_mem_drop (i := j) (by rw [hx]; simp)
      have : (c == x) = false := by
        rw [beq_eq_false_iff_ne]; rintro rfl; exact h hm
      simp [List.isPrefixOf, this]
  unfold Lib.cut
  rw [hi, if_pos (by omega)]
  simp
theorem dec_no {u : Nat} {c : UInt8} (h : c.toNat < 48 ∨ 57 < c.toNat) : c ∉ Lib.decDigits u := fun hc => by
  have := decDigits_dig u c hc; omega
theorem itoa_nat (n : Int) (h : 0 ≤ n) : Lib.itoa n = Lib.decDigits n.toNat := by
  obtain ⟨u, rfl⟩ := Int.eq_ofNat_of_zero_le h
  rw [Lib.itoa_nonneg]; rfl
/-- What strconv.Atoi gives, and whether without an error. -/
def atoiV (l : List UInt8) : Int := match Lib.atoiAll l with
  | .ok v => v
  | .range => Lib.atoiSat l
  | _ => 0
def atoiOk (l : List UInt8) : Bool := match Lib.atoiAll l with
  | .ok _ => true
  | _ => false
theorem atoiV_bounds (l : List UInt8) : -9223372036854775808 ≤ atoiV l ∧ atoiV l ≤ 9223372036854775807 := by
  unfold atoiV
  cases h : Lib.atoiAll l with
  | ok v => exact Lib.atoiAll_bounds h
  | range => exact Lib.atoiSat_bounds l
  | _ => simp
end Go.Proofs.YtfppagcifcppaaaDoor
