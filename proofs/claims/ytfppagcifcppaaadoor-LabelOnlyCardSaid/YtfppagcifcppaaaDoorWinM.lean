/- Windows: plain laws of what the walks give: counts, the turn, a window more. -/
import Derived.Test.YtfppagcifcppaaaDoorWinG
import Derived.Test.YtfppagcifcppaaaDoorWinH
namespace Go.Proofs.YtfppagcifcppaaaDoor

theorem goodW_right (x : Win) : WRight (goodW x).p (goodW x).f (goodW x).l ∧ (goodW x).p ≤ 50 := by
  have uP := u64w x.p
  have uF := u64w x.f
  have uL := u64w x.l
  unfold goodW WRight
  generalize IntKind.u64.wrap x.p = P at *
  generalize IntKind.u64.wrap x.f = F at *
  generalize IntKind.u64.wrap x.l = L at *
  obtain ⟨Q, hQ⟩ : ∃ Q, Q = 1 + P % 50 := ⟨_, rfl⟩
  rw [← hQ]
  have f0 := Int.emod_nonneg F (show Q ≠ 0 by omega)
  have f1 := Int.emod_lt_of_pos F (show 0 < Q by omega)
  have l0 := Int.emod_nonneg L (show Q ≠ 0 by omega)
  have l1 := Int.emod_lt_of_pos L (show 0 < Q by omega)
  refine ⟨⟨?_, ?_, ?_, ?_, ?_, ?_⟩, ?_⟩ <;> dsimp only <;> omega
theorem mutedAt_append (gs : List Win) (g : Win) (t : Int) (h : gs.length ≤ 19) : mutedAt (gs ++ [g]) t = (mutedAt gs t || isIn t g) := by
  unfold mutedAt
  rw [List.take_of_length_le (by simp; omega), List.take_of_length_le (by omega)]
  simp
theorem mutedAt_one (g : Win) (t : Int) : mutedAt [g] t = isIn t g := by simp [mutedAt]
theorem cnt_all {q : Int → Bool} {f : Int} : ∀ {k : Nat}, (∀ i : Nat, i < k → q (f + i) = true) → cnt q f k = k
  | 0, _ => by simp [cnt]
  | k + 1, h => by rw [cnt_succ, cnt_all (fun i hi => h i (by omega)), h k (by omega)]; simp
theorem cnt_add (q : Int → Bool) (f : Int) (a : Nat) : ∀ b : Nat, cnt q f (a + b) = cnt q f a + cnt q (f + a) b
  | 0 => by simp [cnt]
  | b + 1 => by
    rw [← Nat.add_assoc, cnt_succ, cnt_succ, cnt_add q f a b, show f + ((a + b : Nat) : Int) = f + a + b by omega]; omega
theorem cnt_congr {q r : Int → Bool} {f g : Int} : ∀ {k : Nat}, (∀ i : Nat, i < k → q (f + i) = r (g + i)) → cnt q f k = cnt r g k
  | 0, _ => by simp [cnt]
  | k + 1, h => by rw [cnt_succ, cnt_succ, cnt_congr (fun i hi => h i (by omega)), h k (by omega)]
theorem cnt_none {q : Int → Bool} {f : Int} : ∀ {k : Nat}, (∀ i : Nat, i < k → q (f + i) = false) → cnt q f k = 0
  | 0, _ => by simp [cnt]
  | k + 1, h => by rw [cnt_succ, cnt_none (fun i hi => h i (by omega)), h k (by omega)]; simp
theorem cnt_le_sum {q r s : Int → Bool} (h : ∀ t, q t = true → r t = true ∨ s t = true) (f : Int) : ∀ k : Nat, cnt q f k ≤ cnt r f k + cnt s f k
  | 0 => by simp [cnt]
  | k + 1 => by
    have ih := cnt_le_sum h f k
    have hk := h (f + k)
    rw [cnt_succ, cnt_succ, cnt_succ]
    cases h1 : q (f + k) <;> cases h2 : r (f + k) <;> cases h3 : s (f + k) <;> simp [h1, h2, h3] at hk ⊢ <;> omega
theorem cnt_shift {q : Int → Bool} {p : Nat} (hq : ∀ t, q (t + p) = q t) (f : Int) : cnt q (f + 1) p = cnt q f p := by
  have h1 := cnt_succ q f p
  have h2 := cnt_add q f 1 p
  rw [Nat.add_comm] at h2
  rw [h2, hq] at h1
  have h3 : cnt q f 1 = if q f = true then 1 else 0 := by
    have := cnt_succ q f 0
    rw [show f + ((0 : Nat) : Int) = f by omega] at this
    rw [this]; simp [cnt]
  rw [h3] at h1
  have : (f + ((1 : Nat) : Int)) = f + 1 := by omega
  rw [this] at h1
  omega
theorem cnt_shifts {q : Int → Bool} {p : Nat} (hq : ∀ t, q (t + p) = q t) (f : Int) : ∀ k : Nat, cnt q (f + k) p = cnt q f p
  | 0 => by simp
  | k + 1 => by rw [show f + ((k + 1 : Nat) : Int) = f + k + 1 by omega, cnt_shift hq, cnt_shifts hq f k]
theorem cnt_low (l : Nat) : ∀ p : Nat, cnt (fun t => decide (t < l)) 0 p = min p l
  | 0 => by simp [cnt]
  | p + 1 => by
    rw [cnt_succ, cnt_low l p]
    by_cases h : p < l
    · rw [if_pos (by simp; omega)]; omega
    · rw [if_neg (by simp; omega)]; omega
theorem cnt_place {p : Nat} {f l : Int} {a : Nat} (hf : 0 ≤ f) (hl0 : 0 ≤ l) (hl : l ≤ p) : cnt (fun t => decide ((t - f) % p < l)) a p = l := by
  have hq : ∀ t : Int, (fun t : Int => decide ((t - f) % p < l)) (t + p) = (fun t : Int => decide ((t - f) % p < l)) t := fun t => by
    show decide ((t + p - f) % p < l) = decide ((t - f) % p < l)
    rw [show t + p - f = t - f + p by omega, Int.add_emod_right]
  obtain ⟨fn, rfl⟩ := Int.eq_ofNat_of_zero_le hf
  obtain ⟨ln, rfl⟩ := Int.eq_ofNat_of_zero_le hl0
  have h1 := cnt_shifts (q := fun t => decide ((t - fn) % p < ln)) hq 0 a
  have h2 := cnt_shifts (q := fun t => decide ((t - fn) % p < ln)) hq 0 fn
  rw [Int.zero_add] at h1 h2
  rw [h1, ← h2]
  have h3 := cnt_low ln p
  rw [Nat.min_eq_right (by omega)] at h3
  refine Eq.trans (cnt_congr fun i hi => ?_) h3
  show decide (((fn : Int) + i - fn) % p < ln) = decide ((0 : Int) + i < ln)
  rw [show (fn : Int) + i - fn = i by omega, Int.emod_eq_of_lt (by omega) (by omega), Int.zero_add]
theorem countW_eq (ws : List Win) {a b : Int} {k : Nat} (h0 : 0 ≤ a) (hb : b ≤ 1099511627776) (hk : b - a + 1 = k) (h1 : k ≤ 100000) : countW ws a b = cnt (mutedAt ws) a k := by
  unfold countW steps
  rw [show max a 0 = a by omega, show min b 1099511627776 = b by omega, show (min (b - a + 1) 100000).toNat = k by omega]
theorem countW_none (ws : List Win) {a b : Int} (h : b < a) (h0 : 0 ≤ a) (hb : b ≤ 1099511627776) : countW ws a b = 0 := by
  unfold countW steps
  rw [show max a 0 = a by omega, show min b 1099511627776 = b by omega, show (min (b - a + 1) 100000).toNat = 0 by omega]
  simp [cnt]
theorem countW_period {x : Win} (hR : WRight x.p x.f x.l) (a : Int) (h0 : 0 ≤ a) (h1 : a ≤ 1000000) : countW [x] a (a + x.p - 1) = x.l := by
  obtain ⟨r1, r2, r3, r4, r5, r6⟩ := hR
  rw [countW_eq [x] (k := x.p.toNat) h0 (by omega) (by omega) (by omega)]
  obtain ⟨an, rfl⟩ := Int.eq_ofNat_of_zero_le h0
  have h2 := cnt_place (p := x.p.toNat) (f := x.f) (l := x.l) (a := an) r3 (by omega) (by omega)
  rw [← h2]
  refine cnt_congr fun i hi => ?_
  rw [mutedAt_one]
  show wIn x.p x.f x.l _ = _
  unfold wIn wTime
  rw [wRight_iff.2 ⟨r1, r2, r3, r4, r5, r6⟩, show ((x.p.toNat : Nat) : Int) = x.p by omega]
  have : decide ((0 : Int) ≤ an + i ∧ (an : Int) + i ≤ 1099511627776) = true := by simp; omega
  rw [this]
  simp
theorem in_again {x : Win} (hR : WRight x.p x.f x.l) {a : Int} (h0 : 0 ≤ a) (h1 : a ≤ 1000000) : isIn (a + x.p) x = isIn a x := by
  obtain ⟨r1, r2, r3, r4, r5, r6⟩ := hR
  show wIn _ _ _ _ = wIn _ _ _ _
  unfold wIn wTime
  rw [show a + x.p - x.f = a - x.f + x.p by omega, Int.add_emod_right]
  rw [decide_eq_true (p := (0 : Int) ≤ a + x.p ∧ a + x.p ≤ 1099511627776) (by omega), decide_eq_true (p := (0 : Int) ≤ a ∧ a ≤ 1099511627776) (by omega)]
/-- The turn of a window that may be, and isn't whole. -/
theorem turn_right {x : Win} (hR : WRight x.p x.f x.l) (hl : x.l ≠ x.p) : turnW x = (⟨x.p, (x.f + x.l) % x.p, x.p - x.l⟩, true) ∧ WRight x.p ((x.f + x.l) % x.p) (x.p - x.l) := by
  obtain ⟨r1, r2, r3, r4, r5, r6⟩ := hR
  have m0 := Int.emod_nonneg (x.f + x.l) (show x.p ≠ 0 by omega)
  have m1 := Int.emod_lt_of_pos (x.f + x.l) r1
  refine ⟨?_, r1, r2, m0, m1, by omega, by omega⟩
  unfold turnW
  rw [if_pos ⟨by unfold rightW; exact wRight_iff.2 ⟨r1, r2, r3, r4, r5, r6⟩, hl⟩]
theorem turn_whole {x : Win} (hl : x.l = x.p) : turnW x = (⟨0, 0, 0⟩, false) := by unfold turnW; rw [if_neg (by simp [hl])]
theorem turn_in {x : Win} (hR : WRight x.p x.f x.l) (hl : x.l ≠ x.p) {a : Int} (h0 : 0 ≤ a) (h1 : a ≤ 1000000) : isIn a (turnW x).1 = !isIn a x := by
  obtain ⟨ht, hT⟩ := turn_right hR hl
  rw [ht]
  have e1 := wRight_iff.2 hR
  have e2 := wRight_iff.2 hT
  obtain ⟨r1, r2, r3, r4, r5, r6⟩ := hR
  show wIn _ _ _ _ = !wIn _ _ _ _
  unfold wIn wTime
  simp only
  rw [e1, e2]
  have : decide ((0 : Int) ≤ a ∧ a ≤ 1099511627776) = true := by simp; omega
  rw [this]
  simp only [Bool.and_true, Bool.true_and]
  have k0 := Int.emod_nonneg (a - x.f) (show x.p ≠ 0 by omega)
  have k1 := Int.emod_lt_of_pos (a - x.f) r1
  have e : (a - (x.f + x.l) % x.p) % x.p = ((a - x.f) % x.p - x.l) % x.p := by
    rw [Int.sub_emod_emod, Int.emod_sub_emod]; congr 1; omega
  rw [e]
  by_cases h : (a - x.f) % x.p < x.l
  · have : ((a - x.f) % x.p - x.l) % x.p = (a - x.f) % x.p - x.l + x.p := by
      rw [← Int.add_emod_right, Int.emod_eq_of_lt (by omega) (by omega)]
    rw [this, decide_eq_true h, decide_eq_false (by omega)]; rfl
  · have : ((a - x.f) % x.p - x.l) % x.p = (a - x.f) % x.p - x.l := Int.emod_eq_of_lt (by omega) (by omega)
    rw [this, decide_eq_false h, decide_eq_true (by omega)]; rfl
theorem turn_back {x : Win} (hR : WRight x.p x.f x.l) (hl : x.l ≠ x.p) : turnW (turnW x).1 = (x, true) := by
  obtain ⟨ht, hT⟩ := turn_right hR hl
  obtain ⟨r1, r2, r3, r4, r5, r6⟩ := hR
  rw [ht]
  have h2 := (turn_right (x := ⟨x.p, (x.f + x.l) % x.p, x.p - x.l⟩) hT (by simp; omega)).1
  simp only at h2
  rw [h2, Int.emod_add_emod, show x.f + x.l + (x.p - x.l) = x.f + x.p by omega, Int.add_emod_right, Int.emod_eq_of_lt r3 r4, show x.p - (x.p - x.l) = x.l by omega]
/-- What the law of the next time says. -/
theorem next_more {gs : List Win} {g : Win} {a n m : Int} {ok yes : Bool} (hl : gs.length ≤ 19) (h0 : 0 ≤ a) (h1 : a < 1000000) (hn : NextIs (mutedAt gs) (max a 0) n ok) (hm : NextIs (mutedAt (gs ++ [g])) (max a 0) m yes) :
    (ok = false → n = 0 ∧ yes = false) ∧ (ok = true → a ≤ n ∧ n ≤ 1099511627776 ∧ mutedAt gs n = false ∧ (yes = true → n ≤ m) ∧ (n - a < 100000 → countW gs a (n - 1) = n - a)) := by
  rw [show max a 0 = a by omega] at hn hm
  have hup : ∀ s, mutedAt gs s = true → mutedAt (gs ++ [g]) s = true := fun s hs => by rw [mutedAt_append gs g s hl, hs]; rfl
  constructor
  · rintro rfl
    rcases hn with ⟨h, _⟩ | ⟨_, rfl, hq⟩
    · cases h
    · refine ⟨rfl, ?_⟩
      rcases hm with ⟨_, b1, b2, b3, b4, b5⟩ | ⟨h, _⟩
      · rw [hup m (hq m b1 b2 b3)] at b4; cases b4
      · exact h
  · rintro rfl
    rcases hn with ⟨_, a1, a2, a3, a4, a5⟩ | ⟨h, _⟩
    · refine ⟨a1, a2, a4, ?_, ?_⟩
      · rintro rfl
        rcases hm with ⟨_, b1, b2, b3, b4, b5⟩ | ⟨h, _⟩
        · rcases Int.lt_or_le m n with h | h
          · rw [hup m (a5 m b1 h)] at b4; cases b4
          · exact h
        · cases h
      · intro h
        rw [countW_eq gs (k := (n - a).toNat) h0 (by omega) (by omega) (by omega), cnt_all (fun i hi => a5 _ (by omega) (by omega))]
        omega
    · cases h
end Go.Proofs.YtfppagcifcppaaaDoor
