/- Plain laws: a window's text; read sign by sign it gives that window again. -/
import Derived.Test.YtfppagcifcppaaaDoorNum
import Derived.Test.YtfppagcifcppaaaDoorWinE
namespace Go.Proofs.YtfppagcifcppaaaDoor

def textL (p f l : Nat) : List UInt8 := Lib.decDigits p ++ 58 :: (Lib.decDigits f ++ 43 :: Lib.decDigits l)
def textW (x : Win) : List UInt8 := if rightW x = true then textL x.p.toNat x.f.toNat x.l.toNat else []
def errW (x : Win) : Int := if rightW x = true then 0 else 1

structure Sc where
  k : Nat
  a : Nat
  b : Nat
  c : Nat
def Sc.get (s : Sc) : Nat := if s.k = 0 then s.a else if s.k = 1 then s.b else s.c
def Sc.set (s : Sc) (v : Nat) : Sc := if s.k = 0 then ⟨s.k, v, s.b, s.c⟩ else if s.k = 1 then ⟨s.k, s.a, v, s.c⟩ else ⟨s.k, s.a, s.b, v⟩
def Sc.step (s : Sc) (x : UInt8) : Option Sc :=
  if x = 58 ∧ s.k = 0 ∨ x = 43 ∧ s.k = 1 then some ⟨s.k + 1, s.a, s.b, s.c⟩
  else if x.toNat < 48 ∨ 57 < x.toNat ∨ 1000000 < s.get then none
  else some (s.set (10 * s.get + (x.toNat - 48)))
def scan (l : List UInt8) : Option Sc := l.foldlM Sc.step ⟨0, 0, 0, 0⟩

theorem Sc.get_set (s : Sc) (v : Nat) : (s.set v).get = v := by unfold Sc.set Sc.get; by_cases h0 : s.k = 0 <;> by_cases h1 : s.k = 1 <;> simp [h0, h1]
theorem Sc.set_set (s : Sc) (v u : Nat) : (s.set v).set u = s.set u := by unfold Sc.set; by_cases h0 : s.k = 0 <;> by_cases h1 : s.k = 1 <;> simp [h0, h1]
theorem Sc.set_get (s : Sc) : s.set s.get = s := by unfold Sc.set Sc.get; cases s; rename_i k a b c; by_cases h0 : k = 0 <;> by_cases h1 : k = 1 <;> simp [h0, h1]
theorem Sc.step_dig (s : Sc) (d : Nat) (hd : d < 10) (hg : s.get ≤ 1000000) : s.step (UInt8.ofNat (48 + d)) = some (s.set (10 * s.get + d)) := by
  have ht := dig_toNat hd
  have h1 : UInt8.ofNat (48 + d) ≠ 58 := fun e => by have := congrArg UInt8.toNat e; rw [ht] at this; simp at this; omega
  have h2 : UInt8.ofNat (48 + d) ≠ 43 := fun e => by have := congrArg UInt8.toNat e; rw [ht] at this; simp at this; omega
  unfold Sc.step
  rw [if_neg (fun hh => hh.elim (fun e => h1 e.1) (fun e => h2 e.1)), if_neg (by rw [ht]; omega), ht]
  congr 2; omega
theorem scan_dec : ∀ (u : Nat) (s : Sc), u ≤ 1000000 → s.get = 0 → (Lib.decDigits u).foldlM Sc.step s = some (s.set u) := by
  intro u
  induction u using Nat.strongRecOn with
  | _ u ih =>
    intro s hu hs
    rw [decDigits_cons, List.foldlM_append]
    by_cases h10 : u < 10
    · rw [if_pos h10]
      simp only [List.foldlM_nil, Option.pure_def, Option.bind_eq_bind, Option.bind_some, List.foldlM_cons]
      rw [Sc.step_dig s _ (by omega) (by omega), hs]
      simp only [Option.bind_some]
      congr 2; omega
    · rw [if_neg h10, ih (u / 10) (by omega) s (by omega) hs]
      simp only [List.foldlM_nil, Option.pure_def, Option.bind_eq_bind, Option.bind_some, List.foldlM_cons]
      rw [Sc.step_dig _ _ (by omega) (by rw [Sc.get_set]; omega), Sc.get_set, Sc.set_set]
      simp only [Option.bind_some]
      congr 2; omega
theorem scan_text (p f l : Nat) (hp : p ≤ 1000000) (hf : f ≤ 1000000) (hl : l ≤ 1000000) : scan (textL p f l) = some ⟨2, p, f, l⟩ := by
  unfold scan textL
  rw [List.foldlM_append, scan_dec p _ hp rfl]
  simp only [Option.bind_eq_bind, Option.bind_some, List.foldlM_cons]
  rw [show (Sc.set ⟨0, 0, 0, 0⟩ p).step 58 = some ⟨1, p, 0, 0⟩ from rfl]
  simp only [Option.bind_some]
  rw [List.foldlM_append, scan_dec f _ hf rfl]
  simp only [Option.bind_eq_bind, Option.bind_some, List.foldlM_cons]
  rw [show (Sc.set ⟨1, p, 0, 0⟩ f).step 43 = some ⟨2, p, f, 0⟩ from rfl]
  simp only [Option.bind_some]
  rw [scan_dec l _ hl rfl]
  rfl
theorem rightW_iff {x : Win} : rightW x = true ↔ WRight x.p x.f x.l := wRight_iff
theorem scan_textW {x : Win} (h : rightW x = true) : scan (textW x) = some ⟨2, x.p.toNat, x.f.toNat, x.l.toNat⟩ := by
  obtain ⟨g1, g2, g3, g4, g5, g6⟩ := rightW_iff.1 h
  unfold textW
  rw [if_pos h]
  exact scan_text _ _ _ (by omega) (by omega) (by omega)
theorem textW_inj {x y : Win} (hx : rightW x = true) (hy : rightW y = true) (h : textW x = textW y) : x = y := by
  have h1 := scan_textW hx
  rw [h, scan_textW hy] at h1
  simp only [Option.some.injEq, Sc.mk.injEq, true_and] at h1
  obtain ⟨a1, a2, a3, a4, a5, a6⟩ := rightW_iff.1 hx
  obtain ⟨b1, b2, b3, b4, b5, b6⟩ := rightW_iff.1 hy
  cases x; cases y
  simp only [Win.mk.injEq] at *
  omega
theorem textW_len (x : Win) : (textW x).length ≤ 20 := by
  unfold textW
  split
  · rename_i h
    obtain ⟨g1, g2, g3, g4, g5, g6⟩ := rightW_iff.1 h
    have e1 := decDigits_len 5 x.p.toNat (by omega)
    have e2 := decDigits_len 5 x.f.toNat (by omega)
    have e3 := decDigits_len 5 x.l.toNat (by omega)
    simp only [textL, List.length_append, List.length_cons]
    omega
  · simp

/-- What a text is read as: the window whose text it is, or none. -/
def ReadIs (s : List UInt8) (x : Win) (e : Int) : Prop := (e = 0 ∧ rightW x = true ∧ textW x = s) ∨ (e = 2 ∧ x = ⟨0, 0, 0⟩ ∧ ∀ y, rightW y = true → textW y ≠ s)
theorem ReadIs.one {s : List UInt8} {x y : Win} {e f : Int} (h : ReadIs s x e) (h' : ReadIs s y f) : x = y ∧ e = f := by
  rcases h with ⟨rfl, a1, a2⟩ | ⟨rfl, rfl, a2⟩ <;> rcases h' with ⟨rfl, b1, b2⟩ | ⟨rfl, rfl, b2⟩
  · exact ⟨textW_inj a1 b1 (a2.trans b2.symm), rfl⟩
  · exact absurd a2 (b2 x a1)
  · exact absurd b2 (a2 y b1)
  · exact ⟨rfl, rfl⟩
/-- What the program takes the text apart into. -/
def guess (s : List UInt8) : Win :=
  let a := Lib.cut s [58]
  let b := Lib.cut a.2.1 [43]
  ⟨atoiV a.1, atoiV b.1, atoiV b.2.1⟩
theorem guess_text {x : Win} (h : rightW x = true) : guess (textW x) = x := by
  obtain ⟨g1, g2, g3, g4, g5, g6⟩ := rightW_iff.1 h
  have hv : ∀ u : Int, 0 ≤ u → u ≤ 100000 → atoiV (Lib.decDigits u.toNat) = u := fun u h0 h1 => by
    unfold atoiV; rw [atoiAll_dec _ (by omega)]; simp; omega
  unfold textW
  rw [if_pos h]
  unfold guess textL
  rw [cut_at _ _ _ (dec_no (by decide))]
  simp only
  rw [cut_at _ _ _ (dec_no (by decide))]
  simp only
  rw [hv _ (by omega) (by omega), hv _ (by omega) (by omega), hv _ (by omega) (by omega)]
theorem guess_is (s : List UInt8) : (rightW (guess s) = true ∧ textW (guess s) = s → ReadIs s (guess s) 0) ∧ (¬ (rightW (guess s) = true ∧ textW (guess s) = s) → ReadIs s ⟨0, 0, 0⟩ 2) :=
  ⟨fun h => .inl ⟨rfl, h.1, h.2⟩, fun h => .inr ⟨rfl, rfl, fun y hy e => h (by rw [← e, guess_text hy]; exact ⟨hy, rfl⟩)⟩⟩
theorem scan_is {s : List UInt8} {t : Sc} (h : scan s = some t) : (rightW ⟨t.a, t.b, t.c⟩ = true ∧ textW ⟨t.a, t.b, t.c⟩ = s → ReadIs s ⟨t.a, t.b, t.c⟩ 0) ∧ (¬ (rightW ⟨t.a, t.b, t.c⟩ = true ∧ textW ⟨t.a, t.b, t.c⟩ = s) → ReadIs s ⟨0, 0, 0⟩ 2) :=
  ⟨fun h => .inl ⟨rfl, h.1, h.2⟩, fun hn => .inr ⟨rfl, rfl, fun y hy e => hn (by
    have h1 := scan_textW hy
    rw [e, h] at h1
    simp only [Option.some.injEq] at h1
    obtain ⟨g1, g2, g3, g4, g5, g6⟩ := rightW_iff.1 hy
    subst h1
    have : (⟨((y.p.toNat : Nat) : Int), ((y.f.toNat : Nat) : Int), ((y.l.toNat : Nat) : Int)⟩ : Win) = y := by
      cases y; simp only [Win.mk.injEq] at *; omega
    rw [this]; exact ⟨hy, e⟩)⟩⟩
theorem scan_none {s : List UInt8} (h : scan s = none) : ReadIs s ⟨0, 0, 0⟩ 2 :=
  .inr ⟨rfl, rfl, fun y hy e => by have h1 := scan_textW hy; rw [e, h] at h1; cases h1⟩
end Go.Proofs.YtfppagcifcppaaaDoor
