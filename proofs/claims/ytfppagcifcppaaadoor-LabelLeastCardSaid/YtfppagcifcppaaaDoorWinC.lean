/- Windows: the library's IndexFunc, ContainsFunc, Clone and DeleteFunc at windows; plan and Muted. -/
import Derived.Test.YtfppagcifcppaaaDoorWinB
import Derived.Shelf.Abstract
namespace Go.Proofs.YtfppagcifcppaaaDoor
open Go.RowKit

/-- A predicate's closure: called in any later world it answers p, and the world only grows. -/
def PredOf {α : Type} (P : Program) (g : FuncId) (lb : Array Value) (enc : α → List Value) (p : α → Bool) (w : World) : Prop :=
  ∀ (x : α) (W : World), Grows w W → Calls P g (#[.agg (enc x).toArray] ++ lb) W fun e w' => e = .returned (.bool (p x)) ∧ Grows W w'

def idxOf {α : Type} (p : α → Bool) : List α → Int
  | [] => -1
  | x :: r => if p x then 0 else (if idxOf p r < 0 then -1 else idxOf p r + 1)
theorem idxOf_first {α : Type} (p : α → Bool) : ∀ (xs : List α) (k : Nat) (x : α), xs[k]? = some x → (xs.take k).any p = false → p x = true → idxOf p xs = k
  | y :: r, 0, x, h, _, hp => by simp at h; subst h; simp [idxOf, hp]
  | y :: r, k + 1, x, h, hn, hp => by
    simp only [List.take_succ_cons, List.any_cons, Bool.or_eq_false_iff] at hn
    have := idxOf_first p r k x (by simpa using h) hn.2 hp
    simp only [idxOf, hn.1, Bool.false_eq_true, if_false, this]
    rw [if_neg (by omega)]; omega
theorem idxOf_none {α : Type} (p : α → Bool) : ∀ (xs : List α), xs.any p = false → idxOf p xs = -1
  | [], _ => rfl
  | y :: r, h => by
    simp only [List.any_cons, Bool.or_eq_false_iff] at h
    simp [idxOf, h.1, idxOf_none p r h.2]

set_option maxHeartbeats 800000 in
theorem idxFunc_any (g : FuncId) (lb : Array Value) (eg : Enters Tryd.prog g) (p : Win → Bool) (A : Option Addr) (m c : Nat) (ws : List Win) (w : World) (h : Arr w 3 encW A m ws) (hm : m ≤ maxLen) (hp : PredOf Tryd.prog g lb encW p w) :
    Calls Tryd.prog 71 #[.slice A m c, .func (.func g) #[] lb] w fun e w' => e = .returned (.int .i64 (idxOf p ws)) ∧ Grows w w' := by
  unfold maxLen at hm
  have hlen := h.1
  unfold Enters at eg
  replace hp := Lib.hid hp
  go_enter Tryd.func71, Tryd.ntmps71
  go_wp2
  go_loopw [5, 8] (fun _ i wr => ∃ k : Nat, k ≤ m ∧ i = .int .i64 k ∧ Hid ((ws.take k).any p = false) ∧ Grows w wr) (fun _ i _ => m - (intOf i).toNat)
  case atStart => exact ⟨0, by omega, rfl, by simp [Hid], Grows.refl _⟩
  case round =>
    obtain ⟨k, hk, rfl, hno, hg⟩ := hrel
    by_cases hlt : k < m
    · obtain ⟨b, off, x, rfl, _, hx, hcell⟩ := (h.keep hg).at_ hlt
      have c0 : wr.cell? ⟨b, off + k * 3, none⟩ = some (.int .i64 x.p) := hcell 0 _ rfl
      have c1 : wr.cell? ⟨b, off + k * 3 + 1, none⟩ = some (.int .i64 x.f) := hcell 1 _ rfl
      have c2 : wr.cell? ⟨b, off + k * 3 + 2, none⟩ = some (.int .i64 x.l) := hcell 2 _ rfl
      have cI := fun W hW => hp.out x W hW
      have hs := any_take_succ p ws k x hx
      have hf := idxOf_first p ws k x hx hno.out
      rw [hno.out, Bool.false_or] at hs
      cases hq : p x
      · rw [hq] at cI hs
        replace cI := Lib.hid cI
        replace hs := Lib.hid hs
        clear hno hcell hq h hx hf hlen
        go_wp2_with fail
        refine (cI.out _ hg).mono ?_
        rintro e w1 ⟨rfl, hb⟩
        go_wp2
        go_roundw
        case rel => exact ⟨k + 1, by omega, by go_num, hs.out, hg.trans hb⟩
        case measure => simp [intOf]; omega
      · rw [hq] at cI
        have hfin := hf hq
        replace cI := Lib.hid cI
        replace hfin := Lib.hid hfin
        clear hno hcell hq h hx hs hf hlen
        go_wp2_with fail
        refine (cI.out _ hg).mono ?_
        rintro e w1 ⟨rfl, hb⟩
        go_wp2
        go_ret
        exact ⟨ret_int (by rw [hfin.out]), hg.trans hb⟩
    · have hkm : k = m := by omega
      have hfin : idxOf p ws = -1 := idxOf_none p ws (by rw [← List.take_of_length_le (Nat.le_of_eq (hlen.trans hkm.symm))]; exact hno.out)
      replace hfin := Lib.hid hfin
      clear hno h hlen hkm
      go_wp2
      go_ret
      exact ⟨ret_int (by rw [hfin.out]), hg⟩

theorem idxOf_nonneg {α : Type} (p : α → Bool) (xs : List α) : decide (0 ≤ idxOf p xs) = xs.any p := by
  induction xs with
  | nil => rfl
  | cons x r ih =>
    simp only [idxOf, List.any_cons, ← ih]
    by_cases hp : p x = true
    · simp [hp]
    · simp only [Bool.not_eq_true] at hp
      by_cases h0 : idxOf p r < 0
      · simp [hp, h0]
      · simp only [hp, Bool.false_eq_true, if_false, if_neg h0, Bool.false_or, decide_eq_decide]; omega

set_option maxHeartbeats 400000 in
theorem containsFunc_any (g : FuncId) (lb : Array Value) (eg : Enters Tryd.prog g) (p : Win → Bool) (A : Option Addr) (m c : Nat) (ws : List Win) (w : World) (h : Arr w 3 encW A m ws) (hm : m ≤ maxLen) (hp : PredOf Tryd.prog g lb encW p w) :
    Calls Tryd.prog 56 #[.slice A m c, .func (.func g) #[] lb] w fun e w' => e = .returned (.bool (ws.any p)) ∧ Grows w w' := by
  have cI := idxFunc_any g lb eg p A m c ws w h hm hp
  replace cI := Lib.hid cI
  have hfin := idxOf_nonneg p ws
  replace hfin := Lib.hid hfin
  clear h hp
  go_enter Tryd.func56, Tryd.ntmps56
  go_wp2_with fail
  refine cI.out.mono ?_
  rintro e w1 ⟨rfl, hb⟩
  go_wp2
  go_ret
  exact ⟨ret_bool hfin.out, hb⟩
end Go.Proofs.YtfppagcifcppaaaDoor
