/- Labels: the program's Text. -/
import Derived.Test.YtfppagcifcppaaaDoorLabG
import Derived.Test.YtfppagcifcppaaaDoorLib
import Derived.Test.YtfppagcifcppaaaDoorWinI
import Derived.Laws.MakeOwn
namespace Go.Proofs.YtfppagcifcppaaaDoor
open Go.RowKit

def encS (l : List UInt8) : List Value := [.string ⟨l.toArray⟩]
theorem hkS (l : List UInt8) : (encS l).length = 1 := rfl
theorem oneS (l : List UInt8) : ∀ u ∈ encS l, u.oneCell' = true := by intro u hu; simp [encS] at hu; subst hu; rfl
theorem T_ss : SliceT Tryd.prog 95 9 1 16 := SliceT.mk' (z := .string ⟨#[]⟩) Tryd.underlying95 (by kernel_rfl) rfl (by omega)
def madeS (n : Nat) : Array Value := madeCells (Value.string ⟨#[]⟩).cells n
theorem run_madeS (w : World) (n : Nat) (hn : n ≤ 255) : (Instr.makeSlice 95 (.int .i64 0) (.int .i64 (n : Int))).run Tryd.prog w = .ok (.slice (some ⟨w.heap.size, 0, none⟩) 0 n) (w.alloc (.cells (madeS n) 9)) := by
  obtain ⟨i0, hi, hz0, hz1, hz2⟩ := info_parts (show (Tryd.prog.info? 9).map (fun i => (i.zero, i.size, i.bytes)) = some (some (.string ⟨#[]⟩), 1, 16) by kernel_rfl)
  have h := run_makeSlice (P := Tryd.prog) w 95 9 i0 _ Tryd.underlying95 hi hz0 .i64 .i64 0 n (by decide) (by omega) (by rw [hz1]; omega) (by rw [hz2]; omega) (by omega)
  rw [hz1, Nat.mul_one] at h
  exact h
theorem own_madeS (w : World) (n base : Nat) (hn : n ≤ 255) (hb : base ≤ w.heap.size) : Own (w.alloc (.cells (madeS n) 9)) base 9 1 encS (.slice (some ⟨w.heap.size, 0, none⟩) 0 n) [] :=
  World.ownsRow_made w _ n hb (by unfold maxLen; omega) (by rw [Nat.mul_one]; exact size_madeCells _ _)
/-- A slice's array lies from block lo on; a value whose own array lies elsewhere may grow beside it. -/
theorem Own.arrAt {α : Type} {w : World} {base k : Nat} {e : TypeId} {enc : α → List Value} {v : Value} {xs : List α} (h : Own w base e k enc v xs) (hk : ∀ x, (enc x).length = k) :
    ∃ A c, v = .slice A xs.length c ∧ xs.length ≤ c ∧ c ≤ maxLen ∧ (∀ ad, A = some ad → base ≤ ad.block) ∧ Arr w k enc A xs.length xs := by
  have h2 := h.2
  obtain ⟨A, c, rfl, h3, h4, h5⟩ := h.arr hk
  refine ⟨A, c, rfl, h3, h4, fun ad ha => ?_, h5⟩
  rcases h2 with ⟨h6, _⟩ | ⟨g, cap, cur, h6, hb, _⟩
  · injection h6 with h6; rw [h6] at ha; cases ha
  · injection h6 with h6; rw [h6] at ha; injection ha with ha; subst ha; exact hb
theorem Arr.grown {α : Type} {w w' : World} {k n : Nat} {enc : α → List Value} {A : Option Addr} {xs : List α} {row : Option Nat} (h : Arr w k enc A n xs) (hg : w.grownBy w' row) (hne : ∀ ad, A = some ad → some ad.block ≠ row) : Arr w' k enc A n xs :=
  ⟨h.1, fun hn => by
    obtain ⟨b, off, e, hb, hc⟩ := h.2 hn
    have hbl := hg.block b hb (hne _ e)
    exact ⟨b, off, e, Nat.lt_of_lt_of_le hb hg.size, fun i hi j u hu => by
      have := hc i hi j u hu
      simp only [World.cell?] at this ⊢
      rw [hbl]; exact this⟩⟩
theorem join_bd : ∀ ws : List (List UInt8), (∀ x ∈ ws, x.length ≤ 2) → (Lib.join ws [44]).length ≤ 3 * ws.length
  | [], _ => by simp [Lib.join_nil]
  | x :: r, h => by
    rw [Lib.join_cons, List.length_append, Lib.joinTail_length]
    have hx := h x (by simp)
    have hr : Lib.lens r ≤ 2 * r.length := by
      have : ∀ l : List (List UInt8), (∀ x ∈ l, x.length ≤ 2) → Lib.lens l ≤ 2 * l.length := by
        intro l
        induction l with
        | nil => intro _; simp [Lib.lens]
        | cons y l ih =>
          intro hl
          have h1 := ih (fun z hz => hl z (by simp [hz]))
          have h2 := hl y (by simp)
          simp only [Lib.lens, List.map_cons, List.sum_cons, List.length_cons] at h1 ⊢
          omega
      exact this r (fun z hz => h z (by simp [hz]))
    simp only [List.length_cons, List.length_nil]
    omega
theorem dec_len2 {k : Nat} (h : k < 32) : (Lib.decDigits k).length ≤ 2 := decDigits_len 1 k (by omega)
theorem join_any (A : Option Addr) (m c : Nat) (ws : List (List UInt8)) (w : World) (h : Arr w 1 encS A m ws) (hmc : m ≤ c) (hm : m ≤ 32) (hw : ∀ x ∈ ws, x.length ≤ 2) :
    Calls Tryd.prog 67 #[.slice A m c, .string ⟨#[44]⟩] w fun e w' => e = .returned (.string ⟨(Lib.join ws [44]).toArray⟩) ∧ Grows w w' := by
  have hl := h.1
  rcases Nat.eq_zero_or_pos m with h0 | h0
  · subst h0
    obtain rfl := List.eq_nil_of_length_eq_zero hl
    exact (Any.strings_Join_none Tryd.lays156 Tryd.Builder_Extra_156 A c ⟨#[44]⟩ w).mono fun e w' ⟨he, hw'⟩ => ⟨he, by rw [hw']; exact Grows.refl _⟩
  · obtain ⟨b, off, rfl, hb, hc⟩ := h.2 h0
    have hmap : (ws.map fun l => (⟨l.toArray⟩ : ByteArray)).map (·.data.toList) = ws := by
      rw [List.map_map]
      exact (List.map_congr_left (fun l _ => by simp)).trans (List.map_id ws)
    have := Any.strings_Join Tryd.lays156 Tryd.Builder_Extra_156 b off c (ws.map fun l => (⟨l.toArray⟩ : ByteArray)) ⟨#[44]⟩ w
      (fun j x hx => by
        rw [List.getElem?_map] at hx
        obtain ⟨l, hl', rfl⟩ := Option.map_eq_some_iff.1 hx
        obtain ⟨hj, rfl⟩ := List.getElem?_eq_some_iff.1 hl'
        simpa using hc j hj 0 _ rfl) hb (by simp; omega) (by simp; omega) (by
        rw [hmap]
        have := join_bd ws hw
        exact Nat.le_trans this (by omega))
    rw [hmap, List.length_map, hl] at this
    exact this.mono fun e w' ⟨he, hw'⟩ => ⟨he, hw'⟩
end Go.Proofs.YtfppagcifcppaaaDoor
