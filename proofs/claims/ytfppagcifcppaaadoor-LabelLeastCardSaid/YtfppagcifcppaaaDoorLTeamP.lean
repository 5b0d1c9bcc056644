/- Labels: plain laws of the teams; is a number in a list. -/
import Derived.Test.YtfppagcifcppaaaDoorCut
namespace Go.Proofs.YtfppagcifcppaaaDoor
open Go.RowKit

theorem m8 (x : Int) : 0 ≤ wrap64 ((IntKind.u64.wrap x).tmod 8) ∧ wrap64 ((IntKind.u64.wrap x).tmod 8) ≤ 7 := by
  obtain ⟨y, hy, h0⟩ : ∃ y, IntKind.u64.wrap x = y ∧ 0 ≤ y := ⟨_, rfl, by
    simp only [IntKind.wrap, IntKind.bits, IntKind.signed]
    simp
    omega⟩
  rw [hy, Int.tmod_eq_emod_of_nonneg h0]
  unfold wrap64
  omega
/-- Two numbers of two blocks, written. -/
theorem two_set {w w1 : World} {g h : Nat} {t : TypeId} {u v u' v' cu cv : Value} (hA : Blk w1 g t #[u, cu]) (hB : Blk w1 h t #[v, cv]) (hne : g ≠ h) (hg : Grows w w1) (h1 : w.heap.size ≤ g) (h2 : w.heap.size ≤ h) :
    Blk ((w1.setCell ⟨g, 0, none⟩ u').setCell ⟨h, 0, none⟩ v').drew g t #[u', cu] ∧ Blk ((w1.setCell ⟨g, 0, none⟩ u').setCell ⟨h, 0, none⟩ v').drew h t #[v', cv] ∧ Grows w ((w1.setCell ⟨g, 0, none⟩ u').setCell ⟨h, 0, none⟩ v').drew :=
  ⟨((hA.set_ 0 u').far (p := ⟨h, 0, none⟩) hne v').drew, ((hB.far (p := ⟨g, 0, none⟩) (Ne.symm hne) u').set_ 0 v').drew, ((hg.setCell (p := ⟨g, 0, none⟩) h1 u').setCell (p := ⟨h, 0, none⟩) h2 v').drew⟩
def TwoR (w : World) (g h : Nat) (t : TypeId) (cu cv : Value) (w' : World) : Prop := ∃ A' B' : Int, 0 ≤ A' ∧ A' ≤ 7 ∧ 0 ≤ B' ∧ B' ≤ 7 ∧ Blk w' g t #[.int .i64 A', cu] ∧ Blk w' h t #[.int .i64 B', cv] ∧ Grows w w'
theorem teams_up (c : Nat) : (teams c).Pairwise (· < ·) := List.Pairwise.filter _ List.pairwise_lt_range
theorem teams_step {c i t t' : Nat} (h : (teams c)[i + 1]? = some t) (h' : (teams c)[i]? = some t') : t' < t := by
  obtain ⟨h1, rfl⟩ := List.getElem?_eq_some_iff.1 h
  obtain ⟨h2, rfl⟩ := List.getElem?_eq_some_iff.1 h'
  exact List.pairwise_iff_getElem.1 (teams_up c) _ _ _ _ (by omega)
theorem two_counts {p q : Nat → Bool} : ∀ l : List Nat, (l.filter fun k => p k || q k).length + (l.filter fun k => p k && q k).length = (l.filter p).length + (l.filter q).length
  | [] => rfl
  | x :: l => by
    have h := two_counts (p := p) (q := q) l
    simp only [List.filter_cons]
    cases p x <;> cases q x <;> simp <;> omega
theorem joinL_c {a b : Lab} (h : labRight a.lv = true) (h' : labRight b.lv = true) : (joinL a b).c = a.c ||| b.c := by rw [joinL_yes h h']
theorem meetL_c {a b : Lab} (h : labRight a.lv = true) (h' : labRight b.lv = true) : (meetL a b).c = a.c &&& b.c := by rw [meetL_yes h h']
theorem teams_join {a b k : Nat} : k ∈ teams (a ||| b) ↔ k ∈ teams a ∨ k ∈ teams b := by
  rw [teams_mem, teams_mem, teams_mem, joinL_bit, Bool.or_eq_true]
  constructor
  · rintro ⟨h, h1 | h1⟩
    · exact .inl ⟨h, h1⟩
    · exact .inr ⟨h, h1⟩
  · rintro (⟨h, h1⟩ | ⟨h, h1⟩)
    · exact ⟨h, .inl h1⟩
    · exact ⟨h, .inr h1⟩
theorem teams_meet {a b k : Nat} : k ∈ teams (a &&& b) ↔ k ∈ teams a ∧ k ∈ teams b := by
  rw [teams_mem, teams_mem, teams_mem, meetL_bit, Bool.and_eq_true]
  constructor
  · rintro ⟨h, h1, h2⟩; exact ⟨⟨h, h1⟩, h, h2⟩
  · rintro ⟨⟨h, h1⟩, _, h2⟩; exact ⟨h, h1, h2⟩
theorem teams_sum (a b : Nat) : (teams (a ||| b)).length + (teams (a &&& b)).length = (teams a).length + (teams b).length := by
  have h := two_counts (p := fun k => a.testBit k) (q := fun k => b.testBit k) (List.range 32)
  unfold teams
  rw [show (fun k => (a ||| b).testBit k) = fun k => a.testBit k || b.testBit k from funext fun k => joinL_bit a b k, show (fun k => (a &&& b).testBit k) = fun k => a.testBit k && b.testBit k from funext fun k => meetL_bit a b k]
  exact h
set_option maxRecDepth 100000 in
theorem lhas_any (A : Option Addr) (m c : Nat) (xs : List Nat) (j : Nat) (w : World) (h : Arr w 1 encI A m xs) (hm : m ≤ maxLen) (g : FuncId) (hgf : g = 53) :
    Calls Tryd.prog g #[.slice A m c, .int .i64 j] w fun e w' => e = .returned (.bool (decide (j ∈ xs))) ∧ w' = w := by
  subst hgf
  unfold maxLen at hm
  have hlen := h.1
  go_enter Tryd.func53, Tryd.ntmps53
  go_wp2
  go_loop [5] (fun i => ∃ k : Nat, k ≤ m ∧ i = .int .i64 k ∧ Hid (j ∉ xs.take k)) (fun i => m - (intOf i).toNat)
  case atStart => exact ⟨0, by omega, rfl, by simp [Hid]⟩
  case round =>
    obtain ⟨k, hk, rfl, hno⟩ := hrel
    by_cases hlt : k < m
    · obtain ⟨b, off, y, rfl, _, hy, hcell⟩ := h.at_ hlt
      have c0 : w.cell? ⟨b, off + k, none⟩ = some (.int .i64 y) := by simpa using hcell 0 _ rfl
      by_cases hyj : y = j
      · have hb : ((y : Int) == (j : Int)) = true := by simp [hyj]
        have hfin : decide (j ∈ xs) = true := by rw [decide_eq_true_eq, ← hyj]; exact List.mem_of_getElem? hy
        replace hfin := Lib.hid hfin
        clear hyj hno hy hcell h hlen
        go_wp2
        go_ret
        exact ⟨ret_bool hfin.out.symm, rfl⟩
      · have hb : ((y : Int) == (j : Int)) = false := by rw [beq_eq_false_iff_ne]; omega
        have hno2 : j ∉ xs.take (k + 1) := by
          rw [List.take_add_one, hy]; simp [hno.out, Ne.symm hyj]
        replace hno2 := Lib.hid hno2
        clear hyj hno hy hcell h hlen
        go_wp2
        go_round
        case rel => exact ⟨k + 1, by omega, by go_num, hno2.out⟩
        case measure => simp [intOf]; omega
    · obtain rfl : k = m := by omega
      have hfin : decide (j ∈ xs) = false := by rw [decide_eq_false_iff_not, ← List.take_of_length_le (Nat.le_of_eq hlen)]; exact hno.out
      replace hfin := Lib.hid hfin
      clear hno h hlen
      go_wp2
      go_ret
      exact ⟨ret_bool hfin.out.symm, rfl⟩
end Go.Proofs.YtfppagcifcppaaaDoor
