/- Labels: joins of meets, meets of joins; a slice of three labels, newly laid; three levels written. -/
import Derived.Test.YtfppagcifcppaaaDoorLLeastP
import Derived.Test.YtfppagcifcppaaaDoorComK
namespace Go.Proofs.YtfppagcifcppaaaDoor
open Go.RowKit

theorem meet_join {a b c : Lab} (ha : labRight a.lv = true) (hb : labRight b.lv = true) (hc : labRight c.lv = true) : joinL (meetL a b) (meetL a c) = meetL a (joinL b c) := by
  rw [joinL_yes (right_meet ha hb) (right_meet ha hc), meetL_yes ha (right_join hb hc), meetL_yes ha hb, meetL_yes ha hc, joinL_yes hb hc]
  refine lab_ext ?_ ?_
  · show max (min a.lv b.lv) (min a.lv c.lv) = min a.lv (max b.lv c.lv); omega
  · exact (Nat.and_or_distrib_left _ _ _).symm
theorem join_meet {a b c : Lab} (ha : labRight a.lv = true) (hb : labRight b.lv = true) (hc : labRight c.lv = true) : meetL (joinL a b) (joinL a c) = joinL a (meetL b c) := by
  rw [meetL_yes (right_join ha hb) (right_join ha hc), joinL_yes ha (right_meet hb hc), joinL_yes ha hb, joinL_yes ha hc, meetL_yes hb hc]
  refine lab_ext ?_ ?_
  · show min (max a.lv b.lv) (max a.lv c.lv) = max a.lv (min b.lv c.lv); omega
  · exact (Nat.or_and_distrib_left _ _ _).symm
theorem join_absorb {a b : Lab} (ha : labRight a.lv = true) (hb : labRight b.lv = true) : joinL a (meetL a b) = a := by
  rw [joinL_yes ha (right_meet ha hb), meetL_yes ha hb]
  refine lab_ext ?_ ?_
  · show max a.lv (min a.lv b.lv) = a.lv; omega
  · show a.c ||| (a.c &&& b.c) = a.c
    apply Nat.eq_of_testBit_eq
    intro i
    rw [joinL_bit, meetL_bit]
    cases a.c.testBit i <;> simp
theorem meet_absorb {a b : Lab} (ha : labRight a.lv = true) (hb : labRight b.lv = true) : meetL a (joinL a b) = a := by
  rw [meetL_yes ha (right_join ha hb), joinL_yes ha hb]
  refine lab_ext ?_ ?_
  · show min a.lv (max a.lv b.lv) = a.lv; omega
  · show a.c &&& (a.c ||| b.c) = a.c
    apply Nat.eq_of_testBit_eq
    intro i
    rw [meetL_bit, joinL_bit]
    cases a.c.testBit i <;> simp
theorem join_assoc {a b c : Lab} (ha : labRight a.lv = true) (hb : labRight b.lv = true) (hc : labRight c.lv = true) : joinL (joinL a b) c = joinL a (joinL b c) := by
  rw [joinL_yes (right_join ha hb) hc, joinL_yes ha (right_join hb hc), joinL_yes ha hb, joinL_yes hb hc]
  refine lab_ext ?_ ?_
  · show max (max a.lv b.lv) c.lv = max a.lv (max b.lv c.lv); omega
  · exact Nat.or_assoc _ _ _
theorem acc_three {a b c : Lab} (ha : labRight a.lv = true) (hb : labRight b.lv = true) (hc : labRight c.lv = true) : accL [a, b, c] 3 = joinL a (joinL b c) := by
  have h0 : joinL ⟨0, 0⟩ a = a := by
    rw [joinL_yes (by decide) ha]
    rw [labRight_iff] at ha
    refine lab_ext ?_ ?_
    · show max 0 a.lv = a.lv; omega
    · show 0 ||| a.c = a.c; exact Nat.zero_or _
  show joinL (joinL (joinL ⟨0, 0⟩ a) b) c = _
  rw [h0]
  exact join_assoc ha hb hc
theorem Arr.three (w : World) (t : TypeId) (x y z : Lab) : Arr (w.alloc (.cells #[.int .i64 x.lv, .int .u32 (x.c : Int), .int .i64 y.lv, .int .u32 (y.c : Int), .int .i64 z.lv, .int .u32 (z.c : Int)] t)) 2 encL (some ⟨w.heap.size, 0, none⟩) 3 [x, y, z] :=
  ⟨rfl, fun _ => ⟨_, _, rfl, by simp, fun i hi j u hu => by
    rw [(Blk.new w t _).cell]
    rcases i with _ | _ | _ | i
    · rcases j with _ | _ | j <;> simp [encL] at hu ⊢ <;> exact hu
    · rcases j with _ | _ | j <;> simp [encL] at hu ⊢ <;> exact hu
    · rcases j with _ | _ | j <;> simp [encL] at hu ⊢ <;> exact hu
    · simp at hi; omega⟩⟩
theorem three_of {W X : World} {t : TypeId} {a b c : Lab} (_ : Grows W (X.alloc (.cells #[.int .i64 a.lv, .int .u32 (a.c : Int), .int .i64 b.lv, .int .u32 (b.c : Int), .int .i64 c.lv, .int .u32 (c.c : Int)] t))) (x y z : Lab) (hx : x = a := by rfl) (hy : y = b := by rfl) (hz : z = c := by rfl) : Arr (X.alloc (.cells #[.int .i64 a.lv, .int .u32 (a.c : Int), .int .i64 b.lv, .int .u32 (b.c : Int), .int .i64 c.lv, .int .u32 (c.c : Int)] t)) 2 encL (some ⟨X.heap.size, 0, none⟩) 3 [x, y, z] := by
  subst hx hy hz
  exact Arr.three X t x y z
def ThreeR (w : World) (g h k : Nat) (t : TypeId) (cu cv cz : Value) (w' : World) : Prop :=
  ∃ A' B' C' : Int, (0 ≤ A' ∧ A' ≤ 7) ∧ (0 ≤ B' ∧ B' ≤ 7) ∧ (0 ≤ C' ∧ C' ≤ 7) ∧ Blk w' g t #[.int .i64 A', cu] ∧ Blk w' h t #[.int .i64 B', cv] ∧ Blk w' k t #[.int .i64 C', cz] ∧ Grows w w'
theorem three_set {w w1 : World} {g h k : Nat} {t : TypeId} {u v z u' v' z' cu cv cz : Value} (hA : Blk w1 g t #[u, cu]) (hB : Blk w1 h t #[v, cv]) (hC : Blk w1 k t #[z, cz]) (h1 : w.heap.size ≤ g) (h2 : g < h) (h3 : h < k) (hg : Grows w w1) :
    Blk (((w1.setCell ⟨g, 0, none⟩ u').setCell ⟨h, 0, none⟩ v').setCell ⟨k, 0, none⟩ z').drew g t #[u', cu] ∧ Blk (((w1.setCell ⟨g, 0, none⟩ u').setCell ⟨h, 0, none⟩ v').setCell ⟨k, 0, none⟩ z').drew h t #[v', cv] ∧
      Blk (((w1.setCell ⟨g, 0, none⟩ u').setCell ⟨h, 0, none⟩ v').setCell ⟨k, 0, none⟩ z').drew k t #[z', cz] ∧ Grows w (((w1.setCell ⟨g, 0, none⟩ u').setCell ⟨h, 0, none⟩ v').setCell ⟨k, 0, none⟩ z').drew :=
  ⟨(((hA.set_ 0 u').far (p := ⟨h, 0, none⟩) (Nat.ne_of_lt h2) v').far (p := ⟨k, 0, none⟩) (Nat.ne_of_lt (Nat.lt_trans h2 h3)) z').drew,
   (((hB.far (p := ⟨g, 0, none⟩) (Nat.ne_of_gt h2) u').set_ 0 v').far (p := ⟨k, 0, none⟩) (Nat.ne_of_lt h3) z').drew,
   (((hC.far (p := ⟨g, 0, none⟩) (Nat.ne_of_gt (Nat.lt_trans h2 h3)) u').far (p := ⟨h, 0, none⟩) (Nat.ne_of_gt h3) v').set_ 0 z').drew,
   (((hg.setCell (p := ⟨g, 0, none⟩) h1 u').setCell (p := ⟨h, 0, none⟩) (Nat.le_trans h1 (Nat.le_of_lt h2)) v').setCell (p := ⟨k, 0, none⟩) (Nat.le_trans h1 (Nat.le_of_lt (Nat.lt_trans h2 h3))) z').drew⟩
end Go.Proofs.YtfppagcifcppaaaDoor
