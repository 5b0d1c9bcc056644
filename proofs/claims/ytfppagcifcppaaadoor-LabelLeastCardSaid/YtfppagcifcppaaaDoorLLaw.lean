/- Labels: plain laws of the order, the joins and the meets. -/
import Derived.Test.YtfppagcifcppaaaDoorLLiv
namespace Go.Proofs.YtfppagcifcppaaaDoor

theorem lab_ext {a b : Lab} (h1 : a.lv = b.lv) (h2 : a.c = b.c) : a = b := by
  cases a; cases b; simp_all
theorem flowsL_iff {a b : Lab} : flowsL a b = true ↔ labRight a.lv = true ∧ labRight b.lv = true ∧ a.lv ≤ b.lv ∧ ∀ k, k < 32 → a.c.testBit k = true → b.c.testBit k = true := by
  unfold flowsL
  rw [Bool.and_eq_true, Bool.and_eq_true, Bool.and_eq_true, subB_iff]
  simp only [decide_eq_true_eq, and_assoc]
theorem flows_anti {a b : Lab} (ha : a.ok) (hb : b.ok) (h : flowsL a b = true) (h' : flowsL b a = true) : a = b := by
  rw [flowsL_iff] at h h'
  refine lab_ext (by omega) (bits_ext ha hb fun k hk => ?_)
  have h1 := h.2.2.2 k hk
  have h2 := h'.2.2.2 k hk
  cases e1 : a.c.testBit k <;> cases e2 : b.c.testBit k <;> simp_all
theorem flows_trans {a b c : Lab} (h : flowsL a b = true) (h' : flowsL b c = true) : flowsL a c = true := by
  rw [flowsL_iff] at h h' ⊢
  exact ⟨h.1, h'.2.1, by omega, fun k hk hx => h'.2.2.2 k hk (h.2.2.2 k hk hx)⟩
theorem flows_self (a : Lab) : flowsL a a = labRight a.lv := by
  cases h : labRight a.lv
  · unfold flowsL; rw [h]; rfl
  · rw [flowsL_iff]; exact ⟨h, h, by omega, fun _ _ hx => hx⟩
theorem flows_right {a b : Lab} (h : flowsL a b = true) : labRight a.lv = true ∧ labRight b.lv = true := ⟨(flowsL_iff.1 h).1, (flowsL_iff.1 h).2.1⟩
end Go.Proofs.YtfppagcifcppaaaDoor
