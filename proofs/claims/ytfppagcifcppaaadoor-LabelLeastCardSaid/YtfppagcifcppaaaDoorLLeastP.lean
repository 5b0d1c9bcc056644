/- Labels: plain laws of joins and meets; blocks laid in a drawn region. -/
import Derived.Test.YtfppagcifcppaaaDoorLAllP
import Derived.Test.YtfppagcifcppaaaDoorCutS
namespace Go.Proofs.YtfppagcifcppaaaDoor
open Go.RowKit

theorem right_meet {a b : Lab} (h : labRight a.lv = true) (h' : labRight b.lv = true) : labRight (meetL a b).lv = true := by
  rw [meetL_yes h h']
  rw [labRight_iff] at *
  show 0 ≤ min a.lv b.lv ∧ min a.lv b.lv ≤ 7
  omega
theorem flows_meetL {a b : Lab} (h : labRight a.lv = true) (h' : labRight b.lv = true) : flowsL (meetL a b) a = true := by
  have hr := right_meet h h'
  rw [meetL_yes h h'] at hr ⊢
  rw [flowsL_iff]
  refine ⟨hr, h, by show min a.lv b.lv ≤ a.lv; omega, fun k _ hx => ?_⟩
  rw [meetL_bit, Bool.and_eq_true] at hx
  exact hx.1
theorem flows_meetR {a b : Lab} (h : labRight a.lv = true) (h' : labRight b.lv = true) : flowsL (meetL a b) b = true := by
  have hr := right_meet h h'
  rw [meetL_yes h h'] at hr ⊢
  rw [flowsL_iff]
  refine ⟨hr, h', by show min a.lv b.lv ≤ b.lv; omega, fun k _ hx => ?_⟩
  rw [meetL_bit, Bool.and_eq_true] at hx
  exact hx.2
theorem meet_most {a b c : Lab} (h : flowsL c a = true) (h' : flowsL c b = true) : flowsL c (meetL a b) = true := by
  have hr := right_meet (flows_right h).2 (flows_right h').2
  rw [meetL_yes (flows_right h).2 (flows_right h').2] at hr ⊢
  rw [flowsL_iff] at h h' ⊢
  exact ⟨h.1, hr, by show c.lv ≤ min a.lv b.lv; omega, fun k hk hx => by rw [meetL_bit, h.2.2.2 k hk hx, h'.2.2.2 k hk hx]; rfl⟩
theorem join_flows {a b c : Lab} (h : labRight a.lv = true) (h' : labRight b.lv = true) : flowsL (joinL a b) c = (flowsL a c && flowsL b c) := by
  rw [Bool.eq_iff_iff, Bool.and_eq_true]
  exact ⟨fun hj => ⟨flows_trans (flows_joinL h h') hj, flows_trans (flows_joinR h h') hj⟩, fun hj => join_least hj.1 hj.2⟩
theorem flows_meet {a b c : Lab} (h : labRight a.lv = true) (h' : labRight b.lv = true) : flowsL c (meetL a b) = (flowsL c a && flowsL c b) := by
  rw [Bool.eq_iff_iff, Bool.and_eq_true]
  exact ⟨fun hj => ⟨flows_trans hj (flows_meetL h h'), flows_trans hj (flows_meetR h h')⟩, fun hj => meet_most hj.1 hj.2⟩
theorem join_comm (a b : Lab) : joinL a b = joinL b a := by
  unfold joinL
  by_cases h : labRight a.lv = true ∧ labRight b.lv = true
  · rw [if_pos h, if_pos h.symm, Int.max_comm, Nat.or_comm]
  · rw [if_neg h, if_neg (fun h' => h h'.symm)]
theorem meet_comm (a b : Lab) : meetL a b = meetL b a := by
  unfold meetL
  by_cases h : labRight a.lv = true ∧ labRight b.lv = true
  · rw [if_pos h, if_pos h.symm, Int.min_comm, Nat.and_comm]
  · rw [if_neg h, if_neg (fun h' => h h'.symm)]
theorem flows_same {x y : Lab} (hx : x.ok) (hy : y.ok) (h : labRight x.lv = true) (h' : labRight y.lv = true) :
    (flowsL x y = true ∧ joinL x y = y ∧ meetL x y = x) ∨ (flowsL x y = false ∧ (joinL x y).lv ≠ y.lv ∧ (meetL x y).lv ≠ x.lv) ∨
      (flowsL x y = false ∧ (joinL x y).lv = y.lv ∧ ((joinL x y).c : Int) ≠ y.c ∧ (meetL x y).lv = x.lv ∧ ((meetL x y).c : Int) ≠ x.c) := by
  cases hf : flowsL x y
  · right
    have hj : joinL x y ≠ y := fun e => by
      have := flows_joinL h h'
      rw [e, hf] at this; cases this
    have hm : meetL x y ≠ x := fun e => by
      have := flows_meetR h h'
      rw [e, hf] at this; cases this
    by_cases hl : x.lv ≤ y.lv
    · have e1 : (joinL x y).lv = y.lv := by rw [joinL_yes h h']; show max x.lv y.lv = y.lv; omega
      have e2 : (meetL x y).lv = x.lv := by rw [meetL_yes h h']; show min x.lv y.lv = x.lv; omega
      exact .inr ⟨rfl, e1, fun e => hj (lab_ext e1 (by omega)), e2, fun e => hm (lab_ext e2 (by omega))⟩
    · refine .inl ⟨rfl, ?_, ?_⟩
      · rw [joinL_yes h h']; show max x.lv y.lv ≠ y.lv; omega
      · rw [meetL_yes h h']; show min x.lv y.lv ≠ x.lv; omega
  · left
    have hjo : (joinL x y).ok := joinL_lt hx hy
    have hmo : (meetL x y).ok := meetL_lt hx
    have h1 : flowsL y y = true := by rw [flows_self]; exact h'
    have h2 : flowsL x x = true := by rw [flows_self]; exact h
    exact ⟨rfl, flows_anti hjo hy (join_least hf h1) (flows_joinR h h'), flows_anti hmo hx (flows_meetL h h') (meet_most h2 hf)⟩
theorem new_of {W X : World} {t : TypeId} {cs : Array Value} (_ : Grows W (X.alloc (.cells cs t))) : Blk (X.alloc (.cells cs t)) X.heap.size t cs := Blk.new X t cs
theorem new_of' {W X : World} {t : TypeId} {cs : Array Value} (_ : Grows W (X.alloc (.cells cs t)).drew) : Blk (X.alloc (.cells cs t)).drew X.heap.size t cs := Blk.new X t cs
theorem swap_alloc {X : World} {o o' : Obj} {g : Nat} {t : TypeId} {cs : Array Value} (h : Blk (X.alloc o) g t cs) (hl : g < X.heap.size) : Blk (X.alloc o') g t cs :=
  (Below.heap_alloc X o' g hl).trans ((Below.heap_alloc X o g hl).symm.trans h)
theorem alloc_of {W X : World} {o : Obj} {g : Nat} {t : TypeId} {cs : Array Value} (_ : Grows W (X.alloc o)) (h : Blk X g t cs) : Blk (X.alloc o) g t cs := h.alloc o
theorem upd {W X Y : World} {g : Nat} {t : TypeId} {cs : Array Value} (_ : Blk Y g t cs) (_ : Grows W X) (cs' : Array Value) (h : Blk X g t cs') : Blk X g t cs' := h
theorem same {W X Y : World} {g : Nat} {t : TypeId} {cs : Array Value} (_ : Blk Y g t cs) (_ : Grows W X) (h : Blk X g t cs) : Blk X g t cs := h
theorem set2 {X : World} {g : Nat} {t : TypeId} {u v u' v' : Value} (h : Blk X g t #[u', v']) : Blk ((X.setCell ⟨g, 0, none⟩ u).setCell ⟨g, 1, none⟩ v) g t #[u, v] := (h.set_ 0 u).set_ 1 v
theorem far2 {X : World} {g g' : Nat} {t : TypeId} {u v : Value} {cs : Array Value} (h : Blk X g' t cs) (hne : g' ≠ g) : Blk ((X.setCell ⟨g, 0, none⟩ u).setCell ⟨g, 1, none⟩ v) g' t cs := (h.far (p := ⟨g, 0, none⟩) hne u).far (p := ⟨g, 1, none⟩) hne v
end Go.Proofs.YtfppagcifcppaaaDoor
