/- Labels: contracts of Right, Flows, Join, Meet of the program. -/
import Derived.Test.YtfppagcifcppaaaDoorAlt
import Derived.Test.YtfppagcifcppaaaDoorLabP
import Derived.Laws.BitsAllLaws
namespace Go.Proofs.YtfppagcifcppaaaDoor
open Go.RowKit

def encL (x : Lab) : List Value := [.int .i64 x.lv, .int .u32 (x.c : Int)]
theorem hkL (x : Lab) : (encL x).length = 2 := rfl
theorem oneL (x : Lab) : ∀ u ∈ encL x, u.oneCell' = true := by intro u hu; simp [encL] at hu; rcases hu with rfl | rfl <;> rfl
theorem Blk.new1 (w : World) (o : Obj) (t : TypeId) (cs : Array Value) : Blk ((w.alloc o).alloc (.cells cs t)) (w.heap.size + 1) t cs := by
  have := Blk.new (w.alloc o) t cs
  rwa [World.size_alloc] at this
theorem Blk.new2 (w : World) (o o' : Obj) (t : TypeId) (cs : Array Value) : Blk (((w.alloc o).alloc o').alloc (.cells cs t)) (w.heap.size + 1 + 1) t cs := by
  have := Blk.new ((w.alloc o).alloc o') t cs
  rwa [World.size_alloc, World.size_alloc] at this
def Lab.ok (x : Lab) : Prop := x.c < 4294967296

set_option maxHeartbeats 400000 in
theorem lRight_any (x : Lab) (w : World) :
    Calls Tryd.prog 43 #[.agg #[.int .i64 x.lv, .int .u32 (x.c : Int)]] w fun e w' => e = .returned (.bool (labRight x.lv)) ∧ Grows w w' := by
  go_enter Tryd.func43, Tryd.ntmps43
  go_wp2
  all_goals go_ret
  all_goals refine ⟨ret_bool ?_, (Grows.refl _).alloc _⟩
  all_goals (rw [Bool.eq_iff_iff]; rw [labRight_iff]; simp only [decide_eq_true_eq, Bool.false_eq_true, false_iff]; omega)
set_option maxHeartbeats 400000 in
theorem lRefRight_any (x : Lab) (w : World) :
    Calls Tryd.prog 44 #[.agg #[.int .i64 x.lv, .int .u32 (x.c : Int)]] w fun e w' => e = .returned (.bool (labRight x.lv)) ∧ Grows w w' := by
  go_enter Tryd.func44, Tryd.ntmps44
  go_wp2
  all_goals go_ret
  all_goals refine ⟨ret_bool ?_, (Grows.refl _).alloc _⟩
  all_goals (rw [Bool.eq_iff_iff]; rw [labRight_iff]; simp only [decide_eq_true_eq, Bool.false_eq_true, false_iff]; omega)

theorem andNot_sub {a b : Nat} (ha : a < 4294967296) (hb : b < 4294967296) : ∃ D : Int, bits .andNot .u32 (a : Int) (b : Int) = D ∧ (D == 0) = subB a b := by
  refine ⟨_, u32_andNot_nat a b ha hb, ?_⟩
  rw [← subB_and ha hb, Bool.eq_iff_iff, beq_iff_eq, decide_eq_true_eq]
  omega

set_option maxRecDepth 100000 in
set_option maxHeartbeats 1600000 in
theorem lFlows_any (a b : Lab) (w : World) (ha : a.ok) (hb : b.ok) :
    Calls Tryd.prog 42 #[.agg #[.int .i64 a.lv, .int .u32 (a.c : Int)], .agg #[.int .i64 b.lv, .int .u32 (b.c : Int)]] w fun e w' => e = .returned (.bool (flowsL a b)) ∧ Grows w w' := by
  have cA := fun W => lRight_any a W
  have cB := fun W => lRight_any b W
  obtain ⟨D, hD, hD0⟩ := andNot_sub ha hb
  have hfl : flowsL a b = (labRight a.lv && labRight b.lv && decide (a.lv ≤ b.lv) && subB a.c b.c) := rfl
  generalize labRight a.lv = p at *
  generalize labRight b.lv = q at *
  generalize subB a.c b.c = r at *
  replace cA := Lib.hid cA
  replace cB := Lib.hid cB
  cases p
  · simp only [Bool.false_and] at hfl
    replace hfl := Lib.hid hfl
    go_enter Tryd.func42, Tryd.ntmps42
    go_wp2_with fail
    refine (cA.out _).mono ?_
    rintro e w1 ⟨rfl, hb1⟩
    go_wp2_with fail
    go_ret
    exact ⟨ret_bool hfl.out.symm, by
      repeat (first | assumption | exact Grows.refl _ | apply Grows.drew | apply Grows.drewN | refine Grows.alloc ?_ _ | (refine Grows.setCell ?_ (by first | (simp; done) | (simp; omega) | omega) _) | (refine Grows.trans ?_ (by assumption)))
    ⟩
  · cases q
    · simp only [Bool.false_and, Bool.true_and] at hfl
      replace hfl := Lib.hid hfl
      go_enter Tryd.func42, Tryd.ntmps42
      go_wp2_with fail
      refine (cA.out _).mono ?_
      rintro e w1 ⟨rfl, hb1⟩
      have d0 : w1.cell? ⟨w.heap.size + 1, 0, none⟩ = some (.int .i64 b.lv) := hb1.cell (by simp)
      have d1 : w1.cell? ⟨w.heap.size + 1, 1, none⟩ = some (.int .u32 (b.c : Int)) := hb1.cell (by simp)
      go_wp2_with fail
      refine (cB.out _).mono ?_
      rintro e w2 ⟨rfl, hb2⟩
      go_wp2_with fail
      go_ret
      exact ⟨ret_bool hfl.out.symm, by
        repeat (first | assumption | exact Grows.refl _ | apply Grows.drew | apply Grows.drewN | refine Grows.alloc ?_ _ | (refine Grows.setCell ?_ (by first | (simp; done) | (simp; omega) | omega) _) | (refine Grows.trans ?_ (by assumption)))
      ⟩
    · simp only [Bool.true_and] at hfl
      by_cases hle : a.lv ≤ b.lv
      · rw [decide_eq_true hle, Bool.true_and] at hfl
        replace hfl := Lib.hid hfl
        go_enter Tryd.func42, Tryd.ntmps42
        go_wp2_with fail
        refine (cA.out _).mono ?_
        rintro e w1 ⟨rfl, hb1⟩
        have d0 : w1.cell? ⟨w.heap.size + 1, 0, none⟩ = some (.int .i64 b.lv) := hb1.cell (by simp)
        have d1 : w1.cell? ⟨w.heap.size + 1, 1, none⟩ = some (.int .u32 (b.c : Int)) := hb1.cell (by simp)
        have d2 : w1.cell? ⟨w.heap.size, 0, none⟩ = some (.int .i64 a.lv) := hb1.cell (by simp)
        have d3 : w1.cell? ⟨w.heap.size, 1, none⟩ = some (.int .u32 (a.c : Int)) := hb1.cell (by simp)
        go_wp2_with fail
        refine (cB.out _).mono ?_
        rintro e w2 ⟨rfl, hb2⟩
        replace d0 := hb2.cell d0
        replace d1 := hb2.cell d1
        replace d2 := hb2.cell d2
        replace d3 := hb2.cell d3
        go_wp2_with fail
        go_ret
        exact ⟨ret_bool hfl.out.symm, by
          repeat (first | assumption | exact Grows.refl _ | apply Grows.drew | apply Grows.drewN | refine Grows.alloc ?_ _ | (refine Grows.setCell ?_ (by first | (simp; done) | (simp; omega) | omega) _) | (refine Grows.trans ?_ (by assumption)))
        ⟩
      · rw [decide_eq_false hle, Bool.false_and] at hfl
        replace hfl := Lib.hid hfl
        go_enter Tryd.func42, Tryd.ntmps42
        go_wp2_with fail
        refine (cA.out _).mono ?_
        rintro e w1 ⟨rfl, hb1⟩
        have d0 : w1.cell? ⟨w.heap.size + 1, 0, none⟩ = some (.int .i64 b.lv) := hb1.cell (by simp)
        have d1 : w1.cell? ⟨w.heap.size + 1, 1, none⟩ = some (.int .u32 (b.c : Int)) := hb1.cell (by simp)
        have d2 : w1.cell? ⟨w.heap.size, 0, none⟩ = some (.int .i64 a.lv) := hb1.cell (by simp)
        have d3 : w1.cell? ⟨w.heap.size, 1, none⟩ = some (.int .u32 (a.c : Int)) := hb1.cell (by simp)
        go_wp2_with fail
        refine (cB.out _).mono ?_
        rintro e w2 ⟨rfl, hb2⟩
        replace d0 := hb2.cell d0
        replace d1 := hb2.cell d1
        replace d2 := hb2.cell d2
        replace d3 := hb2.cell d3
        go_wp2_with fail
        go_ret
        exact ⟨ret_bool hfl.out.symm, by
          repeat (first | assumption | exact Grows.refl _ | apply Grows.drew | apply Grows.drewN | refine Grows.alloc ?_ _ | (refine Grows.setCell ?_ (by first | (simp; done) | (simp; omega) | omega) _) | (refine Grows.trans ?_ (by assumption)))
        ⟩

theorem joinL_no {a b : Lab} (h : labRight a.lv = false ∨ labRight b.lv = false) : joinL a b = topL := by
  unfold joinL; rw [if_neg (by rcases h with h | h <;> simp [h])]
theorem joinL_yes {a b : Lab} (h : labRight a.lv = true) (h' : labRight b.lv = true) : joinL a b = ⟨max a.lv b.lv, a.c ||| b.c⟩ := by
  unfold joinL; rw [if_pos ⟨h, h'⟩]
set_option maxRecDepth 100000 in
set_option maxHeartbeats 1600000 in
theorem lJoin_any (a b : Lab) (w : World) (ha : a.ok) (hb : b.ok) :
    Calls Tryd.prog 46 #[.agg #[.int .i64 a.lv, .int .u32 (a.c : Int)], .agg #[.int .i64 b.lv, .int .u32 (b.c : Int)]] w fun e w' => e = .returned (.agg #[.int .i64 (joinL a b).lv, .int .u32 ((joinL a b).c : Int)]) ∧ Grows w w' := by
  have cA := fun W => lRight_any a W
  have cB := fun W => lRight_any b W
  have hno := joinL_no (a := a) (b := b)
  have hyes := joinL_yes (a := a) (b := b)
  have hbit := u32_or_nat a.c b.c ha hb
  have hmx : (if a.lv < b.lv then b.lv else a.lv) = max a.lv b.lv := by split <;> omega
  generalize max a.lv b.lv = M at *
  generalize a.c ||| b.c = D at *
  generalize labRight a.lv = p at *
  generalize labRight b.lv = q at *
  replace cA := Lib.hid cA
  replace cB := Lib.hid cB
  replace hno := Lib.hid hno
  replace hyes := Lib.hid hyes
  have hpq : p = false ∨ (p = true ∧ q = false) ∨ (p = true ∧ q = true) := by cases p <;> cases q <;> simp
  rcases hpq with rfl | ⟨rfl, rfl⟩ | ⟨rfl, rfl⟩
  · have hfin := Lib.hid (hno.out (.inl rfl))
    go_enter Tryd.func46, Tryd.ntmps46
    go_wp2_with fail
    refine (cA.out _).mono ?_
    rintro e w1 ⟨rfl, hb1⟩
    have bC : Blk w1 (w.heap.size + 1 + 1) 62 #[.int .i64 0, .int .u32 0] := (Blk.new2 w _ _ _ _).grows hb1
    have bB : Blk w1 (w.heap.size + 1) 62 #[.int .i64 b.lv, .int .u32 (b.c : Int)] := ((Blk.new1 w _ _ _).alloc _).grows hb1
    have bA : Blk w1 w.heap.size 62 #[.int .i64 a.lv, .int .u32 (a.c : Int)] := (((Blk.new w _ _).alloc _).alloc _).grows hb1
    have e0 : w1.cell? ⟨w.heap.size + 1 + 1, 0, none⟩ = some (.int .i64 0) := bC.cell 0
    have e1 : w1.cell? ⟨w.heap.size + 1 + 1, 1, none⟩ = some (.int .u32 0) := bC.cell 1
    have f0 := bC.frozen 0
    have f1 := bC.frozen 1
    have s2 := bC.lt
    have g0 : w1.cell? ⟨w.heap.size + 1, 0, none⟩ = some (.int .i64 b.lv) := bB.cell 0
    have g1 : w1.cell? ⟨w.heap.size + 1, 1, none⟩ = some (.int .u32 (b.c : Int)) := bB.cell 1
    have h0 : w1.cell? ⟨w.heap.size, 0, none⟩ = some (.int .i64 a.lv) := bA.cell 0
    have h1 : w1.cell? ⟨w.heap.size, 1, none⟩ = some (.int .u32 (a.c : Int)) := bA.cell 1
    go_wp2_with fail
    refine bodyPost_ret (v := .agg #[.int .i64 7, .int .u32 4294967295]) ?_ rfl ⟨by rw [hfin.out]; rfl, ?_⟩
    · simp [results, Tryd.results46, go_sem, e0, e1]
    · repeat (first | assumption | exact Grows.refl _ | apply Grows.drew | apply Grows.drewN | refine Grows.alloc ?_ _ | (refine Grows.setCell ?_ (by first | (simp; done) | (simp; omega) | omega) _) | (refine Grows.trans ?_ (by assumption)))
  · have hfin := Lib.hid (hno.out (.inr rfl))
    go_enter Tryd.func46, Tryd.ntmps46
    go_wp2_with fail
    refine (cA.out _).mono ?_
    rintro e w1 ⟨rfl, hb1⟩
    have bC : Blk w1 (w.heap.size + 1 + 1) 62 #[.int .i64 0, .int .u32 0] := (Blk.new2 w _ _ _ _).grows hb1
    have bB : Blk w1 (w.heap.size + 1) 62 #[.int .i64 b.lv, .int .u32 (b.c : Int)] := ((Blk.new1 w _ _ _).alloc _).grows hb1
    have bA : Blk w1 w.heap.size 62 #[.int .i64 a.lv, .int .u32 (a.c : Int)] := (((Blk.new w _ _).alloc _).alloc _).grows hb1
    have e0 : w1.cell? ⟨w.heap.size + 1 + 1, 0, none⟩ = some (.int .i64 0) := bC.cell 0
    have e1 : w1.cell? ⟨w.heap.size + 1 + 1, 1, none⟩ = some (.int .u32 0) := bC.cell 1
    have f0 := bC.frozen 0
    have f1 := bC.frozen 1
    have s2 := bC.lt
    have g0 : w1.cell? ⟨w.heap.size + 1, 0, none⟩ = some (.int .i64 b.lv) := bB.cell 0
    have g1 : w1.cell? ⟨w.heap.size + 1, 1, none⟩ = some (.int .u32 (b.c : Int)) := bB.cell 1
    have h0 : w1.cell? ⟨w.heap.size, 0, none⟩ = some (.int .i64 a.lv) := bA.cell 0
    have h1 : w1.cell? ⟨w.heap.size, 1, none⟩ = some (.int .u32 (a.c : Int)) := bA.cell 1
    go_wp2_with fail
    refine (cB.out _).mono ?_
    rintro e w2 ⟨rfl, hb2⟩
    replace bA := bA.grows hb2
    replace bB := bB.grows hb2
    replace bC := bC.grows hb2
    clear e0 e1 f0 f1 s2 g0 g1 h0 h1
    have e0 : w2.cell? ⟨w.heap.size + 1 + 1, 0, none⟩ = some (.int .i64 0) := bC.cell 0
    have e1 : w2.cell? ⟨w.heap.size + 1 + 1, 1, none⟩ = some (.int .u32 0) := bC.cell 1
    have f0 := bC.frozen 0
    have f1 := bC.frozen 1
    have s2 := bC.lt
    have g0 : w2.cell? ⟨w.heap.size + 1, 0, none⟩ = some (.int .i64 b.lv) := bB.cell 0
    have g1 : w2.cell? ⟨w.heap.size + 1, 1, none⟩ = some (.int .u32 (b.c : Int)) := bB.cell 1
    have h0 : w2.cell? ⟨w.heap.size, 0, none⟩ = some (.int .i64 a.lv) := bA.cell 0
    have h1 : w2.cell? ⟨w.heap.size, 1, none⟩ = some (.int .u32 (a.c : Int)) := bA.cell 1
    go_wp2_with fail
    refine bodyPost_ret (v := .agg #[.int .i64 7, .int .u32 4294967295]) ?_ rfl ⟨by rw [hfin.out]; rfl, ?_⟩
    · simp [results, Tryd.results46, go_sem, e0, e1]
    · repeat (first | assumption | exact Grows.refl _ | apply Grows.drew | apply Grows.drewN | refine Grows.alloc ?_ _ | (refine Grows.setCell ?_ (by first | (simp; done) | (simp; omega) | omega) _) | (refine Grows.trans ?_ (by assumption)))
  · have hfin := Lib.hid (hyes.out rfl rfl)
    go_enter Tryd.func46, Tryd.ntmps46
    go_wp2_with fail
    refine (cA.out _).mono ?_
    rintro e w1 ⟨rfl, hb1⟩
    have bC : Blk w1 (w.heap.size + 1 + 1) 62 #[.int .i64 0, .int .u32 0] := (Blk.new2 w _ _ _ _).grows hb1
    have bB : Blk w1 (w.heap.size + 1) 62 #[.int .i64 b.lv, .int .u32 (b.c : Int)] := ((Blk.new1 w _ _ _).alloc _).grows hb1
    have bA : Blk w1 w.heap.size 62 #[.int .i64 a.lv, .int .u32 (a.c : Int)] := (((Blk.new w _ _).alloc _).alloc _).grows hb1
    have e0 : w1.cell? ⟨w.heap.size + 1 + 1, 0, none⟩ = some (.int .i64 0) := bC.cell 0
    have e1 : w1.cell? ⟨w.heap.size + 1 + 1, 1, none⟩ = some (.int .u32 0) := bC.cell 1
    have f0 := bC.frozen 0
    have f1 := bC.frozen 1
    have s2 := bC.lt
    have g0 : w1.cell? ⟨w.heap.size + 1, 0, none⟩ = some (.int .i64 b.lv) := bB.cell 0
    have g1 : w1.cell? ⟨w.heap.size + 1, 1, none⟩ = some (.int .u32 (b.c : Int)) := bB.cell 1
    have h0 : w1.cell? ⟨w.heap.size, 0, none⟩ = some (.int .i64 a.lv) := bA.cell 0
    have h1 : w1.cell? ⟨w.heap.size, 1, none⟩ = some (.int .u32 (a.c : Int)) := bA.cell 1
    go_wp2_with fail
    refine (cB.out _).mono ?_
    rintro e w2 ⟨rfl, hb2⟩
    replace bA := bA.grows hb2
    replace bB := bB.grows hb2
    replace bC := bC.grows hb2
    clear e0 e1 f0 f1 s2 g0 g1 h0 h1
    have e0 : w2.cell? ⟨w.heap.size + 1 + 1, 0, none⟩ = some (.int .i64 0) := bC.cell 0
    have e1 : w2.cell? ⟨w.heap.size + 1 + 1, 1, none⟩ = some (.int .u32 0) := bC.cell 1
    have f0 := bC.frozen 0
    have f1 := bC.frozen 1
    have s2 := bC.lt
    have g0 : w2.cell? ⟨w.heap.size + 1, 0, none⟩ = some (.int .i64 b.lv) := bB.cell 0
    have g1 : w2.cell? ⟨w.heap.size + 1, 1, none⟩ = some (.int .u32 (b.c : Int)) := bB.cell 1
    have h0 : w2.cell? ⟨w.heap.size, 0, none⟩ = some (.int .i64 a.lv) := bA.cell 0
    have h1 : w2.cell? ⟨w.heap.size, 1, none⟩ = some (.int .u32 (a.c : Int)) := bA.cell 1
    go_wp2_with fail
    refine bodyPost_ret (v := .agg #[.int .i64 M, .int .u32 (D : Int)]) ?_ rfl ⟨by rw [hfin.out], ?_⟩
    · simp [results, Tryd.results46, go_sem, e0, e1]
    · repeat (first | assumption | exact Grows.refl _ | apply Grows.drew | apply Grows.drewN | refine Grows.alloc ?_ _ | (refine Grows.setCell ?_ (by first | (simp; done) | (simp; omega) | omega) _) | (refine Grows.trans ?_ (by assumption)))

theorem meetL_no {a b : Lab} (h : labRight a.lv = false ∨ labRight b.lv = false) : meetL a b = ⟨0, 0⟩ := by
  unfold meetL; rw [if_neg (by rcases h with h | h <;> simp [h])]
theorem meetL_yes {a b : Lab} (h : labRight a.lv = true) (h' : labRight b.lv = true) : meetL a b = ⟨min a.lv b.lv, a.c &&& b.c⟩ := by
  unfold meetL; rw [if_pos ⟨h, h'⟩]
set_option maxRecDepth 100000 in
set_option maxHeartbeats 1600000 in
theorem lMeet_any (a b : Lab) (w : World) (ha : a.ok) (hb : b.ok) :
    Calls Tryd.prog 48 #[.agg #[.int .i64 a.lv, .int .u32 (a.c : Int)], .agg #[.int .i64 b.lv, .int .u32 (b.c : Int)]] w fun e w' => e = .returned (.agg #[.int .i64 (meetL a b).lv, .int .u32 ((meetL a b).c : Int)]) ∧ Grows w w' := by
  have cA := fun W => lRight_any a W
  have cB := fun W => lRight_any b W
  have hno := meetL_no (a := a) (b := b)
  have hyes := meetL_yes (a := a) (b := b)
  have hbit := u32_and_nat a.c b.c ha hb
  have hmx : (if b.lv < a.lv then b.lv else a.lv) = min a.lv b.lv := by split <;> omega
  generalize min a.lv b.lv = M at *
  generalize a.c &&& b.c = D at *
  generalize labRight a.lv = p at *
  generalize labRight b.lv = q at *
  replace cA := Lib.hid cA
  replace cB := Lib.hid cB
  replace hno := Lib.hid hno
  replace hyes := Lib.hid hyes
  have hpq : p = false ∨ (p = true ∧ q = false) ∨ (p = true ∧ q = true) := by cases p <;> cases q <;> simp
  rcases hpq with rfl | ⟨rfl, rfl⟩ | ⟨rfl, rfl⟩
  · have hfin := Lib.hid (hno.out (.inl rfl))
    go_enter Tryd.func48, Tryd.ntmps48
    go_wp2_with fail
    refine (cA.out _).mono ?_
    rintro e w1 ⟨rfl, hb1⟩
    have bC : Blk w1 (w.heap.size + 1 + 1) 62 #[.int .i64 0, .int .u32 0] := (Blk.new2 w _ _ _ _).grows hb1
    have bB : Blk w1 (w.heap.size + 1) 62 #[.int .i64 b.lv, .int .u32 (b.c : Int)] := ((Blk.new1 w _ _ _).alloc _).grows hb1
    have bA : Blk w1 w.heap.size 62 #[.int .i64 a.lv, .int .u32 (a.c : Int)] := (((Blk.new w _ _).alloc _).alloc _).grows hb1
    have e0 : w1.cell? ⟨w.heap.size + 1 + 1, 0, none⟩ = some (.int .i64 0) := bC.cell 0
    have e1 : w1.cell? ⟨w.heap.size + 1 + 1, 1, none⟩ = some (.int .u32 0) := bC.cell 1
    have f0 := bC.frozen 0
    have f1 := bC.frozen 1
    have s2 := bC.lt
    have g0 : w1.cell? ⟨w.heap.size + 1, 0, none⟩ = some (.int .i64 b.lv) := bB.cell 0
    have g1 : w1.cell? ⟨w.heap.size + 1, 1, none⟩ = some (.int .u32 (b.c : Int)) := bB.cell 1
    have h0 : w1.cell? ⟨w.heap.size, 0, none⟩ = some (.int .i64 a.lv) := bA.cell 0
    have h1 : w1.cell? ⟨w.heap.size, 1, none⟩ = some (.int .u32 (a.c : Int)) := bA.cell 1
    go_wp2_with fail
    refine bodyPost_ret (v := .agg #[.int .i64 0, .int .u32 0]) ?_ rfl ⟨by rw [hfin.out]; rfl, ?_⟩
    · simp [results, Tryd.results48, go_sem, e0, e1]
    · repeat (first | assumption | exact Grows.refl _ | apply Grows.drew | apply Grows.drewN | refine Grows.alloc ?_ _ | (refine Grows.setCell ?_ (by first | (simp; done) | (simp; omega) | omega) _) | (refine Grows.trans ?_ (by assumption)))
  · have hfin := Lib.hid (hno.out (.inr rfl))
    go_enter Tryd.func48, Tryd.ntmps48
    go_wp2_with fail
    refine (cA.out _).mono ?_
    rintro e w1 ⟨rfl, hb1⟩
    have bC : Blk w1 (w.heap.size + 1 + 1) 62 #[.int .i64 0, .int .u32 0] := (Blk.new2 w _ _ _ _).grows hb1
    have bB : Blk w1 (w.heap.size + 1) 62 #[.int .i64 b.lv, .int .u32 (b.c : Int)] := ((Blk.new1 w _ _ _).alloc _).grows hb1
    have bA : Blk w1 w.heap.size 62 #[.int .i64 a.lv, .int .u32 (a.c : Int)] := (((Blk.new w _ _).alloc _).alloc _).grows hb1
    have e0 : w1.cell? ⟨w.heap.size + 1 + 1, 0, none⟩ = some (.int .i64 0) := bC.cell 0
    have e1 : w1.cell? ⟨w.heap.size + 1 + 1, 1, none⟩ = some (.int .u32 0) := bC.cell 1
    have f0 := bC.frozen 0
    have f1 := bC.frozen 1
    have s2 := bC.lt
    have g0 : w1.cell? ⟨w.heap.size + 1, 0, none⟩ = some (.int .i64 b.lv) := bB.cell 0
    have g1 : w1.cell? ⟨w.heap.size + 1, 1, none⟩ = some (.int .u32 (b.c : Int)) := bB.cell 1
    have h0 : w1.cell? ⟨w.heap.size, 0, none⟩ = some (.int .i64 a.lv) := bA.cell 0
    have h1 : w1.cell? ⟨w.heap.size, 1, none⟩ = some (.int .u32 (a.c : Int)) := bA.cell 1
    go_wp2_with fail
    refine (cB.out _).mono ?_
    rintro e w2 ⟨rfl, hb2⟩
    replace bA := bA.grows hb2
    replace bB := bB.grows hb2
    replace bC := bC.grows hb2
    clear e0 e1 f0 f1 s2 g0 g1 h0 h1
    have e0 : w2.cell? ⟨w.heap.size + 1 + 1, 0, none⟩ = some (.int .i64 0) := bC.cell 0
    have e1 : w2.cell? ⟨w.heap.size + 1 + 1, 1, none⟩ = some (.int .u32 0) := bC.cell 1
    have f0 := bC.frozen 0
    have f1 := bC.frozen 1
    have s2 := bC.lt
    have g0 : w2.cell? ⟨w.heap.size + 1, 0, none⟩ = some (.int .i64 b.lv) := bB.cell 0
    have g1 : w2.cell? ⟨w.heap.size + 1, 1, none⟩ = some (.int .u32 (b.c : Int)) := bB.cell 1
    have h0 : w2.cell? ⟨w.heap.size, 0, none⟩ = some (.int .i64 a.lv) := bA.cell 0
    have h1 : w2.cell? ⟨w.heap.size, 1, none⟩ = some (.int .u32 (a.c : Int)) := bA.cell 1
    go_wp2_with fail
    refine bodyPost_ret (v := .agg #[.int .i64 0, .int .u32 0]) ?_ rfl ⟨by rw [hfin.out]; rfl, ?_⟩
    · simp [results, Tryd.results48, go_sem, e0, e1]
    · repeat (first | assumption | exact Grows.refl _ | apply Grows.drew | apply Grows.drewN | refine Grows.alloc ?_ _ | (refine Grows.setCell ?_ (by first | (simp; done) | (simp; omega) | omega) _) | (refine Grows.trans ?_ (by assumption)))
  · have hfin := Lib.hid (hyes.out rfl rfl)
    go_enter Tryd.func48, Tryd.ntmps48
    go_wp2_with fail
    refine (cA.out _).mono ?_
    rintro e w1 ⟨rfl, hb1⟩
    have bC : Blk w1 (w.heap.size + 1 + 1) 62 #[.int .i64 0, .int .u32 0] := (Blk.new2 w _ _ _ _).grows hb1
    have bB : Blk w1 (w.heap.size + 1) 62 #[.int .i64 b.lv, .int .u32 (b.c : Int)] := ((Blk.new1 w _ _ _).alloc _).grows hb1
    have bA : Blk w1 w.heap.size 62 #[.int .i64 a.lv, .int .u32 (a.c : Int)] := (((Blk.new w _ _).alloc _).alloc _).grows hb1
    have e0 : w1.cell? ⟨w.heap.size + 1 + 1, 0, none⟩ = some (.int .i64 0) := bC.cell 0
    have e1 : w1.cell? ⟨w.heap.size + 1 + 1, 1, none⟩ = some (.int .u32 0) := bC.cell 1
    have f0 := bC.frozen 0
    have f1 := bC.frozen 1
    have s2 := bC.lt
    have g0 : w1.cell? ⟨w.heap.size + 1, 0, none⟩ = some (.int .i64 b.lv) := bB.cell 0
    have g1 : w1.cell? ⟨w.heap.size + 1, 1, none⟩ = some (.int .u32 (b.c : Int)) := bB.cell 1
    have h0 : w1.cell? ⟨w.heap.size, 0, none⟩ = some (.int .i64 a.lv) := bA.cell 0
    have h1 : w1.cell? ⟨w.heap.size, 1, none⟩ = some (.int .u32 (a.c : Int)) := bA.cell 1
    go_wp2_with fail
    refine (cB.out _).mono ?_
    rintro e w2 ⟨rfl, hb2⟩
    replace bA := bA.grows hb2
    replace bB := bB.grows hb2
    replace bC := bC.grows hb2
    clear e0 e1 f0 f1 s2 g0 g1 h0 h1
    have e0 : w2.cell? ⟨w.heap.size + 1 + 1, 0, none⟩ = some (.int .i64 0) := bC.cell 0
    have e1 : w2.cell? ⟨w.heap.size + 1 + 1, 1, none⟩ = some (.int .u32 0) := bC.cell 1
    have f0 := bC.frozen 0
    have f1 := bC.frozen 1
    have s2 := bC.lt
    have g0 : w2.cell? ⟨w.heap.size + 1, 0, none⟩ = some (.int .i64 b.lv) := bB.cell 0
    have g1 : w2.cell? ⟨w.heap.size + 1, 1, none⟩ = some (.int .u32 (b.c : Int)) := bB.cell 1
    have h0 : w2.cell? ⟨w.heap.size, 0, none⟩ = some (.int .i64 a.lv) := bA.cell 0
    have h1 : w2.cell? ⟨w.heap.size, 1, none⟩ = some (.int .u32 (a.c : Int)) := bA.cell 1
    go_wp2_with fail
    refine bodyPost_ret (v := .agg #[.int .i64 M, .int .u32 (D : Int)]) ?_ rfl ⟨by rw [hfin.out], ?_⟩
    · simp [results, Tryd.results48, go_sem, e0, e1]
    · repeat (first | assumption | exact Grows.refl _ | apply Grows.drew | apply Grows.drewN | refine Grows.alloc ?_ _ | (refine Grows.setCell ?_ (by first | (simp; done) | (simp; omega) | omega) _) | (refine Grows.trans ?_ (by assumption)))
end Go.Proofs.YtfppagcifcppaaaDoor
