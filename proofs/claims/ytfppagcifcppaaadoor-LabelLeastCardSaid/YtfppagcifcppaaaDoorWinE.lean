/- Windows: plan and Muted. -/
import Derived.Test.YtfppagcifcppaaaDoorWinD
namespace Go.Proofs.YtfppagcifcppaaaDoor
open Go.RowKit

def rightW (x : Win) : Bool := wRight x.p x.f x.l
def planW (ws : List Win) : List Win := (ws.take 20).filter rightW
set_option maxHeartbeats 400000 in
theorem planClosure (x : Win) (w : World) :
    Calls Tryd.prog 74 #[.agg #[.int .i64 x.p, .int .i64 x.f, .int .i64 x.l]] w fun e w' => e = .returned (.bool (!rightW x)) ∧ Grows w w' := by
  have cR := fun w => right_any x.p x.f x.l w
  change ∀ w, Calls _ _ _ _ fun e w' => e = .returned (.bool (rightW x)) ∧ _ at cR
  generalize rightW x = q at *
  replace cR := Lib.hid cR
  go_enter Tryd.func74, Tryd.ntmps74
  go_wp2_with (go_at_call 29; refine (cR.out _).mono ?_; rintro e w1 ⟨rfl, hb⟩)
  go_ret
  exact ⟨rfl, ((Grows.refl _).alloc _).trans hb⟩

set_option maxHeartbeats 800000 in
theorem plan_any (A : Option Addr) (m c : Nat) (ws : List Win) (w : World) (h : Arr w 3 encW A m ws) (hcap : m ≤ c) (hcm : c ≤ maxLen) :
    Calls Tryd.prog 57 #[.slice A m c] w fun e w' => ∃ v, e = .returned v ∧ Own w' w.heap.size 39 3 encW v (planW ws) ∧ Grows w w' := by
  have hlen := h.1
  unfold maxLen at hcm
  obtain ⟨q, hq⟩ : ∃ q, q = min m 20 := ⟨_, rfl⟩
  have htake : ws.take q = ws.take 20 := by
    by_cases hm : m ≤ 20
    · rw [List.take_of_length_le (by omega), List.take_of_length_le (by omega)]
    · rw [show q = 20 by omega]
  have harr := h.take (m := q) (by omega)
  rw [htake] at harr
  have cC := fun c => clone_any A q c (ws.take 20) w harr (by omega)
  have hl20 : (ws.take 20).length ≤ 65536 := by rw [List.length_take]; omega
  have cD := fun v w1 hown hB => deleteFunc_any 74 #[] (enters_of Tryd.func74 (by kernel_rfl) rfl) (fun x => !rightW x) w.heap.size v (ws.take 20) w1 hown hB hl20 (fun x W _ => planClosure x W)
  have hfil : ((ws.take 20).filter fun x => !!rightW x) = planW ws := by simp [planW]
  rw [hfil] at cD
  replace cC := Lib.hid cC
  replace cD := Lib.hid cD
  have q1 : q ≤ m := by omega
  have q2 : q ≤ 20 := by omega
  have hor : (m ≤ 20 ∧ q = m) ∨ (20 < m ∧ q = 20) := by omega
  clear hfil harr htake hlen h hq hl20
  rcases hor with ⟨hm, rfl⟩ | ⟨hm, rfl⟩
  all_goals
    go_enter Tryd.func57, Tryd.ntmps57
    go_wp2_with fail
    refine (cC.out _).mono ?_
    rintro e w1 ⟨v1, rfl, hown1, hb1⟩
    go_wp2_with fail
    refine (cD.out v1 w1 hown1 hb1.size).mono ?_
    rintro e w2 ⟨v2, rfl, hown2, hb2⟩
    go_wp2
    go_ret
    exact ⟨v2, rfl, hown2, hb1.then_ hb2⟩

set_option maxHeartbeats 400000 in
theorem mutedClosure (n : Int) (b : Nat) (x : Win) (w : World) (hc : w.cell? ⟨b, 0, none⟩ = some (.int .i64 n)) :
    Calls Tryd.prog 58 #[.agg #[.int .i64 x.p, .int .i64 x.f, .int .i64 x.l], .pointer (some ⟨b, 0, none⟩)] w fun e w' => e = .returned (.bool (isIn n x)) ∧ Grows w w' := by
  have cR := fun w => in_any x.p x.f x.l n w
  change ∀ w, Calls _ _ _ _ fun e w' => e = .returned (.bool (isIn n x)) ∧ _ at cR
  generalize isIn n x = q at *
  replace cR := Lib.hid cR
  have hbl : b < w.heap.size := World.block_lt_of_cell? w ⟨b, 0, none⟩ hc
  go_enter Tryd.func58, Tryd.ntmps58
  go_wp2_with (go_at_call 30; refine (cR.out _).mono ?_; rintro e w1 ⟨rfl, hb⟩)
  go_ret
  exact ⟨rfl, ((Grows.refl _).alloc _).trans hb⟩

theorem wIn_right {n : Int} {x : Win} (h : isIn n x = true) : rightW x = true := by
  simp only [isIn, wIn, Bool.and_eq_true] at h; exact h.1.1
theorem any_plan (n : Int) (ws : List Win) : (planW ws).any (isIn n) = (ws.take 20).any (isIn n) := by
  unfold planW
  rw [Bool.eq_iff_iff, List.any_eq_true, List.any_eq_true]
  constructor
  · rintro ⟨x, hx, h⟩; exact ⟨x, (List.mem_filter.1 hx).1, h⟩
  · rintro ⟨x, hx, h⟩; exact ⟨x, List.mem_filter.2 ⟨hx, wIn_right h⟩, h⟩

set_option maxHeartbeats 800000 in
theorem muted_any (A : Option Addr) (m c : Nat) (ws : List Win) (n : Int) (w : World) (h : Arr w 3 encW A m ws) (hcap : m ≤ c) (hcm : c ≤ maxLen) :
    Calls Tryd.prog 20 #[.slice A m c, .int .i64 n] w fun e w' => e = .returned (.bool ((ws.take 20).any (isIn n))) ∧ Grows w w' := by
  have cP := fun o => plan_any A m c ws (w.alloc o) (h.keep ((Grows.refl w).alloc o)) hcap hcm
  have hfin := any_plan n ws
  replace cP := Lib.hid cP
  replace hfin := Lib.hid hfin
  clear h hcap hcm
  go_enter Tryd.func20, Tryd.ntmps20
  go_wp2_with fail
  refine (cP.out _).mono ?_
  rintro e w1 ⟨v1, rfl, hown1, hb1⟩
  obtain ⟨A1, c1, rfl, hcap1, hcm1, harr1⟩ := hown1.arr hkW
  have hcell : w1.cell? ⟨w.heap.size, 0, none⟩ = some (.int .i64 n) := hb1.cell (by simp)
  have cC := containsFunc_any 58 #[.pointer (some ⟨w.heap.size, 0, none⟩)] (enters_of Tryd.func58 (by kernel_rfl) rfl) (isIn n) A1 (planW ws).length c1 (planW ws) w1 harr1 (by omega) (fun x W hW => mutedClosure n _ x W (hW.cell hcell))
  rw [hfin.out] at cC
  generalize hqq : (ws.take 20).any (isIn n) = q at cC
  replace hqq := Lib.hid hqq
  generalize (planW ws).length = m1 at *
  replace cC := Lib.hid cC
  clear harr1 hown1 hcell
  go_wp2_with fail
  refine cC.out.mono ?_
  rintro e w2 ⟨rfl, hb2⟩
  go_wp2
  go_ret
  exact ⟨ret_bool hqq.out.symm, ((((Grows.refl _).alloc _).trans hb1).trans hb2)⟩
end Go.Proofs.YtfppagcifcppaaaDoor
