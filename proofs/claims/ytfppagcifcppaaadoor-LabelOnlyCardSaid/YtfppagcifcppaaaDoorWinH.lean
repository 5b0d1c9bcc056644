/- Windows: Turn, the program's and the reference's. -/
import Derived.Test.YtfppagcifcppaaaDoorWinE
namespace Go.Proofs.YtfppagcifcppaaaDoor
open Go.RowKit

def turnW (x : Win) : Win × Bool :=
  if rightW x = true ∧ x.l ≠ x.p then (⟨x.p, (x.f + x.l) % x.p, x.p - x.l⟩, true) else (⟨0, 0, 0⟩, false)
def TurnPost (x : Win) (w : World) (e : Ending) (w' : World) : Prop := e = .returned (.tuple #[.agg (encW (turnW x).1).toArray, .bool (turnW x).2]) ∧ Grows w w'

set_option maxRecDepth 100000 in
set_option maxHeartbeats 1600000 in
theorem turn_any (x : Win) (w : World) :
    Calls Tryd.prog 33 #[.agg #[.int .i64 x.p, .int .i64 x.f, .int .i64 x.l]] w (TurnPost x w) := by
  have cR := fun w => right_any x.p x.f x.l w
  cases hr : wRight x.p x.f x.l
  · have hfin : turnW x = (⟨0, 0, 0⟩, false) := by unfold turnW rightW; rw [hr]; simp
    rw [hr] at cR
    replace hfin := Lib.hid hfin
    replace cR := Lib.hid cR
    clear hr
    go_enter Tryd.func33, Tryd.ntmps33
    go_wp2_with (go_at_call 29; refine (cR.out _).mono ?_; rintro e w1 ⟨rfl, hb⟩; obtain ⟨hc1, hf1⟩ := bcells hb; have hl1 := hb.lt2.2; have d0 : w1.cell? ⟨w.heap.size + 1, 0, none⟩ = some (.int .i64 0) := hb.cell (by simp); have d1 : w1.cell? ⟨w.heap.size + 1, 1, none⟩ = some (.int .i64 0) := hb.cell (by simp); have d2 : w1.cell? ⟨w.heap.size + 1, 2, none⟩ = some (.int .i64 0) := hb.cell (by simp))
    refine bodyPost_ret (v := .tuple #[.agg #[.int .i64 0, .int .i64 0, .int .i64 0], .bool false]) ?_ rfl ⟨by rw [hfin.out]; rfl, ?_⟩
    · simp [results, Tryd.results33, go_sem, d0, d1, d2]
    · exact Grows.setCell (Grows.setCell (Grows.setCell ((((Grows.refl _).alloc _).alloc _).trans hb) (by simp) _) (by simp) _) (by simp) _
  · have hR := wRight_iff.1 hr
    obtain ⟨r1, r2, r3, r4, r5, r6⟩ := hR
    by_cases hlp : x.l = x.p
    · have hfin : turnW x = (⟨0, 0, 0⟩, false) := by unfold turnW; rw [if_neg (by simp [hlp])]
      have hb1 : (x.l == x.p) = true := by simp [hlp]
      rw [hr] at cR
      replace hfin := Lib.hid hfin
      replace cR := Lib.hid cR
      clear hr hlp
      go_enter Tryd.func33, Tryd.ntmps33
      go_wp2_with (go_at_call 29; refine (cR.out _).mono ?_; rintro e w1 ⟨rfl, hb⟩; obtain ⟨hc1, hf1⟩ := bcells hb; have hl1 := hb.lt2.2; have d0 : w1.cell? ⟨w.heap.size + 1, 0, none⟩ = some (.int .i64 0) := hb.cell (by simp); have d1 : w1.cell? ⟨w.heap.size + 1, 1, none⟩ = some (.int .i64 0) := hb.cell (by simp); have d2 : w1.cell? ⟨w.heap.size + 1, 2, none⟩ = some (.int .i64 0) := hb.cell (by simp))
      refine bodyPost_ret (v := .tuple #[.agg #[.int .i64 0, .int .i64 0, .int .i64 0], .bool false]) ?_ rfl ⟨by rw [hfin.out]; rfl, ?_⟩
      · simp [results, Tryd.results33, go_sem, d0, d1, d2]
      · exact Grows.setCell (Grows.setCell (Grows.setCell ((((Grows.refl _).alloc _).alloc _).trans hb) (by simp) _) (by simp) _) (by simp) _
    · have hfin : turnW x = (⟨x.p, (x.f + x.l) % x.p, x.p - x.l⟩, true) := by unfold turnW rightW; rw [hr, if_pos ⟨rfl, hlp⟩]
      have hb1 : (x.l == x.p) = false := by simp [hlp]
      rw [hr] at cR
      replace hfin := Lib.hid hfin
      replace cR := Lib.hid cR
      clear hr hlp
      have m0 := Int.emod_nonneg (x.f + x.l) (show x.p ≠ 0 by omega)
      have m1 := Int.emod_lt_of_pos (x.f + x.l) r1
      go_enter Tryd.func33, Tryd.ntmps33
      go_wp2_with (go_at_call 29; refine (cR.out _).mono ?_; rintro e w1 ⟨rfl, hb⟩; obtain ⟨hc1, hf1⟩ := bcells hb; have hl1 := hb.lt2.2; have hl2 := hb.lt2.1; have d0 : w1.cell? ⟨w.heap.size + 1, 0, none⟩ = some (.int .i64 0) := hb.cell (by simp); have d1 : w1.cell? ⟨w.heap.size + 1, 1, none⟩ = some (.int .i64 0) := hb.cell (by simp); have d2 : w1.cell? ⟨w.heap.size + 1, 2, none⟩ = some (.int .i64 0) := hb.cell (by simp))
      refine wp_region_mixb (w.heap.size + 1) [(0, true), (1, true), (2, true), (3, true), (4, true), (5, true), (6, true), (7, true), (8, true), (9, true), (10, true), (11, true), (12, true), (13, true), (14, true), (15, true), (16, false), (17, true)] (by kernel_rfl) (by kernel_rfl) rfl (by kernel_rfl) (by intro c a d v w h; cases d <;> exact h) ?_
      iterate 16 (refine wpMix_q rfl (fun K hK => ?_); go_simp; (try go_bits); first | (refine hK _ ?_; clear hK K) | (apply Exists.intro; refine ⟨fun wq hsq => ?_, hK _ ?_⟩; (first | (go_simp; done) | ((try go_simp); (try simp only [↓IntWalk.iteOmega]); (try go_bits); rfl) | (obtain ⟨hcq, hfq⟩ := bcellsB hsq; go_simp; done) | (obtain ⟨hcq, hfq⟩ := bcellsB hsq; (try go_simp); (try simp only [↓IntWalk.iteOmega]); (try go_bits); rfl)); clear hK K))
      refine wpMix_m rfl (fun K' hK => ?_)
      go_simp
      refine hK.out _ _ ?_ (fun hS => ?_)
      · repeat (first | assumption | exact Below.refl _ _ | apply Below.drew | apply below_drewN | (refine Below.alloc2t ?_ (by first | rfl | simp) (by first | omega | (simp; omega) | simp)) | (refine Below.alloc ?_ (by first | omega | (simp; omega) | simp) _) | (refine Below.setCell ?_ (by first | omega | (simp; omega) | simp) _))
      clear hK hS
      iterate 1 (refine wpMix_q rfl (fun K hK => ?_); go_simp; (try go_bits); first | (refine hK _ ?_; clear hK K) | (apply Exists.intro; refine ⟨fun wq hsq => ?_, hK _ ?_⟩; (first | (go_simp; done) | ((try go_simp); (try simp only [↓IntWalk.iteOmega]); (try go_bits); rfl) | (obtain ⟨hcq, hfq⟩ := bcellsB hsq; go_simp; done) | (obtain ⟨hcq, hfq⟩ := bcellsB hsq; (try go_simp); (try simp only [↓IntWalk.iteOmega]); (try go_bits); rfl)); clear hK K))
      refine wpMix_nil ?_
      go_wp2
      refine bodyPost_ret (v := .tuple #[.agg #[.int .i64 x.p, .int .i64 ((x.f + x.l) % x.p), .int .i64 (x.p - x.l)], .bool true]) ?_ rfl ⟨by rw [hfin.out]; rfl, ?_⟩
      · simp [results, Tryd.results33, go_sem, d0, d1, d2]
      · repeat (first | assumption | exact Grows.refl _ | apply Grows.drew | apply Grows.drewN | refine Grows.alloc ?_ _ | (refine Grows.setCell ?_ (by first | (simp; done) | (simp; omega) | omega) _) | (refine Grows.trans ?_ (by assumption)))

set_option maxRecDepth 100000 in
set_option maxHeartbeats 1600000 in
theorem refTurn_any (x : Win) (w : World) :
    Calls Tryd.prog 34 #[.agg #[.int .i64 x.p, .int .i64 x.f, .int .i64 x.l]] w (TurnPost x w) := by
  have cR := fun w => refRight_any x.p x.f x.l w
  cases hr : wRight x.p x.f x.l
  · have hfin : turnW x = (⟨0, 0, 0⟩, false) := by unfold turnW rightW; rw [hr]; simp
    rw [hr] at cR
    replace hfin := Lib.hid hfin
    replace cR := Lib.hid cR
    clear hr
    go_enter Tryd.func34, Tryd.ntmps34
    go_wp2_with (go_at_call 35; refine (cR.out _).mono ?_; rintro e w1 ⟨rfl, hb⟩; obtain ⟨hc1, hf1⟩ := bcells hb; have hl1 := hb.lt2.2; have d0 : w1.cell? ⟨w.heap.size + 1, 0, none⟩ = some (.int .i64 0) := hb.cell (by simp); have d1 : w1.cell? ⟨w.heap.size + 1, 1, none⟩ = some (.int .i64 0) := hb.cell (by simp); have d2 : w1.cell? ⟨w.heap.size + 1, 2, none⟩ = some (.int .i64 0) := hb.cell (by simp))
    refine bodyPost_ret (v := .tuple #[.agg #[.int .i64 0, .int .i64 0, .int .i64 0], .bool false]) ?_ rfl ⟨by rw [hfin.out]; rfl, ?_⟩
    · simp [results, Tryd.results34, go_sem, d0, d1, d2]
    · exact Grows.setCell (Grows.setCell (Grows.setCell ((((Grows.refl _).alloc _).alloc _).trans hb) (by simp) _) (by simp) _) (by simp) _
  · have hR := wRight_iff.1 hr
    obtain ⟨r1, r2, r3, r4, r5, r6⟩ := hR
    by_cases hlp : x.l = x.p
    · have hfin : turnW x = (⟨0, 0, 0⟩, false) := by unfold turnW; rw [if_neg (by simp [hlp])]
      have hb1 : (x.l == x.p) = true := by simp [hlp]
      rw [hr] at cR
      replace hfin := Lib.hid hfin
      replace cR := Lib.hid cR
      clear hr hlp
      go_enter Tryd.func34, Tryd.ntmps34
      go_wp2_with (go_at_call 35; refine (cR.out _).mono ?_; rintro e w1 ⟨rfl, hb⟩; obtain ⟨hc1, hf1⟩ := bcells hb; have hl1 := hb.lt2.2; have d0 : w1.cell? ⟨w.heap.size + 1, 0, none⟩ = some (.int .i64 0) := hb.cell (by simp); have d1 : w1.cell? ⟨w.heap.size + 1, 1, none⟩ = some (.int .i64 0) := hb.cell (by simp); have d2 : w1.cell? ⟨w.heap.size + 1, 2, none⟩ = some (.int .i64 0) := hb.cell (by simp))
      refine bodyPost_ret (v := .tuple #[.agg #[.int .i64 0, .int .i64 0, .int .i64 0], .bool false]) ?_ rfl ⟨by rw [hfin.out]; rfl, ?_⟩
      · simp [results, Tryd.results34, go_sem, d0, d1, d2]
      · exact Grows.setCell (Grows.setCell (Grows.setCell ((((Grows.refl _).alloc _).alloc _).trans hb) (by simp) _) (by simp) _) (by simp) _
    · have hfin : turnW x = (⟨x.p, (x.f + x.l) % x.p, x.p - x.l⟩, true) := by unfold turnW rightW; rw [hr, if_pos ⟨rfl, hlp⟩]
      have hb1 : (x.l == x.p) = false := by simp [hlp]
      rw [hr] at cR
      replace hfin := Lib.hid hfin
      replace cR := Lib.hid cR
      clear hr hlp
      have m0 := Int.emod_nonneg (x.f + x.l) (show x.p ≠ 0 by omega)
      have m1 := Int.emod_lt_of_pos (x.f + x.l) r1
      go_enter Tryd.func34, Tryd.ntmps34
      go_wp2_with (go_at_call 35; refine (cR.out _).mono ?_; rintro e w1 ⟨rfl, hb⟩; obtain ⟨hc1, hf1⟩ := bcells hb; have hl1 := hb.lt2.2; have hl2 := hb.lt2.1; have d0 : w1.cell? ⟨w.heap.size + 1, 0, none⟩ = some (.int .i64 0) := hb.cell (by simp); have d1 : w1.cell? ⟨w.heap.size + 1, 1, none⟩ = some (.int .i64 0) := hb.cell (by simp); have d2 : w1.cell? ⟨w.heap.size + 1, 2, none⟩ = some (.int .i64 0) := hb.cell (by simp))
      refine wp_region_mixb (w.heap.size + 1) [(0, true), (1, true), (2, true), (3, true), (4, true), (5, true), (6, true), (7, true), (8, true), (9, true), (10, true), (11, true), (12, true), (13, true), (14, true), (15, true), (16, false), (17, true)] (by kernel_rfl) (by kernel_rfl) rfl (by kernel_rfl) (by intro c a d v w h; cases d <;> exact h) ?_
      iterate 16 (refine wpMix_q rfl (fun K hK => ?_); go_simp; (try go_bits); first | (refine hK _ ?_; clear hK K) | (apply Exists.intro; refine ⟨fun wq hsq => ?_, hK _ ?_⟩; (first | (go_simp; done) | ((try go_simp); (try simp only [↓IntWalk.iteOmega]); (try go_bits); rfl) | (obtain ⟨hcq, hfq⟩ := bcellsB hsq; go_simp; done) | (obtain ⟨hcq, hfq⟩ := bcellsB hsq; (try go_simp); (try simp only [↓IntWalk.iteOmega]); (try go_bits); rfl)); clear hK K))
      refine wpMix_m rfl (fun K' hK => ?_)
      go_simp
      refine hK.out _ _ ?_ (fun hS => ?_)
      · repeat (first | assumption | exact Below.refl _ _ | apply Below.drew | apply below_drewN | (refine Below.alloc2t ?_ (by first | rfl | simp) (by first | omega | (simp; omega) | simp)) | (refine Below.alloc ?_ (by first | omega | (simp; omega) | simp) _) | (refine Below.setCell ?_ (by first | omega | (simp; omega) | simp) _))
      clear hK hS
      iterate 1 (refine wpMix_q rfl (fun K hK => ?_); go_simp; (try go_bits); first | (refine hK _ ?_; clear hK K) | (apply Exists.intro; refine ⟨fun wq hsq => ?_, hK _ ?_⟩; (first | (go_simp; done) | ((try go_simp); (try simp only [↓IntWalk.iteOmega]); (try go_bits); rfl) | (obtain ⟨hcq, hfq⟩ := bcellsB hsq; go_simp; done) | (obtain ⟨hcq, hfq⟩ := bcellsB hsq; (try go_simp); (try simp only [↓IntWalk.iteOmega]); (try go_bits); rfl)); clear hK K))
      refine wpMix_nil ?_
      go_wp2
      refine bodyPost_ret (v := .tuple #[.agg #[.int .i64 x.p, .int .i64 ((x.f + x.l) % x.p), .int .i64 (x.p - x.l)], .bool true]) ?_ rfl ⟨by rw [hfin.out]; rfl, ?_⟩
      · simp [results, Tryd.results34, go_sem, d0, d1, d2]
      · repeat (first | assumption | exact Grows.refl _ | apply Grows.drew | apply Grows.drewN | refine Grows.alloc ?_ _ | (refine Grows.setCell ?_ (by first | (simp; done) | (simp; omega) | omega) _) | (refine Grows.trans ?_ (by assumption)))

end Go.Proofs.YtfppagcifcppaaaDoor
