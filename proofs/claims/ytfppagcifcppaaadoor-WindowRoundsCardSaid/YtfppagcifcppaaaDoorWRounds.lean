/- The walk of the law WindowRounds. -/
import Derived.Test.YtfppagcifcppaaaDoorWOneP
namespace Go.Proofs.YtfppagcifcppaaaDoor
open Go.RowKit

def TupTurn (z : Win) (ok : Bool) (w : World) (e : Ending) (w' : World) : Prop := e = .returned (.tuple #[.agg #[.int .i64 z.p, .int .i64 z.f, .int .i64 z.l], .bool ok]) ∧ Grows w w'
theorem turn_tup (x : Win) (w : World) : Calls Tryd.prog 33 #[.agg #[.int .i64 x.p, .int .i64 x.f, .int .i64 x.l]] w (TupTurn (turnW x).1 (turnW x).2 w) := turn_any x w

set_option maxRecDepth 100000 in
set_option maxHeartbeats 6400000 in
theorem rounds_law (x : Win) (now : Int) (w : World) (he : LibEnv w) :
    Calls Tryd.prog 9 #[.agg #[.int .i64 x.p, .int .i64 x.f, .int .i64 x.l], .int .i64 now] w fun e w' => e = .returned (.bool true) ∧ Grows w w' := by
  have cL := fun o => lives_any (w.alloc o) (he.grows ((Grows.refl w).alloc o))
  replace cL := Lib.hid cL
  have cG := fun W A c h => good_one A c x W h
  obtain ⟨hR, hp50⟩ := goodW_right x
  generalize goodW x = y at *
  replace cG := Lib.hid cG
  have hN0 := u64w now
  generalize hN : IntKind.u64.wrap now = N at *
  obtain ⟨R, hR0, hR1, hRN⟩ : ∃ R : Int, 0 ≤ R ∧ R < 1000000 ∧ N % 1000000 = R := ⟨_, by omega, by omega, rfl⟩
  have cU := fun W => turn_tup y W
  have cUt := fun W => turn_tup (turnW y).1 W
  have cI0 := fun W => in_any y.p y.f y.l R W
  have cI1 := fun W => in_any y.p y.f y.l (R + y.p) W
  have cIt := fun W => in_any (turnW y).1.p (turnW y).1.f (turnW y).1.l R W
  have hag : wIn y.p y.f y.l (R + y.p) = wIn y.p y.f y.l R := in_again hR hR0 (by omega)
  have htu : y.l ≠ y.p → wIn (turnW y).1.p (turnW y).1.f (turnW y).1.l R = !wIn y.p y.f y.l R := fun hl => turn_in hR hl hR0 (by omega)
  have hwh : y.l = y.p → turnW y = (⟨0, 0, 0⟩, false) := fun hl => turn_whole hl
  have hbk : y.l ≠ y.p → (turnW y).2 = true ∧ (turnW (turnW y).1).1 = y ∧ (turnW (turnW y).1).2 = true := fun hl => by
    rw [turn_back hR hl]; exact ⟨by rw [(turn_right hR hl).1], rfl, rfl⟩
  have cC : ∀ W A, Arr W 3 encW A 1 [y] → Calls Tryd.prog 22 #[.slice A 1 1, .int .i64 R, .int .i64 (R + y.p - 1)] W fun e w' => e = .returned (.int .i64 y.l) ∧ Grows W w' := fun W A h => by
    have := count_any A 1 1 [y] R (R + y.p - 1) W h (by omega) (by simp [maxLen])
    rw [countW_period hR R hR0 (by omega)] at this
    exact this
  rw [hag] at cI1
  generalize wIn y.p y.f y.l R = r at *
  obtain ⟨r1, r2, r3, r4, r5, r6⟩ := hR
  replace cC := Lib.hid cC
  replace cI0 := Lib.hid cI0
  replace cI1 := Lib.hid cI1
  clear hag he
  by_cases hl : y.l = y.p
  · have hf : (turnW y).2 = false := by rw [hwh hl]
    rw [hf] at cU
    generalize (turnW (turnW y).1).1 = zz at *
    generalize (turnW (turnW y).1).2 = zk at *
    generalize (turnW y).1 = z at *
    have hlb : (y.l == y.p) = true := by simp [hl]
    replace cU := Lib.hid cU
    replace cUt := Lib.hid cUt
    clear htu hwh hbk cIt hl hf
    go_enter Tryd.func9, Tryd.ntmps9
    go_wp2_with fail
    refine (cL.out _).mono ?_
    rintro e w1 ⟨rfl, hb1⟩
    have blW : Blk w1 w.heap.size 37 #[.int .i64 x.p, .int .i64 x.f, .int .i64 x.l] := (Blk.new w _ _).grows hb1
    have hg1 : Grows w w1 := ((Grows.refl _).alloc _).trans hb1
    have d0W : w1.cell? ⟨w.heap.size, 0, none⟩ = some (.int .i64 x.p) := blW.cell 0
    have d1W : w1.cell? ⟨w.heap.size, 1, none⟩ = some (.int .i64 x.f) := blW.cell 1
    have d2W : w1.cell? ⟨w.heap.size, 2, none⟩ = some (.int .i64 x.l) := blW.cell 2
    have sW := blW.lt
    clear cL hb1
    go_wp2_with fail
    refine (cG.out _ _ 1 (Arr.one (x := x) (Blk.new _ _ _))).mono ?_
    rintro e w2 ⟨b, off, c, rfl, c0, c1, c2, harr, hc1, hcm, hb2⟩
    replace hg1 : Grows w w2 := (hg1.alloc _).trans hb2
    clear hb2 d0W d1W d2W sW blW c0 c1 c2 cG hc1 hcm
    replace harr := Lib.hid harr
    go_wp2_with fail
    refine (back_one _ c y _ harr.out).mono ?_
    rintro e w3 ⟨b, off, c, rfl, c0, c1, c2, harr2, hc1, hcm, hb3⟩
    replace hg1 : Grows w w3 := hg1.trans hb3
    clear harr harr2 hb3 hcm
    go_wp2_with fail
    refine (cU.out _).mono ?_
    rintro e w4 ⟨rfl, hb4⟩
    have blX : Blk w4 w3.heap.size 39 #[.int .i64 y.p, .int .i64 y.f, .int .i64 y.l] := (Blk.new w3 _ _).grows hb4
    replace hg1 : Grows w w4 := (hg1.alloc _).trans hb4
    clear hb4 c0 c1 c2 hN hRN hN0
    have d0X : w4.cell? ⟨w3.heap.size, 0, none⟩ = some (.int .i64 y.p) := blX.cell 0
    have d1X : w4.cell? ⟨w3.heap.size, 1, none⟩ = some (.int .i64 y.f) := blX.cell 1
    have d2X : w4.cell? ⟨w3.heap.size, 2, none⟩ = some (.int .i64 y.l) := blX.cell 2
    have sX := blX.lt
    go_wp2_with fail
    refine wp_region_mixg [(0, true), (1, true), (3, true), (4, true), (5, true), (6, true), (7, true), (2, false), (8, false), (9, true), (10, true), (11, true), (12, true), (13, true), (14, true), (15, true), (16, true), (17, true), (18, true), (19, true), (20, true), (21, true), (22, true), (23, true), (25, true), (26, true), (24, false), (27, false), (28, true), (29, true), (30, true)] (by kernel_rfl) (by kernel_rfl) rfl (by kernel_rfl) (by intro c a d v w h; cases d <;> exact h) ?_
    iterate 7 (refine wpMix_q rfl (fun K hK => ?_); go_simp; (try go_bits); first | (refine hK _ ?_; clear hK K) | (apply Exists.intro; refine ⟨fun wq hsq => ?_, hK _ ?_⟩; (first | (go_simp; done) | ((try go_simp); (try simp only [↓IntWalk.iteOmega]); (try go_bits); rfl) | (obtain ⟨hcq, hfq⟩ := bcells hsq; go_simp; done) | (obtain ⟨hcq, hfq⟩ := bcells hsq; (try go_simp); (try simp only [↓IntWalk.iteOmega]); (try go_bits); rfl)); clear hK K))
    refine wpMix_m rfl (fun K' hK => ?_)
    go_simp
    refine (cI0.out _).mono ?_
    rintro e w5 ⟨rfl, hb5⟩
    refine hK.out _ _ ?_ (fun hS => ?_)
    · repeat (first | assumption | exact Grows.refl _ | apply Grows.drew | apply Grows.drewN | refine Grows.alloc ?_ _ | (refine Grows.setCell ?_ (by first | (simp; done) | (simp; omega) | omega) _) | (refine Grows.trans ?_ (by assumption)))
    clear hK hS
    refine wpMix_m rfl (fun K' hK => ?_)
    go_simp
    refine (cI1.out _).mono ?_
    rintro e w6 ⟨rfl, hb6⟩
    refine hK.out _ _ ?_ (fun hS => ?_)
    · repeat (first | assumption | exact Grows.refl _ | apply Grows.drew | apply Grows.drewN | refine Grows.alloc ?_ _ | (refine Grows.setCell ?_ (by first | (simp; done) | (simp; omega) | omega) _) | (refine Grows.trans ?_ (by assumption)))
    clear hK hS
    iterate 17 (refine wpMix_q rfl (fun K hK => ?_); go_simp; (try go_bits); first | (refine hK _ ?_; clear hK K) | (apply Exists.intro; refine ⟨fun wq hsq => ?_, hK _ ?_⟩; (first | (go_simp; done) | ((try go_simp); (try simp only [↓IntWalk.iteOmega]); (try go_bits); rfl) | (obtain ⟨hcq, hfq⟩ := bcells hsq; go_simp; done) | (obtain ⟨hcq, hfq⟩ := bcells hsq; (try go_simp); (try simp only [↓IntWalk.iteOmega]); (try go_bits); rfl)); clear hK K))
    refine wpMix_m rfl (fun K' hK => ?_)
    go_simp
    refine hK.out _ _ ?_ (fun hS => ?_)
    · repeat (first | assumption | exact Grows.refl _ | apply Grows.drew | apply Grows.drewN | refine Grows.alloc ?_ _ | (refine Grows.setCell ?_ (by first | (simp; done) | (simp; omega) | omega) _) | (refine Grows.trans ?_ (by assumption)))
    clear hK hS
    refine wpMix_m rfl (fun K' hK => ?_)
    go_simp
    refine hK.out _ _ ?_ (fun hS => ?_)
    · repeat (first | assumption | exact Grows.refl _ | apply Grows.drew | apply Grows.drewN | refine Grows.alloc ?_ _ | (refine Grows.setCell ?_ (by first | (simp; done) | (simp; omega) | omega) _) | (refine Grows.trans ?_ (by assumption)))
    clear hK hS
    iterate 3 (refine wpMix_q rfl (fun K hK => ?_); go_simp; (try go_bits); first | (refine hK _ ?_; clear hK K) | (apply Exists.intro; refine ⟨fun wq hsq => ?_, hK _ ?_⟩; (first | (go_simp; done) | ((try go_simp); (try simp only [↓IntWalk.iteOmega]); (try go_bits); rfl) | (obtain ⟨hcq, hfq⟩ := bcells hsq; go_simp; done) | (obtain ⟨hcq, hfq⟩ := bcells hsq; (try go_simp); (try simp only [↓IntWalk.iteOmega]); (try go_bits); rfl)); clear hK K))
    refine wpMix_nil ?_
    have blT : Blk w6 w4.heap.size 39 #[.int .i64 z.p, .int .i64 z.f, .int .i64 z.l] := ((Blk.new w4 _ _).drew.grows hb5).grows hb6
    replace blX := ((blX.alloc (.cells #[.int .i64 z.p, .int .i64 z.f, .int .i64 z.l] 39)).drew.grows hb5).grows hb6
    replace hg1 : Grows w w6 := ((hg1.alloc _).drew.trans hb5).trans hb6
    clear hb5 hb6 d0X d1X d2X sX
    have d0X : w6.cell? ⟨w3.heap.size, 0, none⟩ = some (.int .i64 y.p) := blX.cell 0
    have d1X : w6.cell? ⟨w3.heap.size, 1, none⟩ = some (.int .i64 y.f) := blX.cell 1
    have d2X : w6.cell? ⟨w3.heap.size, 2, none⟩ = some (.int .i64 y.l) := blX.cell 2
    have sX := blX.lt
    go_wp2_with fail
    refine wp_region_mixg [(0, true), (2, true), (3, true), (4, true), (5, true), (6, true), (7, true), (9, true), (10, true), (1, false), (8, false), (11, true)] (by kernel_rfl) (by kernel_rfl) rfl (by kernel_rfl) (by intro c a d v w h; cases d <;> exact h) ?_
    iterate 9 (refine wpMix_q rfl (fun K hK => ?_); go_simp; (try go_bits); first | (refine hK _ ?_; clear hK K) | (apply Exists.intro; refine ⟨fun wq hsq => ?_, hK _ ?_⟩; (first | (go_simp; done) | ((try go_simp); (try simp only [↓IntWalk.iteOmega]); (try go_bits); rfl) | (obtain ⟨hcq, hfq⟩ := bcells hsq; go_simp; done) | (obtain ⟨hcq, hfq⟩ := bcells hsq; (try go_simp); (try simp only [↓IntWalk.iteOmega]); (try go_bits); rfl)); clear hK K))
    refine wpMix_m rfl (fun K' hK => ?_)
    go_simp
    refine hK.out _ _ ?_ (fun hS => ?_)
    · repeat (first | assumption | exact Grows.refl _ | apply Grows.drew | apply Grows.drewN | refine Grows.alloc ?_ _ | (refine Grows.setCell ?_ (by first | (simp; done) | (simp; omega) | omega) _) | (refine Grows.trans ?_ (by assumption)))
    clear hK hS
    refine wpMix_m rfl (fun K' hK => ?_)
    go_simp
    refine (cC.out _ _ (Arr.one (by exact Blk.new _ _ _))).mono ?_
    rintro e w9 ⟨rfl, hb9⟩
    refine hK.out _ _ ?_ (fun hS => ?_)
    · repeat (first | assumption | exact Grows.refl _ | apply Grows.drew | apply Grows.drewN | refine Grows.alloc ?_ _ | (refine Grows.setCell ?_ (by first | (simp; done) | (simp; omega) | omega) _) | (refine Grows.trans ?_ (by assumption)))
    clear hK hS
    iterate 1 (refine wpMix_q rfl (fun K hK => ?_); go_simp; (try go_bits); first | (refine hK _ ?_; clear hK K) | (apply Exists.intro; refine ⟨fun wq hsq => ?_, hK _ ?_⟩; (first | (go_simp; done) | ((try go_simp); (try simp only [↓IntWalk.iteOmega]); (try go_bits); rfl) | (obtain ⟨hcq, hfq⟩ := bcells hsq; go_simp; done) | (obtain ⟨hcq, hfq⟩ := bcells hsq; (try go_simp); (try simp only [↓IntWalk.iteOmega]); (try go_bits); rfl)); clear hK K))
    refine wpMix_nil ?_
    replace blT := (blT.drew.alloc (.cells #[.int .i64 y.p, .int .i64 y.f, .int .i64 y.l] 39)).grows hb9
    replace blX := (blX.drew.alloc (.cells #[.int .i64 y.p, .int .i64 y.f, .int .i64 y.l] 39)).grows hb9
    replace hg1 : Grows w w9 := (hg1.drew.alloc _).trans hb9
    clear hb9 d0X d1X d2X sX
    have d0T : w9.cell? ⟨w4.heap.size, 0, none⟩ = some (.int .i64 z.p) := blT.cell 0
    have d1T : w9.cell? ⟨w4.heap.size, 1, none⟩ = some (.int .i64 z.f) := blT.cell 1
    have d2T : w9.cell? ⟨w4.heap.size, 2, none⟩ = some (.int .i64 z.l) := blT.cell 2
    have sT := blT.lt
    go_wp2_with fail
    refine (cUt.out _).mono ?_
    rintro e w10 ⟨rfl, hb10⟩
    replace blX := blX.grows hb10
    replace hg1 : Grows w w10 := hg1.trans hb10
    clear hb10 d0T d1T d2T sT blT
    have d0X : w10.cell? ⟨w3.heap.size, 0, none⟩ = some (.int .i64 y.p) := blX.cell 0
    have d1X : w10.cell? ⟨w3.heap.size, 1, none⟩ = some (.int .i64 y.f) := blX.cell 1
    have d2X : w10.cell? ⟨w3.heap.size, 2, none⟩ = some (.int .i64 y.l) := blX.cell 2
    have sX := blX.lt
    go_wp2_with fail
    go_ret
    exact ⟨rfl, hg1.alloc _⟩
  · obtain ⟨b1, b2, b3⟩ := hbk hl
    rw [b1] at cU
    rw [b2, b3] at cUt
    rw [htu hl] at cIt
    have hrr : (r == !r) = false := by cases r <;> rfl
    have hlb : (y.l == y.p) = false := by simp [hl]
    generalize (turnW y).1 = t at *
    replace cU := Lib.hid cU
    replace cUt := Lib.hid cUt
    replace cIt := Lib.hid cIt
    clear htu hwh hbk hl b1 b2 b3
    go_enter Tryd.func9, Tryd.ntmps9
    go_wp2_with fail
    refine (cL.out _).mono ?_
    rintro e w1 ⟨rfl, hb1⟩
    have blW : Blk w1 w.heap.size 37 #[.int .i64 x.p, .int .i64 x.f, .int .i64 x.l] := (Blk.new w _ _).grows hb1
    have hg1 : Grows w w1 := ((Grows.refl _).alloc _).trans hb1
    have d0W : w1.cell? ⟨w.heap.size, 0, none⟩ = some (.int .i64 x.p) := blW.cell 0
    have d1W : w1.cell? ⟨w.heap.size, 1, none⟩ = some (.int .i64 x.f) := blW.cell 1
    have d2W : w1.cell? ⟨w.heap.size, 2, none⟩ = some (.int .i64 x.l) := blW.cell 2
    have sW := blW.lt
    clear cL hb1
    go_wp2_with fail
    refine (cG.out _ _ 1 (Arr.one (x := x) (Blk.new _ _ _))).mono ?_
    rintro e w2 ⟨b, off, c, rfl, c0, c1, c2, harr, hc1, hcm, hb2⟩
    replace hg1 : Grows w w2 := (hg1.alloc _).trans hb2
    clear hb2 d0W d1W d2W sW blW c0 c1 c2 cG hc1 hcm
    replace harr := Lib.hid harr
    go_wp2_with fail
    refine (back_one _ c y _ harr.out).mono ?_
    rintro e w3 ⟨b, off, c, rfl, c0, c1, c2, harr2, hc1, hcm, hb3⟩
    replace hg1 : Grows w w3 := hg1.trans hb3
    clear harr harr2 hb3 hcm
    go_wp2_with fail
    refine (cU.out _).mono ?_
    rintro e w4 ⟨rfl, hb4⟩
    have blX : Blk w4 w3.heap.size 39 #[.int .i64 y.p, .int .i64 y.f, .int .i64 y.l] := (Blk.new w3 _ _).grows hb4
    replace hg1 : Grows w w4 := (hg1.alloc _).trans hb4
    clear hb4 c0 c1 c2 hN hRN hN0
    have d0X : w4.cell? ⟨w3.heap.size, 0, none⟩ = some (.int .i64 y.p) := blX.cell 0
    have d1X : w4.cell? ⟨w3.heap.size, 1, none⟩ = some (.int .i64 y.f) := blX.cell 1
    have d2X : w4.cell? ⟨w3.heap.size, 2, none⟩ = some (.int .i64 y.l) := blX.cell 2
    have sX := blX.lt
    go_wp2_with fail
    refine wp_region_mixg [(0, true), (1, true), (3, true), (4, true), (5, true), (6, true), (7, true), (2, false), (8, false), (9, true), (10, true), (11, true), (12, true), (13, true), (14, true), (15, true), (16, true), (17, true), (18, true), (19, true), (20, true), (21, true), (22, true), (23, true), (25, true), (26, true), (24, false), (27, false), (28, true), (29, true), (30, true)] (by kernel_rfl) (by kernel_rfl) rfl (by kernel_rfl) (by intro c a d v w h; cases d <;> exact h) ?_
    iterate 7 (refine wpMix_q rfl (fun K hK => ?_); go_simp; (try go_bits); first | (refine hK _ ?_; clear hK K) | (apply Exists.intro; refine ⟨fun wq hsq => ?_, hK _ ?_⟩; (first | (go_simp; done) | ((try go_simp); (try simp only [↓IntWalk.iteOmega]); (try go_bits); rfl) | (obtain ⟨hcq, hfq⟩ := bcells hsq; go_simp; done) | (obtain ⟨hcq, hfq⟩ := bcells hsq; (try go_simp); (try simp only [↓IntWalk.iteOmega]); (try go_bits); rfl)); clear hK K))
    refine wpMix_m rfl (fun K' hK => ?_)
    go_simp
    refine (cI0.out _).mono ?_
    rintro e w5 ⟨rfl, hb5⟩
    refine hK.out _ _ ?_ (fun hS => ?_)
    · repeat (first | assumption | exact Grows.refl _ | apply Grows.drew | apply Grows.drewN | refine Grows.alloc ?_ _ | (refine Grows.setCell ?_ (by first | (simp; done) | (simp; omega) | omega) _) | (refine Grows.trans ?_ (by assumption)))
    clear hK hS
    refine wpMix_m rfl (fun K' hK => ?_)
    go_simp
    refine (cI1.out _).mono ?_
    rintro e w6 ⟨rfl, hb6⟩
    refine hK.out _ _ ?_ (fun hS => ?_)
    · repeat (first | assumption | exact Grows.refl _ | apply Grows.drew | apply Grows.drewN | refine Grows.alloc ?_ _ | (refine Grows.setCell ?_ (by first | (simp; done) | (simp; omega) | omega) _) | (refine Grows.trans ?_ (by assumption)))
    clear hK hS
    iterate 17 (refine wpMix_q rfl (fun K hK => ?_); go_simp; (try go_bits); first | (refine hK _ ?_; clear hK K) | (apply Exists.intro; refine ⟨fun wq hsq => ?_, hK _ ?_⟩; (first | (go_simp; done) | ((try go_simp); (try simp only [↓IntWalk.iteOmega]); (try go_bits); rfl) | (obtain ⟨hcq, hfq⟩ := bcells hsq; go_simp; done) | (obtain ⟨hcq, hfq⟩ := bcells hsq; (try go_simp); (try simp only [↓IntWalk.iteOmega]); (try go_bits); rfl)); clear hK K))
    refine wpMix_m rfl (fun K' hK => ?_)
    go_simp
    refine (cI0.out _).mono ?_
    rintro e w7 ⟨rfl, hb7⟩
    refine hK.out _ _ ?_ (fun hS => ?_)
    · repeat (first | assumption | exact Grows.refl _ | apply Grows.drew | apply Grows.drewN | refine Grows.alloc ?_ _ | (refine Grows.setCell ?_ (by first | (simp; done) | (simp; omega) | omega) _) | (refine Grows.trans ?_ (by assumption)))
    clear hK hS
    refine wpMix_m rfl (fun K' hK => ?_)
    go_simp
    refine (cIt.out _).mono ?_
    rintro e w8 ⟨rfl, hb8⟩
    refine hK.out _ _ ?_ (fun hS => ?_)
    · repeat (first | assumption | exact Grows.refl _ | apply Grows.drew | apply Grows.drewN | refine Grows.alloc ?_ _ | (refine Grows.setCell ?_ (by first | (simp; done) | (simp; omega) | omega) _) | (refine Grows.trans ?_ (by assumption)))
    clear hK hS
    iterate 3 (refine wpMix_q rfl (fun K hK => ?_); go_simp; (try go_bits); first | (refine hK _ ?_; clear hK K) | (apply Exists.intro; refine ⟨fun wq hsq => ?_, hK _ ?_⟩; (first | (go_simp; done) | ((try go_simp); (try simp only [↓IntWalk.iteOmega]); (try go_bits); rfl) | (obtain ⟨hcq, hfq⟩ := bcells hsq; go_simp; done) | (obtain ⟨hcq, hfq⟩ := bcells hsq; (try go_simp); (try simp only [↓IntWalk.iteOmega]); (try go_bits); rfl)); clear hK K))
    refine wpMix_nil ?_
    have blT : Blk w8 w4.heap.size 39 #[.int .i64 t.p, .int .i64 t.f, .int .i64 t.l] := ((((Blk.new w4 _ _).drew.grows hb5).grows hb6).grows hb7).grows hb8
    replace blX := ((((blX.alloc (.cells #[.int .i64 t.p, .int .i64 t.f, .int .i64 t.l] 39)).drew.grows hb5).grows hb6).grows hb7).grows hb8
    replace hg1 : Grows w w8 := ((((hg1.alloc _).drew.trans hb5).trans hb6).trans hb7).trans hb8
    clear hb5 hb6 hb7 hb8 d0X d1X d2X sX
    have d0X : w8.cell? ⟨w3.heap.size, 0, none⟩ = some (.int .i64 y.p) := blX.cell 0
    have d1X : w8.cell? ⟨w3.heap.size, 1, none⟩ = some (.int .i64 y.f) := blX.cell 1
    have d2X : w8.cell? ⟨w3.heap.size, 2, none⟩ = some (.int .i64 y.l) := blX.cell 2
    have sX := blX.lt
    go_wp2_with fail
    refine wp_region_mixg [(0, true), (2, true), (3, true), (4, true), (5, true), (6, true), (7, true), (9, true), (10, true), (1, false), (8, false), (11, true)] (by kernel_rfl) (by kernel_rfl) rfl (by kernel_rfl) (by intro c a d v w h; cases d <;> exact h) ?_
    iterate 9 (refine wpMix_q rfl (fun K hK => ?_); go_simp; (try go_bits); first | (refine hK _ ?_; clear hK K) | (apply Exists.intro; refine ⟨fun wq hsq => ?_, hK _ ?_⟩; (first | (go_simp; done) | ((try go_simp); (try simp only [↓IntWalk.iteOmega]); (try go_bits); rfl) | (obtain ⟨hcq, hfq⟩ := bcells hsq; go_simp; done) | (obtain ⟨hcq, hfq⟩ := bcells hsq; (try go_simp); (try simp only [↓IntWalk.iteOmega]); (try go_bits); rfl)); clear hK K))
    refine wpMix_m rfl (fun K' hK => ?_)
    go_simp
    refine hK.out _ _ ?_ (fun hS => ?_)
    · repeat (first | assumption | exact Grows.refl _ | apply Grows.drew | apply Grows.drewN | refine Grows.alloc ?_ _ | (refine Grows.setCell ?_ (by first | (simp; done) | (simp; omega) | omega) _) | (refine Grows.trans ?_ (by assumption)))
    clear hK hS
    refine wpMix_m rfl (fun K' hK => ?_)
    go_simp
    refine (cC.out _ _ (Arr.one (by exact Blk.new _ _ _))).mono ?_
    rintro e w9 ⟨rfl, hb9⟩
    refine hK.out _ _ ?_ (fun hS => ?_)
    · repeat (first | assumption | exact Grows.refl _ | apply Grows.drew | apply Grows.drewN | refine Grows.alloc ?_ _ | (refine Grows.setCell ?_ (by first | (simp; done) | (simp; omega) | omega) _) | (refine Grows.trans ?_ (by assumption)))
    clear hK hS
    iterate 1 (refine wpMix_q rfl (fun K hK => ?_); go_simp; (try go_bits); first | (refine hK _ ?_; clear hK K) | (apply Exists.intro; refine ⟨fun wq hsq => ?_, hK _ ?_⟩; (first | (go_simp; done) | ((try go_simp); (try simp only [↓IntWalk.iteOmega]); (try go_bits); rfl) | (obtain ⟨hcq, hfq⟩ := bcells hsq; go_simp; done) | (obtain ⟨hcq, hfq⟩ := bcells hsq; (try go_simp); (try simp only [↓IntWalk.iteOmega]); (try go_bits); rfl)); clear hK K))
    refine wpMix_nil ?_
    replace blT := (blT.drew.alloc (.cells #[.int .i64 y.p, .int .i64 y.f, .int .i64 y.l] 39)).grows hb9
    replace blX := (blX.drew.alloc (.cells #[.int .i64 y.p, .int .i64 y.f, .int .i64 y.l] 39)).grows hb9
    replace hg1 : Grows w w9 := (hg1.drew.alloc _).trans hb9
    clear hb9 d0X d1X d2X sX
    have d0T : w9.cell? ⟨w4.heap.size, 0, none⟩ = some (.int .i64 t.p) := blT.cell 0
    have d1T : w9.cell? ⟨w4.heap.size, 1, none⟩ = some (.int .i64 t.f) := blT.cell 1
    have d2T : w9.cell? ⟨w4.heap.size, 2, none⟩ = some (.int .i64 t.l) := blT.cell 2
    have sT := blT.lt
    go_wp2_with fail
    refine (cUt.out _).mono ?_
    rintro e w10 ⟨rfl, hb10⟩
    replace blX := blX.grows hb10
    replace hg1 : Grows w w10 := hg1.trans hb10
    clear hb10 d0T d1T d2T sT blT
    have d0X : w10.cell? ⟨w3.heap.size, 0, none⟩ = some (.int .i64 y.p) := blX.cell 0
    have d1X : w10.cell? ⟨w3.heap.size, 1, none⟩ = some (.int .i64 y.f) := blX.cell 1
    have d2X : w10.cell? ⟨w3.heap.size, 2, none⟩ = some (.int .i64 y.l) := blX.cell 2
    have sX := blX.lt
    go_wp2_with fail
    go_ret
    exact ⟨rfl, hg1.alloc _⟩
end Go.Proofs.YtfppagcifcppaaaDoor
