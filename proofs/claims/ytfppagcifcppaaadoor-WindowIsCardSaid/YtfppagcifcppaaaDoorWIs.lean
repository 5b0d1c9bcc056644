/- The walk of the law WindowIs. -/
import Derived.Test.YtfppagcifcppaaaDoorWBack
namespace Go.Proofs.YtfppagcifcppaaaDoor
open Go.RowKit

set_option maxRecDepth 100000 in
set_option maxHeartbeats 6400000 in
theorem is_law (x : Win) (now : Int) (s : List UInt8) (w : World) (he : LibEnv w) (_hs : s.length ≤ maxLen) :
    Calls Tryd.prog 8 #[.agg #[.int .i64 x.p, .int .i64 x.f, .int .i64 x.l], .int .i64 now, .string ⟨s.toArray⟩] w fun e w' => e = .returned (.bool true) ∧ Grows w w' := by
  have cL := fun o => lives_any (w.alloc o) (he.grows ((Grows.refl w).alloc o))
  replace cL := Lib.hid cL
  have cT : ∀ W, Grows w W → Calls Tryd.prog 27 #[.agg #[.int .i64 x.p, .int .i64 x.f, .int .i64 x.l]] W (TupStr (textW x) (errW x) W) := fun W hW => text_any x W (he.grows hW)
  have cTr : ∀ W, Calls Tryd.prog 31 #[.agg #[.int .i64 x.p, .int .i64 x.f, .int .i64 x.l]] W (TupStr (textW x) (errW x) W) := fun W => refText_any x W
  have hs100 : (s.take 100).length ≤ 100 := by rw [List.length_take]; omega
  have cR : ∀ W, Grows w W → Calls Tryd.prog 28 #[.string ⟨(s.take 100).toArray⟩] W (ReadPost (s.take 100) W) := fun W hW => read_any _ (by omega) W (he.grows hW)
  have cRr : ∀ W, Calls Tryd.prog 32 #[.string ⟨(s.take 100).toArray⟩] W (ReadPost (s.take 100) W) := fun W => refRead_any ⟨(s.take 100).toArray⟩ (by simp only [ByteArray.size, List.size_toArray]; omega) W
  have cU : ∀ W, Calls Tryd.prog 33 #[.agg #[.int .i64 x.p, .int .i64 x.f, .int .i64 x.l]] W (fun e w' => e = .returned (.tuple #[.agg #[.int .i64 (turnW x).1.p, .int .i64 (turnW x).1.f, .int .i64 (turnW x).1.l], .bool (turnW x).2]) ∧ Grows W w') := fun W => turn_any x W
  have cUr : ∀ W, Calls Tryd.prog 34 #[.agg #[.int .i64 x.p, .int .i64 x.f, .int .i64 x.l]] W (fun e w' => e = .returned (.tuple #[.agg #[.int .i64 (turnW x).1.p, .int .i64 (turnW x).1.f, .int .i64 (turnW x).1.l], .bool (turnW x).2]) ∧ Grows W w') := fun W => refTurn_any x W
  have cI := fun W => right_any x.p x.f x.l W
  have cIr := fun W => refRight_any x.p x.f x.l W
  have cN := fun W => in_any x.p x.f x.l now W
  have cNr := fun W => refIn_any x.p x.f x.l now W
  generalize textW x = T at *
  generalize errW x = E at *
  generalize (turnW x).1 = u at *
  generalize (turnW x).2 = ok at *
  generalize wRight x.p x.f x.l = q at *
  generalize wIn x.p x.f x.l now = r at *
  replace cT := Lib.hid cT
  replace cTr := Lib.hid cTr
  replace cR := Lib.hid cR
  replace cRr := Lib.hid cRr
  replace cU := Lib.hid cU
  replace cUr := Lib.hid cUr
  replace cI := Lib.hid cI
  replace cIr := Lib.hid cIr
  replace cN := Lib.hid cN
  replace cNr := Lib.hid cNr
  obtain ⟨M, hM, hMm, hM1⟩ : ∃ M : Nat, min (s.length : Int) 100 = M ∧ M ≤ s.length ∧ s.take M = s.take 100 := by
    by_cases h22 : 100 < s.length
    · exact ⟨100, by omega, by omega, rfl⟩
    · exact ⟨s.length, by omega, by omega, by rw [List.take_of_length_le (by omega), List.take_of_length_le (by omega)]⟩
  have hM1 := Lib.hid hM1
  clear he
  go_enter Tryd.func8, Tryd.ntmps8
  go_wp2_with fail
  refine (cL.out _).mono ?_
  rintro e w1 ⟨rfl, hb1⟩
  have blW : Blk w1 w.heap.size 37 #[.int .i64 x.p, .int .i64 x.f, .int .i64 x.l] := (Blk.new w _ _).grows hb1
  have hg1 : Grows w w1 := ((Grows.refl _).alloc _).trans hb1
  have d0W : w1.cell? ⟨w.heap.size, 0, none⟩ = some (.int .i64 x.p) := blW.cell 0
  have d1W : w1.cell? ⟨w.heap.size, 1, none⟩ = some (.int .i64 x.f) := blW.cell 1
  have d2W : w1.cell? ⟨w.heap.size, 2, none⟩ = some (.int .i64 x.l) := blW.cell 2
  have sW := blW.lt
  clear cL hb1
  go_wp2_with fail
  refine (back_one _ 1 x _ (Arr.one (Blk.new _ _ _))).mono ?_
  rintro e w2 ⟨b, off, c, rfl, c0, c1, c2, harr, hc1, hcm, hb2⟩
  replace hg1 : Grows w w2 := (hg1.alloc _).trans hb2
  replace blW := (blW.alloc _).grows hb2
  clear hb2 harr hcm d0W d1W d2W sW
  go_wp2_with fail
  refine (cT.out _ (hg1.alloc _)).mono ?_
  rintro e w3 ⟨rfl, hb3⟩
  have blX : Blk w3 w2.heap.size 39 #[.int .i64 x.p, .int .i64 x.f, .int .i64 x.l] := (Blk.new w2 _ _).grows hb3
  replace blW := (blW.alloc _).grows hb3
  replace hg1 : Grows w w3 := (hg1.alloc _).trans hb3
  clear hb3 c0 c1 c2 hc1
  have d0W : w3.cell? ⟨w.heap.size, 0, none⟩ = some (.int .i64 x.p) := blW.cell 0
  have d1W : w3.cell? ⟨w.heap.size, 1, none⟩ = some (.int .i64 x.f) := blW.cell 1
  have d2W : w3.cell? ⟨w.heap.size, 2, none⟩ = some (.int .i64 x.l) := blW.cell 2
  have sW := blW.lt
  go_wp2_with fail
  refine (cTr.out _).mono ?_
  rintro e w4 ⟨rfl, hb4⟩
  replace hg1 : Grows w w4 := hg1.trans hb4
  replace blW := blW.grows hb4
  (try clear d0W); (try clear d1W); (try clear d2W); (try clear sW)
  have d0W : w4.cell? ⟨w.heap.size, 0, none⟩ = some (.int .i64 x.p) := blW.cell 0
  have d1W : w4.cell? ⟨w.heap.size, 1, none⟩ = some (.int .i64 x.f) := blW.cell 1
  have d2W : w4.cell? ⟨w.heap.size, 2, none⟩ = some (.int .i64 x.l) := blW.cell 2
  have sW := blW.lt
  replace blX := blX.grows hb4
  clear hb4
  go_wp2_with fail
  rw [ext_take, hM1.out]
  refine (cR.out _ hg1).mono ?_
  rintro e w5 ⟨y, g, rfl, hy, hb5⟩
  replace hg1 : Grows w w5 := hg1.trans hb5
  replace blW := blW.grows hb5
  (try clear d0W); (try clear d1W); (try clear d2W); (try clear sW)
  have d0W : w5.cell? ⟨w.heap.size, 0, none⟩ = some (.int .i64 x.p) := blW.cell 0
  have d1W : w5.cell? ⟨w.heap.size, 1, none⟩ = some (.int .i64 x.f) := blW.cell 1
  have d2W : w5.cell? ⟨w.heap.size, 2, none⟩ = some (.int .i64 x.l) := blW.cell 2
  have sW := blW.lt
  replace blX := blX.grows hb5
  clear hb5
  replace hy := Lib.hid hy
  simp only [encW]
  go_wp2_with fail
  refine (cRr.out _).mono ?_
  rintro e w6 ⟨y', g', rfl, hy', hb6⟩
  obtain ⟨rfl, rfl⟩ := hy.out.one hy'
  have blY : Blk w6 w5.heap.size 39 #[.int .i64 y.p, .int .i64 y.f, .int .i64 y.l] := (Blk.new w5 _ _).grows hb6
  replace blX := (blX.alloc (.cells #[.int .i64 y.p, .int .i64 y.f, .int .i64 y.l] 39)).grows hb6
  replace blW := (blW.alloc (.cells #[.int .i64 y.p, .int .i64 y.f, .int .i64 y.l] 39)).grows hb6
  replace hg1 : Grows w w6 := (hg1.alloc _).trans hb6
  clear hb6 hy hy' d0W d1W d2W sW
  have d0X : w6.cell? ⟨w2.heap.size, 0, none⟩ = some (.int .i64 x.p) := blX.cell 0
  have d1X : w6.cell? ⟨w2.heap.size, 1, none⟩ = some (.int .i64 x.f) := blX.cell 1
  have d2X : w6.cell? ⟨w2.heap.size, 2, none⟩ = some (.int .i64 x.l) := blX.cell 2
  have sX := blX.lt
  simp only [encW]
  go_wp2_with fail
  refine (cU.out _).mono ?_
  rintro e w7 ⟨rfl, hb7⟩
  have blZ : Blk w7 w6.heap.size 37 #[.int .i64 y.p, .int .i64 y.f, .int .i64 y.l] := (Blk.new w6 _ _).grows hb7
  replace blX := (blX.alloc (.cells #[.int .i64 y.p, .int .i64 y.f, .int .i64 y.l] 37)).grows hb7
  replace blW := (blW.alloc (.cells #[.int .i64 y.p, .int .i64 y.f, .int .i64 y.l] 37)).grows hb7
  replace blY := (blY.alloc (.cells #[.int .i64 y.p, .int .i64 y.f, .int .i64 y.l] 37)).grows hb7
  replace hg1 : Grows w w7 := (hg1.alloc _).trans hb7
  clear hb7 d0X d1X d2X sX
  have d0W : w7.cell? ⟨w.heap.size, 0, none⟩ = some (.int .i64 x.p) := blW.cell 0
  have d1W : w7.cell? ⟨w.heap.size, 1, none⟩ = some (.int .i64 x.f) := blW.cell 1
  have d2W : w7.cell? ⟨w.heap.size, 2, none⟩ = some (.int .i64 x.l) := blW.cell 2
  have sW := blW.lt
  go_wp2_with fail
  refine (cUr.out _).mono ?_
  rintro e w8 ⟨rfl, hb8⟩
  have blU : Blk w8 w7.heap.size 39 #[.int .i64 u.p, .int .i64 u.f, .int .i64 u.l] := (Blk.new w7 _ _).grows hb8
  replace blX := (blX.alloc (.cells #[.int .i64 u.p, .int .i64 u.f, .int .i64 u.l] 39)).grows hb8
  replace blW := (blW.alloc (.cells #[.int .i64 u.p, .int .i64 u.f, .int .i64 u.l] 39)).grows hb8
  replace blY := (blY.alloc (.cells #[.int .i64 u.p, .int .i64 u.f, .int .i64 u.l] 39)).grows hb8
  replace blZ := (blZ.alloc (.cells #[.int .i64 u.p, .int .i64 u.f, .int .i64 u.l] 39)).grows hb8
  replace hg1 : Grows w w8 := (hg1.alloc _).trans hb8
  clear hb8 d0W d1W d2W sW
  have d0W : w8.cell? ⟨w.heap.size, 0, none⟩ = some (.int .i64 x.p) := blW.cell 0
  have d1W : w8.cell? ⟨w.heap.size, 1, none⟩ = some (.int .i64 x.f) := blW.cell 1
  have d2W : w8.cell? ⟨w.heap.size, 2, none⟩ = some (.int .i64 x.l) := blW.cell 2
  have sW := blW.lt
  have d0X : w8.cell? ⟨w2.heap.size, 0, none⟩ = some (.int .i64 x.p) := blX.cell 0
  have d1X : w8.cell? ⟨w2.heap.size, 1, none⟩ = some (.int .i64 x.f) := blX.cell 1
  have d2X : w8.cell? ⟨w2.heap.size, 2, none⟩ = some (.int .i64 x.l) := blX.cell 2
  have sX := blX.lt
  have d0Y : w8.cell? ⟨w5.heap.size, 0, none⟩ = some (.int .i64 y.p) := blY.cell 0
  have d1Y : w8.cell? ⟨w5.heap.size, 1, none⟩ = some (.int .i64 y.f) := blY.cell 1
  have d2Y : w8.cell? ⟨w5.heap.size, 2, none⟩ = some (.int .i64 y.l) := blY.cell 2
  have sY := blY.lt
  have d0Z : w8.cell? ⟨w6.heap.size, 0, none⟩ = some (.int .i64 y.p) := blZ.cell 0
  have d1Z : w8.cell? ⟨w6.heap.size, 1, none⟩ = some (.int .i64 y.f) := blZ.cell 1
  have d2Z : w8.cell? ⟨w6.heap.size, 2, none⟩ = some (.int .i64 y.l) := blZ.cell 2
  have sZ := blZ.lt
  have d0U : w8.cell? ⟨w7.heap.size, 0, none⟩ = some (.int .i64 u.p) := blU.cell 0
  have d1U : w8.cell? ⟨w7.heap.size, 1, none⟩ = some (.int .i64 u.f) := blU.cell 1
  have d2U : w8.cell? ⟨w7.heap.size, 2, none⟩ = some (.int .i64 u.l) := blU.cell 2
  have sU := blU.lt
  go_wp2_with fail
  refine wp_region_mixg [(0, true), (2, true), (1, false), (3, false), (4, true), (5, true), (6, true), (7, true), (9, true), (10, true), (8, false), (11, false), (12, true), (13, true), (14, true), (15, true), (16, true), (17, true), (18, true), (19, true), (20, true), (21, true), (22, true), (23, true), (24, true), (25, true), (26, true), (27, true), (28, true), (29, true), (30, true), (31, true), (32, true), (33, true), (34, true), (35, true), (36, true), (37, true), (38, true), (39, true), (40, true), (41, true), (42, true), (43, true), (44, true)] (by kernel_rfl) (by kernel_rfl) rfl (by kernel_rfl) (by intro c a d v w h; cases d <;> exact h) ?_
  iterate 2 (refine wpMix_q rfl (fun K hK => ?_); go_simp; (try go_bits); first | (refine hK _ ?_; clear hK K) | (apply Exists.intro; refine ⟨fun wq hsq => ?_, hK _ ?_⟩; (first | (go_simp; done) | ((try go_simp); (try simp only [↓IntWalk.iteOmega]); (try go_bits); rfl) | (obtain ⟨hcq, hfq⟩ := bcells hsq; go_simp; done) | (obtain ⟨hcq, hfq⟩ := bcells hsq; (try go_simp); (try simp only [↓IntWalk.iteOmega]); (try go_bits); rfl)); clear hK K))
  refine wpMix_m rfl (fun K' hK => ?_)
  go_simp
  refine (cI.out _).mono ?_
  rintro e w9 ⟨rfl, hb9⟩
  refine hK.out _ _ ?_ (fun hS => ?_)
  · repeat (first | assumption | exact Grows.refl _ | apply Grows.drew | apply Grows.drewN | refine Grows.alloc ?_ _ | (refine Grows.setCell ?_ (by first | (simp; done) | (simp; omega) | omega) _) | (refine Grows.trans ?_ (by assumption)))
  clear hK hS
  refine wpMix_m rfl (fun K' hK => ?_)
  go_simp
  refine (cIr.out _).mono ?_
  rintro e w10 ⟨rfl, hb10⟩
  refine hK.out _ _ ?_ (fun hS => ?_)
  · repeat (first | assumption | exact Grows.refl _ | apply Grows.drew | apply Grows.drewN | refine Grows.alloc ?_ _ | (refine Grows.setCell ?_ (by first | (simp; done) | (simp; omega) | omega) _) | (refine Grows.trans ?_ (by assumption)))
  clear hK hS
  iterate 6 (refine wpMix_q rfl (fun K hK => ?_); go_simp; (try go_bits); first | (refine hK _ ?_; clear hK K) | (apply Exists.intro; refine ⟨fun wq hsq => ?_, hK _ ?_⟩; (first | (go_simp; done) | ((try go_simp); (try simp only [↓IntWalk.iteOmega]); (try go_bits); rfl) | (obtain ⟨hcq, hfq⟩ := bcells hsq; go_simp; done) | (obtain ⟨hcq, hfq⟩ := bcells hsq; (try go_simp); (try simp only [↓IntWalk.iteOmega]); (try go_bits); rfl)); clear hK K))
  refine wpMix_m rfl (fun K' hK => ?_)
  go_simp
  refine (cN.out _).mono ?_
  rintro e w11 ⟨rfl, hb11⟩
  refine hK.out _ _ ?_ (fun hS => ?_)
  · repeat (first | assumption | exact Grows.refl _ | apply Grows.drew | apply Grows.drewN | refine Grows.alloc ?_ _ | (refine Grows.setCell ?_ (by first | (simp; done) | (simp; omega) | omega) _) | (refine Grows.trans ?_ (by assumption)))
  clear hK hS
  refine wpMix_m rfl (fun K' hK => ?_)
  go_simp
  refine (cNr.out _).mono ?_
  rintro e w12 ⟨rfl, hb12⟩
  refine hK.out _ _ ?_ (fun hS => ?_)
  · repeat (first | assumption | exact Grows.refl _ | apply Grows.drew | apply Grows.drewN | refine Grows.alloc ?_ _ | (refine Grows.setCell ?_ (by first | (simp; done) | (simp; omega) | omega) _) | (refine Grows.trans ?_ (by assumption)))
  clear hK hS
  iterate 33 (refine wpMix_q rfl (fun K hK => ?_); go_simp; (try go_bits); first | (refine hK _ ?_; clear hK K) | (apply Exists.intro; refine ⟨fun wq hsq => ?_, hK _ ?_⟩; (first | (go_simp; done) | ((try go_simp); (try simp only [↓IntWalk.iteOmega]); (try go_bits); rfl) | (obtain ⟨hcq, hfq⟩ := bcells hsq; go_simp; done) | (obtain ⟨hcq, hfq⟩ := bcells hsq; (try go_simp); (try simp only [↓IntWalk.iteOmega]); (try go_bits); rfl)); clear hK K))
  refine wpMix_nil ?_
  go_wp2
  go_ret
  exact ⟨rfl, by
    repeat (first | assumption | exact Grows.refl _ | apply Grows.drew | apply Grows.drewN | refine Grows.alloc ?_ _ | (refine Grows.setCell ?_ (by first | (simp; done) | (simp; omega) | omega) _) | (refine Grows.trans ?_ (by assumption)))
  ⟩
end Go.Proofs.YtfppagcifcppaaaDoor
