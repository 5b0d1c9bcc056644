/- The walk of the law WindowBack. -/
import Derived.Test.YtfppagcifcppaaaDoorWOneP
namespace Go.Proofs.YtfppagcifcppaaaDoor
open Go.RowKit

def TupWin (z : Win) (g : Int) (w : World) (e : Ending) (w' : World) : Prop := e = .returned (.tuple #[.agg #[.int .i64 z.p, .int .i64 z.f, .int .i64 z.l], .int .i64 g]) ∧ Grows w w'
def TupStr (t : List UInt8) (g : Int) (w : World) (e : Ending) (w' : World) : Prop := e = .returned (.tuple #[.string ⟨t.toArray⟩, .int .i64 g]) ∧ Grows w w'
set_option maxRecDepth 100000 in
set_option maxHeartbeats 3200000 in
theorem back_law (x : Win) (s : List UInt8) (w : World) (he : LibEnv w) (hs : s.length ≤ maxLen) :
    Calls Tryd.prog 5 #[.agg #[.int .i64 x.p, .int .i64 x.f, .int .i64 x.l], .string ⟨s.toArray⟩] w fun e w' => e = .returned (.bool true) ∧ Grows w w' := by
  have cL := fun o => lives_any (w.alloc o) (he.grows ((Grows.refl w).alloc o))
  replace cL := Lib.hid cL
  have heh := Lib.hid he
  have cT : ∀ y : Win, ∀ W, Grows w W → Calls Tryd.prog 27 #[.agg #[.int .i64 y.p, .int .i64 y.f, .int .i64 y.l]] W (TupStr (textW y) (errW y) W) := fun y W hW => text_any y W (he.grows hW)
  have cR : ∀ l : List UInt8, l.length ≤ 1000 → ∀ W, Grows w W → Calls Tryd.prog 28 #[.string ⟨l.toArray⟩] W (ReadPost l W) := fun l hl W hW => read_any l hl W (he.grows hW)
  have hq : (rightW x = true ∧ errW x = 0) ∨ (rightW x = false ∧ errW x = 1) := by
    unfold errW; cases rightW x <;> simp
  have hTl := textW_len x
  have hTR : rightW x = true → ∀ y f, ReadIs (textW x) y f → y = x ∧ f = 0 := fun hr y f h => h.one (.inl ⟨rfl, hr, rfl⟩)
  have cTx := cT x
  have cRx := cR (textW x) (by omega)
  have cRs := cR (s.take 100) (by rw [List.length_take]; omega)
  have hfin : ∀ z : Win, rightW z = true → textW z = s.take 100 → textW z = s := fun z _ hz => by
    have h1 := textW_len z
    rw [hz, List.length_take] at h1
    rw [hz, List.take_of_length_le (by omega)]
  have cI : Calls Tryd.prog 29 #[.agg #[.int .i64 x.p, .int .i64 x.f, .int .i64 x.l]] w (fun e w' => e = .returned (.bool (rightW x)) ∧ Grows w w') := right_any x.p x.f x.l w
  have cI := fun W => right_any x.p x.f x.l W
  change ∀ W, Calls _ _ _ _ (fun e w' => e = .returned (.bool (rightW x)) ∧ _) at cI
  have hs100 : (s.take 100).length ≤ 100 := by rw [List.length_take]; omega
  clear hTl
  generalize textW x = T at *
  generalize errW x = E at *
  generalize rightW x = q at *
  replace cTx := Lib.hid cTx
  replace cRx := Lib.hid cRx
  replace cRs := Lib.hid cRs
  replace hTR := Lib.hid hTR
  replace hfin := Lib.hid hfin
  replace cI := Lib.hid cI
  replace cT := Lib.hid cT
  clear cR
  obtain ⟨M, hM, hMm, hM1⟩ : ∃ M : Nat, min (s.length : Int) 100 = M ∧ M ≤ s.length ∧ s.take M = s.take 100 := by
    by_cases h22 : 100 < s.length
    · exact ⟨100, by omega, by omega, rfl⟩
    · exact ⟨s.length, by omega, by omega, by rw [List.take_of_length_le (by omega), List.take_of_length_le (by omega)]⟩
  have hM1 := Lib.hid hM1
  clear he
  unfold maxLen at hs
  go_enter Tryd.func5, Tryd.ntmps5
  go_wp2_with fail
  refine (cL.out _).mono ?_
  rintro e w1 ⟨rfl, hb1⟩
  have blW : Blk w1 w.heap.size 37 #[.int .i64 x.p, .int .i64 x.f, .int .i64 x.l] := (Blk.new w _ _).grows hb1
  have hg1 : Grows w w1 := ((Grows.refl _).alloc _).trans hb1
  have d0W : w1.cell? ⟨w.heap.size, 0, none⟩ = some (.int .i64 x.p) := blW.cell 0
  have d1W : w1.cell? ⟨w.heap.size, 1, none⟩ = some (.int .i64 x.f) := blW.cell 1
  have d2W : w1.cell? ⟨w.heap.size, 2, none⟩ = some (.int .i64 x.l) := blW.cell 2
  have sW := blW.lt
  clear cL hb1
  go_wp2_with fail
  refine (back_one _ 1 x _ (Arr.one (Blk.new _ _ _))).mono ?_
  rintro e w2 ⟨b, off, c, rfl, c0, c1, c2, harr, hc1, hcm, hb2⟩
  replace hg1 : Grows w w2 := (hg1.alloc _).trans hb2
  clear hb2 harr hcm d0W d1W d2W sW blW
  go_wp2_with fail
  refine (cTx.out _ (hg1.alloc _)).mono ?_
  rintro e w3 ⟨rfl, hb3⟩
  have blX : Blk w3 w2.heap.size 39 #[.int .i64 x.p, .int .i64 x.f, .int .i64 x.l] := (Blk.new w2 _ _).grows hb3
  replace hg1 : Grows w w3 := (hg1.alloc _).trans hb3
  clear hb3 c0 c1 c2
  go_wp2_with fail
  refine (cRx.out _ hg1).mono ?_
  rintro e w4 ⟨y, f, rfl, hy, hb4⟩
  replace hg1 : Grows w w4 := hg1.trans hb4
  replace blX := blX.grows hb4
  clear hb4
  replace hy := Lib.hid hy
  simp only [encW]
  go_wp2_with fail
  rw [ext_take, hM1.out]
  refine (cRs.out _ (hg1.alloc _)).mono ?_
  rintro e w5 ⟨z, g, rfl, hz, hb5⟩
  have blY : Blk w5 w4.heap.size 39 #[.int .i64 y.p, .int .i64 y.f, .int .i64 y.l] := (Blk.new w4 _ _).grows hb5
  replace blX := (blX.alloc _).grows hb5
  replace hg1 : Grows w w5 := (hg1.alloc _).trans hb5
  clear hb5
  have cTz := cT.out z
  have hzz : (g = 0 ∧ errW z = 0 ∧ textW z = s) ∨ (g = 2 ∧ z = ⟨0, 0, 0⟩) := by
    rcases hz with ⟨h1, h2, h3⟩ | ⟨h1, h2, _⟩
    · exact .inl ⟨h1, by unfold errW; rw [if_pos h2], hfin.out z h2 h3⟩
    · exact .inr ⟨h1, h2⟩
  clear hz
  replace hzz := Lib.hid hzz
  generalize errW z = h at *
  generalize textW z = U at *
  replace cTz := Lib.hid cTz
  simp only [encW]
  go_wp2_with fail
  refine (cTz.out _ (hg1.alloc _)).mono ?_
  rintro e w6 ⟨rfl, hb6⟩
  have blZ : Blk w6 w5.heap.size 39 #[.int .i64 z.p, .int .i64 z.f, .int .i64 z.l] := (Blk.new w5 _ _).grows hb6
  replace blX := (blX.alloc _).grows hb6
  replace blY := (blY.alloc _).grows hb6
  replace hg1 : Grows w w6 := (hg1.alloc _).trans hb6
  clear hb6
  have d0X : w6.cell? ⟨w2.heap.size, 0, none⟩ = some (.int .i64 x.p) := blX.cell 0
  have d1X : w6.cell? ⟨w2.heap.size, 1, none⟩ = some (.int .i64 x.f) := blX.cell 1
  have d2X : w6.cell? ⟨w2.heap.size, 2, none⟩ = some (.int .i64 x.l) := blX.cell 2
  have sX := blX.lt
  have d0Y : w6.cell? ⟨w4.heap.size, 0, none⟩ = some (.int .i64 y.p) := blY.cell 0
  have d1Y : w6.cell? ⟨w4.heap.size, 1, none⟩ = some (.int .i64 y.f) := blY.cell 1
  have d2Y : w6.cell? ⟨w4.heap.size, 2, none⟩ = some (.int .i64 y.l) := blY.cell 2
  have sY := blY.lt
  have d0Z : w6.cell? ⟨w5.heap.size, 0, none⟩ = some (.int .i64 z.p) := blZ.cell 0
  have d1Z : w6.cell? ⟨w5.heap.size, 1, none⟩ = some (.int .i64 z.f) := blZ.cell 1
  have d2Z : w6.cell? ⟨w5.heap.size, 2, none⟩ = some (.int .i64 z.l) := blZ.cell 2
  have sZ := blZ.lt
  rcases hq with ⟨rfl, rfl⟩ | ⟨rfl, rfl⟩
  · obtain ⟨rfl, rfl⟩ := hTR.out rfl y f hy.out
    clear hTR hy
    rcases hzz.out with ⟨rfl, rfl, rfl⟩ | ⟨rfl, rfl⟩
    all_goals
      clear hzz
      go_wp2_with fail
      go_ret
      exact ⟨rfl, hg1⟩
  · clear hTR hy
    rcases hzz.out with ⟨rfl, rfl, rfl⟩ | ⟨rfl, rfl⟩
    all_goals
      clear hzz
      go_wp2_with fail
      refine (cI.out _).mono ?_
      rintro e w7 ⟨rfl, hb7⟩
      replace blX := blX.grows hb7
      replace blY := blY.grows hb7
      replace blZ := blZ.grows hb7
      replace hg1 : Grows w w7 := hg1.trans hb7
      clear hb7 d0X d1X d2X d0Y d1Y d2Y d0Z d1Z d2Z sX sY sZ
      have d0Z := blZ.cell 0
      have d1Z := blZ.cell 1
      have d2Z := blZ.cell 2
      go_wp2_with fail
      go_ret
      exact ⟨rfl, hg1⟩
end Go.Proofs.YtfppagcifcppaaaDoor
