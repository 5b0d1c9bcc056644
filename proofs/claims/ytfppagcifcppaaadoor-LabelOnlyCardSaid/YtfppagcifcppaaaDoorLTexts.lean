/- The walk of the law LabelTexts. -/
import Derived.Test.YtfppagcifcppaaaDoorLLaw
import Derived.Test.YtfppagcifcppaaaDoorWOneP
namespace Go.Proofs.YtfppagcifcppaaaDoor
open Go.RowKit

theorem labTextV_len (x : Lab) : (labTextV x).length ≤ 100 := by
  unfold labTextV
  by_cases h : labRight x.lv = true
  · rw [if_pos h]
    have hlv := labRight_iff.1 h
    have h1 := decDigits_len 0 x.lv.toNat (by omega)
    have h2 := join_bd ((teams x.c).map Lib.decDigits) (fun y hy => by
      obtain ⟨k, hk, rfl⟩ := List.mem_map.1 hy
      exact dec_len2 (teams_lt hk))
    have h3 := teams_len x.c
    rw [List.length_map] at h2
    unfold labText
    rw [List.length_append]
    by_cases h0 : x.c = 0
    · rw [if_pos h0]; simp only [List.length_nil]; omega
    · rw [if_neg h0, List.length_cons]; omega
  · rw [if_neg h]; simp
def LTup (t : List UInt8) (g : Int) (w : World) (e : Ending) (w' : World) : Prop := e = .returned (.tuple #[.string ⟨t.toArray⟩, .int .i64 g]) ∧ Grows w w'
set_option maxRecDepth 100000 in
set_option maxHeartbeats 3200000 in
theorem texts_law (x : Lab) (s : List UInt8) (w : World) (he : LibEnv w) (hx : x.ok) (_hs : s.length ≤ maxLen) :
    Calls Tryd.prog 10 #[.agg #[.int .i64 x.lv, .int .u32 (x.c : Int)], .string ⟨s.toArray⟩] w fun e w' => e = .returned (.bool true) ∧ Grows w w' := by
  have cL := fun o => llives_any (w.alloc o) (he.grows ((Grows.refl w).alloc o))
  replace cL := Lib.hid cL
  have hTl := labTextV_len x
  have cT : ∀ W, Grows w W → Calls Tryd.prog 38 #[.agg #[.int .i64 x.lv, .int .u32 (x.c : Int)]] W (LTup (labTextV x) (labErr x) W) := fun W hW => lText_any x W hx (he.grows hW)
  have cTr : ∀ W, Grows w W → Calls Tryd.prog 39 #[.agg #[.int .i64 x.lv, .int .u32 (x.c : Int)]] W (LTup (labTextV x) (labErr x) W) := fun W hW => lRefText_any x W hx
  have hs200 : (s.take 200).length ≤ 200 := by rw [List.length_take]; omega
  have cR : ∀ W, Grows w W → Calls Tryd.prog 40 #[.string ⟨(s.take 200).toArray⟩] W (LReadPost (s.take 200) W) := fun W hW => lRead_any _ (by omega) W (he.grows hW)
  have cRr : ∀ W, Calls Tryd.prog 41 #[.string ⟨(s.take 200).toArray⟩] W (LReadPost (s.take 200) W) := fun W => lRefRead_any ⟨(s.take 200).toArray⟩ (by simp only [ByteArray.size, List.size_toArray]; omega) W
  have hcase : (labErr x = 0 ∧ ∀ W, Grows w W → Calls Tryd.prog 40 #[.string ⟨(labTextV x).toArray⟩] W (fun e w' => e = .returned (.tuple #[.agg #[.int .i64 x.lv, .int .u32 (x.c : Int)], .int .i64 0]) ∧ Grows W w')) ∨ (labErr x = 1 ∧ labTextV x = []) := by
    cases hr : labRight x.lv
    · right; unfold labErr labTextV; rw [hr]; simp
    · left
      refine ⟨by unfold labErr; rw [hr]; rfl, fun W hW => (lRead_any _ (by omega) W (he.grows hW)).mono ?_⟩
      rintro e w' ⟨y, f, rfl, hy, hg⟩
      obtain ⟨rfl, rfl⟩ := hy.one (.inl ⟨rfl, hr, hx, by unfold labTextV; rw [hr]; rfl⟩)
      exact ⟨rfl, hg⟩
  clear hTl hx
  generalize labTextV x = T at *
  generalize labErr x = E at *
  replace cT := Lib.hid cT
  replace cTr := Lib.hid cTr
  replace cR := Lib.hid cR
  replace cRr := Lib.hid cRr
  replace hcase := Lib.hid hcase
  obtain ⟨M, hM, hMm, hM1⟩ : ∃ M : Nat, min (s.length : Int) 200 = M ∧ M ≤ s.length ∧ s.take M = s.take 200 := by
    by_cases h22 : 200 < s.length
    · exact ⟨200, by omega, by omega, rfl⟩
    · exact ⟨s.length, by omega, by omega, by rw [List.take_of_length_le (by omega), List.take_of_length_le (by omega)]⟩
  have hM1 := Lib.hid hM1
  clear he
  go_enter Tryd.func10, Tryd.ntmps10
  go_wp2_with fail
  refine (cL.out _).mono ?_
  rintro e w1 ⟨rfl, hb1⟩
  have blA : Blk w1 w.heap.size 62 #[.int .i64 x.lv, .int .u32 (x.c : Int)] := (Blk.new w _ _).grows hb1
  have hg : Grows w w1 := ((Grows.refl _).alloc _).trans hb1
  have d0A := blA.cell 0
  have d1A := blA.cell 1
  clear cL hb1
  go_wp2_with fail
  refine (cT.out _ hg).mono ?_
  rintro e w2 ⟨rfl, hb2⟩
  replace hg := hg.trans hb2
  replace blA := blA.grows hb2
  (try clear d0A); (try clear d1A); (try clear sA)
  have d0A := blA.cell 0
  have d1A := blA.cell 1
  have sA := blA.lt
  clear hb2
  go_wp2_with fail
  refine (cTr.out _ hg).mono ?_
  rintro e w3 ⟨rfl, hb3⟩
  replace hg := hg.trans hb3
  replace blA := blA.grows hb3
  (try clear d0A); (try clear d1A); (try clear sA)
  have d0A := blA.cell 0
  have d1A := blA.cell 1
  have sA := blA.lt
  clear hb3
  go_wp2_with fail
  rw [ext_take, hM1.out]
  refine (cR.out _ hg).mono ?_
  rintro e w4 ⟨y, g, rfl, hy, hb4⟩
  replace hg := hg.trans hb4
  replace blA := blA.grows hb4
  (try clear d0A); (try clear d1A); (try clear sA)
  have d0A := blA.cell 0
  have d1A := blA.cell 1
  have sA := blA.lt
  clear hb4
  replace hy := Lib.hid hy
  go_wp2_with fail
  refine (cRr.out _).mono ?_
  rintro e w5 ⟨y', g', rfl, hy', hb5⟩
  obtain ⟨rfl, rfl⟩ := hy.out.one hy'
  have blB : Blk w5 w4.heap.size 62 #[.int .i64 y.lv, .int .u32 (y.c : Int)] := (Blk.new w4 _ _).grows hb5
  replace blA := (blA.alloc (.cells #[.int .i64 y.lv, .int .u32 (y.c : Int)] 62)).grows hb5
  (try clear d0A); (try clear d1A); (try clear sA)
  have d0A := blA.cell 0
  have d1A := blA.cell 1
  have sA := blA.lt
  replace hg := (hg.alloc (.cells #[.int .i64 y.lv, .int .u32 (y.c : Int)] 62)).trans hb5
  clear hb5 hy hy'
  have d0B := blB.cell 0
  have d1B := blB.cell 1
  have sB := blB.lt
  rcases hcase.out with ⟨rfl, cS⟩ | ⟨rfl, rfl⟩
  · replace cS := Lib.hid cS
    clear hcase
    go_wp2_with fail
    refine (cS.out _ (hg.alloc _)).mono ?_
    rintro e w6 ⟨rfl, hb6⟩
    replace blA := (blA.alloc (.cells #[.int .i64 y.lv, .int .u32 (y.c : Int)] 62)).grows hb6
    (try clear d0A); (try clear d1A); (try clear sA)
    have d0A := blA.cell 0
    have d1A := blA.cell 1
    have sA := blA.lt
    replace hg := (hg.alloc (.cells #[.int .i64 y.lv, .int .u32 (y.c : Int)] 62)).trans hb6
    clear hb6
    go_wp2_with fail
    go_ret
    exact ⟨rfl, by
      repeat (first | assumption | exact Grows.refl _ | apply Grows.drew | apply Grows.drewN | refine Grows.alloc ?_ _ | (refine Grows.setCell ?_ (by first | (simp; done) | (simp; omega) | omega) _) | (refine Grows.trans ?_ (by assumption)))
    ⟩
  · clear hcase
    go_wp2_with fail
    go_ret
    exact ⟨rfl, by
      repeat (first | assumption | exact Grows.refl _ | apply Grows.drew | apply Grows.drewN | refine Grows.alloc ?_ _ | (refine Grows.setCell ?_ (by first | (simp; done) | (simp; omega) | omega) _) | (refine Grows.trans ?_ (by assumption)))
    ⟩
end Go.Proofs.YtfppagcifcppaaaDoor
