/- Groups that are the same. -/
import Derived.Test.YtfoffneipdkdjaaGreatDoorBs14
namespace Go.Proofs.YtfoffneipdkdjaaGreatDoor
open Go.RowKit

set_option maxRecDepth 100000 in
set_option maxHeartbeats 1600000 in
theorem eqF_any (A B : Option Addr) (m c m' c' : Nat) (xs : List Fld) (w : World) (h : Arr w 2 encF A m xs) (h' : Arr w 2 encF B m' xs) (hm : m ≤ 9223372036854775807) :
    Calls Tryz.prog 56 #[.slice A m c, .slice B m' c'] w fun e w' => e = .returned (.bool true) ∧ Grows w w' := by
  obtain rfl : m = m' := h.1.symm.trans h'.1
  have hb : ((m : Int) != (m : Int)) = false := by simp
  replace h := Lib.hid h
  replace h' := Lib.hid h'
  go_enter Tryz.func56, Tryz.ntmps56
  go_wp2
  go_loopw [5, 13] (fun _ iv wr => ∃ k : Nat, k ≤ m ∧ iv = .int .i64 k ∧ Grows w wr) (fun _ iv _ => m - (intOf iv).toNat)
  case atStart => exact ⟨0, by omega, rfl, Grows.refl _⟩
  case round =>
    obtain ⟨k, hk, rfl, hg⟩ := hrel
    by_cases hkm : k < m
    · obtain ⟨b1, o1, x, rfl, _, hx, hc1⟩ := ((h.out).keep hg).at_ hkm
      obtain ⟨b2, o2, y, rfl, _, hy, hc2⟩ := ((h'.out).keep hg).at_ hkm
      rw [hx] at hy
      injection hy with hy
      subst hy
      have c1 : wr.cell? ⟨b1, o1 + k * 2, none⟩ = some (.string ⟨x.n.toArray⟩) := by simpa using hc1 0 _ rfl
      have d1 : wr.cell? ⟨b1, o1 + k * 2 + 1, none⟩ = some (.string ⟨x.v.toArray⟩) := hc1 1 _ rfl
      have c2 : wr.cell? ⟨b2, o2 + k * 2, none⟩ = some (.string ⟨x.n.toArray⟩) := by simpa using hc2 0 _ rfl
      have d2 : wr.cell? ⟨b2, o2 + k * 2 + 1, none⟩ = some (.string ⟨x.v.toArray⟩) := hc2 1 _ rfl
      have hki : (k : Int) < (m : Int) := by omega
      clear hx hc1 hc2
      go_wp2
      go_quiet (fail)
      go_wp2
      go_roundw
      case rel => exact ⟨k + 1, by omega, by go_num, hg.drewN _⟩
      case measure => simp [intOf]; omega
    · have hki : ¬ (k : Int) < (m : Int) := by omega
      go_wp2
      go_ret
      exact ⟨rfl, hg⟩
set_option maxRecDepth 100000 in
set_option maxHeartbeats 1600000 in
theorem eqU_any (A B : Option Addr) (m c m' c' : Nat) (xs : List Nat) (w : World) (h : Arr w 1 encU A m xs) (h' : Arr w 1 encU B m' xs) (hm : m ≤ 9223372036854775807) :
    Calls Tryz.prog 57 #[.slice A m c, .slice B m' c'] w fun e w' => e = .returned (.bool true) ∧ Grows w w' := by
  obtain rfl : m = m' := h.1.symm.trans h'.1
  have hb : ((m : Int) != (m : Int)) = false := by simp
  replace h := Lib.hid h
  replace h' := Lib.hid h'
  go_enter Tryz.func57, Tryz.ntmps57
  go_wp2
  go_loopw [5, 13] (fun _ iv wr => ∃ k : Nat, k ≤ m ∧ iv = .int .i64 k ∧ Grows w wr) (fun _ iv _ => m - (intOf iv).toNat)
  case atStart => exact ⟨0, by omega, rfl, Grows.refl _⟩
  case round =>
    obtain ⟨k, hk, rfl, hg⟩ := hrel
    by_cases hkm : k < m
    · obtain ⟨b1, o1, x, rfl, _, hx, hc1⟩ := ((h.out).keep hg).at_ hkm
      obtain ⟨b2, o2, y, rfl, _, hy, hc2⟩ := ((h'.out).keep hg).at_ hkm
      rw [hx] at hy
      injection hy with hy
      subst hy
      have c1 : wr.cell? ⟨b1, o1 + k, none⟩ = some (.int .u64 (x : Int)) := by simpa using hc1 0 _ rfl
      have c2 : wr.cell? ⟨b2, o2 + k, none⟩ = some (.int .u64 (x : Int)) := by simpa using hc2 0 _ rfl
      have hki : (k : Int) < (m : Int) := by omega
      clear hx hc1 hc2
      go_wp2
      go_quiet (fail)
      go_wp2
      go_roundw
      case rel => exact ⟨k + 1, by omega, by go_num, hg.drewN _⟩
      case measure => simp [intOf]; omega
    · have hki : ¬ (k : Int) < (m : Int) := by omega
      go_wp2
      go_ret
      exact ⟨rfl, hg⟩
set_option maxRecDepth 100000 in
set_option maxHeartbeats 1600000 in
theorem gsame_any (x y : GrpX) (w : World) (h : x.g = y.g) (hxb : Arr w 2 encF x.bA x.bm x.by_) (hyb : Arr w 2 encF y.bA y.bm y.by_) (hxi : Arr w 1 encU x.iA x.im x.ids) (hyi : Arr w 1 encU y.iA y.im y.ids) (hm : x.bm ≤ 9223372036854775807) (hm2 : x.im ≤ 9223372036854775807) :
    Calls Tryz.prog 26 #[.agg #[.int .i64 (x.r : Int), .slice x.bA x.bm x.bk, .int .u64 (x.key : Int), .slice x.iA x.im x.ik], .agg #[.int .i64 (y.r : Int), .slice y.bA y.bm y.bk, .int .u64 (y.key : Int), .slice y.iA y.im y.ik]] w fun e w' => e = .returned (.bool true) ∧ Grows w w' := by
  have h1 : x.r = y.r := congrArg Grp.route h
  have h2 : x.by_ = y.by_ := congrArg Grp.by_ h
  have h3 : x.key = y.key := congrArg Grp.key h
  have h4 : x.ids = y.ids := congrArg Grp.ids h
  rw [← h2] at hyb
  rw [← h4] at hyi
  have cF := fun W (hW : Grows w W) => eqF_any x.bA y.bA x.bm x.bk y.bm y.bk x.by_ W (hxb.keep hW) (hyb.keep hW) hm
  have cU := fun W (hW : Grows w W) => eqU_any x.iA y.iA x.im x.ik y.im y.ik x.ids W (hxi.keep hW) (hyi.keep hW) hm2
  have b1 : ((x.r : Int) == (y.r : Int)) = true := by rw [beq_iff_eq, h1]
  have b2 : ((x.key : Int) == (y.key : Int)) = true := by rw [beq_iff_eq, h3]
  replace cF := Lib.hid cF
  replace cU := Lib.hid cU
  clear h h1 h2 h3 h4 hxb hyb hxi hyi hm hm2
  go_enter Tryz.func26, Tryz.ntmps26
  go_wp2_with fail
  refine (cF.out _ (by
    repeat (first | assumption | exact Grows.refl _ | apply Grows.drew | apply Grows.drewN | refine Grows.alloc ?_ _ | (refine Grows.setCell ?_ (by first | (simp; done) | (simp; omega) | omega) _) | (refine Grows.trans ?_ (by assumption)))
  )).mono ?_
  rintro e w1 ⟨rfl, hb1⟩
  have bx : Blk w1 w.heap.size 47 #[.int .i64 (x.r : Int), .slice x.bA x.bm x.bk, .int .u64 (x.key : Int), .slice x.iA x.im x.ik] := ((Blk.new w _ _).alloc _).grows hb1
  have by_ : Blk w1 (w.heap.size + 1) 47 #[.int .i64 (y.r : Int), .slice y.bA y.bm y.bk, .int .u64 (y.key : Int), .slice y.iA y.im y.ik] := (Blk.new1 w _ _ _).grows hb1
  have hG : Grows w w1 := (((Grows.refl w).alloc _).alloc _).trans hb1
  have x2 := bx.cell 2
  have x3 := bx.cell 3
  have y2 := by_.cell 2
  have y3 := by_.cell 3
  have xl := bx.lt
  have yl := by_.lt
  clear hb1 bx by_
  go_wp2_with fail
  refine (cU.out _ (by
    repeat (first | assumption | exact Grows.refl _ | apply Grows.drew | apply Grows.drewN | refine Grows.alloc ?_ _ | (refine Grows.setCell ?_ (by first | (simp; done) | (simp; omega) | omega) _) | (refine Grows.trans ?_ (by assumption)))
  )).mono ?_
  rintro e w2 ⟨rfl, hb2⟩
  go_wp2_with fail
  go_ret
  exact ⟨rfl, hG.trans hb2⟩
end Go.Proofs.YtfoffneipdkdjaaGreatDoor
