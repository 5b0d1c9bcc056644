/- Parts: LwB GrpB SlR SlI PolF PolG PolH GrpC -/
import Derived.Test.YtfoffneipdkdjaaGreatDoorBs9
import Derived.Test.YtfoffneipdkdjaaGreatDoorBs11
import Derived.Test.YtfoffneipdkdjaaGreatDoorBs5
import Derived.Test.YtfoffneipdkdjaaGreatDoorBs6
import Derived.Test.YtfoffneipdkdjaaGreatDoorBs7
import Derived.Deep.OwnRows
namespace Go.Proofs.YtfoffneipdkdjaaGreatDoor
open Go.RowKit

def AlrX.cut12 (x : AlrX) : AlrX := ⟨{ x.a with fs := x.a.fs.take (min x.m 12) }, x.A, min x.m 12, x.k⟩
def GLe2 (w : World) (g : Nat) : Prop := w.heap.size ≤ g
theorem hkAl (x : AlrX) : (encA x).length = 6 := rfl
theorem oneA (x : AlrX) : ∀ u ∈ encA x, u.oneCell' = true := by
  intro u hu
  simp [encA] at hu
  rcases hu with rfl | rfl | rfl | rfl | rfl | rfl <;> rfl
theorem T_al : SliceT Tryz.prog 35 50 6 72 := SliceT.mk' (z := .agg #[.string ⟨#[]⟩, .slice none 0 0, .int .i64 0, .int .u32 0, .int .i64 0, .int .i64 0]) Tryz.underlying35 (by kernel_rfl) rfl (by omega)
theorem T_ar : SliceT Tryz.prog 33 62 6 72 := SliceT.mk' (z := .agg #[.string ⟨#[]⟩, .slice none 0 0, .int .i64 0, .int .u32 0, .int .i64 0, .int .i64 0]) Tryz.underlying33 (by kernel_rfl) rfl (by omega)
set_option maxRecDepth 100000 in
set_option maxHeartbeats 1600000 in
theorem back_any {x : AlrX} (w : World) (hk : x.m ≤ x.k) (hm : x.k ≤ 9223372036854775807) : Calls Tryz.prog 34 #[valA x] w fun e w' => e = .returned (valA x.cut12) ∧ Grows w w' := by
  obtain ⟨⟨src, fs, ⟨lv, lc⟩, f, t⟩, A, m, k⟩ := x
  simp only at hk hm
  unfold valA AlrX.cut12
  simp only
  have e : (min (m : Int) 12).toNat = min m 12 := by omega
  have hX := Blk.new w 62 #[.string ⟨src.toArray⟩, .slice A m k, .int .i64 lv, .int .u32 (lc : Int), .int .i64 f, .int .i64 t]
  have hR := Blk.new (w.alloc (.cells #[.string ⟨src.toArray⟩, .slice A m k, .int .i64 lv, .int .u32 (lc : Int), .int .i64 f, .int .i64 t] 62)) 50 #[.string ⟨#[]⟩, .slice none 0 0, .int .i64 0, .int .u32 0, .int .i64 0, .int .i64 0]
  have hG : Grows w ((w.alloc (.cells #[.string ⟨src.toArray⟩, .slice A m k, .int .i64 lv, .int .u32 (lc : Int), .int .i64 f, .int .i64 t] 62)).alloc (.cells #[.string ⟨#[]⟩, .slice none 0 0, .int .i64 0, .int .u32 0, .int .i64 0, .int .i64 0] 50)) := ((Grows.refl w).alloc _).alloc _
  replace hX := hX.alloc (.cells #[.string ⟨#[]⟩, .slice none 0 0, .int .i64 0, .int .u32 0, .int .i64 0, .int .i64 0] 50)
  rw [show (w.alloc (.cells #[.string ⟨src.toArray⟩, .slice A m k, .int .i64 lv, .int .u32 (lc : Int), .int .i64 f, .int .i64 t] 62)).heap.size = w.heap.size + 1 by simp] at hR
  have hGr : Hid (w.heap.size ≤ w.heap.size + 1) := Lib.hid (Nat.le_succ _)
  go_enter Tryz.func34, Tryz.ntmps34
  go_wp2_with fail
  generalize (w.alloc (.cells #[.string ⟨src.toArray⟩, .slice A m k, .int .i64 lv, .int .u32 (lc : Int), .int .i64 f, .int .i64 t] 62)).alloc (.cells #[.string ⟨#[]⟩, .slice none 0 0, .int .i64 0, .int .u32 0, .int .i64 0, .int .i64 0] 50) = w1 at *
  have hGR2 : Hid (GLe2 w (w.heap.size + 1)) := hGr
  generalize w.heap.size + 1 = gR at *
  generalize w.heap.size = gX at *
  have x0 : w1.cell? ⟨gX, 0, none⟩ = some (.string ⟨src.toArray⟩) := hX.cell 0
  have x1 : w1.cell? ⟨gX, 1, none⟩ = some (.slice A m k) := hX.cell 1
  have x2 : w1.cell? ⟨gX, 2, none⟩ = some (.int .i64 lv) := hX.cell 2
  have x3 : w1.cell? ⟨gX, 3, none⟩ = some (.int .u32 (lc : Int)) := hX.cell 3
  have x4 : w1.cell? ⟨gX, 4, none⟩ = some (.int .i64 f) := hX.cell 4
  have x5 : w1.cell? ⟨gX, 5, none⟩ = some (.int .i64 t) := hX.cell 5
  have xl := hX.lt
  replace hR := Lib.hid hR
  replace hG := Lib.hid hG
  clear hX hGr
  refine wp_region_k (by kernel_rfl) ?_
  refine wpAnyK_run (l' := #[true, true, true, true, true, true, true, true, true, true, true, true, true, true, true, true, false]) [0, 1, 2, 3, 4, 5, 6, 7, 8, 9, 10, 11, 12, 13, 14, 15] 1 up_grows (by kernel_rfl) (by intro c a d v w h; first | (cases d <;> exact h) | exact hQ0 _ _ _ _ _ h) rfl (by kernel_rfl) (by kernel_rfl) ?_
  iterate 16 (refine wpMixC_q rfl (fun K hK => ?_); go_simp; (try go_bits); first | (refine hK.out _ ?_; clear hK K) | (apply Exists.intro; refine ⟨fun wq hsq => ?_, hK.out _ ?_⟩; (first | (go_simp; done) | ((try go_simp); (try simp only [↓IntWalk.iteOmega]); (try go_bits); rfl) | (obtain ⟨hcq, hfq⟩ := bcells hsq; go_simp; done) | (obtain ⟨hcq, hfq⟩ := bcells hsq; (try go_simp); (try simp only [↓IntWalk.iteOmega]); (try go_bits); rfl)); clear hK K))
  refine wpMixC_nil ?_
  refine wpAnyK_last (i := 16) rfl (by kernel_rfl) (by kernel_rfl) (fun wN hN hS K' hK => ?_)
  clear hS
  have hRN := hR.out.grows hN
  have r0 := hRN.cell 0
  have r1 := hRN.cell 1
  have r2 := hRN.cell 2
  have r3 := hRN.cell 3
  have r4 := hRN.cell 4
  have r5 := hRN.cell 5
  have q0 := hRN.frozen 0
  have q1 := hRN.frozen 1
  have q2 := hRN.frozen 2
  have q3 := hRN.frozen 3
  have q4 := hRN.frozen 4
  have q5 := hRN.frozen 5
  have rl := hRN.lt
  go_simp
  refine hK.out _ _ ?_
  clear hK
  have hB : Blk ((((((wN.setCell ⟨gR, 0, none⟩ (.string ⟨src.toArray⟩)).setCell ⟨gR, 1, none⟩ (.slice A (min m 12) k)).setCell ⟨gR, 2, none⟩ (.int .i64 lv)).setCell ⟨gR, 3, none⟩ (.int .u32 (lc : Int))).setCell ⟨gR, 4, none⟩ (.int .i64 f)).setCell ⟨gR, 5, none⟩ (.int .i64 t)) gR 50 #[.string ⟨src.toArray⟩, .slice A (min m 12) k, .int .i64 lv, .int .u32 (lc : Int), .int .i64 f, .int .i64 t] :=
    ((((((hRN.set_ 0 (.string ⟨src.toArray⟩)).set_ 1 (.slice A (min m 12) k)).set_ 2 (.int .i64 lv)).set_ 3 (.int .u32 (lc : Int))).set_ 4 (.int .i64 f)).set_ 5 (.int .i64 t))
  have hG9 : Grows w ((((((wN.setCell ⟨gR, 0, none⟩ (.string ⟨src.toArray⟩)).setCell ⟨gR, 1, none⟩ (.slice A (min m 12) k)).setCell ⟨gR, 2, none⟩ (.int .i64 lv)).setCell ⟨gR, 3, none⟩ (.int .u32 (lc : Int))).setCell ⟨gR, 4, none⟩ (.int .i64 f)).setCell ⟨gR, 5, none⟩ (.int .i64 t)) :=
    ((((((hG.out.trans hN).setCell (p := ⟨gR, 0, none⟩) hGR2.out _).setCell (p := ⟨gR, 1, none⟩) hGR2.out _).setCell (p := ⟨gR, 2, none⟩) hGR2.out _).setCell (p := ⟨gR, 3, none⟩) hGR2.out _).setCell (p := ⟨gR, 4, none⟩) hGR2.out _).setCell (p := ⟨gR, 5, none⟩) hGR2.out _
  generalize ((((((wN.setCell ⟨gR, 0, none⟩ (.string ⟨src.toArray⟩)).setCell ⟨gR, 1, none⟩ (.slice A (min m 12) k)).setCell ⟨gR, 2, none⟩ (.int .i64 lv)).setCell ⟨gR, 3, none⟩ (.int .u32 (lc : Int))).setCell ⟨gR, 4, none⟩ (.int .i64 f)).setCell ⟨gR, 5, none⟩ (.int .i64 t)) = w9 at *
  clear r0 r1 r2 r3 r4 r5 q0 q1 q2 q3 q4 q5 rl x0 x1 x2 x3 x4 x5 xl hR hRN
  have e0 := hB.cell 0
  have e1 := hB.cell 1
  have e2 := hB.cell 2
  have e3 := hB.cell 3
  have e4 := hB.cell 4
  have e5 := hB.cell 5
  go_wp2
  refine bodyPost_ret (v := .agg #[.string ⟨src.toArray⟩, .slice A (min m 12) k, .int .i64 lv, .int .u32 (lc : Int), .int .i64 f, .int .i64 t]) ?_ rfl ⟨rfl, hG9⟩
  simp [results, Tryz.results34, go_sem, e0, e1, e2, e3, e4, e5]
set_option maxRecDepth 100000 in
set_option maxHeartbeats 3200000 in
theorem few_any {A : Option Addr} {m c : Nat} {xs : List AlrX} (w : World) (hA : Arr w 6 encA A m xs) (hm : m ≤ 9223372036854775807) (hk : ∀ x ∈ xs, x.m ≤ x.k ∧ x.k ≤ 9223372036854775807) :
    Calls Tryz.prog 14 #[.slice A m c] w fun e w' => ∃ v u, e = .returned (.tuple #[v, u]) ∧ Own w' w.heap.size 50 6 encA v ((xs.take 12).map AlrX.cut12) ∧ Own w' w.heap.size 62 6 encA u ((xs.take 12).map AlrX.cut12) ∧ Grows w w' := by
  have hml := Lib.hid hA.1
  replace hA := Lib.hid hA
  replace hk := Lib.hid hk
  go_enter Tryz.func14, Tryz.ntmps14
  go_wp2
  go_loopw [4, 5, 6, 7] (fun vo vd i _ wr => ∃ q : Nat, q ≤ m ∧ q ≤ 12 ∧ i = .int .i64 (q : Int) ∧ Hid (Own wr w.heap.size 50 6 encA vo ((xs.take q).map AlrX.cut12)) ∧ Hid (Own wr w.heap.size 62 6 encA vd ((xs.take q).map AlrX.cut12)) ∧ Hid (Grows w wr)) (fun _ _ i _ _ => 12 - (intOf i).toNat)
  case atStart => exact ⟨0, by omega, by omega, rfl, Lib.hid (Own.nil_ _ _ _ _ _), Lib.hid (Own.nil_ _ _ _ _ _), Lib.hid (Grows.refl _)⟩
  case round =>
    obtain ⟨q, hq, hq12, rfl, hO, hD, hG⟩ := hrel
    by_cases hqm : q < m ∧ q < 12
    · obtain ⟨b0, o0, x, rfl, hs0, hx, hcell⟩ := (hA.out.keep hG.out).at_ hqm.1
      have hkx := hk.out x (List.mem_of_getElem? hx)
      have cB := Lib.hid (fun W => back_any (x := x.cut12) W (Nat.le_trans (Nat.min_le_left _ _) hkx.1) hkx.2)
      have hqi : (q : Int) < (m : Int) := by omega
      have hqi2 : (q : Int) < 12 := by omega
      have htk : Hid ((xs.take (q + 1)).map AlrX.cut12 = (xs.take q).map AlrX.cut12 ++ [x.cut12]) := Lib.hid (by rw [List.take_add_one, hx]; simp)
      obtain ⟨⟨src, fs, ⟨lv, lc⟩, f, t⟩, xA, xm, xk⟩ := x
      simp only at hkx
      have y0 : wr.cell? ⟨b0, o0 + q * 6, none⟩ = some (.string ⟨src.toArray⟩) := by simpa using hcell 0 _ rfl
      have y1 : wr.cell? ⟨b0, o0 + q * 6 + 1, none⟩ = some (.slice xA xm xk) := hcell 1 _ rfl
      have y2 : wr.cell? ⟨b0, o0 + q * 6 + 2, none⟩ = some (.int .i64 lv) := hcell 2 _ rfl
      have y3 : wr.cell? ⟨b0, o0 + q * 6 + 3, none⟩ = some (.int .u32 (lc : Int)) := hcell 3 _ rfl
      have y4 : wr.cell? ⟨b0, o0 + q * 6 + 4, none⟩ = some (.int .i64 f) := hcell 4 _ rfl
      have y5 : wr.cell? ⟨b0, o0 + q * 6 + 5, none⟩ = some (.int .i64 t) := hcell 5 _ rfl
      have hkx1 := hkx.1
      have hkx2 := hkx.2
      have hm12 : (min (xm : Int) 12).toNat = min xm 12 := by omega
      clear hcell hx hkx
      have hcc : Hid (valA (AlrX.cut12 (AlrX.cut12 ⟨⟨src, fs, ⟨lv, lc⟩, f, t⟩, xA, xm, xk⟩)) = .agg #[.string ⟨src.toArray⟩, .slice xA (min xm 12) xk, .int .i64 lv, .int .u32 (lc : Int), .int .i64 f, .int .i64 t]) := Lib.hid (by
        unfold valA AlrX.cut12
        simp only
        rw [show min (min xm 12) 12 = min xm 12 by omega])
      rw [hcc.out] at cB
      have cB2 : Hid (∀ W, Calls Tryz.prog 34 #[.agg #[.string ⟨src.toArray⟩, .slice xA (min xm 12) xk, .int .i64 lv, .int .u32 (lc : Int), .int .i64 f, .int .i64 t]] W fun e w' => e = .returned (.agg #[.string ⟨src.toArray⟩, .slice xA (min xm 12) xk, .int .i64 lv, .int .u32 (lc : Int), .int .i64 f, .int .i64 t]) ∧ Grows W w') := Lib.hid cB.out
      clear cB hcc
      have hZ := Blk.new wr 62 #[.string ⟨src.toArray⟩, .slice xA (min xm 12) xk, .int .i64 lv, .int .u32 (lc : Int), .int .i64 f, .int .i64 t]
      have hg1 : Grows wr (wr.alloc (.cells #[.string ⟨src.toArray⟩, .slice xA (min xm 12) xk, .int .i64 lv, .int .u32 (lc : Int), .int .i64 f, .int .i64 t] 62)) := (Grows.refl _).alloc _
      go_wp2_with fail
      refine (cB2.out _).mono ?_
      rintro e w2 ⟨rfl, hg2⟩
      replace hZ := hZ.grows hg2
      have hO2 := Lib.hid (hO.out.grows (hg1.trans hg2))
      have hD2 := Lib.hid (hD.out.grows (hg1.trans hg2))
      have hG2 := Lib.hid (hG.out.trans (hg1.trans hg2))
      clear hO hD hG hg1 hg2 cB2 y0 y1 y2 y3 y4 y5
      generalize wr.heap.size = gZ at *
      replace hZ := Lib.hid hZ
      have hsz2 := Lib.hid hG2.out.size
      have hlq : Hid (((xs.take q).map AlrX.cut12).length ≤ 12) := Lib.hid (by rw [List.length_map, List.length_take]; omega)
      generalize (xs.take q).map AlrX.cut12 = acc at *
      go_wp2_with (first
        | (at_builtin; refine wpList_grown (x := (⟨⟨src, fs.take (min xm 12), ⟨lv, lc⟩, f, t⟩, xA, min xm 12, xk⟩ : AlrX)) T_al rfl (.tmp 30) (.tmp 33) rfl (hO2.out.alloc _) rfl ⟨w2.heap.size, 0, none⟩ rfl rfl (news_of (by exact heap_alloc_new w2 _)) (oneA _) (by have := hsz2.out; simp; omega) (by have := hlq.out; unfold maxLen; omega) (by have := hlq.out; omega) (fun v4 w4 hO4 hby4 hat4 => ?_); (have hD4 := Lib.hid ((hD2.out.alloc _).keptT hby4 (fun m hm => by obtain ⟨_, cs, hB⟩ := (hO2.out.alloc (.cells #[.string ⟨src.toArray⟩, .slice xA (min xm 12) xk, .int .i64 lv, .int .u32 (lc : Int), .int .i64 f, .int .i64 t] 50)).blk_ m hm; exact ⟨_, cs, by decide, hB⟩))); (have hG4 := Lib.hid ((hG2.out.alloc _).by_row hby4 (fun g hg => (hO2.out.blk_ g hg).1))); (have hZ4 : Blk w4 gZ _ _ := (hby4.block gZ (by have := hZ.out.lt; simp; omega) (fun e => own_ne (hO2.out.alloc (.cells #[.string ⟨src.toArray⟩, .slice xA (min xm 12) xk, .int .i64 lv, .int .u32 (lc : Int), .int .i64 f, .int .i64 t] 50)) (hZ.out.alloc (.cells #[.string ⟨src.toArray⟩, .slice xA (min xm 12) xk, .int .i64 lv, .int .u32 (lc : Int), .int .i64 f, .int .i64 t] 50)) (by decide) e.symm)).trans (hZ.out.alloc _)); (have z0 := hZ4.cell 0); (have z1 := hZ4.cell 1); (have z2 := hZ4.cell 2); (have z3 := hZ4.cell 3); (have z4 := hZ4.cell 4); (have z5 := hZ4.cell 5); (have zl := hZ4.lt); (have hsz4 := Lib.hid hG4.out.size); (replace hO4 := Lib.hid hO4); clear hby4 hat4)
        | (at_builtin; refine wpList_grown (x := (⟨⟨src, fs.take (min xm 12), ⟨lv, lc⟩, f, t⟩, xA, min xm 12, xk⟩ : AlrX)) T_ar rfl (.tmp 35) (.tmp 37) rfl (hD4.out.alloc _) rfl ⟨w4.heap.size, 0, none⟩ rfl rfl (news_of (by exact heap_alloc_new w4 _)) (oneA _) (by have := hsz4.out; simp; omega) (by have := hlq.out; unfold maxLen; omega) (by have := hlq.out; omega) (fun v5 w5 hD5 hby5 hat5 => ?_); (have hO5 := Lib.hid ((hO4.out.alloc _).keptT hby5 (fun m hm => by obtain ⟨_, cs, hB⟩ := (hD4.out.alloc (.cells #[.string ⟨src.toArray⟩, .slice xA (min xm 12) xk, .int .i64 lv, .int .u32 (lc : Int), .int .i64 f, .int .i64 t] 62)).blk_ m hm; exact ⟨_, cs, by decide, hB⟩))); (have hG5 := Lib.hid ((hG4.out.alloc _).by_row hby5 (fun g hg => (hD4.out.blk_ g hg).1))); (replace hD5 := Lib.hid hD5); clear hby5 hat5))
      go_roundw
      case rel => exact ⟨q + 1, by omega, by omega, by go_num, Lib.hid (by rw [htk.out]; exact hO5.out), Lib.hid (by rw [htk.out]; exact hD5.out), hG5⟩
      case measure => simp [intOf]; omega
    · have hfin : Hid ((xs.take q).map AlrX.cut12 = (xs.take 12).map AlrX.cut12) := Lib.hid (by
        rcases Nat.lt_or_ge q m with h | h
        · rw [show q = 12 by omega]
        · rw [List.take_of_length_le (by rw [hml.out]; exact h), List.take_of_length_le (by rw [hml.out]; omega)])
      rw [hfin.out] at hO hD
      by_cases hq2 : q < m
      · have h1 : (q : Int) < (m : Int) := by omega
        have h2 : ¬ (q : Int) < 12 := by omega
        go_wp2
        go_ret2
        exact ⟨u4, u5, rfl, by have := hO.out; rw [List.map_take] at this; exact this, by have := hD.out; rw [List.map_take] at this; exact this, hG.out⟩
      · have h1 : ¬ (q : Int) < (m : Int) := by omega
        go_wp2
        go_ret2
        exact ⟨u4, u5, rfl, by have := hO.out; rw [List.map_take] at this; exact this, by have := hD.out; rw [List.map_take] at this; exact this, hG.out⟩
end Go.Proofs.YtfoffneipdkdjaaGreatDoor
namespace Go.Proofs.YtfoffneipdkdjaaGreatDoor
open Go.RowKit Go.Maps

def addId (ids : List Nat) (id : Nat) : List Nat := if id ∈ ids then ids else putAt ids (posU ids id) id
theorem posU_bound (l : List Nat) (t : Nat) : ∀ (k x : Nat), k < posU l t → l[k]? = some x → x < t := by
  induction l with
  | nil => intro k x h; simp [posU] at h
  | cons a r ih =>
    intro k x hk hx
    unfold posU at hk ih
    by_cases ha : a < t
    · rw [List.takeWhile_cons_of_pos (by simpa using ha), List.length_cons] at hk
      cases k with
      | zero => simp at hx; subst hx; exact ha
      | succ k => exact ih k x (by omega) (by simpa using hx)
    · rw [List.takeWhile_cons_of_neg (by simpa using ha)] at hk
      simp at hk
theorem posU_at (l : List Nat) (t : Nat) : ∀ x : Nat, l[posU l t]? = some x → t ≤ x := by
  induction l with
  | nil => intro x h; simp at h
  | cons a r ih =>
    intro x hx
    unfold posU at hx ih
    by_cases ha : a < t
    · rw [List.takeWhile_cons_of_pos (by simpa using ha), List.length_cons, List.getElem?_cons_succ] at hx
      exact ih x hx
    · rw [List.takeWhile_cons_of_neg (by simpa using ha)] at hx
      simp at hx; omega
theorem SortU.put {l : List Nat} {t : Nat} (h : SortU l) (ht : ¬ t ∈ l) : SortU (putAt l (posU l t) t) := by
  have hp := posU_le l t
  unfold SortU
  rw [List.pairwise_iff_getElem]
  intro i j hi hj hij
  have hx := putAt_get hp (List.getElem?_eq_getElem hi)
  have hy := putAt_get hp (List.getElem?_eq_getElem hj)
  generalize (putAt l (posU l t) t)[i] = x at *
  generalize (putAt l (posU l t) t)[j] = y at *
  have hhi : ∀ (q y : Nat), posU l t ≤ q → l[q]? = some y → t < y := fun q y hq hy => by
    have h0 : t ≤ y := by
      rcases Nat.eq_or_lt_of_le hq with h1 | h1
      · rw [← h1] at hy; exact posU_at l t y hy
      · have hl : posU l t < l.length := by have := (List.getElem?_eq_some_iff.1 hy).1; omega
        have h2 := posU_at l t _ (List.getElem?_eq_getElem hl)
        have h3 := h.lt h1 (List.getElem?_eq_getElem hl) hy
        omega
    have h1 : t ≠ y := fun e => ht (by rw [e]; exact List.mem_of_getElem? hy)
    omega
  rcases hx with ⟨h1, h2⟩ | ⟨h1, h2⟩ | ⟨h1, h2⟩
  · rcases hy with ⟨h3, h4⟩ | ⟨h3, h4⟩ | ⟨h3, h4⟩
    · exact h.lt hij h2 h4
    · rw [h4]; exact posU_bound l t i x h1 h2
    · have := posU_bound l t i x h1 h2
      have := hhi (j - 1) y (by omega) h4
      omega
  · rcases hy with ⟨h3, h4⟩ | ⟨h3, h4⟩ | ⟨h3, h4⟩
    · omega
    · omega
    · rw [h2]; exact hhi (j - 1) y (by omega) h4
  · rcases hy with ⟨h3, h4⟩ | ⟨h3, h4⟩ | ⟨h3, h4⟩
    · omega
    · omega
    · exact h.lt (show i - 1 < j - 1 by omega) h2 h4
theorem SortU.add {l : List Nat} {t : Nat} (h : SortU l) : SortU (addId l t) := by
  unfold addId
  split
  · exact h
  · rename_i ht; exact h.put ht
theorem addId_len (l : List Nat) (t : Nat) : (addId l t).length ≤ l.length + 1 := by
  unfold addId
  split
  · omega
  · rw [putAt_len (posU_le l t)]; omega

/-! ### where: of routes -/
theorem decDigits_inj {a b : Nat} (h : Lib.decDigits a = Lib.decDigits b) : a = b := by
  have h1 := decFrom_dec a
  rw [h, decFrom_dec b] at h1
  exact (Option.some.inj h1).symm
theorem whereL_take (r : Nat) (fs : List Fld) : (whereL r fs).takeWhile (fun b => decide (b.toNat ≠ 0)) = Lib.decDigits r := by
  unfold whereL
  have h1 : ∀ b ∈ Lib.decDigits r, (decide (b.toNat ≠ 0)) = true := fun b hb => by
    have := decDigits_dig r b hb
    simp; omega
  rw [List.takeWhile_append_of_pos h1]
  cases fs with
  | nil => simp
  | cons f fs =>
    rw [List.flatMap_cons]
    unfold whereF
    rw [List.cons_append, List.takeWhile_cons_of_neg (by simp)]
    simp
theorem whereL_route {r r' : Nat} {fs fs' : List Fld} (h : whereL r fs = whereL r' fs') : r = r' := by
  have h1 := whereL_take r fs
  rw [h, whereL_take r' fs'] at h1
  exact (decDigits_inj h1).symm

/-! ### the state -/
def lookP : List (List UInt8 × Nat) → List UInt8 → Option Nat
  | [], _ => none
  | x :: r, s => match lookP r s with
    | some d => some d
    | none => if x.1 = s then some x.2 else none
theorem lookP_cons (x : List UInt8 × Nat) (r : List (List UInt8 × Nat)) (s : List UInt8) : lookP (x :: r) s = match lookP r s with
    | some d => some d
    | none => if x.1 = s then some x.2 else none := rfl
def placeL (l : List (List UInt8 × Nat)) : List (List UInt8 × Lit) := l.map fun x => (x.1, .int .i64 (x.2 : Int))
theorem lookL_place (s : List UInt8) : ∀ l : List (List UInt8 × Nat), lookL (placeL l) s = (lookP l s).map fun k => .int .i64 (k : Int)
  | [] => rfl
  | x :: r => by
    show lookL ((x.1, .int .i64 (x.2 : Int)) :: placeL r) s = _
    rw [lookL_cons, lookL_place s r, lookP_cons]
    cases lookP r s with
    | some d => rfl
    | none => by_cases h : x.1 = s <;> simp [h]
theorem lookP_mem {s : List UInt8} {k : Nat} : ∀ {l : List (List UInt8 × Nat)}, lookP l s = some k → (s, k) ∈ l
  | [], h => by cases h
  | x :: r, h => by
    unfold lookP at h
    cases hr : lookP r s with
    | some d => rw [hr] at h; injection h with h; subst h; exact List.mem_cons_of_mem _ (lookP_mem hr)
    | none =>
      rw [hr] at h
      simp only at h
      split at h
      · rename_i he; injection h with h; subst h; rw [← he]; exact List.mem_cons_self
      · cases h
theorem placeL_snoc (l : List (List UInt8 × Nat)) (x : List UInt8 × Nat) : placeL (l ++ [x]) = placeL l ++ [(x.1, .int .i64 (x.2 : Int))] := by simp [placeL]
structure GSt where
  rooms : List (List Grp)
  place : List (List UInt8 × Nat)
def keyA (rec : List UInt8) (r : Nat) (by_ : List Fld) : Nat := shortTo (sha (keyNums rec r by_)) 8
def bumpG (rooms : List (List Grp)) (r k id : Nat) : List (List Grp) := match rooms[r]? with
  | some gs => match gs[k]? with
    | some g => rooms.set r (gs.set k { g with ids := addId g.ids id })
    | none => rooms
  | none => rooms
/-- An alert's visible fields (fs), its id: put by one route (r, that tells by these names). -/
def stepG (rec : List UInt8) (id : Nat) (fs : List Fld) (names : Nat → List (List UInt8)) (st : GSt) (r : Nat) : GSt :=
  match lookP st.place (whereL r (pickF fs (names r))) with
  | some k => { st with rooms := bumpG st.rooms r k id }
  | none => match st.rooms[r]? with
    | some gs => { rooms := bumpG (st.rooms.set r (gs ++ [⟨r, pickF fs (names r), keyA rec r (pickF fs (names r)), []⟩])) r gs.length id, place := st.place ++ [(whereL r (pickF fs (names r)), gs.length)] }
    | none => st
structure GInv (n j : Nat) (st : GSt) : Prop where
  len : st.rooms.length = n
  pl : ∀ s k, (s, k) ∈ st.place → ∀ (r : Nat) (fs : List Fld) (gs : List Grp), whereL r fs = s → st.rooms[r]? = some gs → k < gs.length
  srt : ∀ (r : Nat) (gs : List Grp) (k : Nat) (g : Grp), st.rooms[r]? = some gs → gs[k]? = some g → SortU g.ids
  mr : ∀ (r : Nat) (gs : List Grp), st.rooms[r]? = some gs → gs.length ≤ j
  mi : ∀ (r : Nat) (gs : List Grp) (k : Nat) (g : Grp), st.rooms[r]? = some gs → gs[k]? = some g → g.ids.length ≤ j
  mp : st.place.length ≤ j
theorem GInv.start (n : Nat) : GInv n 0 ⟨List.replicate n [], []⟩ where
  len := by simp
  pl := fun s k h => by cases h
  srt := fun r gs k g h1 h2 => by
    have := List.mem_of_getElem? h1
    simp at this
    rw [this.2] at h2; simp at h2
  mr := fun r gs h1 => by
    have := List.mem_of_getElem? h1
    simp at this
    rw [this.2]; simp
  mi := fun r gs k g h1 h2 => by
    have := List.mem_of_getElem? h1
    simp at this
    rw [this.2] at h2; simp at h2
  mp := by simp
theorem GInv.mono {n j j' : Nat} {st : GSt} (h : GInv n j st) (hj : j ≤ j') : GInv n j' st :=
  ⟨h.len, h.pl, h.srt, fun r gs h1 => Nat.le_trans (h.mr r gs h1) hj, fun r gs k g h1 h2 => Nat.le_trans (h.mi r gs k g h1 h2) hj, Nat.le_trans h.mp hj⟩
theorem GInv.bump {n j : Nat} {rooms : List (List Grp)} {place : List (List UInt8 × Nat)} (h : GInv n j ⟨rooms, place⟩) {r k id : Nat} {gs : List Grp} {g : Grp} (hgs : rooms[r]? = some gs) (hg : gs[k]? = some g) :
    GInv n (j + 1) ⟨rooms.set r (gs.set k { g with ids := addId g.ids id }), place⟩ := by
  have hr : r < rooms.length := (List.getElem?_eq_some_iff.1 hgs).1
  have hk : k < gs.length := (List.getElem?_eq_some_iff.1 hg).1
  have room : ∀ (s : Nat) (hs : List Grp), (rooms.set r (gs.set k { g with ids := addId g.ids id }))[s]? = some hs → ∃ hs', rooms[s]? = some hs' ∧ hs.length = hs'.length ∧ ∀ (i : Nat) (y : Grp), hs[i]? = some y → ∃ y', hs'[i]? = some y' ∧ (y.ids = y'.ids ∨ y.ids = addId y'.ids id) := fun s hs h1 => by
    by_cases hrs : r = s
    · subst hrs
      rw [List.getElem?_set_self hr] at h1
      injection h1 with h1; subst h1
      refine ⟨gs, hgs, by simp, fun i y hy => ?_⟩
      by_cases hki : k = i
      · subst hki
        rw [List.getElem?_set_self hk] at hy
        injection hy with hy; subst hy
        exact ⟨g, hg, .inr rfl⟩
      · rw [List.getElem?_set_ne hki] at hy
        exact ⟨y, hy, .inl rfl⟩
    · rw [List.getElem?_set_ne hrs] at h1
      exact ⟨hs, h1, rfl, fun i y hy => ⟨y, hy, .inl rfl⟩⟩
  refine ⟨by simpa using h.len, fun s q hm r' fs gs' hw hr' => ?_, fun s hs i y h1 h2 => ?_, fun s hs h1 => ?_, fun s hs i y h1 h2 => ?_, Nat.le_trans h.mp (by omega)⟩
  · obtain ⟨hs', o1, o2, _⟩ := room r' gs' hr'
    rw [o2]; exact h.pl s q hm r' fs hs' hw o1
  · obtain ⟨hs', o1, o2, o3⟩ := room s hs h1
    obtain ⟨y', o4, o5⟩ := o3 i y h2
    have := h.srt s hs' i y' o1 o4
    rcases o5 with o5 | o5
    · rw [o5]; exact this
    · rw [o5]; exact this.add
  · obtain ⟨hs', o1, o2, _⟩ := room s hs h1
    have := h.mr s hs' o1; omega
  · obtain ⟨hs', o1, o2, o3⟩ := room s hs h1
    obtain ⟨y', o4, o5⟩ := o3 i y h2
    have := h.mi s hs' i y' o1 o4
    rcases o5 with o5 | o5
    · rw [o5]; omega
    · rw [o5]; have := addId_len y'.ids id; omega
theorem GInv.push {n j : Nat} {rooms : List (List Grp)} {place : List (List UInt8 × Nat)} (h : GInv n j ⟨rooms, place⟩) {r : Nat} {fs : List Fld} {key : Nat} {gs : List Grp} (hgs : rooms[r]? = some gs) :
    GInv n (j + 1) ⟨rooms.set r (gs ++ [⟨r, fs, key, []⟩]), place ++ [(whereL r fs, gs.length)]⟩ := by
  have hr : r < rooms.length := (List.getElem?_eq_some_iff.1 hgs).1
  have room : ∀ (s : Nat) (hs : List Grp), (rooms.set r (gs ++ [⟨r, fs, key, []⟩]))[s]? = some hs → (s = r ∧ hs = gs ++ [⟨r, fs, key, []⟩]) ∨ (s ≠ r ∧ rooms[s]? = some hs) := fun s hs h1 => by
    by_cases hrs : r = s
    · subst hrs
      rw [List.getElem?_set_self hr] at h1
      injection h1 with h1
      exact .inl ⟨rfl, h1.symm⟩
    · rw [List.getElem?_set_ne hrs] at h1
      exact .inr ⟨Ne.symm hrs, h1⟩
  have elt : ∀ (i : Nat) (y : Grp), (gs ++ [⟨r, fs, key, []⟩])[i]? = some y → gs[i]? = some y ∨ y.ids = [] := fun i y hy => by
    rw [List.getElem?_append] at hy
    split at hy
    · exact .inl hy
    · have := List.mem_of_getElem? hy
      simp at this; subst this; exact .inr rfl
  refine ⟨by simpa using h.len, fun s q hm r' fs' gs' hw hr' => ?_, fun s hs i y h1 h2 => ?_, fun s hs h1 => ?_, fun s hs i y h1 h2 => ?_, by have := h.mp; simp at this ⊢; omega⟩
  · rw [List.mem_append] at hm
    rcases hm with hm | hm
    · rcases room r' gs' hr' with ⟨rfl, rfl⟩ | ⟨_, h2⟩
      · have := h.pl s q hm r' fs' gs hw hgs; simp; omega
      · exact h.pl s q hm r' fs' gs' hw h2
    · simp only [List.mem_singleton, Prod.mk.injEq] at hm
      obtain ⟨rfl, rfl⟩ := hm
      have := whereL_route hw
      subst this
      rcases room r' gs' hr' with ⟨_, rfl⟩ | ⟨h2, _⟩
      · simp
      · exact absurd rfl h2
  · rcases room s hs h1 with ⟨rfl, rfl⟩ | ⟨_, h3⟩
    · rcases elt i y h2 with h4 | h4
      · exact h.srt s gs i y hgs h4
      · rw [h4]; exact List.Pairwise.nil
    · exact h.srt s hs i y h3 h2
  · rcases room s hs h1 with ⟨rfl, rfl⟩ | ⟨_, h3⟩
    · have := h.mr s gs hgs; simp; omega
    · have := h.mr s hs h3; omega
  · rcases room s hs h1 with ⟨rfl, rfl⟩ | ⟨_, h3⟩
    · rcases elt i y h2 with h4 | h4
      · have := h.mi s gs i y hgs h4; omega
      · rw [h4]; simp
    · have := h.mi s hs i y h3 h2; omega
theorem bumpG_eq {rooms : List (List Grp)} {r k id : Nat} {gs : List Grp} {g : Grp} (hgs : rooms[r]? = some gs) (hg : gs[k]? = some g) : bumpG rooms r k id = rooms.set r (gs.set k { g with ids := addId g.ids id }) := by
  unfold bumpG; rw [hgs]; simp only; rw [hg]
theorem GInv.step {n j : Nat} {st : GSt} (h : GInv n j st) (rec : List UInt8) (id : Nat) (fs : List Fld) (names : Nat → List (List UInt8)) (r : Nat) : GInv n (j + 2) (stepG rec id fs names st r) := by
  unfold stepG
  cases hl : lookP st.place (whereL r (pickF fs (names r))) with
  | some k =>
    simp only
    cases hr : st.rooms[r]? with
    | none => unfold bumpG; rw [hr]; exact h.mono (by omega)
    | some gs =>
      have hk := h.pl _ _ (lookP_mem hl) r _ gs rfl hr
      rw [bumpG_eq hr (List.getElem?_eq_getElem hk)]
      exact (GInv.bump (place := st.place) h hr (List.getElem?_eq_getElem hk)).mono (by omega)
  | none =>
    simp only
    cases hr : st.rooms[r]? with
    | none => exact h.mono (by omega)
    | some gs =>
      simp only
      have hrl : r < st.rooms.length := (List.getElem?_eq_some_iff.1 hr).1
      have h1 := GInv.push (place := st.place) h (fs := pickF fs (names r)) (key := keyA rec r (pickF fs (names r))) hr
      have h2 : (st.rooms.set r (gs ++ [⟨r, pickF fs (names r), keyA rec r (pickF fs (names r)), []⟩]))[r]? = some (gs ++ [⟨r, pickF fs (names r), keyA rec r (pickF fs (names r)), []⟩]) := List.getElem?_set_self hrl
      have h3 : (gs ++ [(⟨r, pickF fs (names r), keyA rec r (pickF fs (names r)), []⟩ : Grp)])[gs.length]? = some ⟨r, pickF fs (names r), keyA rec r (pickF fs (names r)), []⟩ := by simp
      rw [bumpG_eq h2 h3]
      exact GInv.bump h1 h2 h3
end Go.Proofs.YtfoffneipdkdjaaGreatDoor
namespace Go.Proofs.YtfoffneipdkdjaaGreatDoor
open Go.RowKit

set_option maxRecDepth 100000 in
set_option maxHeartbeats 1600000 in
theorem idxR_any (g : FuncId) (lb : Array Value) (eg : Enters Tryz.prog g) (p : RteX → Bool) (A : Option Addr) (m c : Nat) (l : List RteX) (w : World) (h : Arr w 6 encR A m l) (hm : m ≤ 9223372036854775807) (hp : PredM Tryz.prog g lb valR p l w) :
    Calls Tryz.prog 114 #[.slice A m c, .func (.func g) #[] lb] w fun e w' => e = .returned (.int .i64 (placeOf p l)) ∧ Grows w w' := by
  have hlen := h.1
  unfold Enters at eg
  obtain ⟨R, hR⟩ : ∃ R, R = placeOf p l := ⟨_, rfl⟩
  rw [← hR]
  replace hR := Lib.hid hR
  replace hp := Lib.hid hp
  replace h := Lib.hid h
  go_enter Tryz.func114, Tryz.ntmps114
  go_wp2
  go_loopw [5, 8] (fun _ i wr => ∃ k : Nat, k ≤ m ∧ i = .int .i64 k ∧ Hid (∀ j y, j < k → l[j]? = some y → p y = false) ∧ Hid (Grows w wr)) (fun _ i _ => m - (intOf i).toNat)
  case atStart => exact ⟨0, by omega, rfl, fun _ _ h => absurd h (by omega), Grows.refl _⟩
  case round =>
    obtain ⟨k, hk, rfl, hall, hg⟩ := hrel
    by_cases hlt : k < m
    · obtain ⟨b, off, x, rfl, _, hx, hcell⟩ := (h.out.keep hg.out).at_ hlt
      have c0 : wr.cell? ⟨b, off + k * 6, none⟩ = some (.string ⟨x.r.r.toArray⟩) := hcell 0 _ rfl
      have c1 : wr.cell? ⟨b, off + k * 6 + 1, none⟩ = some (.slice x.bA x.bm x.bk) := hcell 1 _ rfl
      have c2 : wr.cell? ⟨b, off + k * 6 + 2, none⟩ = some (.int .i64 x.r.wait) := hcell 2 _ rfl
      have c3 : wr.cell? ⟨b, off + k * 6 + 3, none⟩ = some (.int .i64 x.r.every) := hcell 3 _ rfl
      have c4 : wr.cell? ⟨b, off + k * 6 + 4, none⟩ = some (.int .i64 x.r.again) := hcell 4 _ rfl
      have c5 : wr.cell? ⟨b, off + k * 6 + 5, none⟩ = some (.slice x.wA x.wm x.wk) := hcell 5 _ rfl
      have hki : (k : Int) < (m : Int) := by omega
      have cI := hp.out x (List.mem_of_getElem? hx) wr hg.out
      unfold valR at cI
      cases hq : p x with
      | false =>
        rw [hq] at cI
        replace cI := Lib.hid cI
        have hnext := Lib.hid (show ∀ j y, j < k + 1 → l[j]? = some y → p y = false from fun j y hj hy => by
          by_cases hjk : j = k
          · subst hjk; rw [hx] at hy; rw [← Option.some.inj hy]; exact hq
          · exact hall.out j y (by omega) hy)
        clear hcell hq hx hall hR
        go_wp2_with fail
        refine (cI.out).mono ?_
        rintro e w1 ⟨rfl, hb⟩
        have hg1 := Lib.hid (hg.out.trans hb)
        go_wp2
        go_roundw
        case rel => exact ⟨k + 1, by omega, by go_num, hnext, hg1⟩
        case measure => simp [intOf]; omega
      | true =>
        rw [hq] at cI
        have hfin : Hid (R = (k : Int)) := Lib.hid (by rw [hR.out]; exact placeOf_hit hx hq hall.out)
        replace cI := Lib.hid cI
        clear hcell hq hx hall hR
        go_wp2_with fail
        refine (cI.out).mono ?_
        rintro e w1 ⟨rfl, hb⟩
        have hg1 := Lib.hid (hg.out.trans hb)
        go_wp2
        go_ret
        exact ⟨by rw [hfin.out]; rfl, hg1.out⟩
    · obtain rfl : k = m := by omega
      have hfin : Hid (R = -1) := Lib.hid (by rw [hR.out]; exact placeOf_miss fun j y hy => hall.out j y (by have := (List.getElem?_eq_some_iff.1 hy).1; omega) hy)
      clear hall hR
      go_wp2
      go_ret
      exact ⟨by rw [hfin.out]; rfl, hg.out⟩
set_option maxHeartbeats 400000 in
theorem conR_any (g : FuncId) (lb : Array Value) (eg : Enters Tryz.prog g) (p : RteX → Bool) (A : Option Addr) (m c : Nat) (l : List RteX) (w : World) (h : Arr w 6 encR A m l) (hm : m ≤ 9223372036854775807) (hp : PredM Tryz.prog g lb valR p l w) :
    Calls Tryz.prog 78 #[.slice A m c, .func (.func g) #[] lb] w fun e w' => e = .returned (.bool (l.any p)) ∧ Grows w w' := by
  have cI := idxR_any (c := c) g lb eg p A m l w h hm hp
  replace cI := Lib.hid cI
  have hfin := Lib.hid (placeOf_nonneg p l)
  clear h hp
  go_enter Tryz.func78, Tryz.ntmps78
  go_wp2_with fail
  refine cI.out.mono ?_
  rintro e w1 ⟨rfl, hb⟩
  go_wp2
  go_ret
  exact ⟨ret_bool hfin.out, hb⟩
end Go.Proofs.YtfoffneipdkdjaaGreatDoor
namespace Go.Proofs.YtfoffneipdkdjaaGreatDoor
open Go.RowKit

set_option maxRecDepth 100000 in
set_option maxHeartbeats 1600000 in
theorem idxH_any (g : FuncId) (lb : Array Value) (eg : Enters Tryz.prog g) (p : InhX → Bool) (A : Option Addr) (m c : Nat) (l : List InhX) (w : World) (h : Arr w 5 encH A m l) (hm : m ≤ 9223372036854775807) (hp : PredM Tryz.prog g lb valH p l w) :
    Calls Tryz.prog 115 #[.slice A m c, .func (.func g) #[] lb] w fun e w' => e = .returned (.int .i64 (placeOf p l)) ∧ Grows w w' := by
  have hlen := h.1
  unfold Enters at eg
  obtain ⟨R, hR⟩ : ∃ R, R = placeOf p l := ⟨_, rfl⟩
  rw [← hR]
  replace hR := Lib.hid hR
  replace hp := Lib.hid hp
  replace h := Lib.hid h
  go_enter Tryz.func115, Tryz.ntmps115
  go_wp2
  go_loopw [5, 8] (fun _ i wr => ∃ k : Nat, k ≤ m ∧ i = .int .i64 k ∧ Hid (∀ j y, j < k → l[j]? = some y → p y = false) ∧ Hid (Grows w wr)) (fun _ i _ => m - (intOf i).toNat)
  case atStart => exact ⟨0, by omega, rfl, fun _ _ h => absurd h (by omega), Grows.refl _⟩
  case round =>
    obtain ⟨k, hk, rfl, hall, hg⟩ := hrel
    by_cases hlt : k < m
    · obtain ⟨b, off, x, rfl, _, hx, hcell⟩ := (h.out.keep hg.out).at_ hlt
      have c0 : wr.cell? ⟨b, off + k * 5, none⟩ = some (.slice x.bA x.bm x.bk) := hcell 0 _ rfl
      have c1 : wr.cell? ⟨b, off + k * 5 + 1, none⟩ = some (.int .i64 x.i.l.lv) := hcell 1 _ rfl
      have c2 : wr.cell? ⟨b, off + k * 5 + 2, none⟩ = some (.int .u32 (x.i.l.c : Int)) := hcell 2 _ rfl
      have c3 : wr.cell? ⟨b, off + k * 5 + 3, none⟩ = some (.slice x.fA x.fm x.fk) := hcell 3 _ rfl
      have c4 : wr.cell? ⟨b, off + k * 5 + 4, none⟩ = some (.slice x.wA x.wm x.wk) := hcell 4 _ rfl
      have hki : (k : Int) < (m : Int) := by omega
      have cI := hp.out x (List.mem_of_getElem? hx) wr hg.out
      unfold valH at cI
      cases hq : p x with
      | false =>
        rw [hq] at cI
        replace cI := Lib.hid cI
        have hnext := Lib.hid (show ∀ j y, j < k + 1 → l[j]? = some y → p y = false from fun j y hj hy => by
          by_cases hjk : j = k
          · subst hjk; rw [hx] at hy; rw [← Option.some.inj hy]; exact hq
          · exact hall.out j y (by omega) hy)
        clear hcell hq hx hall hR
        go_wp2_with fail
        refine (cI.out).mono ?_
        rintro e w1 ⟨rfl, hb⟩
        have hg1 := Lib.hid (hg.out.trans hb)
        go_wp2
        go_roundw
        case rel => exact ⟨k + 1, by omega, by go_num, hnext, hg1⟩
        case measure => simp [intOf]; omega
      | true =>
        rw [hq] at cI
        have hfin : Hid (R = (k : Int)) := Lib.hid (by rw [hR.out]; exact placeOf_hit hx hq hall.out)
        replace cI := Lib.hid cI
        clear hcell hq hx hall hR
        go_wp2_with fail
        refine (cI.out).mono ?_
        rintro e w1 ⟨rfl, hb⟩
        have hg1 := Lib.hid (hg.out.trans hb)
        go_wp2
        go_ret
        exact ⟨by rw [hfin.out]; rfl, hg1.out⟩
    · obtain rfl : k = m := by omega
      have hfin : Hid (R = -1) := Lib.hid (by rw [hR.out]; exact placeOf_miss fun j y hy => hall.out j y (by have := (List.getElem?_eq_some_iff.1 hy).1; omega) hy)
      clear hall hR
      go_wp2
      go_ret
      exact ⟨by rw [hfin.out]; rfl, hg.out⟩
set_option maxHeartbeats 400000 in
theorem conH_any (g : FuncId) (lb : Array Value) (eg : Enters Tryz.prog g) (p : InhX → Bool) (A : Option Addr) (m c : Nat) (l : List InhX) (w : World) (h : Arr w 5 encH A m l) (hm : m ≤ 9223372036854775807) (hp : PredM Tryz.prog g lb valH p l w) :
    Calls Tryz.prog 79 #[.slice A m c, .func (.func g) #[] lb] w fun e w' => e = .returned (.bool (l.any p)) ∧ Grows w w' := by
  have cI := idxH_any (c := c) g lb eg p A m l w h hm hp
  replace cI := Lib.hid cI
  have hfin := Lib.hid (placeOf_nonneg p l)
  clear h hp
  go_enter Tryz.func79, Tryz.ntmps79
  go_wp2_with fail
  refine cI.out.mono ?_
  rintro e w1 ⟨rfl, hb⟩
  go_wp2
  go_ret
  exact ⟨ret_bool hfin.out, hb⟩
end Go.Proofs.YtfoffneipdkdjaaGreatDoor
namespace Go.Proofs.YtfoffneipdkdjaaGreatDoor
open Go.RowKit Go.PlainAid Go.Maps

/-! ### texts with signs below a blank -/
theorem decode_wide {s : ByteArray} {i : Nat} (h : 128 ≤ (s.get! i).toNat) : 1 ≤ (Utf8.decode s i).2 ∧ ∀ j, j < (Utf8.decode s i).2 → 128 ≤ (s.get! (i + j)).toNat := by
  have h0 : ∀ j, j < 1 → 128 ≤ (s.get! (i + j)).toNat := fun j hj => by obtain rfl : j = 0 := by omega
                                                                        exact h
  unfold Utf8.decode
  have h' : ¬ (s.get! i).toNat < 128 := by omega
  simp only [Nat.add_zero, h', if_false]
  split
  · rename_i hc
    simp only [Bool.and_eq_true, decide_eq_true_eq, beq_iff_eq] at hc
    split
    · refine ⟨by simp, fun j hj => ?_⟩
      simp only at hj
      match j, hj with
      | 0, _ => exact h
      | 1, _ => omega
    · exact ⟨by simp, h0⟩
  · split
    · rename_i hc
      simp only [Bool.and_eq_true, decide_eq_true_eq, beq_iff_eq] at hc
      split
      · refine ⟨by simp, fun j hj => ?_⟩
        simp only at hj
        match j, hj with
        | 0, _ => exact h
        | 1, _ => omega
        | 2, _ => omega
      · exact ⟨by simp, h0⟩
    · split
      · rename_i hc
        simp only [Bool.and_eq_true, decide_eq_true_eq, beq_iff_eq] at hc
        split
        · refine ⟨by simp, fun j hj => ?_⟩
          simp only at hj
          match j, hj with
          | 0, _ => exact h
          | 1, _ => omega
          | 2, _ => omega
          | 3, _ => omega
        · exact ⟨by simp, h0⟩
      · exact ⟨by simp, h0⟩
theorem any_drop_skip {α : Type} {q : α → Bool} {l : List α} : ∀ (d pos : Nat), (∀ j x, j < d → l[pos + j]? = some x → q x = false) → (l.drop pos).any q = (l.drop (pos + d)).any q
  | 0, _, _ => rfl
  | d + 1, pos, h => by
    rw [show pos + (d + 1) = pos + 1 + d by omega, ← any_drop_skip d (pos + 1) (fun j x hj hx => h (j + 1) x (by omega) (by rw [← hx]; congr 1; omega))]
    by_cases hp : pos < l.length
    · rw [List.drop_eq_getElem_cons hp, List.any_cons, h 0 l[pos] (by omega) (by simp [hp]), Bool.false_or]
    · rw [List.drop_of_length_le (by omega), List.drop_of_length_le (by omega)]
theorem get_of_list {s : ByteArray} {i : Nat} {x : UInt8} (h : s.data.toList[i]? = some x) : s.get! i = x := by
  obtain ⟨hi, rfl⟩ := List.getElem?_eq_some_iff.1 h
  rw [Array.getElem_toList]
  show s.data[i]! = _
  exact getElem!_pos s.data i (by simpa using hi)
theorem idxFrom_low {p : Nat → Bool} {q : UInt8 → Bool} (h1 : ∀ b : UInt8, b.toNat < 128 → p b.toNat = q b) (h2 : ∀ r, 128 ≤ r → p r = false) (h3 : ∀ b : UInt8, 128 ≤ b.toNat → q b = false) (s : ByteArray) :
    ∀ (f pos : Nat), s.size ≤ pos + f → decide (0 ≤ Lib.idxFuncFrom p true s f pos) = (s.data.toList.drop pos).any q := by
  intro f
  induction f with
  | zero =>
    intro pos hf
    rw [List.drop_of_length_le (by rw [Array.length_toList]; exact hf)]
    rfl
  | succ f ih =>
    intro pos hf
    unfold Lib.idxFuncFrom
    by_cases hp : pos < s.size
    · rw [if_pos hp]
      have hl : pos < s.data.toList.length := by rw [Array.length_toList]; exact hp
      have hg : s.get! pos = s.data.toList[pos] := get_of_list (List.getElem?_eq_getElem hl)
      by_cases hb : (s.get! pos).toNat < 128
      · rw [List.drop_eq_getElem_cons hl, List.any_cons]
        rw [decode_low rfl hb, h1 _ hb, hg]
        cases hq : q s.data.toList[pos]
        · simp only [Bool.false_eq_true, if_false, Bool.false_or]
          exact ih (pos + 1) (by omega)
        · simp
      · have h128 : 128 ≤ (s.get! pos).toNat := by omega
        obtain ⟨d1, d2⟩ := decode_wide h128
        rw [h2 _ (decode_high rfl h128), any_drop_skip (Utf8.decode s pos).2 pos (fun j x hj hx => h3 x (by rw [← get_of_list hx]; exact d2 j hj))]
        simp only [Bool.false_eq_true, if_false]
        exact ih _ (by omega)
    · rw [if_neg hp, List.drop_of_length_le (by rw [Array.length_toList]; show s.size ≤ pos; omega)]
      rfl
def ctlR (r : Nat) : Bool := decide (r < 32)
def ctlB (s : List UInt8) : Bool := s.any fun b => ctlR b.toNat
theorem ctl_idx (s : List UInt8) : decide (0 ≤ Lib.idxFunc ctlR true ⟨s.toArray⟩) = ctlB s := by
  have := idxFrom_low (p := ctlR) (q := fun b => ctlR b.toNat) (fun _ _ => rfl) (fun r h => by unfold ctlR; simp; omega) (fun b h => by unfold ctlR; simp; omega) ⟨s.toArray⟩ s.length 0 (by show s.toArray.size ≤ _; simp)
  have hs : (⟨s.toArray⟩ : ByteArray).size = s.length := by show s.toArray.size = _; simp
  unfold Lib.idxFunc
  rw [hs, this]
  simp [ctlB]

/-! ### when -/
set_option maxHeartbeats 400000 in
theorem ctlC_any (w : World) : PredAt Tryz.prog 111 #[] Go.Proofs.encR ctlR w := fun W r _ => by
  unfold FnGives
  obtain ⟨R, hR⟩ : ∃ R, R = ctlR r := ⟨_, rfl⟩
  rw [← hR]
  unfold ctlR at hR
  by_cases h : r < 32
  · have h' : (r : Int) < 32 := by omega
    go_enter Tryz.func111, Tryz.ntmps111
    go_wp2
    go_ret
    exact ⟨by first | rfl | (rw [hR]; simp [h]), 0, rfl⟩
  · have h' : ¬ (r : Int) < 32 := by omega
    go_enter Tryz.func111, Tryz.ntmps111
    go_wp2
    go_ret
    exact ⟨by first | rfl | (rw [hR]; simp; omega), 0, rfl⟩
def oddM (fb : Mat → Bool) (x : Mat) : Bool := !fb x || ctlB x.v
set_option maxRecDepth 100000 in
set_option maxHeartbeats 1600000 in
theorem oddM_any {fb : Mat → Bool} {x : Mat} (h : FineOK fb x) (w : World) :
    Calls Tryz.prog 108 #[valM x] w fun e w' => e = .returned (.bool (oddM fb x)) ∧ Grows w w' := by
  have cC := fun W => Any.strings_ContainsFunc Tryz.laysGw17 111 #[] (enters_of Tryz.func111 (by kernel_rfl) rfl) ctlR ⟨x.v.toArray⟩ W (ctlC_any W)
  have hci := ctl_idx x.v
  unfold FineOK at h
  obtain ⟨R, hR⟩ : ∃ R, R = oddM fb x := ⟨_, rfl⟩
  rw [← hR]
  unfold oddM at hR
  change ∀ W, Calls Tryz.prog 110 _ W _ at cC
  generalize decide (0 ≤ Lib.idxFunc ctlR true ⟨x.v.toArray⟩) = D at *
  subst hci
  unfold valM at h ⊢
  generalize fb x = B at *
  generalize ctlB x.v = D at *
  replace cC := Lib.hid cC
  replace h := Lib.hid h
  cases B
  · replace hR : R = true := by rw [hR]; rfl
    subst hR
    clear cC
    go_enter Tryz.func108, Tryz.ntmps108
    go_wp2_with fail
    refine (h.out _).mono ?_
    rintro e w1 ⟨rfl, hb⟩
    go_wp2
    go_ret
    exact ⟨rfl, by
      repeat (first | assumption | exact Grows.refl _ | apply Grows.drew | apply Grows.drewN | refine Grows.alloc ?_ _ | (refine Grows.setCell ?_ (by first | (simp; done) | (simp; omega) | omega) _) | (refine Grows.trans ?_ (by assumption)))
    ⟩
  · replace hR : R = D := by rw [hR]; rfl
    subst hR
    go_enter Tryz.func108, Tryz.ntmps108
    go_wp2_with fail
    refine (h.out _).mono ?_
    rintro e w1 ⟨rfl, hb⟩
    have ba := (Blk.new w 147 #[.string ⟨x.n.toArray⟩, .int .i64 x.op, .string ⟨x.v.toArray⟩]).grows hb
    have d2 : _ = some (Value.string ⟨x.v.toArray⟩) := ba.cell 2
    have sa := ba.lt
    clear ba h
    go_wp2_with fail
    refine (cC.out _).mono ?_
    rintro e w2 ⟨rfl, hb2⟩
    have hg2 : Grows w w2 := (((Grows.refl w).alloc _).trans hb).trans hb2
    go_wp2
    go_ret
    exact ⟨rfl, by
      repeat (first | assumption | exact Grows.refl _ | apply Grows.drew | apply Grows.drewN | refine Grows.alloc ?_ _ | (refine Grows.setCell ?_ (by first | (simp; done) | (simp; omega) | omega) _) | (refine Grows.trans ?_ (by assumption)))
    ⟩
def whenB (fb : Mat → Bool) (l : List Mat) : Bool := decide (l.length ≤ 12) && !(l.any (oddM fb))
set_option maxRecDepth 100000 in
set_option maxHeartbeats 1600000 in
theorem when_any {fb : Mat → Bool} {A : Option Addr} {m c : Nat} {l : List Mat} (w : World) (hA : Arr w 3 encM A m l) (hm : m ≤ 9223372036854775807) (h : ∀ x ∈ l, FineOK fb x) :
    Calls Tryz.prog 74 #[.slice A m c] w fun e w' => e = .returned (.bool (whenB fb l)) ∧ Grows w w' := by
  have cC := conM_any (c := c) 108 #[] (enters_of Tryz.func108 (by kernel_rfl) rfl) (oddM fb) A m l w hA hm (fun x hx W _ => oddM_any (h x hx) W)
  have hml := hA.1
  obtain ⟨R, hR⟩ : ∃ R, R = whenB fb l := ⟨_, rfl⟩
  rw [← hR]
  unfold whenB at hR
  rw [hml] at hR
  generalize l.any (oddM fb) = D at *
  replace cC := Lib.hid cC
  clear hA h hml
  by_cases h12 : m ≤ 12
  · rw [decide_eq_true h12, Bool.true_and] at hR
    have h12' : (m : Int) ≤ 12 := by omega
    subst hR
    go_enter Tryz.func74, Tryz.ntmps74
    go_wp2_with fail
    refine (cC.out).mono ?_
    rintro e w1 ⟨rfl, hb⟩
    go_wp2
    go_ret
    exact ⟨rfl, hb⟩
  · rw [decide_eq_false h12, Bool.false_and] at hR
    have h12' : ¬ (m : Int) ≤ 12 := by omega
    subst hR
    clear cC
    go_enter Tryz.func74, Tryz.ntmps74
    go_wp2
    go_ret
    exact ⟨rfl, Grows.refl _⟩
end Go.Proofs.YtfoffneipdkdjaaGreatDoor
namespace Go.Proofs.YtfoffneipdkdjaaGreatDoor
open Go.RowKit Go.PlainAid Go.Maps

set_option maxRecDepth 100000 in
set_option maxHeartbeats 800000 in
theorem ck1_any {x : NamsX} (w : World) (hx : x.At w) :
    Calls Tryz.prog 68 #[x.val] w fun e w' => e = .returned (.bool (!namedB x.l)) ∧ Grows w w' := by
  have cN := named_any w hx
  generalize namedB x.l = B at *
  unfold NamsX.val at *
  replace cN := Lib.hid cN
  clear hx
  go_enter Tryz.func68, Tryz.ntmps68
  go_wp2_with fail
  refine (cN.out).mono ?_
  rintro e w1 ⟨rfl, hb⟩
  go_wp2
  go_ret
  exact ⟨ret_bool rfl, hb⟩

def timesB (r : Rte) : Bool := (decide (0 ≤ r.wait) && decide (r.wait ≤ 1000)) && ((decide (1 ≤ r.every) && decide (r.every ≤ 1000)) && (decide (r.every ≤ r.again) && decide (r.again ≤ 100000)))
def routeBad (rs : List Nam) (fb : Mat → Bool) (r : Rte) : Bool := (findL rs r.r).isNone || (!byB r.by_ || (!timesB r || !whenB fb r.wh))
set_option maxRecDepth 100000 in
set_option maxHeartbeats 6400000 in
theorem ck2_any {fb : Mat → Bool} {rs : NamsX} {x : RteX} {gp : Nat} (w : World) (hx : x.At w) (hr : rs.At w) (hp : w.cell? ⟨gp, 1, none⟩ = some rs.val) (hfb : ∀ y ∈ x.r.wh, FineOK fb y) :
    Calls Tryz.prog 70 #[valR x, .pointer (some ⟨gp, 0, none⟩)] w fun e w' => e = .returned (.bool (routeBad rs.l fb x.r)) ∧ Grows w w' := by
  have cF := fun W (hW : Grows w W) => find_any (c := rs.k) (n := x.r.r) W (hr.arr.keep hW) hr.le
  have c1 := fun W => between_any x.r.wait 0 1000 W
  have c2 := fun W => between_any x.r.every 1 1000 W
  have c3 := fun W => between_any x.r.again x.r.every 100000 W
  have cB := fun W (hW : Grows w W) => by_any (c := x.bk) W (hx.by_.keep hW) hx.byle hx.bytxt
  have cW := fun W (hW : Grows w W) => when_any (c := x.wk) W (hx.wh.keep hW) hx.whle hfb
  have gpl := World.block_lt_of_cell? w _ hp
  simp only at gpl
  obtain ⟨R, hR⟩ : ∃ R, R = routeBad rs.l fb x.r := ⟨_, rfl⟩
  rw [← hR]
  unfold routeBad timesB at hR
  have hls : (findL rs.l x.r.r).isNone = !(findL rs.l x.r.r).isSome := by cases findL rs.l x.r.r <;> rfl
  rw [hls] at hR
  unfold NamsX.val at hp
  generalize labOf (findL rs.l x.r.r) = FL at *
  generalize (findL rs.l x.r.r).isSome = F at *
  generalize (decide (0 ≤ x.r.wait) && decide (x.r.wait ≤ 1000)) = B1 at *
  generalize (decide (1 ≤ x.r.every) && decide (x.r.every ≤ 1000)) = B2 at *
  generalize (decide (x.r.every ≤ x.r.again) && decide (x.r.again ≤ 100000)) = B3 at *
  generalize byB x.r.by_ = BY at *
  generalize whenB fb x.r.wh = WH at *
  unfold valR
  clear hls hx hr hfb
  replace cF := Lib.hid cF
  replace c1 := Lib.hid c1
  replace c2 := Lib.hid c2
  replace c3 := Lib.hid c3
  replace cB := Lib.hid cB
  replace cW := Lib.hid cW
  replace hR := Lib.hid hR
  go_enter Tryz.func70, Tryz.ntmps70
  go_wp2_with fail
  refine (cF.out _ (by
    repeat (first | assumption | exact Grows.refl _ | apply Grows.drew | apply Grows.drewN | refine Grows.alloc ?_ _ | (refine Grows.setCell ?_ (by first | (simp; done) | (simp; omega) | omega) _) | (refine Grows.trans ?_ (by assumption)))
  )).mono ?_
  rintro e w1 ⟨rfl, hb1⟩
  have bx := Lib.hid (((Blk.new w 59 #[.string ⟨x.r.r.toArray⟩, .slice x.bA x.bm x.bk, .int .i64 x.r.wait, .int .i64 x.r.every, .int .i64 x.r.again, .slice x.wA x.wm x.wk]).grows hb1).alloc (.cells #[.int .i64 FL.lv, .int .u32 (FL.c : Int)] 40))
  have hG : Hid (Grows w (w1.alloc (.cells #[.int .i64 FL.lv, .int .u32 (FL.c : Int)] 40))) := Lib.hid ((((Grows.refl w).alloc _).trans hb1).alloc _)
  have e0 := ((Blk.new w 59 #[.string ⟨x.r.r.toArray⟩, .slice x.bA x.bm x.bk, .int .i64 x.r.wait, .int .i64 x.r.every, .int .i64 x.r.again, .slice x.wA x.wm x.wk]).grows hb1).cell 2
  have ez := hb1.lt
  clear cF hb1 hp
  go_wp2_with fail
  refine (c1.out _).mono ?_
  rintro e w2 ⟨rfl, hb2⟩
  clear e0 ez
  have q0 := 0; have q1 := 0; have q2 := 0; have q3 := 0; have q4 := 0; have q5 := 0; have qz := 0
  replace bx := Lib.hid (bx.out.grows hb2)
  replace hG := Lib.hid (hG.out.trans hb2)
  clear hb2 q0 q1 q2 q3 q4 q5 qz
  have q0 : w2.cell? ⟨w.heap.size, 0, none⟩ = some (.string ⟨x.r.r.toArray⟩) := bx.out.cell 0
  have q1 : w2.cell? ⟨w.heap.size, 1, none⟩ = some (.slice x.bA x.bm x.bk) := bx.out.cell 1
  have q2 : w2.cell? ⟨w.heap.size, 2, none⟩ = some (.int .i64 x.r.wait) := bx.out.cell 2
  have q3 : w2.cell? ⟨w.heap.size, 3, none⟩ = some (.int .i64 x.r.every) := bx.out.cell 3
  have q4 : w2.cell? ⟨w.heap.size, 4, none⟩ = some (.int .i64 x.r.again) := bx.out.cell 4
  have q5 : w2.cell? ⟨w.heap.size, 5, none⟩ = some (.slice x.wA x.wm x.wk) := bx.out.cell 5
  have qz := bx.out.lt
  cases B1
  · have hfin : Hid (R = true) := Lib.hid (by rw [hR.out]; simp)
    clear c1 c2 c3 hR cW
    cases F
    · go_wp2
      go_ret
      exact ⟨ret_bool hfin.out.symm, hG.out⟩
    · go_wp2_with fail
      refine (cB.out _ hG.out).mono ?_
      rintro e w5 ⟨rfl, hb5⟩
      replace bx := Lib.hid (bx.out.grows hb5)
      replace hG := Lib.hid (hG.out.trans hb5)
      clear hb5 q0 q1 q2 q3 q4 q5 qz
      have q0 : w5.cell? ⟨w.heap.size, 0, none⟩ = some (.string ⟨x.r.r.toArray⟩) := bx.out.cell 0
      have q1 : w5.cell? ⟨w.heap.size, 1, none⟩ = some (.slice x.bA x.bm x.bk) := bx.out.cell 1
      have q2 : w5.cell? ⟨w.heap.size, 2, none⟩ = some (.int .i64 x.r.wait) := bx.out.cell 2
      have q3 : w5.cell? ⟨w.heap.size, 3, none⟩ = some (.int .i64 x.r.every) := bx.out.cell 3
      have q4 : w5.cell? ⟨w.heap.size, 4, none⟩ = some (.int .i64 x.r.again) := bx.out.cell 4
      have q5 : w5.cell? ⟨w.heap.size, 5, none⟩ = some (.slice x.wA x.wm x.wk) := bx.out.cell 5
      have qz := bx.out.lt
      cases BY
      · go_wp2
        go_ret
        exact ⟨ret_bool hfin.out.symm, hG.out⟩
      · go_wp2
        go_ret
        exact ⟨ret_bool hfin.out.symm, hG.out⟩
  · go_wp2_with fail
    refine (c2.out _).mono ?_
    rintro e w3 ⟨rfl, hb3⟩
    replace bx := Lib.hid (bx.out.grows hb3)
    replace hG := Lib.hid (hG.out.trans hb3)
    clear hb3 q0 q1 q2 q3 q4 q5 qz
    have q0 : w3.cell? ⟨w.heap.size, 0, none⟩ = some (.string ⟨x.r.r.toArray⟩) := bx.out.cell 0
    have q1 : w3.cell? ⟨w.heap.size, 1, none⟩ = some (.slice x.bA x.bm x.bk) := bx.out.cell 1
    have q2 : w3.cell? ⟨w.heap.size, 2, none⟩ = some (.int .i64 x.r.wait) := bx.out.cell 2
    have q3 : w3.cell? ⟨w.heap.size, 3, none⟩ = some (.int .i64 x.r.every) := bx.out.cell 3
    have q4 : w3.cell? ⟨w.heap.size, 4, none⟩ = some (.int .i64 x.r.again) := bx.out.cell 4
    have q5 : w3.cell? ⟨w.heap.size, 5, none⟩ = some (.slice x.wA x.wm x.wk) := bx.out.cell 5
    have qz := bx.out.lt
    cases B2
    · have hfin : Hid (R = true) := Lib.hid (by rw [hR.out]; simp)
      clear c1 c2 c3 hR cW
      cases F
      · go_wp2
        go_ret
        exact ⟨ret_bool hfin.out.symm, hG.out⟩
      · go_wp2_with fail
        refine (cB.out _ hG.out).mono ?_
        rintro e w5 ⟨rfl, hb5⟩
        replace bx := Lib.hid (bx.out.grows hb5)
        replace hG := Lib.hid (hG.out.trans hb5)
        clear hb5 q0 q1 q2 q3 q4 q5 qz
        have q0 : w5.cell? ⟨w.heap.size, 0, none⟩ = some (.string ⟨x.r.r.toArray⟩) := bx.out.cell 0
        have q1 : w5.cell? ⟨w.heap.size, 1, none⟩ = some (.slice x.bA x.bm x.bk) := bx.out.cell 1
        have q2 : w5.cell? ⟨w.heap.size, 2, none⟩ = some (.int .i64 x.r.wait) := bx.out.cell 2
        have q3 : w5.cell? ⟨w.heap.size, 3, none⟩ = some (.int .i64 x.r.every) := bx.out.cell 3
        have q4 : w5.cell? ⟨w.heap.size, 4, none⟩ = some (.int .i64 x.r.again) := bx.out.cell 4
        have q5 : w5.cell? ⟨w.heap.size, 5, none⟩ = some (.slice x.wA x.wm x.wk) := bx.out.cell 5
        have qz := bx.out.lt
        cases BY
        · go_wp2
          go_ret
          exact ⟨ret_bool hfin.out.symm, hG.out⟩
        · go_wp2
          go_ret
          exact ⟨ret_bool hfin.out.symm, hG.out⟩
    · go_wp2_with fail
      refine (c3.out _).mono ?_
      rintro e w4 ⟨rfl, hb4⟩
      replace bx := Lib.hid (bx.out.grows hb4)
      replace hG := Lib.hid (hG.out.trans hb4)
      clear hb4 q0 q1 q2 q3 q4 q5 qz
      have q0 : w4.cell? ⟨w.heap.size, 0, none⟩ = some (.string ⟨x.r.r.toArray⟩) := bx.out.cell 0
      have q1 : w4.cell? ⟨w.heap.size, 1, none⟩ = some (.slice x.bA x.bm x.bk) := bx.out.cell 1
      have q2 : w4.cell? ⟨w.heap.size, 2, none⟩ = some (.int .i64 x.r.wait) := bx.out.cell 2
      have q3 : w4.cell? ⟨w.heap.size, 3, none⟩ = some (.int .i64 x.r.every) := bx.out.cell 3
      have q4 : w4.cell? ⟨w.heap.size, 4, none⟩ = some (.int .i64 x.r.again) := bx.out.cell 4
      have q5 : w4.cell? ⟨w.heap.size, 5, none⟩ = some (.slice x.wA x.wm x.wk) := bx.out.cell 5
      have qz := bx.out.lt
      clear c1 c2 c3
      cases F
      · have hfin : Hid (R = true) := Lib.hid (by rw [hR.out]; simp)
        clear hR cW
        cases B3
        · go_wp2
          go_ret
          exact ⟨ret_bool hfin.out.symm, hG.out⟩
        · go_wp2
          go_ret
          exact ⟨ret_bool hfin.out.symm, hG.out⟩
      · go_wp2_with fail
        refine (cB.out _ hG.out).mono ?_
        rintro e w5 ⟨rfl, hb5⟩
        replace bx := Lib.hid (bx.out.grows hb5)
        replace hG := Lib.hid (hG.out.trans hb5)
        clear hb5 q0 q1 q2 q3 q4 q5 qz
        have q0 : w5.cell? ⟨w.heap.size, 0, none⟩ = some (.string ⟨x.r.r.toArray⟩) := bx.out.cell 0
        have q1 : w5.cell? ⟨w.heap.size, 1, none⟩ = some (.slice x.bA x.bm x.bk) := bx.out.cell 1
        have q2 : w5.cell? ⟨w.heap.size, 2, none⟩ = some (.int .i64 x.r.wait) := bx.out.cell 2
        have q3 : w5.cell? ⟨w.heap.size, 3, none⟩ = some (.int .i64 x.r.every) := bx.out.cell 3
        have q4 : w5.cell? ⟨w.heap.size, 4, none⟩ = some (.int .i64 x.r.again) := bx.out.cell 4
        have q5 : w5.cell? ⟨w.heap.size, 5, none⟩ = some (.slice x.wA x.wm x.wk) := bx.out.cell 5
        have qz := bx.out.lt
        cases BY
        · have hfin : Hid (R = true) := Lib.hid (by rw [hR.out]; simp)
          clear hR cW
          cases B3
          · go_wp2
            go_ret
            exact ⟨ret_bool hfin.out.symm, hG.out⟩
          · go_wp2
            go_ret
            exact ⟨ret_bool hfin.out.symm, hG.out⟩
        · cases B3
          · have hfin : Hid (R = true) := Lib.hid (by rw [hR.out]; simp)
            clear hR cW
            go_wp2
            go_ret
            exact ⟨ret_bool hfin.out.symm, hG.out⟩
          · have hfin : Hid (R = !WH) := Lib.hid (by rw [hR.out]; simp)
            clear hR
            go_wp2_with fail
            refine (cW.out _ hG.out).mono ?_
            rintro e w6 ⟨rfl, hb6⟩
            go_wp2
            go_ret
            exact ⟨ret_bool hfin.out.symm, hG.out.trans hb6⟩

def inhBad (fb : Mat → Bool) (i : Inh) : Bool := !byB i.by_ || (!labRight i.l.lv || (!whenB fb i.from_ || !whenB fb i.wh))
set_option maxRecDepth 100000 in
set_option maxHeartbeats 3200000 in
theorem ck3_any {fb : Mat → Bool} {x : InhX} (w : World) (hx : x.At w) (hf1 : ∀ y ∈ x.i.from_, FineOK fb y) (hf2 : ∀ y ∈ x.i.wh, FineOK fb y) :
    Calls Tryz.prog 75 #[valH x] w fun e w' => e = .returned (.bool (inhBad fb x.i)) ∧ Grows w w' := by
  have cB := fun W (hW : Grows w W) => by_any (c := x.bk) W (hx.by_.keep hW) hx.byle hx.bytxt
  have cL := fun W => lRight_any x.i.l W
  have cV := fun W (hW : Grows w W) => when_any (c := x.fk) W (hx.fr.keep hW) hx.frle hf1
  have cW := fun W (hW : Grows w W) => when_any (c := x.wk) W (hx.wh.keep hW) hx.whle hf2
  obtain ⟨R, hR⟩ : ∃ R, R = inhBad fb x.i := ⟨_, rfl⟩
  rw [← hR]
  unfold inhBad at hR
  generalize byB x.i.by_ = BY at *
  generalize labRight x.i.l.lv = BL at *
  generalize whenB fb x.i.from_ = BV at *
  generalize whenB fb x.i.wh = BW at *
  unfold valH
  clear hx hf1 hf2
  replace cB := Lib.hid cB
  replace cL := Lib.hid cL
  replace cV := Lib.hid cV
  replace cW := Lib.hid cW
  replace hR := Lib.hid hR
  go_enter Tryz.func75, Tryz.ntmps75
  go_wp2_with fail
  refine (cB.out _ (by
    repeat (first | assumption | exact Grows.refl _ | apply Grows.drew | apply Grows.drewN | refine Grows.alloc ?_ _ | (refine Grows.setCell ?_ (by first | (simp; done) | (simp; omega) | omega) _) | (refine Grows.trans ?_ (by assumption)))
  )).mono ?_
  rintro e w1 ⟨rfl, hb1⟩
  have bx := Lib.hid ((Blk.new w 129 #[.slice x.bA x.bm x.bk, .int .i64 x.i.l.lv, .int .u32 (x.i.l.c : Int), .slice x.fA x.fm x.fk, .slice x.wA x.wm x.wk]).grows hb1)
  have hG : Hid (Grows w w1) := Lib.hid (((Grows.refl w).alloc _).trans hb1)
  clear cB hb1
  have q0 : w1.cell? ⟨w.heap.size, 0, none⟩ = some (.slice x.bA x.bm x.bk) := bx.out.cell 0
  have q1 : w1.cell? ⟨w.heap.size, 1, none⟩ = some (.int .i64 x.i.l.lv) := bx.out.cell 1
  have q2 : w1.cell? ⟨w.heap.size, 2, none⟩ = some (.int .u32 (x.i.l.c : Int)) := bx.out.cell 2
  have q3 : w1.cell? ⟨w.heap.size, 3, none⟩ = some (.slice x.fA x.fm x.fk) := bx.out.cell 3
  have q4 : w1.cell? ⟨w.heap.size, 4, none⟩ = some (.slice x.wA x.wm x.wk) := bx.out.cell 4
  have qz := bx.out.lt
  cases BY
  · have hfin : Hid (R = true) := Lib.hid (by rw [hR.out]; simp)
    clear hR cL cV cW
    go_wp2
    go_ret
    exact ⟨ret_bool hfin.out.symm, hG.out⟩
  · go_wp2_with fail
    refine (cL.out _).mono ?_
    rintro e w2 ⟨rfl, hb2⟩
    replace bx := Lib.hid (bx.out.grows hb2)
    replace hG := Lib.hid (hG.out.trans hb2)
    clear hb2 q0 q1 q2 q3 q4 qz
    have q0 : w2.cell? ⟨w.heap.size, 0, none⟩ = some (.slice x.bA x.bm x.bk) := bx.out.cell 0
    have q1 : w2.cell? ⟨w.heap.size, 1, none⟩ = some (.int .i64 x.i.l.lv) := bx.out.cell 1
    have q2 : w2.cell? ⟨w.heap.size, 2, none⟩ = some (.int .u32 (x.i.l.c : Int)) := bx.out.cell 2
    have q3 : w2.cell? ⟨w.heap.size, 3, none⟩ = some (.slice x.fA x.fm x.fk) := bx.out.cell 3
    have q4 : w2.cell? ⟨w.heap.size, 4, none⟩ = some (.slice x.wA x.wm x.wk) := bx.out.cell 4
    have qz := bx.out.lt
    clear cL
    cases BL
    · have hfin : Hid (R = true) := Lib.hid (by rw [hR.out]; simp)
      clear hR cV cW
      go_wp2
      go_ret
      exact ⟨ret_bool hfin.out.symm, hG.out⟩
    · go_wp2_with fail
      refine (cV.out _ hG.out).mono ?_
      rintro e w3 ⟨rfl, hb3⟩
      replace bx := Lib.hid (bx.out.grows hb3)
      replace hG := Lib.hid (hG.out.trans hb3)
      clear hb3 q0 q1 q2 q3 q4 qz
      have q0 : w3.cell? ⟨w.heap.size, 0, none⟩ = some (.slice x.bA x.bm x.bk) := bx.out.cell 0
      have q1 : w3.cell? ⟨w.heap.size, 1, none⟩ = some (.int .i64 x.i.l.lv) := bx.out.cell 1
      have q2 : w3.cell? ⟨w.heap.size, 2, none⟩ = some (.int .u32 (x.i.l.c : Int)) := bx.out.cell 2
      have q3 : w3.cell? ⟨w.heap.size, 3, none⟩ = some (.slice x.fA x.fm x.fk) := bx.out.cell 3
      have q4 : w3.cell? ⟨w.heap.size, 4, none⟩ = some (.slice x.wA x.wm x.wk) := bx.out.cell 4
      have qz := bx.out.lt
      clear cV
      cases BV
      · have hfin : Hid (R = true) := Lib.hid (by rw [hR.out]; simp)
        clear hR cW
        go_wp2
        go_ret
        exact ⟨ret_bool hfin.out.symm, hG.out⟩
      · have hfin : Hid (R = !BW) := Lib.hid (by rw [hR.out]; simp)
        clear hR
        go_wp2_with fail
        refine (cW.out _ hG.out).mono ?_
        rintro e w4 ⟨rfl, hb4⟩
        go_wp2
        go_ret
        exact ⟨ret_bool hfin.out.symm, hG.out.trans hb4⟩

/-! ### Check -/
theorem Arr.of_row {α : Type} {w : World} {g : Nat} {t : TypeId} {l : List α} {f : α → Value} (h : Blk w g t (l.map f).toArray) : Arr w 1 (fun x => [f x]) (some ⟨g, 0, none⟩) l.length l := by
  refine ⟨rfl, fun _ => ⟨g, 0, rfl, h.lt, fun i hi j u hu => ?_⟩⟩
  have hj : j = 0 := by have := (List.getElem?_eq_some_iff.1 hu).1; simp at this; omega
  subst hj
  rw [h.cell]
  simp only [List.getElem?_cons_zero, Option.some.injEq] at hu
  simp [hi, hu]
def listsOf (p : Pol) : List (List Nam) := [p.sources, p.receivers, p.people, p.raises]
def longB (p : Pol) : Bool := decide (12 < max p.routes.length p.inhibits.length) || (listsOf p).any fun l => decide (12 < l.length)
def badB (fb : Mat → Bool) (p : Pol) : Bool := (listsOf p).any (fun l => !namedB l) || (p.routes.any (routeBad p.receivers fb) || p.inhibits.any (inhBad fb))
def checkL (fb : Mat → Bool) (p : Pol) : Int := if longB p then 4 else if badB fb p then 1 else 0
/-- What Check asks of the policy's matchers. -/
def FinesOK (fb : Mat → Bool) (x : PolX) : Prop := (∀ r ∈ x.o, ∀ y ∈ r.r.wh, FineOK fb y) ∧ ∀ i ∈ x.i, (∀ y ∈ i.i.from_, FineOK fb y) ∧ ∀ y ∈ i.i.wh, FineOK fb y
def PolX.lists (x : PolX) : List NamsX := [x.s, x.r, x.e, x.a]
def longTo (x : PolX) (k : Nat) : Bool := decide (12 < max x.om x.im) || (x.lists.take k).any fun q => decide (12 < q.m)
theorem longTo_end {x : PolX} {w : World} (h : x.At w) : longTo x 4 = longB x.pol := by
  unfold longTo longB
  have h1 : x.pol.routes.length = x.om := by simp [PolX.pol, h.o.1]
  have h2 : x.pol.inhibits.length = x.im := by simp [PolX.pol, h.i.1]
  have e1 := h.s.arr.1
  have e2 := h.r.arr.1
  have e3 := h.e.arr.1
  have e4 := h.a.arr.1
  rw [h1, h2]
  simp [PolX.lists, listsOf, PolX.pol, e1, e2, e3, e4]
theorem longTo_next {x : PolX} {k : Nat} {q : NamsX} (h : x.lists[k]? = some q) : longTo x (k + 1) = (longTo x k || decide (12 < q.m)) := by
  unfold longTo
  rw [List.take_add_one, h, List.any_append]
  simp [Bool.or_assoc]
theorem badB_of (fb : Mat → Bool) (x : PolX) : badB fb x.pol = (x.lists.any (fun q => !namedB q.l) || (x.o.any (fun y => routeBad x.r.l fb y.r) || x.i.any (fun y => inhBad fb y.i))) := by
  unfold badB
  simp only [PolX.pol, listsOf, PolX.lists, List.any_map, Function.comp_def]
  rfl
end Go.Proofs.YtfoffneipdkdjaaGreatDoor
namespace Go.Proofs.YtfoffneipdkdjaaGreatDoor
open Go.RowKit Go.PlainAid Go.Maps

set_option maxRecDepth 100000 in
set_option maxHeartbeats 6400000 in
theorem check_any {fb : Mat → Bool} {x : PolX} (w : World) (hx : x.At w) (hfb : FinesOK fb x) :
    Calls Tryz.prog 35 #[x.val] w fun e w' => e = .returned (.int .i64 (checkL fb x.pol)) ∧ Grows w w' := by
  have cQ := fun (A : Option Addr) (W : World) (hW : Grows w W) (hA : Arr W 1 encQ A 4 x.lists) => conQ_any (c := 4) 68 #[] (enters_of Tryz.func68 (by kernel_rfl) rfl) (fun q => !namedB q.l) A 4 x.lists W hA (by omega) (fun q hq W' hW' => ck1_any W' (by
    have h4 : x.s.At W' ∧ x.r.At W' ∧ x.e.At W' ∧ x.a.At W' := ⟨hx.s.keep (hW.trans hW'), hx.r.keep (hW.trans hW'), hx.e.keep (hW.trans hW'), hx.a.keep (hW.trans hW')⟩
    simp only [PolX.lists, List.mem_cons, List.not_mem_nil, or_false] at hq
    rcases hq with rfl | rfl | rfl | rfl
    · exact h4.1
    · exact h4.2.1
    · exact h4.2.2.1
    · exact h4.2.2.2))
  have cO := fun (W : World) (hW : Grows w W) (hp : W.cell? ⟨w.heap.size, 1, none⟩ = some x.r.val) => conR_any (c := x.ok) 70 #[.pointer (some ⟨w.heap.size, 0, none⟩)] (enters_of Tryz.func70 (by kernel_rfl) rfl) (fun y => routeBad x.r.l fb y.r) x.oA x.om x.o W (hx.o.keep hW) hx.ole (fun y hy W' hW' => ck2_any W' ((hx.oAt y hy).keep (hW.trans hW')) (hx.r.keep (hW.trans hW')) (hW'.cell hp) (hfb.1 y hy))
  have cI := fun (W : World) (hW : Grows w W) => conH_any (c := x.ik) 75 #[] (enters_of Tryz.func75 (by kernel_rfl) rfl) (fun y => inhBad fb y.i) x.iA x.im x.i W (hx.i.keep hW) hx.ile (fun y hy W' hW' => ck3_any W' ((hx.iAt y hy).keep (hW.trans hW')) (hfb.2 y hy).1 (hfb.2 y hy).2)
  have hend := longTo_end hx
  have hnext := fun k q => longTo_next (x := x) (k := k) (q := q)
  have hbad := badB_of fb x
  obtain ⟨R, hR⟩ : ∃ R, R = checkL fb x.pol := ⟨_, rfl⟩
  rw [← hR]
  unfold checkL at hR
  rw [hbad, ← hend] at hR
  have hl0 : longTo x 0 = decide (12 < max x.om x.im) := by simp [longTo]
  have hlist : x.lists = [x.s, x.r, x.e, x.a] := rfl
  have hl4 : x.lists.length = 4 := rfl
  generalize longTo x = LT at *
  generalize x.o.any (fun y => routeBad x.r.l fb y.r) = BO at *
  generalize x.i.any (fun y => inhBad fb y.i) = BI at *
  generalize x.lists.any (fun q => !namedB q.l) = BQ at *
  generalize hls : x.lists = ls at *
  unfold PolX.val
  clear hx hfb hend hbad hls
  obtain ⟨⟨sl, sA, sm, sk⟩, ⟨rl, rA, rm, rk⟩, ⟨el, eA, em, ek⟩, ⟨al, aA, am, ak⟩, o, oA, om, ok, i, iA, im, ik⟩ := x
  simp only [NamsX.val] at cQ cO cI hR hl0 hlist ⊢
  replace cQ := Lib.hid cQ
  replace cO := Lib.hid cO
  replace cI := Lib.hid cI
  replace hR := Lib.hid hR
  replace hnext := Lib.hid hnext
  replace hl4 := Lib.hid hl4
  have hmap : ls.map (fun q => Value.slice q.A q.m q.k) = [.slice sA sm sk, .slice rA rm rk, .slice eA em ek, .slice aA am ak] := by rw [hlist]; rfl
  replace hmap := Lib.hid hmap
  clear hlist
  go_enter Tryz.func35, Tryz.ntmps35
  go_wp2_with fail
  go_loopw [4, 6, 29] (fun lg _ i wr => ∃ k : Nat, k ≤ 4 ∧ i = .int .i64 k ∧ lg = .bool (LT k) ∧ Hid (Blk wr w.heap.size 32 #[.slice sA sm sk, .slice rA rm rk, .slice eA em ek, .slice aA am ak, .slice oA om ok, .slice iA im ik]) ∧ Hid (Arr wr 1 encQ (some ⟨w.heap.size + 1, 0, none⟩) 4 ls) ∧ Hid (Grows w wr)) (fun _ _ i _ => 4 - (intOf i).toNat)
  case atStart =>
    refine ⟨0, by omega, rfl, ?_, (Blk.new w _ _).alloc _, ?_, ((Grows.refl w).alloc _).alloc _⟩
    · rw [hl0]; congr 1; rw [Bool.eq_iff_iff]; simp; omega
    · have hb := Blk.new1 w (.cells #[.slice sA sm sk, .slice rA rm rk, .slice eA em ek, .slice aA am ak, .slice oA om ok, .slice iA im ik] 32) 28 (ls.map (fun q => Value.slice q.A q.m q.k)).toArray
      have := Arr.of_row hb
      rw [hl4.out] at this
      rw [hmap.out] at this
      exact this
  case round =>
    obtain ⟨k, hk, rfl, rfl, hP, hL, hG⟩ := hrel
    by_cases hk4 : k < 4
    · obtain ⟨bb, off, q, hbb, hsx, hq, hcell⟩ := hL.out.at_ hk4
      obtain ⟨rfl, rfl⟩ : bb = w.heap.size + 1 ∧ off = 0 := by
        simp only [Option.some.injEq, Addr.mk.injEq, and_true] at hbb
        exact ⟨hbb.1.symm, hbb.2.symm⟩
      clear hbb
      have c0 : wr.cell? ⟨w.heap.size + 1, k, none⟩ = some (.slice q.A q.m q.k) := by simpa using hcell 0 _ rfl
      have hnx := hnext.out k q hq
      have hki : (k : Int) < 4 := by omega
      clear hcell
      generalize LT k = B at *
      cases B
      · go_wp2
        go_roundw
        case rel => exact ⟨k + 1, by omega, by go_num, by rw [hnx]; congr 1; rw [Bool.eq_iff_iff]; simp; omega, hP, hL, hG⟩
        case measure => simp [intOf]; omega
      · go_wp2
        go_roundw
        case rel => exact ⟨k + 1, by omega, by go_num, by rw [hnx]; rfl, hP, hL, hG⟩
        case measure => simp [intOf]; omega
    · obtain rfl : k = 4 := by omega
      generalize LT 4 = B at *
      have bp := hP
      have p0 : wr.cell? ⟨w.heap.size, 0, none⟩ = some (.slice sA sm sk) := bp.out.cell 0
      have p1 : wr.cell? ⟨w.heap.size, 1, none⟩ = some (.slice rA rm rk) := bp.out.cell 1
      have p2 : wr.cell? ⟨w.heap.size, 2, none⟩ = some (.slice eA em ek) := bp.out.cell 2
      have p3 : wr.cell? ⟨w.heap.size, 3, none⟩ = some (.slice aA am ak) := bp.out.cell 3
      have p4 : wr.cell? ⟨w.heap.size, 4, none⟩ = some (.slice oA om ok) := bp.out.cell 4
      have p5 : wr.cell? ⟨w.heap.size, 5, none⟩ = some (.slice iA im ik) := bp.out.cell 5
      have pz := bp.out.lt
      cases B
      · have hR' : Hid (R = if (BQ || (BO || BI)) = true then 1 else 0) := Lib.hid (by rw [hR.out]; rfl)
        clear hR
        have cQ' := Lib.hid (cQ.out _ wr hG.out hL.out)
        clear cQ
        go_wp2_with fail
        refine (cQ'.out).mono ?_
        rintro e w1 ⟨rfl, hb1⟩
        replace bp := Lib.hid (bp.out.grows hb1)
        replace hG := Lib.hid (hG.out.trans hb1)
        clear hb1 cQ' hL hP p0 p1 p2 p3 p4 p5 pz
        have p0 : w1.cell? ⟨w.heap.size, 0, none⟩ = some (.slice sA sm sk) := bp.out.cell 0
        have p1 : w1.cell? ⟨w.heap.size, 1, none⟩ = some (.slice rA rm rk) := bp.out.cell 1
        have p2 : w1.cell? ⟨w.heap.size, 2, none⟩ = some (.slice eA em ek) := bp.out.cell 2
        have p3 : w1.cell? ⟨w.heap.size, 3, none⟩ = some (.slice aA am ak) := bp.out.cell 3
        have p4 : w1.cell? ⟨w.heap.size, 4, none⟩ = some (.slice oA om ok) := bp.out.cell 4
        have p5 : w1.cell? ⟨w.heap.size, 5, none⟩ = some (.slice iA im ik) := bp.out.cell 5
        have pz := bp.out.lt
        cases BQ
        · go_wp2_with fail
          refine (cO.out _ hG.out p1).mono ?_
          rintro e w2 ⟨rfl, hb2⟩
          replace bp := Lib.hid (bp.out.grows hb2)
          replace hG := Lib.hid (hG.out.trans hb2)
          clear hb2 cO p0 p1 p2 p3 p4 p5 pz
          have p0 : w2.cell? ⟨w.heap.size, 0, none⟩ = some (.slice sA sm sk) := bp.out.cell 0
          have p1 : w2.cell? ⟨w.heap.size, 1, none⟩ = some (.slice rA rm rk) := bp.out.cell 1
          have p2 : w2.cell? ⟨w.heap.size, 2, none⟩ = some (.slice eA em ek) := bp.out.cell 2
          have p3 : w2.cell? ⟨w.heap.size, 3, none⟩ = some (.slice aA am ak) := bp.out.cell 3
          have p4 : w2.cell? ⟨w.heap.size, 4, none⟩ = some (.slice oA om ok) := bp.out.cell 4
          have p5 : w2.cell? ⟨w.heap.size, 5, none⟩ = some (.slice iA im ik) := bp.out.cell 5
          have pz := bp.out.lt
          cases BO
          · go_wp2_with fail
            refine (cI.out _ hG.out).mono ?_
            rintro e w3 ⟨rfl, hb3⟩
            replace hG := Lib.hid (hG.out.trans hb3)
            clear hb3
            cases BI
            · go_wp2
              go_ret
              exact ⟨by rw [hR'.out]; rfl, hG.out⟩
            · go_wp2
              go_ret
              exact ⟨by rw [hR'.out]; rfl, hG.out⟩
          · go_wp2
            go_ret
            exact ⟨by rw [hR'.out]; rfl, hG.out⟩
        · go_wp2
          go_ret
          exact ⟨by rw [hR'.out]; rfl, hG.out⟩
      · have hR' : Hid (R = 4) := Lib.hid (by rw [hR.out]; rfl)
        clear hR
        go_wp2
        go_ret
        exact ⟨by rw [hR'.out]; rfl, hG.out⟩
end Go.Proofs.YtfoffneipdkdjaaGreatDoor
namespace Go.Proofs.YtfoffneipdkdjaaGreatDoor
open Go.RowKit Go.Maps

theorem madeCells_one (z : Value) (n : Nat) : madeCells #[z] n = (List.replicate n z).toArray := by
  apply Array.ext
  · simp [madeCells]
  · intro i h1 h2
    simp [madeCells, Nat.mod_one]
/-- A block that the making of groups writes. -/
def GrpRow (w : World) (b0 g : Nat) : Prop := b0 ≤ g ∧ ∀ cur e fz, w.heap[g]? = some (.cells cur e fz) → e = 47 ∨ e = 25 ∨ e = 43
theorem Blk.keptG {w w' : World} {b0 g : Nat} {t : TypeId} {cs : Array Value} {row : Option Nat} (h : Blk w g t cs) (hg : w.grownBy w' row) (hr : ∀ j, row = some j → GrpRow w b0 j) (h1 : t ≠ 47) (h2 : t ≠ 25) (h3 : t ≠ 43) : Blk w' g t cs :=
  h.by_row hg (fun e => by
    rcases (hr g e.symm).2 _ _ _ h with h | h | h
    · exact h1 h
    · exact h2 h
    · exact h3 h)
theorem Own.keptG {α : Type} {w w' : World} {b0 base k : Nat} {t : TypeId} {enc : α → List Value} {v : Value} {xs : List α} {row : Option Nat} (h : Own w base t k enc v xs) (hg : w.grownBy w' row) (hr : ∀ j, row = some j → GrpRow w b0 j) (h1 : t ≠ 47) (h2 : t ≠ 25) (h3 : t ≠ 43) : Own w' base t k enc v xs :=
  h.kept' hg (fun g hgm hv => by
    obtain ⟨cur, hc⟩ := own_block h hv
    rcases (hr g hgm).2 _ _ _ hc with h | h | h
    · exact h1 h
    · exact h2 h
    · exact h3 h)
theorem MapL.not_cells {P : Program} {k e : TypeId} {w : World} {b n : Nat} {l : List (List UInt8 × Lit)} (h : MapL P k e w b n l) : ∀ cur e fz, w.heap[b]? ≠ some (.cells cur e fz) := by
  obtain ⟨es, clock, hb, _⟩ := h
  intro cur e fz hc
  rw [hb] at hc; cases hc
/-- What a step keeps: the policy's box, the alert's box, the routes that fit, its visible fields. -/
structure GEnv (w0 : World) (pc : Array Value) (gc : Nat) (cc : Array Value) (fv : Value) (F : List Nat) (cv : Value) (cf : List Fld) (w : World) : Prop where
  G : Grows w0 w
  B : Blk w w0.heap.size 32 pc
  C : Blk w gc 50 cc
  F : Own w w0.heap.size 3 1 encI fv F
  f : Own w w0.heap.size 76 2 encF cv cf
section
variable {w0 w w' : World} {pc : Array Value} {gc : Nat} {cc : Array Value} {fv : Value} {F : List Nat} {cv : Value} {cf : List Fld}
theorem GEnv.grows (h : GEnv w0 pc gc cc fv F cv cf w) (hg : Grows w w') : GEnv w0 pc gc cc fv F cv cf w' := ⟨h.G.trans hg, h.B.grows hg, h.C.grows hg, h.F.grows hg, h.f.grows hg⟩
theorem GEnv.row (h : GEnv w0 pc gc cc fv F cv cf w) {row : Option Nat} (hg : w.grownBy w' row) (hr : ∀ j, row = some j → GrpRow w w0.heap.size j) : GEnv w0 pc gc cc fv F cv cf w' :=
  ⟨h.G.by_row hg (fun j hj => (hr j hj).1), h.B.keptG hg hr (by decide) (by decide) (by decide), h.C.keptG hg hr (by decide) (by decide) (by decide), h.F.keptG hg hr (by decide) (by decide) (by decide), h.f.keptG hg hr (by decide) (by decide) (by decide)⟩
end
theorem GrpRow.of_own {α : Type} {w : World} {b0 base k : Nat} {t : TypeId} {enc : α → List Value} {v : Value} {xs : List α} (h : Own w base t k enc v xs) (hb : b0 ≤ base) (ht : t = 47 ∨ t = 25) : ∀ j, v.ownBlock = some j → GrpRow w b0 j := fun j hj => by
  refine ⟨Nat.le_trans hb (World.ownsRow.lt h j hj).1, fun cur e fz hc => ?_⟩
  obtain ⟨cur', hc'⟩ := own_block h hj
  rw [hc'] at hc
  simp only [Option.some.injEq, Obj.cells.injEq] at hc
  rw [← hc.2.1]
  rcases ht with h | h
  · exact .inl h
  · exact .inr (.inl h)
theorem GrpRow.of_map {P : Program} {k e : TypeId} {w : World} {b0 b n : Nat} {l : List (List UInt8 × Lit)} (h : MapL P k e w b n l) (hb : b0 ≤ b) : ∀ j, some b = some j → GrpRow w b0 j := fun j hj => by
  injection hj with hj; subst hj
  exact ⟨hb, fun cur e fz hc => absurd hc (h.not_cells cur e fz)⟩
theorem MapL.keptG {P : Program} {k e : TypeId} {w w' : World} {b n g : Nat} {l : List (List UInt8 × Lit)} {cur : Array Value} {t : TypeId} {fz : Nat × Nat} (h : MapL P k e w b n l) (hg : w.grownBy w' (some g)) (hc : w.heap[g]? = some (.cells cur t fz)) : MapL P k e w' b n l :=
  h.kept hg (fun e' => by injection e' with e'; subst e'; exact h.not_cells _ _ _ hc)
theorem MapL.keptO {α : Type} {P : Program} {k e t : TypeId} {w w' : World} {b n base kk : Nat} {l : List (List UInt8 × Lit)} {enc : α → List Value} {v : Value} {xs : List α} (h : MapL P k e w b n l) (hO : Own w base t kk enc v xs) (hg : w.grownBy w' v.ownBlock) : MapL P k e w' b n l :=
  h.kept hg (fun e' => by obtain ⟨cur, hc⟩ := own_block hO e'.symm; exact h.not_cells _ _ _ hc)
theorem RoomsAt.start {w : World} {b0 n RB : Nat} (hB : w.heap[RB]? = some (.cells (madeCells #[.slice none 0 0] n) 43 (0, 0))) : RoomsAt w b0 RB (List.replicate n (.slice none 0 0)) (List.replicate n []) where
  row := by rw [hB, madeCells_one]
  len := by simp
  own := fun r v gs h1 h2 => by
    have e1 := List.mem_of_getElem? h1
    have e2 := List.mem_of_getElem? h2
    simp at e1 e2
    rw [e1.2, e2.2]
    exact Own.nil_ _ _ _ _ _
  apart := fun r s v u g h1 h2 _ h3 _ => by
    have e1 := List.mem_of_getElem? h1
    simp at e1
    rw [e1.2] at h3; cases h3
  ids := fun r gs k x h1 h2 => by
    have e1 := List.mem_of_getElem? h1
    simp at e1
    rw [e1.2] at h2; simp at h2
  flds := fun r gs k x h1 h2 => by
    have e1 := List.mem_of_getElem? h1
    simp at e1
    rw [e1.2] at h2; simp at h2
  idap := fun r s k j gs hs x y g h1 h2 => by
    have e1 := List.mem_of_getElem? h1
    simp at e1
    rw [e1.2] at h2; simp at h2
end Go.Proofs.YtfoffneipdkdjaaGreatDoor
