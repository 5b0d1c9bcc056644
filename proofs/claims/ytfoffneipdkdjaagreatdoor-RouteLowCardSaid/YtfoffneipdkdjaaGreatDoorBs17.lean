/- Parts: Shelf3 PatK PatL PatLa PatLb PatLc PatLd PatLe PatLf -/
import Derived.Shelf.Small.Strs
import Derived.Test.YtfoffneipdkdjaaGreatDoorProg
import Derived.Test.YtfoffneipdkdjaaGreatDoorBs16
namespace Go.Proofs
open Go.Shelf
def Tryz.lays137_ren : Go.Shelf.Ren := ⟨fun | 137 => 187 | 217 => 202 | 266 => 210 | n => n, fun | 9 => 9 | 5 => 5 | 3 => 3 | n => n, fun | n => n⟩
theorem Tryz.lays137 : Go.Proofs.Lays.n137 Tryz.prog Tryz.lays137_ren := {
  mixed := by kernel_rfl
  f137 := Tryz.func187.trans (congrArg some (by kernel_rfl))
  f217 := Tryz.func202.trans (congrArg some (by kernel_rfl))
  f266 := Tryz.func210.trans (congrArg some (by kernel_rfl))
  t3 := Tryz.underlying3
  a3 := Tryz.isAgg3
  z3 := Tryz.sizeOf3
  v3 := Tryz.zeroValue3
  t5 := Tryz.underlying5
  a5 := Tryz.isAgg5
  z5 := Tryz.sizeOf5
  v5 := Tryz.zeroValue5
  t9 := Tryz.underlying9
  a9 := Tryz.isAgg9
  z9 := Tryz.sizeOf9
  v9 := Tryz.zeroValue9 }
end Go.Proofs
namespace Go.Proofs.YtfoffneipdkdjaaGreatDoor
open Go.RowKit

theorem costP_node (b : PB) : costP (nodeP b) = costP b + 1 := by simp [costP, nodeP, frees, emptySt]; omega
theorem costP_free (i j : Nat) (b : PB) : costP (freeP i j b) ≤ costP b + 1 := by have := frees_modify b.sts i j; simp [freeP, costP]; omega
theorem costP_adv (b : PB) : costP (advP b) = costP b := rfl
theorem costP_len (b : PB) : b.sts.length ≤ costP b := by unfold costP; omega
theorem postB_idx (c : UInt8) : (postB c = true ↔ 0 ≤ Lib.indexByte [42, 43, 63] c) ∧ (postB c = true → c = 42 ∨ c = 43 ∨ c = 63) := by
  unfold postB
  by_cases h1 : c = 42
  · subst h1; decide
  · by_cases h2 : c = 43
    · subst h2; decide
    · by_cases h3 : c = 63
      · subst h3; decide
      · have e1 : ((42 : UInt8) == c) = false := by simpa using Ne.symm h1
        have e2 : ((43 : UInt8) == c) = false := by simpa using Ne.symm h2
        have e3 : ((63 : UInt8) == c) = false := by simpa using Ne.symm h3
        simp [Lib.indexByte, e1, e2, e3, h1, h2, h3]
theorem idxPost_any (W : World) (c : UInt8) : Calls Tryz.prog 187 #[.string { data := #[42, 43, 63] }, .int .u8 (c.toNat : Int)] W fun e w' => e = .returned (.int .i64 (Lib.indexByte [42, 43, 63] c)) ∧ w' = W := by
  have := Any.strings_IndexByte Tryz.lays137 { data := #[42, 43, 63] } (c.toNat : Int) W
  rw [show (c.toNat : Int).toNat.toUInt8 = c by simp] at this
  exact this
def BLe (base : Nat) (w : World) : Prop := base ≤ w.heap.size
def GLe (w : World) (g : Nat) : Prop := w.heap.size ≤ g
set_option maxRecDepth 100000 in
set_option maxHeartbeats 1600000 in
theorem times_any {w : World} {base gB : Nat} {s : List UInt8} {b : PB} {x : PPt} {xs : List StX} {sv : Value} (h : BAt w base gB s b xs sv) (hb : base ≤ w.heap.size) (hx : InP x b) (hat : b.at_ < 1000000) (hc : costP b < 100000000) :
    Calls Tryz.prog 182 #[.pointer (some ⟨gB, 0, none⟩), partV x] w (PartPost base gB s w (timesP s b x)) := by
  obtain ⟨x1, x2⟩ := x
  have hX := Blk.new w 213 #[.int .i64 (x1 : Int), .int .i64 (x2 : Int)]
  have hg1 : Grows w (w.alloc (.cells #[.int .i64 (x1 : Int), .int .i64 (x2 : Int)] 213)) := (Grows.refl _).alloc _
  have hR : Blk ((w.alloc (.cells #[.int .i64 (x1 : Int), .int .i64 (x2 : Int)] 213)).alloc (.cells #[.int .i64 0, .int .i64 0] 213)) (w.heap.size + 1) 213 #[.int .i64 0, .int .i64 0] := by
    have := Blk.new (w.alloc (.cells #[.int .i64 (x1 : Int), .int .i64 (x2 : Int)] 213)) 213 #[.int .i64 0, .int .i64 0]
    simpa using this
  have hg2 := hg1.alloc (.cells #[.int .i64 0, .int .i64 0] 213)
  replace hX := Lib.hid (hX.alloc (.cells #[.int .i64 0, .int .i64 0] 213))
  replace hR := Lib.hid hR
  have hG := Lib.hid (TKeep.grows (T := TB) hg2 hb)
  replace h := Lib.hid (h.grows hg2)
  have hb0 : Hid (BLe base w) := Lib.hid hb
  replace hb := Lib.hid (Nat.le_trans hb hg2.size)
  have hgr : Hid (GLe w (w.heap.size + 1)) := Lib.hid (Nat.le_succ _)
  clear hg1 hg2
  cases hp : pkP s b with
  | none =>
    have htp : timesP s b (x1, x2) = (b, (x1, x2)) := by unfold timesP; rw [hp]
    have hpv : pkV s b = .tuple #[.int .u8 0, .bool false] := by simp only [pkV, hp]
    rw [htp]
    clear hp htp
    unfold partV
    go_enter Tryz.func182, Tryz.ntmps182
    go_wp2_with fail
    refine (peek_any h.out).mono ?_
    rintro e w1 ⟨rfl, hgw1⟩
    replace h := Lib.hid (h.out.grows hgw1)
    replace hG := Lib.hid (hG.out.trans (TKeep.grows hgw1 hb.out))
    replace hb := Lib.hid (Nat.le_trans hb.out hgw1.size)
    (try replace hset := Lib.hid (hset.out.grows hgw1))
    (try replace hX := Lib.hid (hX.out.grows hgw1))
    (try replace hP := Lib.hid (hP.out.grows hgw1))
    (try replace hR := Lib.hid (hR.out.grows hgw1))
    clear hgw1
    rw [hpv]
    clear hpv
    generalize w.heap.size = gX at *
    generalize gX + 1 = gR at *
    (try clear d0X); (try clear d1X); (try clear l0X); (try clear f0X); (try clear f1X)
    have d0X : w1.cell? ⟨gX, 0, none⟩ = _ := hX.out.cell 0
    have d1X : w1.cell? ⟨gX, 1, none⟩ = _ := hX.out.cell 1
    have f0X := hX.out.frozen 0
    have f1X := hX.out.frozen 1
    have l0X := hX.out.lt
    (try clear d0R); (try clear d1R); (try clear l0R); (try clear f0R); (try clear f1R)
    have d0R : w1.cell? ⟨gR, 0, none⟩ = _ := hR.out.cell 0
    have d1R : w1.cell? ⟨gR, 1, none⟩ = _ := hR.out.cell 1
    have f0R := hR.out.frozen 0
    have f1R := hR.out.frozen 1
    have l0R := hR.out.lt
    go_wp2
    clear d0X d1X f0X f1X l0X
    clear d0R d1R f0R f1R l0R
    have hBz := hR.out.set_ 0 (.int .i64 (x1 : Int))
    have hBy := hBz.set_ 1 (.int .i64 (x2 : Int))
    have hke := (hG.out.setNew (g := gR) (i := 0) hgr.out hb0.out (.int .i64 (x1 : Int))).setNew (g := gR) (i := 1) hgr.out hb0.out (.int .i64 (x2 : Int))
    have hBf := (h.out.far hR.out (by decide) (grownBy_cell w1 ⟨gR, 0, none⟩ (.int .i64 (x1 : Int)))).far hBz (by decide) (grownBy_cell _ ⟨gR, 1, none⟩ (.int .i64 (x2 : Int)))
    clear hR hG h hBz
    generalize (w1.setCell ⟨gR, 0, none⟩ (.int .i64 (x1 : Int))).setCell ⟨gR, 1, none⟩ (.int .i64 (x2 : Int)) = w7 at *
    have e0 : w7.cell? ⟨gR, 0, none⟩ = some (.int .i64 (x1 : Int)) := hBy.cell 0
    have e1 : w7.cell? ⟨gR, 1, none⟩ = some (.int .i64 (x2 : Int)) := hBy.cell 1
    refine bodyPost_ret (v := partV (x1, x2)) ?_ rfl ⟨?_, ?_⟩
    · simp [partV, results, Tryz.results182, go_sem, e0, e1]
    · rfl
    · exact ⟨_, _, hBf, hke⟩
  | some c =>
    have hpv : pkV s b = .tuple #[.int .u8 (c.toNat : Int), .bool true] := by simp only [pkV, hp]
    by_cases hpo : postB c = true
    · have hcost : costP (advP b) < 100000000 := hc
      have hidx := (postB_idx c).1.1 hpo
      have cI := Lib.hid (fun W => idxPost_any W c)
      generalize Lib.indexByte [42, 43, 63] c = ki at *
      have hnki : ¬ ki < 0 := by omega
      have htp : timesP s b (x1, x2) = ((if c = 63 then (if c = 43 then freeP x2 (b.sts.length + 1) (freeP b.sts.length x1 (nodeP (nodeP (advP b)))) else freeP b.sts.length (b.sts.length + 1) (freeP x2 (b.sts.length + 1) (freeP b.sts.length x1 (nodeP (nodeP (advP b)))))) else freeP x2 x1 (if c = 43 then freeP x2 (b.sts.length + 1) (freeP b.sts.length x1 (nodeP (nodeP (advP b)))) else freeP b.sts.length (b.sts.length + 1) (freeP x2 (b.sts.length + 1) (freeP b.sts.length x1 (nodeP (nodeP (advP b))))))), (b.sts.length, b.sts.length + 1)) := by
        unfold timesP; rw [hp]; simp only [hpo, if_true]
      have hTC : Hid (∀ t ∈ [211], t ∈ TB) := Lib.hid (by intro t ht; simp [TB] at *; exact .inl ht)
      replace htp := Lib.hid htp
      replace hidx := Lib.hid hidx
      have hx1 := hx.1
      have hx2 := hx.2
      unfold partV
      go_enter Tryz.func182, Tryz.ntmps182
      go_wp2_with fail
      refine (peek_any h.out).mono ?_
      rintro e w1 ⟨rfl, hgw1⟩
      replace h := Lib.hid (h.out.grows hgw1)
      replace hG := Lib.hid (hG.out.trans (TKeep.grows hgw1 hb.out))
      replace hb := Lib.hid (Nat.le_trans hb.out hgw1.size)
      (try replace hset := Lib.hid (hset.out.grows hgw1))
      (try replace hX := Lib.hid (hX.out.grows hgw1))
      (try replace hP := Lib.hid (hP.out.grows hgw1))
      (try replace hR := Lib.hid (hR.out.grows hgw1))
      clear hgw1
      rw [hpv]
      clear hpv
      go_wp2_with fail
      refine (cI.out _).mono ?_
      rintro e wI ⟨rfl, hwI⟩
      replace hwI := hwI.symm
      subst hwI
      generalize w.heap.size = gX at *
      generalize gX + 1 = gR at *
      have c1 : w1.cell? ⟨gB, 1, none⟩ = some (.int .i64 ((b).at_ : Int)) := (h.out.blk.cell 1).trans rfl
      have f1 := h.out.blk.frozen 1
      have l1 := h.out.blk.lt
      have i1 : -9223372036854775808 ≤ ((b).at_ : Int) + 1 ∧ ((b).at_ : Int) + 1 ≤ 9223372036854775807 := by first | omega | (simp only [advP]; omega)
      have hA := Lib.hid h.out.adv
      have hGA := Lib.hid (hG.out.trans ((TKeep.own h.out (grownBy_cell w1 ⟨gB, 1, none⟩ (.int .i64 (((b).at_ : Int) + 1)))).mono hTC.out))
      have hsz : Hid ((w1.setCell ⟨gB, 1, none⟩ (.int .i64 (((b).at_ : Int) + 1))).heap.size = w1.heap.size) := Lib.hid (by simp)
      go_wp2_with fail
      (try replace hset := Lib.hid (hset.out.tk (TKeep.own h.out (grownBy_cell w1 ⟨gB, 1, none⟩ (.int .i64 (((b).at_ : Int) + 1)))) (by decide)))
      (try replace hX := Lib.hid ((TKeep.own h.out (grownBy_cell w1 ⟨gB, 1, none⟩ (.int .i64 (((b).at_ : Int) + 1)))).blk hX.out (by decide)))
      (try replace hP := Lib.hid ((TKeep.own h.out (grownBy_cell w1 ⟨gB, 1, none⟩ (.int .i64 (((b).at_ : Int) + 1)))).blk hP.out (by decide)))
      (try replace hR := Lib.hid ((TKeep.own h.out (grownBy_cell w1 ⟨gB, 1, none⟩ (.int .i64 (((b).at_ : Int) + 1)))).blk hR.out (by decide)))
      clear c1 f1 l1 i1 h hG
      generalize w1.setCell ⟨gB, 1, none⟩ (.int .i64 (((b).at_ : Int) + 1)) = w2 at *
      have h := hA
      have hG := hGA
      clear hA hGA
      replace hb := Lib.hid (Nat.le_trans hb0.out hG.out.size)
      refine (node_any h.out hb.out (by have := costP_len (advP b); omega)).mono ?_
      rintro e w3 ⟨rfl, sv3, h', hk'⟩
      replace h := Lib.hid h'
      clear h'
      (try replace hX := Lib.hid (hk'.blk hX.out (by decide)))
      (try replace hP := Lib.hid (hk'.blk hP.out (by decide)))
      (try replace hR := Lib.hid (hk'.blk hR.out (by decide)))
      replace hG := Lib.hid (hG.out.trans hk')
      replace hb := Lib.hid (Nat.le_trans hb0.out hG.out.size)
      clear hk'
      go_wp2_with fail
      refine (node_any h.out hb.out (by have := costP_len (nodeP (advP b)); have := costP_node (advP b); omega)).mono ?_
      rintro e w4 ⟨rfl, sv4, h', hk'⟩
      replace h := Lib.hid h'
      clear h'
      (try replace hX := Lib.hid (hk'.blk hX.out (by decide)))
      (try replace hP := Lib.hid (hk'.blk hP.out (by decide)))
      (try replace hR := Lib.hid (hk'.blk hR.out (by decide)))
      replace hG := Lib.hid (hG.out.trans hk')
      replace hb := Lib.hid (Nat.le_trans hb0.out hG.out.size)
      clear hk'
      rw [nodeP_len, show (advP b).sts.length = b.sts.length from rfl]
      have hn : (nodeP (nodeP (advP b))).sts.length = b.sts.length + 2 := by simp [nodeP, advP]
      have hcn : costP (nodeP (nodeP (advP b))) ≤ costP b + 2 := by rw [costP_node, costP_node, costP_adv]; omega
      generalize b.sts.length = N at *
      generalize hB0 : nodeP (nodeP (advP b)) = b0 at *
      replace hB0 := Lib.hid hB0
      (try clear d0X); (try clear d1X); (try clear l0X); (try clear f0X); (try clear f1X)
      have d0X : w4.cell? ⟨gX, 0, none⟩ = _ := hX.out.cell 0
      have d1X : w4.cell? ⟨gX, 1, none⟩ = _ := hX.out.cell 1
      have f0X := hX.out.frozen 0
      have f1X := hX.out.frozen 1
      have l0X := hX.out.lt
      go_wp2_with fail
      clear d0X d1X f0X f1X l0X
      -- the part p has been made in the block behind w
      have hP := Blk.new w4 213 #[.int .i64 (N : Int), .int .i64 ((N : Int) + 1)]
      have hgw : Grows w4 (w4.alloc (.cells #[.int .i64 (N : Int), .int .i64 ((N : Int) + 1)] 213)) := (Grows.refl _).alloc _
      (try replace hX := Lib.hid (hX.out.grows hgw))
      (try replace hR := Lib.hid (hR.out.grows hgw))
      replace h := Lib.hid (h.out.grows hgw)
      replace hG := Lib.hid (hG.out.trans (TKeep.grows hgw hb.out))
      replace hb := Lib.hid (Nat.le_trans hb.out hgw.size)
      clear hgw
      generalize w4.alloc (.cells #[.int .i64 (N : Int), .int .i64 ((N : Int) + 1)] 213) = w5 at *
      generalize w4.heap.size = gP at *
      replace hP := Lib.hid hP
      refine (free_any h.out hb.out (by omega) (by omega)).mono ?_
      rintro e w6 ⟨rfl, xs', h', hk'⟩
      replace h := Lib.hid h'
      clear h'
      (try replace hX := Lib.hid (hk'.blk hX.out (by decide)))
      (try replace hP := Lib.hid (hk'.blk hP.out (by decide)))
      (try replace hR := Lib.hid (hk'.blk hR.out (by decide)))
      replace hG := Lib.hid (hG.out.trans hk')
      replace hb := Lib.hid (Nat.le_trans hb0.out hG.out.size)
      clear hk'
      have hc6 := costP_free N x1 b0
      (try clear d0X); (try clear d1X); (try clear l0X); (try clear f0X); (try clear f1X)
      have d0X : w6.cell? ⟨gX, 0, none⟩ = _ := hX.out.cell 0
      have d1X : w6.cell? ⟨gX, 1, none⟩ = _ := hX.out.cell 1
      have f0X := hX.out.frozen 0
      have f1X := hX.out.frozen 1
      have l0X := hX.out.lt
      (try clear d0P); (try clear d1P); (try clear l0P); (try clear f0P); (try clear f1P)
      have d0P : w6.cell? ⟨gP, 0, none⟩ = _ := hP.out.cell 0
      have d1P : w6.cell? ⟨gP, 1, none⟩ = _ := hP.out.cell 1
      have f0P := hP.out.frozen 0
      have f1P := hP.out.frozen 1
      have l0P := hP.out.lt
      go_wp2_with fail
      refine (free_any (i := x2) (j := N + 1) h.out hb.out (by rw [freeP_len]; omega) (by omega)).mono ?_
      rintro e w7 ⟨rfl, xs7, h', hk'⟩
      clear d0X d1X f0X f1X l0X
      clear d0P d1P f0P f1P l0P
      replace h := Lib.hid h'
      clear h'
      (try replace hX := Lib.hid (hk'.blk hX.out (by decide)))
      (try replace hP := Lib.hid (hk'.blk hP.out (by decide)))
      (try replace hR := Lib.hid (hk'.blk hR.out (by decide)))
      replace hG := Lib.hid (hG.out.trans hk')
      replace hb := Lib.hid (Nat.le_trans hb0.out hG.out.size)
      clear hk'
      have hc7 := costP_free x2 (N + 1) (freeP N x1 b0)
      have hn7 : (freeP x2 (N + 1) (freeP N x1 b0)).sts.length = N + 2 := by rw [freeP_len, freeP_len, hn]
      generalize hB7 : freeP x2 (N + 1) (freeP N x1 b0) = b7 at *
      replace hB7 := Lib.hid hB7
      rcases (postB_idx c).2 hpo with rfl | rfl | rfl
      · have htp2 : timesP s b (x1, x2) = (freeP x2 x1 (freeP N (N + 1) b7), (N, N + 1)) := htp.out
        replace htp2 := Lib.hid htp2
        clear htp
        (try clear d0P); (try clear d1P); (try clear l0P); (try clear f0P); (try clear f1P)
        have d0P : w7.cell? ⟨gP, 0, none⟩ = _ := hP.out.cell 0
        have d1P : w7.cell? ⟨gP, 1, none⟩ = _ := hP.out.cell 1
        have f0P := hP.out.frozen 0
        have f1P := hP.out.frozen 1
        have l0P := hP.out.lt
        go_wp2_with fail
        refine (free_any (i := N) (j := N + 1) h.out hb.out (by omega) (by omega)).mono ?_
        rintro e w8 ⟨rfl, xs8, h', hk'⟩
        clear d0P d1P f0P f1P l0P
        replace h := Lib.hid h'
        clear h'
        (try replace hX := Lib.hid (hk'.blk hX.out (by decide)))
        (try replace hP := Lib.hid (hk'.blk hP.out (by decide)))
        (try replace hR := Lib.hid (hk'.blk hR.out (by decide)))
        replace hG := Lib.hid (hG.out.trans hk')
        replace hb := Lib.hid (Nat.le_trans hb0.out hG.out.size)
        clear hk'
        have hc8 := costP_free N (N + 1) b7
        (try clear d0X); (try clear d1X); (try clear l0X); (try clear f0X); (try clear f1X)
        have d0X : w8.cell? ⟨gX, 0, none⟩ = _ := hX.out.cell 0
        have d1X : w8.cell? ⟨gX, 1, none⟩ = _ := hX.out.cell 1
        have f0X := hX.out.frozen 0
        have f1X := hX.out.frozen 1
        have l0X := hX.out.lt
        go_wp2_with fail
        refine (free_any (i := x2) (j := x1) h.out hb.out (by rw [freeP_len]; omega) (by omega)).mono ?_
        rintro e w9 ⟨rfl, xs9, h', hk'⟩
        clear d0X d1X f0X f1X l0X
        replace h := Lib.hid h'
        clear h'
        (try replace hX := Lib.hid (hk'.blk hX.out (by decide)))
        (try replace hP := Lib.hid (hk'.blk hP.out (by decide)))
        (try replace hR := Lib.hid (hk'.blk hR.out (by decide)))
        replace hG := Lib.hid (hG.out.trans hk')
        replace hb := Lib.hid (Nat.le_trans hb0.out hG.out.size)
        clear hk'
        (try clear d0P); (try clear d1P); (try clear l0P); (try clear f0P); (try clear f1P)
        have d0P : w9.cell? ⟨gP, 0, none⟩ = _ := hP.out.cell 0
        have d1P : w9.cell? ⟨gP, 1, none⟩ = _ := hP.out.cell 1
        have f0P := hP.out.frozen 0
        have f1P := hP.out.frozen 1
        have l0P := hP.out.lt
        (try clear d0R); (try clear d1R); (try clear l0R); (try clear f0R); (try clear f1R)
        have d0R : w9.cell? ⟨gR, 0, none⟩ = _ := hR.out.cell 0
        have d1R : w9.cell? ⟨gR, 1, none⟩ = _ := hR.out.cell 1
        have f0R := hR.out.frozen 0
        have f1R := hR.out.frozen 1
        have l0R := hR.out.lt
        go_wp2
        clear d0P d1P f0P f1P l0P
        clear d0R d1R f0R f1R l0R
        clear hP hX
        have hBz := hR.out.set_ 0 (.int .i64 (N : Int))
        have hBy := hBz.set_ 1 (.int .i64 ((N : Int) + 1))
        have hke := (hG.out.setNew (g := gR) (i := 0) hgr.out hb0.out (.int .i64 (N : Int))).setNew (g := gR) (i := 1) hgr.out hb0.out (.int .i64 ((N : Int) + 1))
        have hBf := (h.out.far hR.out (by decide) (grownBy_cell w9 ⟨gR, 0, none⟩ (.int .i64 (N : Int)))).far hBz (by decide) (grownBy_cell _ ⟨gR, 1, none⟩ (.int .i64 ((N : Int) + 1)))
        clear hR hG h hBz
        generalize (w9.setCell ⟨gR, 0, none⟩ (.int .i64 (N : Int))).setCell ⟨gR, 1, none⟩ (.int .i64 ((N : Int) + 1)) = w7 at *
        have e0 : w7.cell? ⟨gR, 0, none⟩ = some (.int .i64 (N : Int)) := hBy.cell 0
        have e1 : w7.cell? ⟨gR, 1, none⟩ = some (.int .i64 ((N : Int) + 1)) := hBy.cell 1
        refine bodyPost_ret (v := partV (N, N + 1)) ?_ rfl ⟨?_, ?_⟩
        · simp [partV, results, Tryz.results182, go_sem, e0, e1]
        · rw [htp2.out]
        · rw [htp2.out]; exact ⟨_, _, hBf, hke⟩
      · have htp2 : timesP s b (x1, x2) = (freeP x2 x1 b7, (N, N + 1)) := htp.out
        replace htp2 := Lib.hid htp2
        clear htp
        (try clear d0X); (try clear d1X); (try clear l0X); (try clear f0X); (try clear f1X)
        have d0X : w7.cell? ⟨gX, 0, none⟩ = _ := hX.out.cell 0
        have d1X : w7.cell? ⟨gX, 1, none⟩ = _ := hX.out.cell 1
        have f0X := hX.out.frozen 0
        have f1X := hX.out.frozen 1
        have l0X := hX.out.lt
        go_wp2_with fail
        refine (free_any (i := x2) (j := x1) h.out hb.out (by omega) (by omega)).mono ?_
        rintro e w9 ⟨rfl, xs9, h', hk'⟩
        clear d0X d1X f0X f1X l0X
        replace h := Lib.hid h'
        clear h'
        (try replace hX := Lib.hid (hk'.blk hX.out (by decide)))
        (try replace hP := Lib.hid (hk'.blk hP.out (by decide)))
        (try replace hR := Lib.hid (hk'.blk hR.out (by decide)))
        replace hG := Lib.hid (hG.out.trans hk')
        replace hb := Lib.hid (Nat.le_trans hb0.out hG.out.size)
        clear hk'
        (try clear d0P); (try clear d1P); (try clear l0P); (try clear f0P); (try clear f1P)
        have d0P : w9.cell? ⟨gP, 0, none⟩ = _ := hP.out.cell 0
        have d1P : w9.cell? ⟨gP, 1, none⟩ = _ := hP.out.cell 1
        have f0P := hP.out.frozen 0
        have f1P := hP.out.frozen 1
        have l0P := hP.out.lt
        (try clear d0R); (try clear d1R); (try clear l0R); (try clear f0R); (try clear f1R)
        have d0R : w9.cell? ⟨gR, 0, none⟩ = _ := hR.out.cell 0
        have d1R : w9.cell? ⟨gR, 1, none⟩ = _ := hR.out.cell 1
        have f0R := hR.out.frozen 0
        have f1R := hR.out.frozen 1
        have l0R := hR.out.lt
        go_wp2
        clear d0P d1P f0P f1P l0P
        clear d0R d1R f0R f1R l0R
        clear hP hX
        have hBz := hR.out.set_ 0 (.int .i64 (N : Int))
        have hBy := hBz.set_ 1 (.int .i64 ((N : Int) + 1))
        have hke := (hG.out.setNew (g := gR) (i := 0) hgr.out hb0.out (.int .i64 (N : Int))).setNew (g := gR) (i := 1) hgr.out hb0.out (.int .i64 ((N : Int) + 1))
        have hBf := (h.out.far hR.out (by decide) (grownBy_cell w9 ⟨gR, 0, none⟩ (.int .i64 (N : Int)))).far hBz (by decide) (grownBy_cell _ ⟨gR, 1, none⟩ (.int .i64 ((N : Int) + 1)))
        clear hR hG h hBz
        generalize (w9.setCell ⟨gR, 0, none⟩ (.int .i64 (N : Int))).setCell ⟨gR, 1, none⟩ (.int .i64 ((N : Int) + 1)) = w7 at *
        have e0 : w7.cell? ⟨gR, 0, none⟩ = some (.int .i64 (N : Int)) := hBy.cell 0
        have e1 : w7.cell? ⟨gR, 1, none⟩ = some (.int .i64 ((N : Int) + 1)) := hBy.cell 1
        refine bodyPost_ret (v := partV (N, N + 1)) ?_ rfl ⟨?_, ?_⟩
        · simp [partV, results, Tryz.results182, go_sem, e0, e1]
        · rw [htp2.out]
        · rw [htp2.out]; exact ⟨_, _, hBf, hke⟩
      · have htp2 : timesP s b (x1, x2) = (freeP N (N + 1) b7, (N, N + 1)) := htp.out
        replace htp2 := Lib.hid htp2
        clear htp
        (try clear d0P); (try clear d1P); (try clear l0P); (try clear f0P); (try clear f1P)
        have d0P : w7.cell? ⟨gP, 0, none⟩ = _ := hP.out.cell 0
        have d1P : w7.cell? ⟨gP, 1, none⟩ = _ := hP.out.cell 1
        have f0P := hP.out.frozen 0
        have f1P := hP.out.frozen 1
        have l0P := hP.out.lt
        go_wp2_with fail
        refine (free_any (i := N) (j := N + 1) h.out hb.out (by omega) (by omega)).mono ?_
        rintro e w9 ⟨rfl, xs8, h', hk'⟩
        clear d0P d1P f0P f1P l0P
        replace h := Lib.hid h'
        clear h'
        (try replace hX := Lib.hid (hk'.blk hX.out (by decide)))
        (try replace hP := Lib.hid (hk'.blk hP.out (by decide)))
        (try replace hR := Lib.hid (hk'.blk hR.out (by decide)))
        replace hG := Lib.hid (hG.out.trans hk')
        replace hb := Lib.hid (Nat.le_trans hb0.out hG.out.size)
        clear hk'
        (try clear d0P); (try clear d1P); (try clear l0P); (try clear f0P); (try clear f1P)
        have d0P : w9.cell? ⟨gP, 0, none⟩ = _ := hP.out.cell 0
        have d1P : w9.cell? ⟨gP, 1, none⟩ = _ := hP.out.cell 1
        have f0P := hP.out.frozen 0
        have f1P := hP.out.frozen 1
        have l0P := hP.out.lt
        (try clear d0R); (try clear d1R); (try clear l0R); (try clear f0R); (try clear f1R)
        have d0R : w9.cell? ⟨gR, 0, none⟩ = _ := hR.out.cell 0
        have d1R : w9.cell? ⟨gR, 1, none⟩ = _ := hR.out.cell 1
        have f0R := hR.out.frozen 0
        have f1R := hR.out.frozen 1
        have l0R := hR.out.lt
        go_wp2
        clear d0P d1P f0P f1P l0P
        clear d0R d1R f0R f1R l0R
        clear hP hX
        have hBz := hR.out.set_ 0 (.int .i64 (N : Int))
        have hBy := hBz.set_ 1 (.int .i64 ((N : Int) + 1))
        have hke := (hG.out.setNew (g := gR) (i := 0) hgr.out hb0.out (.int .i64 (N : Int))).setNew (g := gR) (i := 1) hgr.out hb0.out (.int .i64 ((N : Int) + 1))
        have hBf := (h.out.far hR.out (by decide) (grownBy_cell w9 ⟨gR, 0, none⟩ (.int .i64 (N : Int)))).far hBz (by decide) (grownBy_cell _ ⟨gR, 1, none⟩ (.int .i64 ((N : Int) + 1)))
        clear hR hG h hBz
        generalize (w9.setCell ⟨gR, 0, none⟩ (.int .i64 (N : Int))).setCell ⟨gR, 1, none⟩ (.int .i64 ((N : Int) + 1)) = w7 at *
        have e0 : w7.cell? ⟨gR, 0, none⟩ = some (.int .i64 (N : Int)) := hBy.cell 0
        have e1 : w7.cell? ⟨gR, 1, none⟩ = some (.int .i64 ((N : Int) + 1)) := hBy.cell 1
        refine bodyPost_ret (v := partV (N, N + 1)) ?_ rfl ⟨?_, ?_⟩
        · simp [partV, results, Tryz.results182, go_sem, e0, e1]
        · rw [htp2.out]
        · rw [htp2.out]; exact ⟨_, _, hBf, hke⟩
    · have hidx : ¬ 0 ≤ Lib.indexByte [42, 43, 63] c := fun hh => hpo ((postB_idx c).1.2 hh)
      have cI := Lib.hid (fun W => idxPost_any W c)
      have htp : timesP s b (x1, x2) = (b, (x1, x2)) := by unfold timesP; rw [hp]; simp only [hpo]; rfl
      generalize Lib.indexByte [42, 43, 63] c = ki at *
      have hnki : ki < 0 := by omega
      rw [htp]
      clear hp htp hidx hpo
      unfold partV
      go_enter Tryz.func182, Tryz.ntmps182
      go_wp2_with fail
      refine (peek_any h.out).mono ?_
      rintro e w1 ⟨rfl, hgw1⟩
      replace h := Lib.hid (h.out.grows hgw1)
      replace hG := Lib.hid (hG.out.trans (TKeep.grows hgw1 hb.out))
      replace hb := Lib.hid (Nat.le_trans hb.out hgw1.size)
      (try replace hset := Lib.hid (hset.out.grows hgw1))
      (try replace hX := Lib.hid (hX.out.grows hgw1))
      (try replace hP := Lib.hid (hP.out.grows hgw1))
      (try replace hR := Lib.hid (hR.out.grows hgw1))
      clear hgw1
      rw [hpv]
      clear hpv
      go_wp2_with fail
      refine (cI.out _).mono ?_
      rintro e wI ⟨rfl, hwI⟩
      replace hwI := hwI.symm
      subst hwI
      generalize w.heap.size = gX at *
      generalize gX + 1 = gR at *
      (try clear d0X); (try clear d1X); (try clear l0X); (try clear f0X); (try clear f1X)
      have d0X : w1.cell? ⟨gX, 0, none⟩ = _ := hX.out.cell 0
      have d1X : w1.cell? ⟨gX, 1, none⟩ = _ := hX.out.cell 1
      have f0X := hX.out.frozen 0
      have f1X := hX.out.frozen 1
      have l0X := hX.out.lt
      (try clear d0R); (try clear d1R); (try clear l0R); (try clear f0R); (try clear f1R)
      have d0R : w1.cell? ⟨gR, 0, none⟩ = _ := hR.out.cell 0
      have d1R : w1.cell? ⟨gR, 1, none⟩ = _ := hR.out.cell 1
      have f0R := hR.out.frozen 0
      have f1R := hR.out.frozen 1
      have l0R := hR.out.lt
      go_wp2
      clear d0X d1X f0X f1X l0X
      clear d0R d1R f0R f1R l0R
      have hBz := hR.out.set_ 0 (.int .i64 (x1 : Int))
      have hBy := hBz.set_ 1 (.int .i64 (x2 : Int))
      have hke := (hG.out.setNew (g := gR) (i := 0) hgr.out hb0.out (.int .i64 (x1 : Int))).setNew (g := gR) (i := 1) hgr.out hb0.out (.int .i64 (x2 : Int))
      have hBf := (h.out.far hR.out (by decide) (grownBy_cell w1 ⟨gR, 0, none⟩ (.int .i64 (x1 : Int)))).far hBz (by decide) (grownBy_cell _ ⟨gR, 1, none⟩ (.int .i64 (x2 : Int)))
      clear hR hG h hBz
      generalize (w1.setCell ⟨gR, 0, none⟩ (.int .i64 (x1 : Int))).setCell ⟨gR, 1, none⟩ (.int .i64 (x2 : Int)) = w7 at *
      have e0 : w7.cell? ⟨gR, 0, none⟩ = some (.int .i64 (x1 : Int)) := hBy.cell 0
      have e1 : w7.cell? ⟨gR, 1, none⟩ = some (.int .i64 (x2 : Int)) := hBy.cell 1
      refine bodyPost_ret (v := partV (x1, x2)) ?_ rfl ⟨?_, ?_⟩
      · simp [partV, results, Tryz.results182, go_sem, e0, e1]
      · rfl
      · exact ⟨_, _, hBf, hke⟩
end Go.Proofs.YtfoffneipdkdjaaGreatDoor
namespace Go.Proofs.YtfoffneipdkdjaaGreatDoor
open Go.RowKit

def TS : List TypeId := 242 :: TB
def PartPostS (base gB : Nat) (s : List UInt8) (w : World) (r : PB × PPt) (e : Ending) (w' : World) : Prop :=
  e = .returned (partV r.2) ∧ ∃ xs' sv', BAt w' base gB s r.1 xs' sv' ∧ TKeep TS base w w'
/-- What reads alternatives within, in the program. -/
def SubOK (s : List UInt8) (sub : Option (PB → PB × PPt)) (dp : Nat) : Prop :=
  (sub = none → dp = 8) ∧ ∀ f, sub = some f → dp < 8 ∧ ∀ (w : World) (base gB : Nat) (b : PB) (xs : List StX) (sv : Value), BAt w base gB s b xs sv → base ≤ w.heap.size → b.at_ ≤ s.length → costP b ≤ 8 * b.at_ + 53 →
    Calls Tryz.prog 160 #[.pointer (some ⟨gB, 0, none⟩), .int .i64 ((dp : Int) + 1)] w (PartPostS base gB s w (f b))
theorem idxByte_mem : ∀ (l : List UInt8) (c : UInt8), -1 ≤ Lib.indexByte l c ∧ (0 ≤ Lib.indexByte l c ↔ c ∈ l)
  | [], c => by simp [Lib.indexByte]
  | b :: l, c => by
    have ih := idxByte_mem l c
    unfold Lib.indexByte
    by_cases h : b = c
    · subst h; simp
    · have hb : (b == c) = false := by simpa using h
      rw [hb]
      simp only [Bool.false_eq_true, if_false, List.mem_cons, Ne.symm h, false_or]
      by_cases h1 : Lib.indexByte l c = -1
      · rw [if_pos (by simp [h1])]
        rw [h1] at ih
        exact ⟨by omega, ih.2⟩
      · rw [if_neg (by simpa using h1)]
        refine ⟨by omega, ?_⟩
        rw [← ih.2]
        omega
theorem oddB_idx (c : UInt8) : oddB c = true ↔ 0 ≤ Lib.indexByte [42, 43, 63, 124, 40, 41, 91, 93, 92, 46] c := by
  rw [(idxByte_mem _ c).2, oddB, decide_eq_true_eq]
theorem idxOdd_any (W : World) (c : UInt8) : Calls Tryz.prog 187 #[.string { data := #[42, 43, 63, 124, 40, 41, 91, 93, 92, 46] }, .int .u8 (c.toNat : Int)] W fun e w' => e = .returned (.int .i64 (Lib.indexByte [42, 43, 63, 124, 40, 41, 91, 93, 92, 46] c)) ∧ w' = W := by
  have := Any.strings_IndexByte Tryz.lays137 { data := #[42, 43, 63, 124, 40, 41, 91, 93, 92, 46] } (c.toNat : Int) W
  rw [show (c.toNat : Int).toNat.toUInt8 = c by simp] at this
  exact this
theorem BAt.fresh {w : World} {base gB : Nat} {s : List UInt8} {b : PB} {xs : List StX} {sv : Value} (h : BAt w base gB s b xs sv) : ∀ x ∈ xs, x.pv ≠ .pointer (some ⟨w.heap.size, 0, none⟩) := by
  intro x hx e
  obtain ⟨i, hi, rfl⟩ := List.mem_iff_getElem.1 hx
  have hi2 : i < b.sts.length := by rw [← h.len]; exact hi
  obtain ⟨_, a2, _⟩ := h.st i xs[i] _ (List.getElem?_eq_getElem hi) (List.getElem?_eq_getElem hi2)
  generalize b.sts[i].set = o at *
  cases o with
  | none => rw [a2] at e; cases e
  | some ws =>
    obtain ⟨g, e1, e2, e3⟩ := a2
    rw [e1] at e
    injection e with e
    injection e with e
    injection e with e
    have := e3.1.lt
    omega
set_option maxRecDepth 100000 in
set_option maxHeartbeats 3200000 in
theorem atom_none {w : World} {base gB dp : Nat} {s : List UInt8} {b : PB} {c : UInt8} {sub : Option (PB → PB × PPt)} {xs : List StX} {sv : Value} (hsub : SubOK s sub dp) (hsp : SubP s 11 sub) (h : BAt w base gB s b xs sv) (hb : base ≤ w.heap.size) (hsl : s.length ≤ 100) (hcs : s[b.at_]? = some c) (hc : costP b ≤ 8 * b.at_ + 61) (h40 : c = 40) (hsb : sub = none) :
    Calls Tryz.prog 183 #[.pointer (some ⟨gB, 0, none⟩), .int .i64 (dp : Int)] w (PartPostS base gB s w (atomP s sub c b)) := by
  have i40 : (c.toNat : Int) = 40 := by rw [h40]; rfl
  obtain rfl := hsub.1 hsb
  subst hsb
  have hl256 : c.toNat < 256 := c.toNat_lt
  have hcl := Lib.hid (costP_len b)
  have hal : Hid ((advP b).at_ ≤ s.length) := Lib.hid (by have := (List.getElem?_eq_some_iff.1 hcs).1; simp only [advP]; omega)
  have hat : Hid (atomP s none c b = oneP zeroW (failP 3 (advP b))) := Lib.hid (by unfold atomP; rw [if_pos h40])
  clear h40 hsp hsub
  have hlt : b.at_ < s.length := (List.getElem?_eq_some_iff.1 hcs).1
  have hTC : Hid (∀ t ∈ [211], t ∈ TS) := Lib.hid (by intro t ht; simp [TS, TB] at *; exact .inr (.inl ht))
  have hTS : Hid (∀ t ∈ TB, t ∈ TS) := Lib.hid (fun t ht => List.mem_cons_of_mem _ ht)
  have hTK : Hid (∀ t ∈ TC, t ∈ TS) := Lib.hid (by intro t ht; simp [TS, TB, TC] at *; rcases ht with h | h; exact .inr (.inl h); exact .inl h)
  have hR := Blk.new w 213 #[.int .i64 0, .int .i64 0]
  have hg1 : Grows w (w.alloc (.cells #[.int .i64 0, .int .i64 0] 213)) := (Grows.refl _).alloc _
  replace hR := Lib.hid hR
  have hG := Lib.hid (TKeep.grows (T := TS) hg1 hb)
  replace h := Lib.hid (h.grows hg1)
  have hb0 : Hid (BLe base w) := Lib.hid hb
  replace hb := Lib.hid (Nat.le_trans hb hg1.size)
  have hgr : Hid (GLe w w.heap.size) := Lib.hid (Nat.le_refl _)
  have hci : ((b.at_ : Nat) : Int) < (s.length : Int) := by omega
  have hbx : ∀ h : b.at_ < (⟨s.toArray⟩ : ByteArray).size, (⟨s.toArray⟩ : ByteArray)[b.at_]'h = c := fun h => by
    show s.toArray[b.at_] = c
    rw [List.getElem_toArray]
    exact (List.getElem?_eq_some_iff.1 hcs).2
  have c0 : ∀ w', BAt w' base gB s b xs sv → w'.cell? ⟨gB, 0, none⟩ = some (.string ⟨s.toArray⟩) := fun w' hh => (hh.blk.cell 0).trans rfl
  have c1 : ∀ w', BAt w' base gB s b xs sv → w'.cell? ⟨gB, 1, none⟩ = some (.int .i64 (b.at_ : Int)) := fun w' hh => (hh.blk.cell 1).trans rfl
  replace c0 := c0 _ h.out
  replace c1 := c1 _ h.out
  have l1 := h.out.blk.lt
  clear hg1
  go_enter Tryz.func183, Tryz.ntmps183
  go_wp2_with fail
  generalize w.alloc (.cells #[.int .i64 0, .int .i64 0] 213) = w0 at *
  generalize w.heap.size = gR at *
  refine wp_region_k (by kernel_rfl) ?_
  refine wpAnyK_run (l' := #[true, true, true, true, true, true, true, true, true, true]) [0, 1, 2, 3, 4, 5, 6, 7, 8, 9] 0 up_grows (by kernel_rfl) (by intro c a d v w h; first | (cases d <;> exact h) | exact hQ0 _ _ _ _ _ h) rfl (by kernel_rfl) (by kernel_rfl) ?_
  iterate 10 (refine wpMixC_q rfl (fun K hK => ?_); go_simp; (try go_bits); first | (refine hK.out _ ?_; clear hK K) | (apply Exists.intro; refine ⟨fun wq hsq => ?_, hK.out _ ?_⟩; (first | (go_simp; done) | ((try go_simp); (try simp only [↓IntWalk.iteOmega]); (try go_bits); rfl) | (obtain ⟨hcq, hfq⟩ := bcells hsq; go_simp; done) | (obtain ⟨hcq, hfq⟩ := bcells hsq; (try go_simp); (try simp only [↓IntWalk.iteOmega]); (try go_bits); rfl)); clear hK K))
  refine wpMixC_nil ?_
  refine wpAnyK_end (by kernel_rfl) (fun wN hN hS => ?_)
  clear c0 c1 l1
  replace hR := Lib.hid (hR.out.grows hN)
  replace h := Lib.hid (h.out.grows hN)
  replace hG := Lib.hid (hG.out.trans (TKeep.grows hN hb.out))
  replace hb := Lib.hid (Nat.le_trans hb.out hN.size)
  clear hN hS
  have c1 : wN.cell? ⟨gB, 1, none⟩ = some (.int .i64 ((b).at_ : Int)) := (h.out.blk.cell 1).trans rfl
  have f1 := h.out.blk.frozen 1
  have l1 := h.out.blk.lt
  have i1 : -9223372036854775808 ≤ ((b).at_ : Int) + 1 ∧ ((b).at_ : Int) + 1 ≤ 9223372036854775807 := by first | omega | (simp only [advP]; omega)
  have hA := Lib.hid h.out.adv
  have hGA := Lib.hid (hG.out.trans ((TKeep.own h.out (grownBy_cell wN ⟨gB, 1, none⟩ (.int .i64 (((b).at_ : Int) + 1)))).mono hTC.out))
  have hsz : Hid ((wN.setCell ⟨gB, 1, none⟩ (.int .i64 (((b).at_ : Int) + 1))).heap.size = wN.heap.size) := Lib.hid (by simp)
  go_wp2_with fail
  (try replace hset := Lib.hid (hset.out.tk (TKeep.own h.out (grownBy_cell wN ⟨gB, 1, none⟩ (.int .i64 (((b).at_ : Int) + 1)))) (by decide)))
  (try replace hX := Lib.hid ((TKeep.own h.out (grownBy_cell wN ⟨gB, 1, none⟩ (.int .i64 (((b).at_ : Int) + 1)))).blk hX.out (by decide)))
  (try replace hP := Lib.hid ((TKeep.own h.out (grownBy_cell wN ⟨gB, 1, none⟩ (.int .i64 (((b).at_ : Int) + 1)))).blk hP.out (by decide)))
  (try replace hR := Lib.hid ((TKeep.own h.out (grownBy_cell wN ⟨gB, 1, none⟩ (.int .i64 (((b).at_ : Int) + 1)))).blk hR.out (by decide)))
  clear c1 f1 l1 i1 h hG
  generalize wN.setCell ⟨gB, 1, none⟩ (.int .i64 (((b).at_ : Int) + 1)) = w2 at *
  have h := hA
  have hG := hGA
  clear hA hGA
  replace hb := Lib.hid (Nat.le_trans hb0.out hG.out.size)
  -- the set has been made in the block behind w2
  have hset : Hid (SetAt (w2.alloc (.cells #[.int .u64 0, .int .u64 0, .int .u64 0, .int .u64 0] 242)) w2.heap.size zeroW) := Lib.hid ⟨Blk.new w2 _ _, rfl, by intro x hx; simp [zeroW] at hx; omega⟩
  have hgw : Grows w2 (w2.alloc (.cells #[.int .u64 0, .int .u64 0, .int .u64 0, .int .u64 0] 242)) := (Grows.refl _).alloc _
  have hfr := Lib.hid h.out.fresh
  have hgS := hb
  replace hR := Lib.hid (hR.out.grows hgw)
  replace h := Lib.hid (h.out.grows hgw)
  replace hG := Lib.hid (hG.out.trans (TKeep.grows hgw hb.out))
  replace hb : Hid (base ≤ (w2.alloc (.cells #[.int .u64 0, .int .u64 0, .int .u64 0, .int .u64 0] 242)).heap.size) := Lib.hid (Nat.le_trans hb.out hgw.size)
  clear hgw
  generalize w2.alloc (.cells #[.int .u64 0, .int .u64 0, .int .u64 0, .int .u64 0] 242) = w3 at *
  rw [hsz.out] at hset hfr hgS
  clear hsz
  generalize wN.heap.size = gS at *
  refine (fail_any2 h.out).mono ?_
  rintro e w4 ⟨rfl, hBw4, hgw4⟩
  (try replace hset := Lib.hid (hset.out.tk (TKeep.own h.out hgw4) (by decide)))
  (try replace hX := Lib.hid ((TKeep.own h.out hgw4).blk hX.out (by decide)))
  (try replace hP := Lib.hid ((TKeep.own h.out hgw4).blk hP.out (by decide)))
  (try replace hR := Lib.hid ((TKeep.own h.out hgw4).blk hR.out (by decide)))
  replace hG := Lib.hid (hG.out.trans ((TKeep.own h.out hgw4).mono hTC.out))
  replace h := Lib.hid hBw4
  replace hb := Lib.hid (Nat.le_trans hb0.out hG.out.size)
  clear hBw4 hgw4
  go_wp2_with fail
  refine (one_any h.out hset.out hgS.out hb.out (by rw [failP_sts]; have := hcl.out; simp only [advP]; omega)).mono ?_
  rintro e wE ⟨rfl, xsE, svE, h', hk'⟩
  replace h := Lib.hid h'
  (try replace hX := Lib.hid ((hk'.mono hTS.out).blk hX.out (by decide)))
  (try replace hP := Lib.hid ((hk'.mono hTS.out).blk hP.out (by decide)))
  (try replace hR := Lib.hid ((hk'.mono hTS.out).blk hR.out (by decide)))
  replace hG := Lib.hid (hG.out.trans (hk'.mono hTS.out))
  replace hb := Lib.hid (Nat.le_trans hb0.out hG.out.size)
  clear h' hk' hset
  generalize hr : oneP zeroW (failP 3 (advP b)) = r at *
  obtain ⟨rb, p1, p2⟩ := r
  simp only [partV]
  (try clear d0R); (try clear d1R); (try clear l0R); (try clear f0R); (try clear f1R)
  have d0R : wE.cell? ⟨gR, 0, none⟩ = _ := hR.out.cell 0
  have d1R : wE.cell? ⟨gR, 1, none⟩ = _ := hR.out.cell 1
  have f0R := hR.out.frozen 0
  have f1R := hR.out.frozen 1
  have l0R := hR.out.lt
  go_wp2
  clear d0R d1R f0R f1R l0R
  have hBz := hR.out.set_ 0 (.int .i64 (p1 : Int))
  have hBy := hBz.set_ 1 (.int .i64 (p2 : Int))
  have hke := (hG.out.setNew (g := gR) (i := 0) hgr.out hb0.out (.int .i64 (p1 : Int))).setNew (g := gR) (i := 1) hgr.out hb0.out (.int .i64 (p2 : Int))
  have hBf := (h.out.far hR.out (by decide) (grownBy_cell wE ⟨gR, 0, none⟩ (.int .i64 (p1 : Int)))).far hBz (by decide) (grownBy_cell _ ⟨gR, 1, none⟩ (.int .i64 (p2 : Int)))
  clear hR hG h hBz
  generalize (wE.setCell ⟨gR, 0, none⟩ (.int .i64 (p1 : Int))).setCell ⟨gR, 1, none⟩ (.int .i64 (p2 : Int)) = w7 at *
  have e0 : w7.cell? ⟨gR, 0, none⟩ = some (.int .i64 (p1 : Int)) := hBy.cell 0
  have e1 : w7.cell? ⟨gR, 1, none⟩ = some (.int .i64 (p2 : Int)) := hBy.cell 1
  refine bodyPost_ret (v := partV (p1, p2)) ?_ rfl ⟨?_, ?_⟩
  · simp [partV, results, Tryz.results183, go_sem, e0, e1]
  · rw [hat.out]
  · rw [hat.out]; exact ⟨_, _, hBf, hke⟩
end Go.Proofs.YtfoffneipdkdjaaGreatDoor
namespace Go.Proofs.YtfoffneipdkdjaaGreatDoor
open Go.RowKit

set_option maxRecDepth 100000 in
set_option maxHeartbeats 3200000 in
theorem atom_class {w : World} {base gB dp : Nat} {s : List UInt8} {b : PB} {c : UInt8} {sub : Option (PB → PB × PPt)} {xs : List StX} {sv : Value} (h : BAt w base gB s b xs sv) (hb : base ≤ w.heap.size) (hsl : s.length ≤ 100) (hcs : s[b.at_]? = some c) (hc : costP b ≤ 8 * b.at_ + 61) (h40 : ¬ c = 40) (h91 : c = 91) :
    Calls Tryz.prog 183 #[.pointer (some ⟨gB, 0, none⟩), .int .i64 (dp : Int)] w (PartPostS base gB s w (atomP s sub c b)) := by
  have i40 : ¬ (c.toNat : Int) = 40 := fun e => h40 (UInt8.toNat_inj.1 (by show c.toNat = 40; omega))
  have i91 : (c.toNat : Int) = 91 := by rw [h91]; rfl
  have hl256 : c.toNat < 256 := c.toNat_lt
  have hcl := Lib.hid (costP_len b)
  have hal : Hid ((advP b).at_ ≤ s.length) := Lib.hid (by have := (List.getElem?_eq_some_iff.1 hcs).1; simp only [advP]; omega)
  have hat : Hid (atomP s sub c b = oneP (classP s (advP b)).2 (classP s (advP b)).1) := Lib.hid (by unfold atomP; rw [if_neg h40, if_pos h91])
  clear h40 h91
  have hlt : b.at_ < s.length := (List.getElem?_eq_some_iff.1 hcs).1
  have hTC : Hid (∀ t ∈ [211], t ∈ TS) := Lib.hid (by intro t ht; simp [TS, TB] at *; exact .inr (.inl ht))
  have hTS : Hid (∀ t ∈ TB, t ∈ TS) := Lib.hid (fun t ht => List.mem_cons_of_mem _ ht)
  have hTK : Hid (∀ t ∈ TC, t ∈ TS) := Lib.hid (by intro t ht; simp [TS, TB, TC] at *; rcases ht with h | h; exact .inr (.inl h); exact .inl h)
  have hR := Blk.new w 213 #[.int .i64 0, .int .i64 0]
  have hg1 : Grows w (w.alloc (.cells #[.int .i64 0, .int .i64 0] 213)) := (Grows.refl _).alloc _
  replace hR := Lib.hid hR
  have hG := Lib.hid (TKeep.grows (T := TS) hg1 hb)
  replace h := Lib.hid (h.grows hg1)
  have hb0 : Hid (BLe base w) := Lib.hid hb
  replace hb := Lib.hid (Nat.le_trans hb hg1.size)
  have hgr : Hid (GLe w w.heap.size) := Lib.hid (Nat.le_refl _)
  have hci : ((b.at_ : Nat) : Int) < (s.length : Int) := by omega
  have hbx : ∀ h : b.at_ < (⟨s.toArray⟩ : ByteArray).size, (⟨s.toArray⟩ : ByteArray)[b.at_]'h = c := fun h => by
    show s.toArray[b.at_] = c
    rw [List.getElem_toArray]
    exact (List.getElem?_eq_some_iff.1 hcs).2
  have c0 : ∀ w', BAt w' base gB s b xs sv → w'.cell? ⟨gB, 0, none⟩ = some (.string ⟨s.toArray⟩) := fun w' hh => (hh.blk.cell 0).trans rfl
  have c1 : ∀ w', BAt w' base gB s b xs sv → w'.cell? ⟨gB, 1, none⟩ = some (.int .i64 (b.at_ : Int)) := fun w' hh => (hh.blk.cell 1).trans rfl
  replace c0 := c0 _ h.out
  replace c1 := c1 _ h.out
  have l1 := h.out.blk.lt
  clear hg1
  go_enter Tryz.func183, Tryz.ntmps183
  go_wp2_with fail
  generalize w.alloc (.cells #[.int .i64 0, .int .i64 0] 213) = w0 at *
  generalize w.heap.size = gR at *
  refine wp_region_k (by kernel_rfl) ?_
  refine wpAnyK_run (l' := #[true, true, true, true, true, true, true, true, true, true]) [0, 1, 2, 3, 4, 5, 6, 7, 8, 9] 0 up_grows (by kernel_rfl) (by intro c a d v w h; first | (cases d <;> exact h) | exact hQ0 _ _ _ _ _ h) rfl (by kernel_rfl) (by kernel_rfl) ?_
  iterate 10 (refine wpMixC_q rfl (fun K hK => ?_); go_simp; (try go_bits); first | (refine hK.out _ ?_; clear hK K) | (apply Exists.intro; refine ⟨fun wq hsq => ?_, hK.out _ ?_⟩; (first | (go_simp; done) | ((try go_simp); (try simp only [↓IntWalk.iteOmega]); (try go_bits); rfl) | (obtain ⟨hcq, hfq⟩ := bcells hsq; go_simp; done) | (obtain ⟨hcq, hfq⟩ := bcells hsq; (try go_simp); (try simp only [↓IntWalk.iteOmega]); (try go_bits); rfl)); clear hK K))
  refine wpMixC_nil ?_
  refine wpAnyK_end (by kernel_rfl) (fun wN hN hS => ?_)
  clear c0 c1 l1
  replace hR := Lib.hid (hR.out.grows hN)
  replace h := Lib.hid (h.out.grows hN)
  replace hG := Lib.hid (hG.out.trans (TKeep.grows hN hb.out))
  replace hb := Lib.hid (Nat.le_trans hb.out hN.size)
  clear hN hS
  have c1 : wN.cell? ⟨gB, 1, none⟩ = some (.int .i64 ((b).at_ : Int)) := (h.out.blk.cell 1).trans rfl
  have f1 := h.out.blk.frozen 1
  have l1 := h.out.blk.lt
  have i1 : -9223372036854775808 ≤ ((b).at_ : Int) + 1 ∧ ((b).at_ : Int) + 1 ≤ 9223372036854775807 := by first | omega | (simp only [advP]; omega)
  have hA := Lib.hid h.out.adv
  have hGA := Lib.hid (hG.out.trans ((TKeep.own h.out (grownBy_cell wN ⟨gB, 1, none⟩ (.int .i64 (((b).at_ : Int) + 1)))).mono hTC.out))
  have hsz : Hid ((wN.setCell ⟨gB, 1, none⟩ (.int .i64 (((b).at_ : Int) + 1))).heap.size = wN.heap.size) := Lib.hid (by simp)
  go_wp2_with fail
  (try replace hset := Lib.hid (hset.out.tk (TKeep.own h.out (grownBy_cell wN ⟨gB, 1, none⟩ (.int .i64 (((b).at_ : Int) + 1)))) (by decide)))
  (try replace hX := Lib.hid ((TKeep.own h.out (grownBy_cell wN ⟨gB, 1, none⟩ (.int .i64 (((b).at_ : Int) + 1)))).blk hX.out (by decide)))
  (try replace hP := Lib.hid ((TKeep.own h.out (grownBy_cell wN ⟨gB, 1, none⟩ (.int .i64 (((b).at_ : Int) + 1)))).blk hP.out (by decide)))
  (try replace hR := Lib.hid ((TKeep.own h.out (grownBy_cell wN ⟨gB, 1, none⟩ (.int .i64 (((b).at_ : Int) + 1)))).blk hR.out (by decide)))
  clear c1 f1 l1 i1 h hG
  generalize wN.setCell ⟨gB, 1, none⟩ (.int .i64 (((b).at_ : Int) + 1)) = w2 at *
  have h := hA
  have hG := hGA
  clear hA hGA
  replace hb := Lib.hid (Nat.le_trans hb0.out hG.out.size)
  -- the set has been made in the block behind w2
  have hset : Hid (SetAt (w2.alloc (.cells #[.int .u64 0, .int .u64 0, .int .u64 0, .int .u64 0] 242)) w2.heap.size zeroW) := Lib.hid ⟨Blk.new w2 _ _, rfl, by intro x hx; simp [zeroW] at hx; omega⟩
  have hgw : Grows w2 (w2.alloc (.cells #[.int .u64 0, .int .u64 0, .int .u64 0, .int .u64 0] 242)) := (Grows.refl _).alloc _
  have hfr := Lib.hid h.out.fresh
  have hgS := hb
  replace hR := Lib.hid (hR.out.grows hgw)
  replace h := Lib.hid (h.out.grows hgw)
  replace hG := Lib.hid (hG.out.trans (TKeep.grows hgw hb.out))
  replace hb : Hid (base ≤ (w2.alloc (.cells #[.int .u64 0, .int .u64 0, .int .u64 0, .int .u64 0] 242)).heap.size) := Lib.hid (Nat.le_trans hb.out hgw.size)
  clear hgw
  generalize w2.alloc (.cells #[.int .u64 0, .int .u64 0, .int .u64 0, .int .u64 0] 242) = w3 at *
  rw [hsz.out] at hset hfr hgS
  clear hsz
  generalize wN.heap.size = gS at *
  refine (class_any h.out hset.out hgS.out hfr.out hb.out hsl hal.out).mono ?_
  rintro e w4 ⟨rfl, h', hs', hk'⟩
  replace h := Lib.hid h'
  (try replace hX := Lib.hid ((hk'.mono hTK.out).blk hX.out (by decide)))
  (try replace hP := Lib.hid ((hk'.mono hTK.out).blk hP.out (by decide)))
  (try replace hR := Lib.hid ((hk'.mono hTK.out).blk hR.out (by decide)))
  replace hG := Lib.hid (hG.out.trans (hk'.mono hTK.out))
  replace hb := Lib.hid (Nat.le_trans hb0.out hG.out.size)
  replace hset := Lib.hid hs'
  clear h' hk' hs'
  have hcs := (classP_ok (s := s) (b := advP b) (WP.of_le hal.out)).2.2
  replace hcs := Lib.hid hcs
  go_wp2_with fail
  refine (one_any h.out hset.out hgS.out hb.out (by rw [hcs.out]; have := hcl.out; simp only [advP]; omega)).mono ?_
  rintro e wE ⟨rfl, xsE, svE, h', hk'⟩
  replace h := Lib.hid h'
  (try replace hX := Lib.hid ((hk'.mono hTS.out).blk hX.out (by decide)))
  (try replace hP := Lib.hid ((hk'.mono hTS.out).blk hP.out (by decide)))
  (try replace hR := Lib.hid ((hk'.mono hTS.out).blk hR.out (by decide)))
  replace hG := Lib.hid (hG.out.trans (hk'.mono hTS.out))
  replace hb := Lib.hid (Nat.le_trans hb0.out hG.out.size)
  clear h' hk' hset
  generalize hr : oneP (classP s (advP b)).2 (classP s (advP b)).1 = r at *
  obtain ⟨rb, p1, p2⟩ := r
  simp only [partV]
  (try clear d0R); (try clear d1R); (try clear l0R); (try clear f0R); (try clear f1R)
  have d0R : wE.cell? ⟨gR, 0, none⟩ = _ := hR.out.cell 0
  have d1R : wE.cell? ⟨gR, 1, none⟩ = _ := hR.out.cell 1
  have f0R := hR.out.frozen 0
  have f1R := hR.out.frozen 1
  have l0R := hR.out.lt
  go_wp2
  clear d0R d1R f0R f1R l0R
  have hBz := hR.out.set_ 0 (.int .i64 (p1 : Int))
  have hBy := hBz.set_ 1 (.int .i64 (p2 : Int))
  have hke := (hG.out.setNew (g := gR) (i := 0) hgr.out hb0.out (.int .i64 (p1 : Int))).setNew (g := gR) (i := 1) hgr.out hb0.out (.int .i64 (p2 : Int))
  have hBf := (h.out.far hR.out (by decide) (grownBy_cell wE ⟨gR, 0, none⟩ (.int .i64 (p1 : Int)))).far hBz (by decide) (grownBy_cell _ ⟨gR, 1, none⟩ (.int .i64 (p2 : Int)))
  clear hR hG h hBz
  generalize (wE.setCell ⟨gR, 0, none⟩ (.int .i64 (p1 : Int))).setCell ⟨gR, 1, none⟩ (.int .i64 (p2 : Int)) = w7 at *
  have e0 : w7.cell? ⟨gR, 0, none⟩ = some (.int .i64 (p1 : Int)) := hBy.cell 0
  have e1 : w7.cell? ⟨gR, 1, none⟩ = some (.int .i64 (p2 : Int)) := hBy.cell 1
  refine bodyPost_ret (v := partV (p1, p2)) ?_ rfl ⟨?_, ?_⟩
  · simp [partV, results, Tryz.results183, go_sem, e0, e1]
  · rw [hat.out]
  · rw [hat.out]; exact ⟨_, _, hBf, hke⟩
end Go.Proofs.YtfoffneipdkdjaaGreatDoor
namespace Go.Proofs.YtfoffneipdkdjaaGreatDoor
open Go.RowKit

set_option maxRecDepth 100000 in
set_option maxHeartbeats 3200000 in
theorem atom_dot {w : World} {base gB dp : Nat} {s : List UInt8} {b : PB} {c : UInt8} {sub : Option (PB → PB × PPt)} {xs : List StX} {sv : Value} (h : BAt w base gB s b xs sv) (hb : base ≤ w.heap.size) (hsl : s.length ≤ 100) (hcs : s[b.at_]? = some c) (hc : costP b ≤ 8 * b.at_ + 61) (h40 : ¬ c = 40) (h91 : ¬ c = 91) (h46 : c = 46) :
    Calls Tryz.prog 183 #[.pointer (some ⟨gB, 0, none⟩), .int .i64 (dp : Int)] w (PartPostS base gB s w (atomP s sub c b)) := by
  have i40 : ¬ (c.toNat : Int) = 40 := fun e => h40 (UInt8.toNat_inj.1 (by show c.toNat = 40; omega))
  have i91 : ¬ (c.toNat : Int) = 91 := fun e => h91 (UInt8.toNat_inj.1 (by show c.toNat = 91; omega))
  have i46 : (c.toNat : Int) = 46 := by rw [h46]; rfl
  have hl256 : c.toNat < 256 := c.toNat_lt
  have hcl := Lib.hid (costP_len b)
  have hal : Hid ((advP b).at_ ≤ s.length) := Lib.hid (by have := (List.getElem?_eq_some_iff.1 hcs).1; simp only [advP]; omega)
  have hat : Hid (atomP s sub c b = oneP (turnSet zeroW) (advP b)) := Lib.hid (by unfold atomP; rw [if_neg h40, if_neg h91, if_pos h46])
  clear h40 h91 h46
  have hlt : b.at_ < s.length := (List.getElem?_eq_some_iff.1 hcs).1
  have hTC : Hid (∀ t ∈ [211], t ∈ TS) := Lib.hid (by intro t ht; simp [TS, TB] at *; exact .inr (.inl ht))
  have hTS : Hid (∀ t ∈ TB, t ∈ TS) := Lib.hid (fun t ht => List.mem_cons_of_mem _ ht)
  have hTK : Hid (∀ t ∈ TC, t ∈ TS) := Lib.hid (by intro t ht; simp [TS, TB, TC] at *; rcases ht with h | h; exact .inr (.inl h); exact .inl h)
  have hR := Blk.new w 213 #[.int .i64 0, .int .i64 0]
  have hg1 : Grows w (w.alloc (.cells #[.int .i64 0, .int .i64 0] 213)) := (Grows.refl _).alloc _
  replace hR := Lib.hid hR
  have hG := Lib.hid (TKeep.grows (T := TS) hg1 hb)
  replace h := Lib.hid (h.grows hg1)
  have hb0 : Hid (BLe base w) := Lib.hid hb
  replace hb := Lib.hid (Nat.le_trans hb hg1.size)
  have hgr : Hid (GLe w w.heap.size) := Lib.hid (Nat.le_refl _)
  have hci : ((b.at_ : Nat) : Int) < (s.length : Int) := by omega
  have hbx : ∀ h : b.at_ < (⟨s.toArray⟩ : ByteArray).size, (⟨s.toArray⟩ : ByteArray)[b.at_]'h = c := fun h => by
    show s.toArray[b.at_] = c
    rw [List.getElem_toArray]
    exact (List.getElem?_eq_some_iff.1 hcs).2
  have c0 : ∀ w', BAt w' base gB s b xs sv → w'.cell? ⟨gB, 0, none⟩ = some (.string ⟨s.toArray⟩) := fun w' hh => (hh.blk.cell 0).trans rfl
  have c1 : ∀ w', BAt w' base gB s b xs sv → w'.cell? ⟨gB, 1, none⟩ = some (.int .i64 (b.at_ : Int)) := fun w' hh => (hh.blk.cell 1).trans rfl
  replace c0 := c0 _ h.out
  replace c1 := c1 _ h.out
  have l1 := h.out.blk.lt
  clear hg1
  go_enter Tryz.func183, Tryz.ntmps183
  go_wp2_with fail
  generalize w.alloc (.cells #[.int .i64 0, .int .i64 0] 213) = w0 at *
  generalize w.heap.size = gR at *
  refine wp_region_k (by kernel_rfl) ?_
  refine wpAnyK_run (l' := #[true, true, true, true, true, true, true, true, true, true]) [0, 1, 2, 3, 4, 5, 6, 7, 8, 9] 0 up_grows (by kernel_rfl) (by intro c a d v w h; first | (cases d <;> exact h) | exact hQ0 _ _ _ _ _ h) rfl (by kernel_rfl) (by kernel_rfl) ?_
  iterate 10 (refine wpMixC_q rfl (fun K hK => ?_); go_simp; (try go_bits); first | (refine hK.out _ ?_; clear hK K) | (apply Exists.intro; refine ⟨fun wq hsq => ?_, hK.out _ ?_⟩; (first | (go_simp; done) | ((try go_simp); (try simp only [↓IntWalk.iteOmega]); (try go_bits); rfl) | (obtain ⟨hcq, hfq⟩ := bcells hsq; go_simp; done) | (obtain ⟨hcq, hfq⟩ := bcells hsq; (try go_simp); (try simp only [↓IntWalk.iteOmega]); (try go_bits); rfl)); clear hK K))
  refine wpMixC_nil ?_
  refine wpAnyK_end (by kernel_rfl) (fun wN hN hS => ?_)
  clear c0 c1 l1
  replace hR := Lib.hid (hR.out.grows hN)
  replace h := Lib.hid (h.out.grows hN)
  replace hG := Lib.hid (hG.out.trans (TKeep.grows hN hb.out))
  replace hb := Lib.hid (Nat.le_trans hb.out hN.size)
  clear hN hS
  have c1 : wN.cell? ⟨gB, 1, none⟩ = some (.int .i64 ((b).at_ : Int)) := (h.out.blk.cell 1).trans rfl
  have f1 := h.out.blk.frozen 1
  have l1 := h.out.blk.lt
  have i1 : -9223372036854775808 ≤ ((b).at_ : Int) + 1 ∧ ((b).at_ : Int) + 1 ≤ 9223372036854775807 := by first | omega | (simp only [advP]; omega)
  have hA := Lib.hid h.out.adv
  have hGA := Lib.hid (hG.out.trans ((TKeep.own h.out (grownBy_cell wN ⟨gB, 1, none⟩ (.int .i64 (((b).at_ : Int) + 1)))).mono hTC.out))
  have hsz : Hid ((wN.setCell ⟨gB, 1, none⟩ (.int .i64 (((b).at_ : Int) + 1))).heap.size = wN.heap.size) := Lib.hid (by simp)
  go_wp2_with fail
  (try replace hset := Lib.hid (hset.out.tk (TKeep.own h.out (grownBy_cell wN ⟨gB, 1, none⟩ (.int .i64 (((b).at_ : Int) + 1)))) (by decide)))
  (try replace hX := Lib.hid ((TKeep.own h.out (grownBy_cell wN ⟨gB, 1, none⟩ (.int .i64 (((b).at_ : Int) + 1)))).blk hX.out (by decide)))
  (try replace hP := Lib.hid ((TKeep.own h.out (grownBy_cell wN ⟨gB, 1, none⟩ (.int .i64 (((b).at_ : Int) + 1)))).blk hP.out (by decide)))
  (try replace hR := Lib.hid ((TKeep.own h.out (grownBy_cell wN ⟨gB, 1, none⟩ (.int .i64 (((b).at_ : Int) + 1)))).blk hR.out (by decide)))
  clear c1 f1 l1 i1 h hG
  generalize wN.setCell ⟨gB, 1, none⟩ (.int .i64 (((b).at_ : Int) + 1)) = w2 at *
  have h := hA
  have hG := hGA
  clear hA hGA
  replace hb := Lib.hid (Nat.le_trans hb0.out hG.out.size)
  -- the set has been made in the block behind w2
  have hset : Hid (SetAt (w2.alloc (.cells #[.int .u64 0, .int .u64 0, .int .u64 0, .int .u64 0] 242)) w2.heap.size zeroW) := Lib.hid ⟨Blk.new w2 _ _, rfl, by intro x hx; simp [zeroW] at hx; omega⟩
  have hgw : Grows w2 (w2.alloc (.cells #[.int .u64 0, .int .u64 0, .int .u64 0, .int .u64 0] 242)) := (Grows.refl _).alloc _
  have hfr := Lib.hid h.out.fresh
  have hgS := hb
  replace hR := Lib.hid (hR.out.grows hgw)
  replace h := Lib.hid (h.out.grows hgw)
  replace hG := Lib.hid (hG.out.trans (TKeep.grows hgw hb.out))
  replace hb : Hid (base ≤ (w2.alloc (.cells #[.int .u64 0, .int .u64 0, .int .u64 0, .int .u64 0] 242)).heap.size) := Lib.hid (Nat.le_trans hb.out hgw.size)
  clear hgw
  generalize w2.alloc (.cells #[.int .u64 0, .int .u64 0, .int .u64 0, .int .u64 0] 242) = w3 at *
  rw [hsz.out] at hset hfr hgS
  clear hsz
  generalize wN.heap.size = gS at *
  refine (turnSet_any hset.out).mono ?_
  rintro e w4 ⟨rfl, hs9, hg9⟩
  replace h := Lib.hid (h.out.setOff hset.out hfr.out hg9)
  replace hR := Lib.hid ((TKeep.set hset.out hgS.out hg9).blk hR.out (by decide))
  replace hG := Lib.hid (hG.out.trans ((TKeep.set hset.out hgS.out hg9).mono hTK.out))
  replace hb := Lib.hid (Nat.le_trans hb0.out hG.out.size)
  replace hset := Lib.hid hs9
  clear hs9 hg9
  go_wp2_with fail
  refine (one_any h.out hset.out hgS.out hb.out (by have := hcl.out; simp only [advP]; omega)).mono ?_
  rintro e wE ⟨rfl, xsE, svE, h', hk'⟩
  replace h := Lib.hid h'
  (try replace hX := Lib.hid ((hk'.mono hTS.out).blk hX.out (by decide)))
  (try replace hP := Lib.hid ((hk'.mono hTS.out).blk hP.out (by decide)))
  (try replace hR := Lib.hid ((hk'.mono hTS.out).blk hR.out (by decide)))
  replace hG := Lib.hid (hG.out.trans (hk'.mono hTS.out))
  replace hb := Lib.hid (Nat.le_trans hb0.out hG.out.size)
  clear h' hk' hset
  generalize hr : oneP (turnSet zeroW) (advP b) = r at *
  obtain ⟨rb, p1, p2⟩ := r
  simp only [partV]
  (try clear d0R); (try clear d1R); (try clear l0R); (try clear f0R); (try clear f1R)
  have d0R : wE.cell? ⟨gR, 0, none⟩ = _ := hR.out.cell 0
  have d1R : wE.cell? ⟨gR, 1, none⟩ = _ := hR.out.cell 1
  have f0R := hR.out.frozen 0
  have f1R := hR.out.frozen 1
  have l0R := hR.out.lt
  go_wp2
  clear d0R d1R f0R f1R l0R
  have hBz := hR.out.set_ 0 (.int .i64 (p1 : Int))
  have hBy := hBz.set_ 1 (.int .i64 (p2 : Int))
  have hke := (hG.out.setNew (g := gR) (i := 0) hgr.out hb0.out (.int .i64 (p1 : Int))).setNew (g := gR) (i := 1) hgr.out hb0.out (.int .i64 (p2 : Int))
  have hBf := (h.out.far hR.out (by decide) (grownBy_cell wE ⟨gR, 0, none⟩ (.int .i64 (p1 : Int)))).far hBz (by decide) (grownBy_cell _ ⟨gR, 1, none⟩ (.int .i64 (p2 : Int)))
  clear hR hG h hBz
  generalize (wE.setCell ⟨gR, 0, none⟩ (.int .i64 (p1 : Int))).setCell ⟨gR, 1, none⟩ (.int .i64 (p2 : Int)) = w7 at *
  have e0 : w7.cell? ⟨gR, 0, none⟩ = some (.int .i64 (p1 : Int)) := hBy.cell 0
  have e1 : w7.cell? ⟨gR, 1, none⟩ = some (.int .i64 (p2 : Int)) := hBy.cell 1
  refine bodyPost_ret (v := partV (p1, p2)) ?_ rfl ⟨?_, ?_⟩
  · simp [partV, results, Tryz.results183, go_sem, e0, e1]
  · rw [hat.out]
  · rw [hat.out]; exact ⟨_, _, hBf, hke⟩
end Go.Proofs.YtfoffneipdkdjaaGreatDoor
namespace Go.Proofs.YtfoffneipdkdjaaGreatDoor
open Go.RowKit

set_option maxRecDepth 100000 in
set_option maxHeartbeats 3200000 in
theorem atom_slash0 {w : World} {base gB dp : Nat} {s : List UInt8} {b : PB} {c : UInt8} {sub : Option (PB → PB × PPt)} {xs : List StX} {sv : Value} (h : BAt w base gB s b xs sv) (hb : base ≤ w.heap.size) (hsl : s.length ≤ 100) (hcs : s[b.at_]? = some c) (hc : costP b ≤ 8 * b.at_ + 61) (h40 : ¬ c = 40) (h91 : ¬ c = 91) (h46 : ¬ c = 46) (h92 : c = 92) (hp : pkP s (advP b) = none) :
    Calls Tryz.prog 183 #[.pointer (some ⟨gB, 0, none⟩), .int .i64 (dp : Int)] w (PartPostS base gB s w (atomP s sub c b)) := by
  have i40 : ¬ (c.toNat : Int) = 40 := fun e => h40 (UInt8.toNat_inj.1 (by show c.toNat = 40; omega))
  have i91 : ¬ (c.toNat : Int) = 91 := fun e => h91 (UInt8.toNat_inj.1 (by show c.toNat = 91; omega))
  have i46 : ¬ (c.toNat : Int) = 46 := fun e => h46 (UInt8.toNat_inj.1 (by show c.toNat = 46; omega))
  have i92 : (c.toNat : Int) = 92 := by rw [h92]; rfl
  have hl256 : c.toNat < 256 := c.toNat_lt
  have hcl := Lib.hid (costP_len b)
  have hal : Hid ((advP b).at_ ≤ s.length) := Lib.hid (by have := (List.getElem?_eq_some_iff.1 hcs).1; simp only [advP]; omega)
  have hat : Hid (atomP s sub c b = oneP (addSet zeroW 0 0) (advP (failP 2 (advP b)))) := Lib.hid (by unfold atomP; rw [if_neg h40, if_neg h91, if_neg h46, if_pos h92, hp])
  have hpv : pkV s (advP b) = .tuple #[.int .u8 0, .bool false] := by simp only [pkV, hp]
  have hfa : (failP 2 (advP b)).at_ < 100000 := by rw [failP_at]; have := hal.out; omega
  clear h40 h91 h46 h92 hp
  have hlt : b.at_ < s.length := (List.getElem?_eq_some_iff.1 hcs).1
  have hTC : Hid (∀ t ∈ [211], t ∈ TS) := Lib.hid (by intro t ht; simp [TS, TB] at *; exact .inr (.inl ht))
  have hTS : Hid (∀ t ∈ TB, t ∈ TS) := Lib.hid (fun t ht => List.mem_cons_of_mem _ ht)
  have hTK : Hid (∀ t ∈ TC, t ∈ TS) := Lib.hid (by intro t ht; simp [TS, TB, TC] at *; rcases ht with h | h; exact .inr (.inl h); exact .inl h)
  have hR := Blk.new w 213 #[.int .i64 0, .int .i64 0]
  have hg1 : Grows w (w.alloc (.cells #[.int .i64 0, .int .i64 0] 213)) := (Grows.refl _).alloc _
  replace hR := Lib.hid hR
  have hG := Lib.hid (TKeep.grows (T := TS) hg1 hb)
  replace h := Lib.hid (h.grows hg1)
  have hb0 : Hid (BLe base w) := Lib.hid hb
  replace hb := Lib.hid (Nat.le_trans hb hg1.size)
  have hgr : Hid (GLe w w.heap.size) := Lib.hid (Nat.le_refl _)
  have hci : ((b.at_ : Nat) : Int) < (s.length : Int) := by omega
  have hbx : ∀ h : b.at_ < (⟨s.toArray⟩ : ByteArray).size, (⟨s.toArray⟩ : ByteArray)[b.at_]'h = c := fun h => by
    show s.toArray[b.at_] = c
    rw [List.getElem_toArray]
    exact (List.getElem?_eq_some_iff.1 hcs).2
  have c0 : ∀ w', BAt w' base gB s b xs sv → w'.cell? ⟨gB, 0, none⟩ = some (.string ⟨s.toArray⟩) := fun w' hh => (hh.blk.cell 0).trans rfl
  have c1 : ∀ w', BAt w' base gB s b xs sv → w'.cell? ⟨gB, 1, none⟩ = some (.int .i64 (b.at_ : Int)) := fun w' hh => (hh.blk.cell 1).trans rfl
  replace c0 := c0 _ h.out
  replace c1 := c1 _ h.out
  have l1 := h.out.blk.lt
  clear hg1
  go_enter Tryz.func183, Tryz.ntmps183
  go_wp2_with fail
  generalize w.alloc (.cells #[.int .i64 0, .int .i64 0] 213) = w0 at *
  generalize w.heap.size = gR at *
  refine wp_region_k (by kernel_rfl) ?_
  refine wpAnyK_run (l' := #[true, true, true, true, true, true, true, true, true, true]) [0, 1, 2, 3, 4, 5, 6, 7, 8, 9] 0 up_grows (by kernel_rfl) (by intro c a d v w h; first | (cases d <;> exact h) | exact hQ0 _ _ _ _ _ h) rfl (by kernel_rfl) (by kernel_rfl) ?_
  iterate 10 (refine wpMixC_q rfl (fun K hK => ?_); go_simp; (try go_bits); first | (refine hK.out _ ?_; clear hK K) | (apply Exists.intro; refine ⟨fun wq hsq => ?_, hK.out _ ?_⟩; (first | (go_simp; done) | ((try go_simp); (try simp only [↓IntWalk.iteOmega]); (try go_bits); rfl) | (obtain ⟨hcq, hfq⟩ := bcells hsq; go_simp; done) | (obtain ⟨hcq, hfq⟩ := bcells hsq; (try go_simp); (try simp only [↓IntWalk.iteOmega]); (try go_bits); rfl)); clear hK K))
  refine wpMixC_nil ?_
  refine wpAnyK_end (by kernel_rfl) (fun wN hN hS => ?_)
  clear c0 c1 l1
  replace hR := Lib.hid (hR.out.grows hN)
  replace h := Lib.hid (h.out.grows hN)
  replace hG := Lib.hid (hG.out.trans (TKeep.grows hN hb.out))
  replace hb := Lib.hid (Nat.le_trans hb.out hN.size)
  clear hN hS
  have c1 : wN.cell? ⟨gB, 1, none⟩ = some (.int .i64 ((b).at_ : Int)) := (h.out.blk.cell 1).trans rfl
  have f1 := h.out.blk.frozen 1
  have l1 := h.out.blk.lt
  have i1 : -9223372036854775808 ≤ ((b).at_ : Int) + 1 ∧ ((b).at_ : Int) + 1 ≤ 9223372036854775807 := by first | omega | (simp only [advP]; omega)
  have hA := Lib.hid h.out.adv
  have hGA := Lib.hid (hG.out.trans ((TKeep.own h.out (grownBy_cell wN ⟨gB, 1, none⟩ (.int .i64 (((b).at_ : Int) + 1)))).mono hTC.out))
  have hsz : Hid ((wN.setCell ⟨gB, 1, none⟩ (.int .i64 (((b).at_ : Int) + 1))).heap.size = wN.heap.size) := Lib.hid (by simp)
  go_wp2_with fail
  (try replace hset := Lib.hid (hset.out.tk (TKeep.own h.out (grownBy_cell wN ⟨gB, 1, none⟩ (.int .i64 (((b).at_ : Int) + 1)))) (by decide)))
  (try replace hX := Lib.hid ((TKeep.own h.out (grownBy_cell wN ⟨gB, 1, none⟩ (.int .i64 (((b).at_ : Int) + 1)))).blk hX.out (by decide)))
  (try replace hP := Lib.hid ((TKeep.own h.out (grownBy_cell wN ⟨gB, 1, none⟩ (.int .i64 (((b).at_ : Int) + 1)))).blk hP.out (by decide)))
  (try replace hR := Lib.hid ((TKeep.own h.out (grownBy_cell wN ⟨gB, 1, none⟩ (.int .i64 (((b).at_ : Int) + 1)))).blk hR.out (by decide)))
  clear c1 f1 l1 i1 h hG
  generalize wN.setCell ⟨gB, 1, none⟩ (.int .i64 (((b).at_ : Int) + 1)) = w2 at *
  have h := hA
  have hG := hGA
  clear hA hGA
  replace hb := Lib.hid (Nat.le_trans hb0.out hG.out.size)
  -- the set has been made in the block behind w2
  have hset : Hid (SetAt (w2.alloc (.cells #[.int .u64 0, .int .u64 0, .int .u64 0, .int .u64 0] 242)) w2.heap.size zeroW) := Lib.hid ⟨Blk.new w2 _ _, rfl, by intro x hx; simp [zeroW] at hx; omega⟩
  have hgw : Grows w2 (w2.alloc (.cells #[.int .u64 0, .int .u64 0, .int .u64 0, .int .u64 0] 242)) := (Grows.refl _).alloc _
  have hfr := Lib.hid h.out.fresh
  have hgS := hb
  replace hR := Lib.hid (hR.out.grows hgw)
  replace h := Lib.hid (h.out.grows hgw)
  replace hG := Lib.hid (hG.out.trans (TKeep.grows hgw hb.out))
  replace hb : Hid (base ≤ (w2.alloc (.cells #[.int .u64 0, .int .u64 0, .int .u64 0, .int .u64 0] 242)).heap.size) := Lib.hid (Nat.le_trans hb.out hgw.size)
  clear hgw
  generalize w2.alloc (.cells #[.int .u64 0, .int .u64 0, .int .u64 0, .int .u64 0] 242) = w3 at *
  rw [hsz.out] at hset hfr hgS
  clear hsz
  generalize wN.heap.size = gS at *
  go_wp2_with fail
  refine (peek_any h.out).mono ?_
  rintro e w4 ⟨rfl, hgw4⟩
  replace h := Lib.hid (h.out.grows hgw4)
  replace hG := Lib.hid (hG.out.trans (TKeep.grows hgw4 hb.out))
  replace hb := Lib.hid (Nat.le_trans hb.out hgw4.size)
  (try replace hset := Lib.hid (hset.out.grows hgw4))
  (try replace hX := Lib.hid (hX.out.grows hgw4))
  (try replace hP := Lib.hid (hP.out.grows hgw4))
  (try replace hR := Lib.hid (hR.out.grows hgw4))
  clear hgw4
  rw [hpv]
  clear hpv
  go_wp2_with fail
  refine (fail_any2 h.out).mono ?_
  rintro e w5 ⟨rfl, hBw5, hgw5⟩
  (try replace hset := Lib.hid (hset.out.tk (TKeep.own h.out hgw5) (by decide)))
  (try replace hX := Lib.hid ((TKeep.own h.out hgw5).blk hX.out (by decide)))
  (try replace hP := Lib.hid ((TKeep.own h.out hgw5).blk hP.out (by decide)))
  (try replace hR := Lib.hid ((TKeep.own h.out hgw5).blk hR.out (by decide)))
  replace hG := Lib.hid (hG.out.trans ((TKeep.own h.out hgw5).mono hTC.out))
  replace h := Lib.hid hBw5
  replace hb := Lib.hid (Nat.le_trans hb0.out hG.out.size)
  clear hBw5 hgw5
  have c1 : w5.cell? ⟨gB, 1, none⟩ = some (.int .i64 (((failP 2 (advP b))).at_ : Int)) := (h.out.blk.cell 1).trans rfl
  have f1 := h.out.blk.frozen 1
  have l1 := h.out.blk.lt
  have i1 : -9223372036854775808 ≤ (((failP 2 (advP b))).at_ : Int) + 1 ∧ (((failP 2 (advP b))).at_ : Int) + 1 ≤ 9223372036854775807 := by first | omega | (simp only [advP]; omega)
  have hA := Lib.hid h.out.adv
  have hGA := Lib.hid (hG.out.trans ((TKeep.own h.out (grownBy_cell w5 ⟨gB, 1, none⟩ (.int .i64 ((((failP 2 (advP b))).at_ : Int) + 1)))).mono hTC.out))
  have hsz : Hid ((w5.setCell ⟨gB, 1, none⟩ (.int .i64 ((((failP 2 (advP b))).at_ : Int) + 1))).heap.size = w5.heap.size) := Lib.hid (by simp)
  go_wp2_with fail
  (try replace hset := Lib.hid (hset.out.tk (TKeep.own h.out (grownBy_cell w5 ⟨gB, 1, none⟩ (.int .i64 ((((failP 2 (advP b))).at_ : Int) + 1)))) (by decide)))
  (try replace hX := Lib.hid ((TKeep.own h.out (grownBy_cell w5 ⟨gB, 1, none⟩ (.int .i64 ((((failP 2 (advP b))).at_ : Int) + 1)))).blk hX.out (by decide)))
  (try replace hP := Lib.hid ((TKeep.own h.out (grownBy_cell w5 ⟨gB, 1, none⟩ (.int .i64 ((((failP 2 (advP b))).at_ : Int) + 1)))).blk hP.out (by decide)))
  (try replace hR := Lib.hid ((TKeep.own h.out (grownBy_cell w5 ⟨gB, 1, none⟩ (.int .i64 ((((failP 2 (advP b))).at_ : Int) + 1)))).blk hR.out (by decide)))
  clear c1 f1 l1 i1 h hG
  generalize w5.setCell ⟨gB, 1, none⟩ (.int .i64 ((((failP 2 (advP b))).at_ : Int) + 1)) = w6 at *
  have h := hA
  have hG := hGA
  clear hA hGA
  replace hb := Lib.hid (Nat.le_trans hb0.out hG.out.size)
  have hz := addSet_any (lo := 0) (hi := 0) hset.out (by omega) (by omega)
  rw [show ((0 : Nat) : Int) = 0 from rfl] at hz
  refine hz.mono ?_
  clear hz
  rintro e w7 ⟨rfl, hs9, hg9⟩
  replace h := Lib.hid (h.out.setOff hset.out hfr.out hg9)
  replace hR := Lib.hid ((TKeep.set hset.out hgS.out hg9).blk hR.out (by decide))
  replace hG := Lib.hid (hG.out.trans ((TKeep.set hset.out hgS.out hg9).mono hTK.out))
  replace hb := Lib.hid (Nat.le_trans hb0.out hG.out.size)
  replace hset := Lib.hid hs9
  clear hs9 hg9
  go_wp2_with fail
  refine (one_any h.out hset.out hgS.out hb.out (by have := hcl.out; simp only [advP]; rw [failP_sts]; simp only; omega)).mono ?_
  rintro e wE ⟨rfl, xsE, svE, h', hk'⟩
  replace h := Lib.hid h'
  (try replace hX := Lib.hid ((hk'.mono hTS.out).blk hX.out (by decide)))
  (try replace hP := Lib.hid ((hk'.mono hTS.out).blk hP.out (by decide)))
  (try replace hR := Lib.hid ((hk'.mono hTS.out).blk hR.out (by decide)))
  replace hG := Lib.hid (hG.out.trans (hk'.mono hTS.out))
  replace hb := Lib.hid (Nat.le_trans hb0.out hG.out.size)
  clear h' hk' hset
  generalize hr : oneP (addSet zeroW 0 0) (advP (failP 2 (advP b))) = r at *
  obtain ⟨rb, p1, p2⟩ := r
  simp only [partV]
  (try clear d0R); (try clear d1R); (try clear l0R); (try clear f0R); (try clear f1R)
  have d0R : wE.cell? ⟨gR, 0, none⟩ = _ := hR.out.cell 0
  have d1R : wE.cell? ⟨gR, 1, none⟩ = _ := hR.out.cell 1
  have f0R := hR.out.frozen 0
  have f1R := hR.out.frozen 1
  have l0R := hR.out.lt
  go_wp2
  clear d0R d1R f0R f1R l0R
  have hBz := hR.out.set_ 0 (.int .i64 (p1 : Int))
  have hBy := hBz.set_ 1 (.int .i64 (p2 : Int))
  have hke := (hG.out.setNew (g := gR) (i := 0) hgr.out hb0.out (.int .i64 (p1 : Int))).setNew (g := gR) (i := 1) hgr.out hb0.out (.int .i64 (p2 : Int))
  have hBf := (h.out.far hR.out (by decide) (grownBy_cell wE ⟨gR, 0, none⟩ (.int .i64 (p1 : Int)))).far hBz (by decide) (grownBy_cell _ ⟨gR, 1, none⟩ (.int .i64 (p2 : Int)))
  clear hR hG h hBz
  generalize (wE.setCell ⟨gR, 0, none⟩ (.int .i64 (p1 : Int))).setCell ⟨gR, 1, none⟩ (.int .i64 (p2 : Int)) = w7 at *
  have e0 : w7.cell? ⟨gR, 0, none⟩ = some (.int .i64 (p1 : Int)) := hBy.cell 0
  have e1 : w7.cell? ⟨gR, 1, none⟩ = some (.int .i64 (p2 : Int)) := hBy.cell 1
  refine bodyPost_ret (v := partV (p1, p2)) ?_ rfl ⟨?_, ?_⟩
  · simp [partV, results, Tryz.results183, go_sem, e0, e1]
  · rw [hat.out]
  · rw [hat.out]; exact ⟨_, _, hBf, hke⟩
end Go.Proofs.YtfoffneipdkdjaaGreatDoor
namespace Go.Proofs.YtfoffneipdkdjaaGreatDoor
open Go.RowKit

set_option maxRecDepth 100000 in
set_option maxHeartbeats 3200000 in
theorem atom_slash {w : World} {base gB dp : Nat} {s : List UInt8} {b : PB} {c : UInt8} {sub : Option (PB → PB × PPt)} {xs : List StX} {sv : Value} (h : BAt w base gB s b xs sv) (hb : base ≤ w.heap.size) (hsl : s.length ≤ 100) (hcs : s[b.at_]? = some c) (hc : costP b ≤ 8 * b.at_ + 61) {d : UInt8} (h40 : ¬ c = 40) (h91 : ¬ c = 91) (h46 : ¬ c = 46) (h92 : c = 92) (hp : pkP s (advP b) = some d) :
    Calls Tryz.prog 183 #[.pointer (some ⟨gB, 0, none⟩), .int .i64 (dp : Int)] w (PartPostS base gB s w (atomP s sub c b)) := by
  have i40 : ¬ (c.toNat : Int) = 40 := fun e => h40 (UInt8.toNat_inj.1 (by show c.toNat = 40; omega))
  have i91 : ¬ (c.toNat : Int) = 91 := fun e => h91 (UInt8.toNat_inj.1 (by show c.toNat = 91; omega))
  have i46 : ¬ (c.toNat : Int) = 46 := fun e => h46 (UInt8.toNat_inj.1 (by show c.toNat = 46; omega))
  have i92 : (c.toNat : Int) = 92 := by rw [h92]; rfl
  have hl256 : c.toNat < 256 := c.toNat_lt
  have hcl := Lib.hid (costP_len b)
  have hal : Hid ((advP b).at_ ≤ s.length) := Lib.hid (by have := (List.getElem?_eq_some_iff.1 hcs).1; simp only [advP]; omega)
  have hd256 : d.toNat < 256 := d.toNat_lt
  have hat : Hid (atomP s sub c b = oneP (addSet zeroW d.toNat d.toNat) (advP (advP b))) := Lib.hid (by unfold atomP; rw [if_neg h40, if_neg h91, if_neg h46, if_pos h92, hp])
  have hpv : pkV s (advP b) = .tuple #[.int .u8 (d.toNat : Int), .bool true] := by simp only [pkV, hp]
  clear h40 h91 h46 h92 hp
  have hlt : b.at_ < s.length := (List.getElem?_eq_some_iff.1 hcs).1
  have hTC : Hid (∀ t ∈ [211], t ∈ TS) := Lib.hid (by intro t ht; simp [TS, TB] at *; exact .inr (.inl ht))
  have hTS : Hid (∀ t ∈ TB, t ∈ TS) := Lib.hid (fun t ht => List.mem_cons_of_mem _ ht)
  have hTK : Hid (∀ t ∈ TC, t ∈ TS) := Lib.hid (by intro t ht; simp [TS, TB, TC] at *; rcases ht with h | h; exact .inr (.inl h); exact .inl h)
  have hR := Blk.new w 213 #[.int .i64 0, .int .i64 0]
  have hg1 : Grows w (w.alloc (.cells #[.int .i64 0, .int .i64 0] 213)) := (Grows.refl _).alloc _
  replace hR := Lib.hid hR
  have hG := Lib.hid (TKeep.grows (T := TS) hg1 hb)
  replace h := Lib.hid (h.grows hg1)
  have hb0 : Hid (BLe base w) := Lib.hid hb
  replace hb := Lib.hid (Nat.le_trans hb hg1.size)
  have hgr : Hid (GLe w w.heap.size) := Lib.hid (Nat.le_refl _)
  have hci : ((b.at_ : Nat) : Int) < (s.length : Int) := by omega
  have hbx : ∀ h : b.at_ < (⟨s.toArray⟩ : ByteArray).size, (⟨s.toArray⟩ : ByteArray)[b.at_]'h = c := fun h => by
    show s.toArray[b.at_] = c
    rw [List.getElem_toArray]
    exact (List.getElem?_eq_some_iff.1 hcs).2
  have c0 : ∀ w', BAt w' base gB s b xs sv → w'.cell? ⟨gB, 0, none⟩ = some (.string ⟨s.toArray⟩) := fun w' hh => (hh.blk.cell 0).trans rfl
  have c1 : ∀ w', BAt w' base gB s b xs sv → w'.cell? ⟨gB, 1, none⟩ = some (.int .i64 (b.at_ : Int)) := fun w' hh => (hh.blk.cell 1).trans rfl
  replace c0 := c0 _ h.out
  replace c1 := c1 _ h.out
  have l1 := h.out.blk.lt
  clear hg1
  go_enter Tryz.func183, Tryz.ntmps183
  go_wp2_with fail
  generalize w.alloc (.cells #[.int .i64 0, .int .i64 0] 213) = w0 at *
  generalize w.heap.size = gR at *
  refine wp_region_k (by kernel_rfl) ?_
  refine wpAnyK_run (l' := #[true, true, true, true, true, true, true, true, true, true]) [0, 1, 2, 3, 4, 5, 6, 7, 8, 9] 0 up_grows (by kernel_rfl) (by intro c a d v w h; first | (cases d <;> exact h) | exact hQ0 _ _ _ _ _ h) rfl (by kernel_rfl) (by kernel_rfl) ?_
  iterate 10 (refine wpMixC_q rfl (fun K hK => ?_); go_simp; (try go_bits); first | (refine hK.out _ ?_; clear hK K) | (apply Exists.intro; refine ⟨fun wq hsq => ?_, hK.out _ ?_⟩; (first | (go_simp; done) | ((try go_simp); (try simp only [↓IntWalk.iteOmega]); (try go_bits); rfl) | (obtain ⟨hcq, hfq⟩ := bcells hsq; go_simp; done) | (obtain ⟨hcq, hfq⟩ := bcells hsq; (try go_simp); (try simp only [↓IntWalk.iteOmega]); (try go_bits); rfl)); clear hK K))
  refine wpMixC_nil ?_
  refine wpAnyK_end (by kernel_rfl) (fun wN hN hS => ?_)
  clear c0 c1 l1
  replace hR := Lib.hid (hR.out.grows hN)
  replace h := Lib.hid (h.out.grows hN)
  replace hG := Lib.hid (hG.out.trans (TKeep.grows hN hb.out))
  replace hb := Lib.hid (Nat.le_trans hb.out hN.size)
  clear hN hS
  have c1 : wN.cell? ⟨gB, 1, none⟩ = some (.int .i64 ((b).at_ : Int)) := (h.out.blk.cell 1).trans rfl
  have f1 := h.out.blk.frozen 1
  have l1 := h.out.blk.lt
  have i1 : -9223372036854775808 ≤ ((b).at_ : Int) + 1 ∧ ((b).at_ : Int) + 1 ≤ 9223372036854775807 := by first | omega | (simp only [advP]; omega)
  have hA := Lib.hid h.out.adv
  have hGA := Lib.hid (hG.out.trans ((TKeep.own h.out (grownBy_cell wN ⟨gB, 1, none⟩ (.int .i64 (((b).at_ : Int) + 1)))).mono hTC.out))
  have hsz : Hid ((wN.setCell ⟨gB, 1, none⟩ (.int .i64 (((b).at_ : Int) + 1))).heap.size = wN.heap.size) := Lib.hid (by simp)
  go_wp2_with fail
  (try replace hset := Lib.hid (hset.out.tk (TKeep.own h.out (grownBy_cell wN ⟨gB, 1, none⟩ (.int .i64 (((b).at_ : Int) + 1)))) (by decide)))
  (try replace hX := Lib.hid ((TKeep.own h.out (grownBy_cell wN ⟨gB, 1, none⟩ (.int .i64 (((b).at_ : Int) + 1)))).blk hX.out (by decide)))
  (try replace hP := Lib.hid ((TKeep.own h.out (grownBy_cell wN ⟨gB, 1, none⟩ (.int .i64 (((b).at_ : Int) + 1)))).blk hP.out (by decide)))
  (try replace hR := Lib.hid ((TKeep.own h.out (grownBy_cell wN ⟨gB, 1, none⟩ (.int .i64 (((b).at_ : Int) + 1)))).blk hR.out (by decide)))
  clear c1 f1 l1 i1 h hG
  generalize wN.setCell ⟨gB, 1, none⟩ (.int .i64 (((b).at_ : Int) + 1)) = w2 at *
  have h := hA
  have hG := hGA
  clear hA hGA
  replace hb := Lib.hid (Nat.le_trans hb0.out hG.out.size)
  -- the set has been made in the block behind w2
  have hset : Hid (SetAt (w2.alloc (.cells #[.int .u64 0, .int .u64 0, .int .u64 0, .int .u64 0] 242)) w2.heap.size zeroW) := Lib.hid ⟨Blk.new w2 _ _, rfl, by intro x hx; simp [zeroW] at hx; omega⟩
  have hgw : Grows w2 (w2.alloc (.cells #[.int .u64 0, .int .u64 0, .int .u64 0, .int .u64 0] 242)) := (Grows.refl _).alloc _
  have hfr := Lib.hid h.out.fresh
  have hgS := hb
  replace hR := Lib.hid (hR.out.grows hgw)
  replace h := Lib.hid (h.out.grows hgw)
  replace hG := Lib.hid (hG.out.trans (TKeep.grows hgw hb.out))
  replace hb : Hid (base ≤ (w2.alloc (.cells #[.int .u64 0, .int .u64 0, .int .u64 0, .int .u64 0] 242)).heap.size) := Lib.hid (Nat.le_trans hb.out hgw.size)
  clear hgw
  generalize w2.alloc (.cells #[.int .u64 0, .int .u64 0, .int .u64 0, .int .u64 0] 242) = w3 at *
  rw [hsz.out] at hset hfr hgS
  clear hsz
  generalize wN.heap.size = gS at *
  go_wp2_with fail
  refine (peek_any h.out).mono ?_
  rintro e w4 ⟨rfl, hgw4⟩
  replace h := Lib.hid (h.out.grows hgw4)
  replace hG := Lib.hid (hG.out.trans (TKeep.grows hgw4 hb.out))
  replace hb := Lib.hid (Nat.le_trans hb.out hgw4.size)
  (try replace hset := Lib.hid (hset.out.grows hgw4))
  (try replace hX := Lib.hid (hX.out.grows hgw4))
  (try replace hP := Lib.hid (hP.out.grows hgw4))
  (try replace hR := Lib.hid (hR.out.grows hgw4))
  clear hgw4
  rw [hpv]
  clear hpv
  have c1 : w4.cell? ⟨gB, 1, none⟩ = some (.int .i64 (((advP b)).at_ : Int)) := (h.out.blk.cell 1).trans rfl
  have f1 := h.out.blk.frozen 1
  have l1 := h.out.blk.lt
  have i1 : -9223372036854775808 ≤ (((advP b)).at_ : Int) + 1 ∧ (((advP b)).at_ : Int) + 1 ≤ 9223372036854775807 := by first | omega | (simp only [advP]; omega)
  have hA := Lib.hid h.out.adv
  have hGA := Lib.hid (hG.out.trans ((TKeep.own h.out (grownBy_cell w4 ⟨gB, 1, none⟩ (.int .i64 ((((advP b)).at_ : Int) + 1)))).mono hTC.out))
  have hsz : Hid ((w4.setCell ⟨gB, 1, none⟩ (.int .i64 ((((advP b)).at_ : Int) + 1))).heap.size = w4.heap.size) := Lib.hid (by simp)
  go_wp2_with fail
  (try replace hset := Lib.hid (hset.out.tk (TKeep.own h.out (grownBy_cell w4 ⟨gB, 1, none⟩ (.int .i64 ((((advP b)).at_ : Int) + 1)))) (by decide)))
  (try replace hX := Lib.hid ((TKeep.own h.out (grownBy_cell w4 ⟨gB, 1, none⟩ (.int .i64 ((((advP b)).at_ : Int) + 1)))).blk hX.out (by decide)))
  (try replace hP := Lib.hid ((TKeep.own h.out (grownBy_cell w4 ⟨gB, 1, none⟩ (.int .i64 ((((advP b)).at_ : Int) + 1)))).blk hP.out (by decide)))
  (try replace hR := Lib.hid ((TKeep.own h.out (grownBy_cell w4 ⟨gB, 1, none⟩ (.int .i64 ((((advP b)).at_ : Int) + 1)))).blk hR.out (by decide)))
  clear c1 f1 l1 i1 h hG
  generalize w4.setCell ⟨gB, 1, none⟩ (.int .i64 ((((advP b)).at_ : Int) + 1)) = w6 at *
  have h := hA
  have hG := hGA
  clear hA hGA
  replace hb := Lib.hid (Nat.le_trans hb0.out hG.out.size)
  refine (addSet_any (lo := d.toNat) (hi := d.toNat) hset.out (by omega) (by omega)).mono ?_
  rintro e w7 ⟨rfl, hs9, hg9⟩
  replace h := Lib.hid (h.out.setOff hset.out hfr.out hg9)
  replace hR := Lib.hid ((TKeep.set hset.out hgS.out hg9).blk hR.out (by decide))
  replace hG := Lib.hid (hG.out.trans ((TKeep.set hset.out hgS.out hg9).mono hTK.out))
  replace hb := Lib.hid (Nat.le_trans hb0.out hG.out.size)
  replace hset := Lib.hid hs9
  clear hs9 hg9
  go_wp2_with fail
  refine (one_any h.out hset.out hgS.out hb.out (by have := hcl.out; simp only [advP]; omega)).mono ?_
  rintro e wE ⟨rfl, xsE, svE, h', hk'⟩
  replace h := Lib.hid h'
  (try replace hX := Lib.hid ((hk'.mono hTS.out).blk hX.out (by decide)))
  (try replace hP := Lib.hid ((hk'.mono hTS.out).blk hP.out (by decide)))
  (try replace hR := Lib.hid ((hk'.mono hTS.out).blk hR.out (by decide)))
  replace hG := Lib.hid (hG.out.trans (hk'.mono hTS.out))
  replace hb := Lib.hid (Nat.le_trans hb0.out hG.out.size)
  clear h' hk' hset
  generalize hr : oneP (addSet zeroW d.toNat d.toNat) (advP (advP b)) = r at *
  obtain ⟨rb, p1, p2⟩ := r
  simp only [partV]
  (try clear d0R); (try clear d1R); (try clear l0R); (try clear f0R); (try clear f1R)
  have d0R : wE.cell? ⟨gR, 0, none⟩ = _ := hR.out.cell 0
  have d1R : wE.cell? ⟨gR, 1, none⟩ = _ := hR.out.cell 1
  have f0R := hR.out.frozen 0
  have f1R := hR.out.frozen 1
  have l0R := hR.out.lt
  go_wp2
  clear d0R d1R f0R f1R l0R
  have hBz := hR.out.set_ 0 (.int .i64 (p1 : Int))
  have hBy := hBz.set_ 1 (.int .i64 (p2 : Int))
  have hke := (hG.out.setNew (g := gR) (i := 0) hgr.out hb0.out (.int .i64 (p1 : Int))).setNew (g := gR) (i := 1) hgr.out hb0.out (.int .i64 (p2 : Int))
  have hBf := (h.out.far hR.out (by decide) (grownBy_cell wE ⟨gR, 0, none⟩ (.int .i64 (p1 : Int)))).far hBz (by decide) (grownBy_cell _ ⟨gR, 1, none⟩ (.int .i64 (p2 : Int)))
  clear hR hG h hBz
  generalize (wE.setCell ⟨gR, 0, none⟩ (.int .i64 (p1 : Int))).setCell ⟨gR, 1, none⟩ (.int .i64 (p2 : Int)) = w7 at *
  have e0 : w7.cell? ⟨gR, 0, none⟩ = some (.int .i64 (p1 : Int)) := hBy.cell 0
  have e1 : w7.cell? ⟨gR, 1, none⟩ = some (.int .i64 (p2 : Int)) := hBy.cell 1
  refine bodyPost_ret (v := partV (p1, p2)) ?_ rfl ⟨?_, ?_⟩
  · simp [partV, results, Tryz.results183, go_sem, e0, e1]
  · rw [hat.out]
  · rw [hat.out]; exact ⟨_, _, hBf, hke⟩
end Go.Proofs.YtfoffneipdkdjaaGreatDoor
namespace Go.Proofs.YtfoffneipdkdjaaGreatDoor
open Go.RowKit

set_option maxRecDepth 100000 in
set_option maxHeartbeats 3200000 in
theorem atom_odd {w : World} {base gB dp : Nat} {s : List UInt8} {b : PB} {c : UInt8} {sub : Option (PB → PB × PPt)} {xs : List StX} {sv : Value} (h : BAt w base gB s b xs sv) (hb : base ≤ w.heap.size) (hsl : s.length ≤ 100) (hcs : s[b.at_]? = some c) (hc : costP b ≤ 8 * b.at_ + 61) (h40 : ¬ c = 40) (h91 : ¬ c = 91) (h46 : ¬ c = 46) (h92 : ¬ c = 92) (hodd : oddB c = true) :
    Calls Tryz.prog 183 #[.pointer (some ⟨gB, 0, none⟩), .int .i64 (dp : Int)] w (PartPostS base gB s w (atomP s sub c b)) := by
  have i40 : ¬ (c.toNat : Int) = 40 := fun e => h40 (UInt8.toNat_inj.1 (by show c.toNat = 40; omega))
  have i91 : ¬ (c.toNat : Int) = 91 := fun e => h91 (UInt8.toNat_inj.1 (by show c.toNat = 91; omega))
  have i46 : ¬ (c.toNat : Int) = 46 := fun e => h46 (UInt8.toNat_inj.1 (by show c.toNat = 46; omega))
  have i92 : ¬ (c.toNat : Int) = 92 := fun e => h92 (UInt8.toNat_inj.1 (by show c.toNat = 92; omega))
  have cI := Lib.hid (fun W => idxOdd_any W c)
  have hl256 : c.toNat < 256 := c.toNat_lt
  have hcl := Lib.hid (costP_len b)
  have hal : Hid ((advP b).at_ ≤ s.length) := Lib.hid (by have := (List.getElem?_eq_some_iff.1 hcs).1; simp only [advP]; omega)
  have hidx := (oddB_idx c).1 hodd
  have hat : Hid (atomP s sub c b = oneP zeroW (failP 2 (advP b))) := Lib.hid (by unfold atomP; rw [if_neg h40, if_neg h91, if_neg h46, if_neg h92, if_pos hodd])
  clear h40 h91 h46 h92 hodd
  generalize Lib.indexByte [42, 43, 63, 124, 40, 41, 91, 93, 92, 46] c = ki at *
  have hlt : b.at_ < s.length := (List.getElem?_eq_some_iff.1 hcs).1
  have hTC : Hid (∀ t ∈ [211], t ∈ TS) := Lib.hid (by intro t ht; simp [TS, TB] at *; exact .inr (.inl ht))
  have hTS : Hid (∀ t ∈ TB, t ∈ TS) := Lib.hid (fun t ht => List.mem_cons_of_mem _ ht)
  have hTK : Hid (∀ t ∈ TC, t ∈ TS) := Lib.hid (by intro t ht; simp [TS, TB, TC] at *; rcases ht with h | h; exact .inr (.inl h); exact .inl h)
  have hR := Blk.new w 213 #[.int .i64 0, .int .i64 0]
  have hg1 : Grows w (w.alloc (.cells #[.int .i64 0, .int .i64 0] 213)) := (Grows.refl _).alloc _
  replace hR := Lib.hid hR
  have hG := Lib.hid (TKeep.grows (T := TS) hg1 hb)
  replace h := Lib.hid (h.grows hg1)
  have hb0 : Hid (BLe base w) := Lib.hid hb
  replace hb := Lib.hid (Nat.le_trans hb hg1.size)
  have hgr : Hid (GLe w w.heap.size) := Lib.hid (Nat.le_refl _)
  have hci : ((b.at_ : Nat) : Int) < (s.length : Int) := by omega
  have hbx : ∀ h : b.at_ < (⟨s.toArray⟩ : ByteArray).size, (⟨s.toArray⟩ : ByteArray)[b.at_]'h = c := fun h => by
    show s.toArray[b.at_] = c
    rw [List.getElem_toArray]
    exact (List.getElem?_eq_some_iff.1 hcs).2
  have c0 : ∀ w', BAt w' base gB s b xs sv → w'.cell? ⟨gB, 0, none⟩ = some (.string ⟨s.toArray⟩) := fun w' hh => (hh.blk.cell 0).trans rfl
  have c1 : ∀ w', BAt w' base gB s b xs sv → w'.cell? ⟨gB, 1, none⟩ = some (.int .i64 (b.at_ : Int)) := fun w' hh => (hh.blk.cell 1).trans rfl
  replace c0 := c0 _ h.out
  replace c1 := c1 _ h.out
  have l1 := h.out.blk.lt
  clear hg1
  go_enter Tryz.func183, Tryz.ntmps183
  go_wp2_with fail
  generalize w.alloc (.cells #[.int .i64 0, .int .i64 0] 213) = w0 at *
  generalize w.heap.size = gR at *
  refine wp_region_k (by kernel_rfl) ?_
  refine wpAnyK_run (l' := #[true, true, true, true, true, true, true, true, true, true]) [0, 1, 2, 3, 4, 5, 6, 7, 8, 9] 0 up_grows (by kernel_rfl) (by intro c a d v w h; first | (cases d <;> exact h) | exact hQ0 _ _ _ _ _ h) rfl (by kernel_rfl) (by kernel_rfl) ?_
  iterate 10 (refine wpMixC_q rfl (fun K hK => ?_); go_simp; (try go_bits); first | (refine hK.out _ ?_; clear hK K) | (apply Exists.intro; refine ⟨fun wq hsq => ?_, hK.out _ ?_⟩; (first | (go_simp; done) | ((try go_simp); (try simp only [↓IntWalk.iteOmega]); (try go_bits); rfl) | (obtain ⟨hcq, hfq⟩ := bcells hsq; go_simp; done) | (obtain ⟨hcq, hfq⟩ := bcells hsq; (try go_simp); (try simp only [↓IntWalk.iteOmega]); (try go_bits); rfl)); clear hK K))
  refine wpMixC_nil ?_
  refine wpAnyK_end (by kernel_rfl) (fun wN hN hS => ?_)
  clear c0 c1 l1
  replace hR := Lib.hid (hR.out.grows hN)
  replace h := Lib.hid (h.out.grows hN)
  replace hG := Lib.hid (hG.out.trans (TKeep.grows hN hb.out))
  replace hb := Lib.hid (Nat.le_trans hb.out hN.size)
  clear hN hS
  have c1 : wN.cell? ⟨gB, 1, none⟩ = some (.int .i64 ((b).at_ : Int)) := (h.out.blk.cell 1).trans rfl
  have f1 := h.out.blk.frozen 1
  have l1 := h.out.blk.lt
  have i1 : -9223372036854775808 ≤ ((b).at_ : Int) + 1 ∧ ((b).at_ : Int) + 1 ≤ 9223372036854775807 := by first | omega | (simp only [advP]; omega)
  have hA := Lib.hid h.out.adv
  have hGA := Lib.hid (hG.out.trans ((TKeep.own h.out (grownBy_cell wN ⟨gB, 1, none⟩ (.int .i64 (((b).at_ : Int) + 1)))).mono hTC.out))
  have hsz : Hid ((wN.setCell ⟨gB, 1, none⟩ (.int .i64 (((b).at_ : Int) + 1))).heap.size = wN.heap.size) := Lib.hid (by simp)
  go_wp2_with fail
  (try replace hset := Lib.hid (hset.out.tk (TKeep.own h.out (grownBy_cell wN ⟨gB, 1, none⟩ (.int .i64 (((b).at_ : Int) + 1)))) (by decide)))
  (try replace hX := Lib.hid ((TKeep.own h.out (grownBy_cell wN ⟨gB, 1, none⟩ (.int .i64 (((b).at_ : Int) + 1)))).blk hX.out (by decide)))
  (try replace hP := Lib.hid ((TKeep.own h.out (grownBy_cell wN ⟨gB, 1, none⟩ (.int .i64 (((b).at_ : Int) + 1)))).blk hP.out (by decide)))
  (try replace hR := Lib.hid ((TKeep.own h.out (grownBy_cell wN ⟨gB, 1, none⟩ (.int .i64 (((b).at_ : Int) + 1)))).blk hR.out (by decide)))
  clear c1 f1 l1 i1 h hG
  generalize wN.setCell ⟨gB, 1, none⟩ (.int .i64 (((b).at_ : Int) + 1)) = w2 at *
  have h := hA
  have hG := hGA
  clear hA hGA
  replace hb := Lib.hid (Nat.le_trans hb0.out hG.out.size)
  -- the set has been made in the block behind w2
  have hset : Hid (SetAt (w2.alloc (.cells #[.int .u64 0, .int .u64 0, .int .u64 0, .int .u64 0] 242)) w2.heap.size zeroW) := Lib.hid ⟨Blk.new w2 _ _, rfl, by intro x hx; simp [zeroW] at hx; omega⟩
  have hgw : Grows w2 (w2.alloc (.cells #[.int .u64 0, .int .u64 0, .int .u64 0, .int .u64 0] 242)) := (Grows.refl _).alloc _
  have hfr := Lib.hid h.out.fresh
  have hgS := hb
  replace hR := Lib.hid (hR.out.grows hgw)
  replace h := Lib.hid (h.out.grows hgw)
  replace hG := Lib.hid (hG.out.trans (TKeep.grows hgw hb.out))
  replace hb : Hid (base ≤ (w2.alloc (.cells #[.int .u64 0, .int .u64 0, .int .u64 0, .int .u64 0] 242)).heap.size) := Lib.hid (Nat.le_trans hb.out hgw.size)
  clear hgw
  generalize w2.alloc (.cells #[.int .u64 0, .int .u64 0, .int .u64 0, .int .u64 0] 242) = w3 at *
  rw [hsz.out] at hset hfr hgS
  clear hsz
  generalize wN.heap.size = gS at *
  refine (cI.out _).mono ?_
  rintro e wI ⟨rfl, hwI⟩
  replace hwI := hwI.symm
  subst hwI
  go_wp2_with fail
  refine (fail_any2 h.out).mono ?_
  rintro e w4 ⟨rfl, hBw4, hgw4⟩
  (try replace hset := Lib.hid (hset.out.tk (TKeep.own h.out hgw4) (by decide)))
  (try replace hX := Lib.hid ((TKeep.own h.out hgw4).blk hX.out (by decide)))
  (try replace hP := Lib.hid ((TKeep.own h.out hgw4).blk hP.out (by decide)))
  (try replace hR := Lib.hid ((TKeep.own h.out hgw4).blk hR.out (by decide)))
  replace hG := Lib.hid (hG.out.trans ((TKeep.own h.out hgw4).mono hTC.out))
  replace h := Lib.hid hBw4
  replace hb := Lib.hid (Nat.le_trans hb0.out hG.out.size)
  clear hBw4 hgw4
  go_wp2_with fail
  refine (one_any h.out hset.out hgS.out hb.out (by rw [failP_sts]; have := hcl.out; simp only [advP]; omega)).mono ?_
  rintro e wE ⟨rfl, xsE, svE, h', hk'⟩
  replace h := Lib.hid h'
  (try replace hX := Lib.hid ((hk'.mono hTS.out).blk hX.out (by decide)))
  (try replace hP := Lib.hid ((hk'.mono hTS.out).blk hP.out (by decide)))
  (try replace hR := Lib.hid ((hk'.mono hTS.out).blk hR.out (by decide)))
  replace hG := Lib.hid (hG.out.trans (hk'.mono hTS.out))
  replace hb := Lib.hid (Nat.le_trans hb0.out hG.out.size)
  clear h' hk' hset
  generalize hr : oneP zeroW (failP 2 (advP b)) = r at *
  obtain ⟨rb, p1, p2⟩ := r
  simp only [partV]
  (try clear d0R); (try clear d1R); (try clear l0R); (try clear f0R); (try clear f1R)
  have d0R : wE.cell? ⟨gR, 0, none⟩ = _ := hR.out.cell 0
  have d1R : wE.cell? ⟨gR, 1, none⟩ = _ := hR.out.cell 1
  have f0R := hR.out.frozen 0
  have f1R := hR.out.frozen 1
  have l0R := hR.out.lt
  go_wp2
  clear d0R d1R f0R f1R l0R
  have hBz := hR.out.set_ 0 (.int .i64 (p1 : Int))
  have hBy := hBz.set_ 1 (.int .i64 (p2 : Int))
  have hke := (hG.out.setNew (g := gR) (i := 0) hgr.out hb0.out (.int .i64 (p1 : Int))).setNew (g := gR) (i := 1) hgr.out hb0.out (.int .i64 (p2 : Int))
  have hBf := (h.out.far hR.out (by decide) (grownBy_cell wE ⟨gR, 0, none⟩ (.int .i64 (p1 : Int)))).far hBz (by decide) (grownBy_cell _ ⟨gR, 1, none⟩ (.int .i64 (p2 : Int)))
  clear hR hG h hBz
  generalize (wE.setCell ⟨gR, 0, none⟩ (.int .i64 (p1 : Int))).setCell ⟨gR, 1, none⟩ (.int .i64 (p2 : Int)) = w7 at *
  have e0 : w7.cell? ⟨gR, 0, none⟩ = some (.int .i64 (p1 : Int)) := hBy.cell 0
  have e1 : w7.cell? ⟨gR, 1, none⟩ = some (.int .i64 (p2 : Int)) := hBy.cell 1
  refine bodyPost_ret (v := partV (p1, p2)) ?_ rfl ⟨?_, ?_⟩
  · simp [partV, results, Tryz.results183, go_sem, e0, e1]
  · rw [hat.out]
  · rw [hat.out]; exact ⟨_, _, hBf, hke⟩
end Go.Proofs.YtfoffneipdkdjaaGreatDoor
namespace Go.Proofs.YtfoffneipdkdjaaGreatDoor
open Go.RowKit

set_option maxRecDepth 100000 in
set_option maxHeartbeats 3200000 in
theorem atom_plain {w : World} {base gB dp : Nat} {s : List UInt8} {b : PB} {c : UInt8} {sub : Option (PB → PB × PPt)} {xs : List StX} {sv : Value} (h : BAt w base gB s b xs sv) (hb : base ≤ w.heap.size) (hsl : s.length ≤ 100) (hcs : s[b.at_]? = some c) (hc : costP b ≤ 8 * b.at_ + 61) (h40 : ¬ c = 40) (h91 : ¬ c = 91) (h46 : ¬ c = 46) (h92 : ¬ c = 92) (hodd : ¬ oddB c = true) :
    Calls Tryz.prog 183 #[.pointer (some ⟨gB, 0, none⟩), .int .i64 (dp : Int)] w (PartPostS base gB s w (atomP s sub c b)) := by
  have i40 : ¬ (c.toNat : Int) = 40 := fun e => h40 (UInt8.toNat_inj.1 (by show c.toNat = 40; omega))
  have i91 : ¬ (c.toNat : Int) = 91 := fun e => h91 (UInt8.toNat_inj.1 (by show c.toNat = 91; omega))
  have i46 : ¬ (c.toNat : Int) = 46 := fun e => h46 (UInt8.toNat_inj.1 (by show c.toNat = 46; omega))
  have i92 : ¬ (c.toNat : Int) = 92 := fun e => h92 (UInt8.toNat_inj.1 (by show c.toNat = 92; omega))
  have cI := Lib.hid (fun W => idxOdd_any W c)
  have hl256 : c.toNat < 256 := c.toNat_lt
  have hcl := Lib.hid (costP_len b)
  have hal : Hid ((advP b).at_ ≤ s.length) := Lib.hid (by have := (List.getElem?_eq_some_iff.1 hcs).1; simp only [advP]; omega)
  have hidx : ¬ 0 ≤ Lib.indexByte [42, 43, 63, 124, 40, 41, 91, 93, 92, 46] c := fun hh => hodd ((oddB_idx c).2 hh)
  have hat : Hid (atomP s sub c b = oneP (addSet zeroW c.toNat c.toNat) (advP b)) := Lib.hid (by unfold atomP; rw [if_neg h40, if_neg h91, if_neg h46, if_neg h92, if_neg hodd])
  clear h40 h91 h46 h92 hodd
  generalize Lib.indexByte [42, 43, 63, 124, 40, 41, 91, 93, 92, 46] c = ki at *
  have hnki : ki < 0 := by omega
  have hlt : b.at_ < s.length := (List.getElem?_eq_some_iff.1 hcs).1
  have hTC : Hid (∀ t ∈ [211], t ∈ TS) := Lib.hid (by intro t ht; simp [TS, TB] at *; exact .inr (.inl ht))
  have hTS : Hid (∀ t ∈ TB, t ∈ TS) := Lib.hid (fun t ht => List.mem_cons_of_mem _ ht)
  have hTK : Hid (∀ t ∈ TC, t ∈ TS) := Lib.hid (by intro t ht; simp [TS, TB, TC] at *; rcases ht with h | h; exact .inr (.inl h); exact .inl h)
  have hR := Blk.new w 213 #[.int .i64 0, .int .i64 0]
  have hg1 : Grows w (w.alloc (.cells #[.int .i64 0, .int .i64 0] 213)) := (Grows.refl _).alloc _
  replace hR := Lib.hid hR
  have hG := Lib.hid (TKeep.grows (T := TS) hg1 hb)
  replace h := Lib.hid (h.grows hg1)
  have hb0 : Hid (BLe base w) := Lib.hid hb
  replace hb := Lib.hid (Nat.le_trans hb hg1.size)
  have hgr : Hid (GLe w w.heap.size) := Lib.hid (Nat.le_refl _)
  have hci : ((b.at_ : Nat) : Int) < (s.length : Int) := by omega
  have hbx : ∀ h : b.at_ < (⟨s.toArray⟩ : ByteArray).size, (⟨s.toArray⟩ : ByteArray)[b.at_]'h = c := fun h => by
    show s.toArray[b.at_] = c
    rw [List.getElem_toArray]
    exact (List.getElem?_eq_some_iff.1 hcs).2
  have c0 : ∀ w', BAt w' base gB s b xs sv → w'.cell? ⟨gB, 0, none⟩ = some (.string ⟨s.toArray⟩) := fun w' hh => (hh.blk.cell 0).trans rfl
  have c1 : ∀ w', BAt w' base gB s b xs sv → w'.cell? ⟨gB, 1, none⟩ = some (.int .i64 (b.at_ : Int)) := fun w' hh => (hh.blk.cell 1).trans rfl
  replace c0 := c0 _ h.out
  replace c1 := c1 _ h.out
  have l1 := h.out.blk.lt
  clear hg1
  go_enter Tryz.func183, Tryz.ntmps183
  go_wp2_with fail
  generalize w.alloc (.cells #[.int .i64 0, .int .i64 0] 213) = w0 at *
  generalize w.heap.size = gR at *
  refine wp_region_k (by kernel_rfl) ?_
  refine wpAnyK_run (l' := #[true, true, true, true, true, true, true, true, true, true]) [0, 1, 2, 3, 4, 5, 6, 7, 8, 9] 0 up_grows (by kernel_rfl) (by intro c a d v w h; first | (cases d <;> exact h) | exact hQ0 _ _ _ _ _ h) rfl (by kernel_rfl) (by kernel_rfl) ?_
  iterate 10 (refine wpMixC_q rfl (fun K hK => ?_); go_simp; (try go_bits); first | (refine hK.out _ ?_; clear hK K) | (apply Exists.intro; refine ⟨fun wq hsq => ?_, hK.out _ ?_⟩; (first | (go_simp; done) | ((try go_simp); (try simp only [↓IntWalk.iteOmega]); (try go_bits); rfl) | (obtain ⟨hcq, hfq⟩ := bcells hsq; go_simp; done) | (obtain ⟨hcq, hfq⟩ := bcells hsq; (try go_simp); (try simp only [↓IntWalk.iteOmega]); (try go_bits); rfl)); clear hK K))
  refine wpMixC_nil ?_
  refine wpAnyK_end (by kernel_rfl) (fun wN hN hS => ?_)
  clear c0 c1 l1
  replace hR := Lib.hid (hR.out.grows hN)
  replace h := Lib.hid (h.out.grows hN)
  replace hG := Lib.hid (hG.out.trans (TKeep.grows hN hb.out))
  replace hb := Lib.hid (Nat.le_trans hb.out hN.size)
  clear hN hS
  have c1 : wN.cell? ⟨gB, 1, none⟩ = some (.int .i64 ((b).at_ : Int)) := (h.out.blk.cell 1).trans rfl
  have f1 := h.out.blk.frozen 1
  have l1 := h.out.blk.lt
  have i1 : -9223372036854775808 ≤ ((b).at_ : Int) + 1 ∧ ((b).at_ : Int) + 1 ≤ 9223372036854775807 := by first | omega | (simp only [advP]; omega)
  have hA := Lib.hid h.out.adv
  have hGA := Lib.hid (hG.out.trans ((TKeep.own h.out (grownBy_cell wN ⟨gB, 1, none⟩ (.int .i64 (((b).at_ : Int) + 1)))).mono hTC.out))
  have hsz : Hid ((wN.setCell ⟨gB, 1, none⟩ (.int .i64 (((b).at_ : Int) + 1))).heap.size = wN.heap.size) := Lib.hid (by simp)
  go_wp2_with fail
  (try replace hset := Lib.hid (hset.out.tk (TKeep.own h.out (grownBy_cell wN ⟨gB, 1, none⟩ (.int .i64 (((b).at_ : Int) + 1)))) (by decide)))
  (try replace hX := Lib.hid ((TKeep.own h.out (grownBy_cell wN ⟨gB, 1, none⟩ (.int .i64 (((b).at_ : Int) + 1)))).blk hX.out (by decide)))
  (try replace hP := Lib.hid ((TKeep.own h.out (grownBy_cell wN ⟨gB, 1, none⟩ (.int .i64 (((b).at_ : Int) + 1)))).blk hP.out (by decide)))
  (try replace hR := Lib.hid ((TKeep.own h.out (grownBy_cell wN ⟨gB, 1, none⟩ (.int .i64 (((b).at_ : Int) + 1)))).blk hR.out (by decide)))
  clear c1 f1 l1 i1 h hG
  generalize wN.setCell ⟨gB, 1, none⟩ (.int .i64 (((b).at_ : Int) + 1)) = w2 at *
  have h := hA
  have hG := hGA
  clear hA hGA
  replace hb := Lib.hid (Nat.le_trans hb0.out hG.out.size)
  -- the set has been made in the block behind w2
  have hset : Hid (SetAt (w2.alloc (.cells #[.int .u64 0, .int .u64 0, .int .u64 0, .int .u64 0] 242)) w2.heap.size zeroW) := Lib.hid ⟨Blk.new w2 _ _, rfl, by intro x hx; simp [zeroW] at hx; omega⟩
  have hgw : Grows w2 (w2.alloc (.cells #[.int .u64 0, .int .u64 0, .int .u64 0, .int .u64 0] 242)) := (Grows.refl _).alloc _
  have hfr := Lib.hid h.out.fresh
  have hgS := hb
  replace hR := Lib.hid (hR.out.grows hgw)
  replace h := Lib.hid (h.out.grows hgw)
  replace hG := Lib.hid (hG.out.trans (TKeep.grows hgw hb.out))
  replace hb : Hid (base ≤ (w2.alloc (.cells #[.int .u64 0, .int .u64 0, .int .u64 0, .int .u64 0] 242)).heap.size) := Lib.hid (Nat.le_trans hb.out hgw.size)
  clear hgw
  generalize w2.alloc (.cells #[.int .u64 0, .int .u64 0, .int .u64 0, .int .u64 0] 242) = w3 at *
  rw [hsz.out] at hset hfr hgS
  clear hsz
  generalize wN.heap.size = gS at *
  refine (cI.out _).mono ?_
  rintro e wI ⟨rfl, hwI⟩
  replace hwI := hwI.symm
  subst hwI
  go_wp2_with fail
  refine (addSet_any (lo := c.toNat) (hi := c.toNat) hset.out (by omega) (by omega)).mono ?_
  rintro e w7 ⟨rfl, hs9, hg9⟩
  replace h := Lib.hid (h.out.setOff hset.out hfr.out hg9)
  replace hR := Lib.hid ((TKeep.set hset.out hgS.out hg9).blk hR.out (by decide))
  replace hG := Lib.hid (hG.out.trans ((TKeep.set hset.out hgS.out hg9).mono hTK.out))
  replace hb := Lib.hid (Nat.le_trans hb0.out hG.out.size)
  replace hset := Lib.hid hs9
  clear hs9 hg9
  go_wp2_with fail
  refine (one_any h.out hset.out hgS.out hb.out (by have := hcl.out; simp only [advP]; omega)).mono ?_
  rintro e wE ⟨rfl, xsE, svE, h', hk'⟩
  replace h := Lib.hid h'
  (try replace hX := Lib.hid ((hk'.mono hTS.out).blk hX.out (by decide)))
  (try replace hP := Lib.hid ((hk'.mono hTS.out).blk hP.out (by decide)))
  (try replace hR := Lib.hid ((hk'.mono hTS.out).blk hR.out (by decide)))
  replace hG := Lib.hid (hG.out.trans (hk'.mono hTS.out))
  replace hb := Lib.hid (Nat.le_trans hb0.out hG.out.size)
  clear h' hk' hset
  generalize hr : oneP (addSet zeroW c.toNat c.toNat) (advP b) = r at *
  obtain ⟨rb, p1, p2⟩ := r
  simp only [partV]
  (try clear d0R); (try clear d1R); (try clear l0R); (try clear f0R); (try clear f1R)
  have d0R : wE.cell? ⟨gR, 0, none⟩ = _ := hR.out.cell 0
  have d1R : wE.cell? ⟨gR, 1, none⟩ = _ := hR.out.cell 1
  have f0R := hR.out.frozen 0
  have f1R := hR.out.frozen 1
  have l0R := hR.out.lt
  go_wp2
  clear d0R d1R f0R f1R l0R
  have hBz := hR.out.set_ 0 (.int .i64 (p1 : Int))
  have hBy := hBz.set_ 1 (.int .i64 (p2 : Int))
  have hke := (hG.out.setNew (g := gR) (i := 0) hgr.out hb0.out (.int .i64 (p1 : Int))).setNew (g := gR) (i := 1) hgr.out hb0.out (.int .i64 (p2 : Int))
  have hBf := (h.out.far hR.out (by decide) (grownBy_cell wE ⟨gR, 0, none⟩ (.int .i64 (p1 : Int)))).far hBz (by decide) (grownBy_cell _ ⟨gR, 1, none⟩ (.int .i64 (p2 : Int)))
  clear hR hG h hBz
  generalize (wE.setCell ⟨gR, 0, none⟩ (.int .i64 (p1 : Int))).setCell ⟨gR, 1, none⟩ (.int .i64 (p2 : Int)) = w7 at *
  have e0 : w7.cell? ⟨gR, 0, none⟩ = some (.int .i64 (p1 : Int)) := hBy.cell 0
  have e1 : w7.cell? ⟨gR, 1, none⟩ = some (.int .i64 (p2 : Int)) := hBy.cell 1
  refine bodyPost_ret (v := partV (p1, p2)) ?_ rfl ⟨?_, ?_⟩
  · simp [partV, results, Tryz.results183, go_sem, e0, e1]
  · rw [hat.out]
  · rw [hat.out]; exact ⟨_, _, hBf, hke⟩
end Go.Proofs.YtfoffneipdkdjaaGreatDoor
