/- Parts: PatM PatN PatO PatR -/
import Derived.Test.YtfoffneipdkdjaaGreatDoorBs17
namespace Go.Proofs.YtfoffneipdkdjaaGreatDoor
open Go.RowKit

theorem blk_ne {w : World} {g k : Nat} {t u : TypeId} {cs ds : Array Value} (h : Blk w g t cs) (k' : Blk w k u ds) (hne : t ≠ u) (e : g = k) : False := by
  subst e
  unfold Blk at h k'
  rw [h] at k'
  simp only [Option.some.injEq, Obj.cells.injEq] at k'
  exact hne k'.2.1
set_option maxRecDepth 100000 in
set_option maxHeartbeats 3200000 in
theorem atom_some {w : World} {base gB dp : Nat} {s : List UInt8} {b : PB} {c : UInt8} {sub : Option (PB → PB × PPt)} {f : PB → PB × PPt} {xs : List StX} {sv : Value} (hsub : SubOK s sub dp) (hsp : SubP s 11 sub) (h : BAt w base gB s b xs sv) (hb : base ≤ w.heap.size) (hsl : s.length ≤ 100) (hcs : s[b.at_]? = some c) (hc : costP b ≤ 8 * b.at_ + 61) (h40 : c = 40) (hsb : sub = some f) :
    Calls Tryz.prog 183 #[.pointer (some ⟨gB, 0, none⟩), .int .i64 (dp : Int)] w (PartPostS base gB s w (atomP s sub c b)) := by
  have i40 : (c.toNat : Int) = 40 := by rw [h40]; rfl
  have hal : Hid ((advP b).at_ ≤ s.length) := Lib.hid (by have := (List.getElem?_eq_some_iff.1 hcs).1; simp only [advP]; omega)
  obtain ⟨hdp, hsubc⟩ := hsub.2 f hsb
  have hdpi : ¬ (dp : Int) = 8 := by omega
  have hdpi2 : (dp : Int) ≤ 8 ∧ 0 ≤ (dp : Int) := by omega
  have hok := hsp f hsb (advP b) hal.out
  have hat : Hid (atomP s sub c b = (advP (if pkP s (f (advP b)).1 = some 41 then (f (advP b)).1 else failP 2 (f (advP b)).1), (f (advP b)).2)) := Lib.hid (by unfold atomP; rw [if_pos h40, hsb])
  have hcs2 : Hid (costP (advP b) ≤ 8 * (advP b).at_ + 53) := Lib.hid (by rw [costP_adv]; simp only [advP]; omega)
  replace hsubc := Lib.hid hsubc
  replace hok := Lib.hid hok
  clear h40 hsp hsub hsb
  have hlt : b.at_ < s.length := (List.getElem?_eq_some_iff.1 hcs).1
  have hTC : Hid (∀ t ∈ [211], t ∈ TS) := Lib.hid (by intro t ht; simp [TS, TB] at *; exact .inr (.inl ht))
  have hTS : Hid (∀ t ∈ TB, t ∈ TS) := Lib.hid (fun t ht => List.mem_cons_of_mem _ ht)
  have hTK : Hid (∀ t ∈ TC, t ∈ TS) := Lib.hid (by intro t ht; simp [TS, TB, TC] at *; rcases ht with h | h; exact .inr (.inl h); exact .inl h)
  have hR := Blk.new w 213 #[.int .i64 0, .int .i64 0]
  have hg1 : Grows w (w.alloc (.cells #[.int .i64 0, .int .i64 0] 213)) := (Grows.refl _).alloc _
  replace hR := Lib.hid hR
  have hG := Lib.hid (TKeep.grows (T := TS) hg1 hb)
  replace h := Lib.hid (h.grows hg1)
  have hb0 : Hid (BLe base w) := Lib.hid hb
  replace hb := Lib.hid (Nat.le_trans hb hg1.size)
  have hgr : Hid (GLe w w.heap.size) := Lib.hid (Nat.le_refl _)
  have hci : ((b.at_ : Nat) : Int) < (s.length : Int) := by omega
  have hbx : ∀ h : b.at_ < (⟨s.toArray⟩ : ByteArray).size, (⟨s.toArray⟩ : ByteArray)[b.at_]'h = c := fun h => by
    show s.toArray[b.at_] = c
    rw [List.getElem_toArray]
    exact (List.getElem?_eq_some_iff.1 hcs).2
  have c0 : ∀ w', BAt w' base gB s b xs sv → w'.cell? ⟨gB, 0, none⟩ = some (.string ⟨s.toArray⟩) := fun w' hh => (hh.blk.cell 0).trans rfl
  have c1 : ∀ w', BAt w' base gB s b xs sv → w'.cell? ⟨gB, 1, none⟩ = some (.int .i64 (b.at_ : Int)) := fun w' hh => (hh.blk.cell 1).trans rfl
  replace c0 := c0 _ h.out
  replace c1 := c1 _ h.out
  have l1 := h.out.blk.lt
  clear hg1
  go_enter Tryz.func183, Tryz.ntmps183
  go_wp2_with fail
  generalize w.alloc (.cells #[.int .i64 0, .int .i64 0] 213) = w0 at *
  generalize w.heap.size = gR at *
  refine wp_region_k (by kernel_rfl) ?_
  refine wpAnyK_run (l' := #[true, true, true, true, true, true, true, true, true, true]) [0, 1, 2, 3, 4, 5, 6, 7, 8, 9] 0 up_grows (by kernel_rfl) (by intro c a d v w h; first | (cases d <;> exact h) | exact hQ0 _ _ _ _ _ h) rfl (by kernel_rfl) (by kernel_rfl) ?_
  iterate 10 (refine wpMixC_q rfl (fun K hK => ?_); go_simp; (try go_bits); first | (refine hK.out _ ?_; clear hK K) | (apply Exists.intro; refine ⟨fun wq hsq => ?_, hK.out _ ?_⟩; (first | (go_simp; done) | ((try go_simp); (try simp only [↓IntWalk.iteOmega]); (try go_bits); rfl) | (obtain ⟨hcq, hfq⟩ := bcells hsq; go_simp; done) | (obtain ⟨hcq, hfq⟩ := bcells hsq; (try go_simp); (try simp only [↓IntWalk.iteOmega]); (try go_bits); rfl)); clear hK K))
  refine wpMixC_nil ?_
  refine wpAnyK_end (by kernel_rfl) (fun wN hN hS => ?_)
  clear c0 c1 l1
  replace hR := Lib.hid (hR.out.grows hN)
  replace h := Lib.hid (h.out.grows hN)
  replace hG := Lib.hid (hG.out.trans (TKeep.grows hN hb.out))
  replace hb := Lib.hid (Nat.le_trans hb.out hN.size)
  clear hN hS
  have c1 : wN.cell? ⟨gB, 1, none⟩ = some (.int .i64 ((b).at_ : Int)) := (h.out.blk.cell 1).trans rfl
  have f1 := h.out.blk.frozen 1
  have l1 := h.out.blk.lt
  have i1 : -9223372036854775808 ≤ ((b).at_ : Int) + 1 ∧ ((b).at_ : Int) + 1 ≤ 9223372036854775807 := by first | omega | (simp only [advP]; omega)
  have hA := Lib.hid h.out.adv
  have hGA := Lib.hid (hG.out.trans ((TKeep.own h.out (grownBy_cell wN ⟨gB, 1, none⟩ (.int .i64 (((b).at_ : Int) + 1)))).mono hTC.out))
  have hsz : Hid ((wN.setCell ⟨gB, 1, none⟩ (.int .i64 (((b).at_ : Int) + 1))).heap.size = wN.heap.size) := Lib.hid (by simp)
  go_wp2_with fail
  (try replace hset := Lib.hid (hset.out.tk (TKeep.own h.out (grownBy_cell wN ⟨gB, 1, none⟩ (.int .i64 (((b).at_ : Int) + 1)))) (by decide)))
  (try replace hX := Lib.hid ((TKeep.own h.out (grownBy_cell wN ⟨gB, 1, none⟩ (.int .i64 (((b).at_ : Int) + 1)))).blk hX.out (by decide)))
  (try replace hP := Lib.hid ((TKeep.own h.out (grownBy_cell wN ⟨gB, 1, none⟩ (.int .i64 (((b).at_ : Int) + 1)))).blk hP.out (by decide)))
  (try replace hR := Lib.hid ((TKeep.own h.out (grownBy_cell wN ⟨gB, 1, none⟩ (.int .i64 (((b).at_ : Int) + 1)))).blk hR.out (by decide)))
  clear c1 f1 l1 i1 h hG
  generalize wN.setCell ⟨gB, 1, none⟩ (.int .i64 (((b).at_ : Int) + 1)) = w2 at *
  have h := hA
  have hG := hGA
  clear hA hGA
  replace hb := Lib.hid (Nat.le_trans hb0.out hG.out.size)
  -- the set has been made; nothing asks for it
  have hgw : Grows w2 (w2.alloc (.cells #[.int .u64 0, .int .u64 0, .int .u64 0, .int .u64 0] 242)) := (Grows.refl _).alloc _
  replace hR := Lib.hid (hR.out.grows hgw)
  replace h := Lib.hid (h.out.grows hgw)
  replace hG := Lib.hid (hG.out.trans (TKeep.grows hgw hb.out))
  replace hb : Hid (base ≤ (w2.alloc (.cells #[.int .u64 0, .int .u64 0, .int .u64 0, .int .u64 0] 242)).heap.size) := Lib.hid (Nat.le_trans hb.out hgw.size)
  clear hgw
  generalize w2.alloc (.cells #[.int .u64 0, .int .u64 0, .int .u64 0, .int .u64 0] 242) = w3 at *
  refine (hsubc.out _ _ _ _ _ _ h.out hb.out hal.out hcs2.out).mono ?_
  rintro e w4 ⟨rfl, xs4, sv4, h', hk'⟩
  replace h := Lib.hid h'
  (try replace hX := Lib.hid (hk'.blk hX.out (by decide)))
  (try replace hP := Lib.hid (hk'.blk hP.out (by decide)))
  (try replace hR := Lib.hid (hk'.blk hR.out (by decide)))
  replace hG := Lib.hid (hG.out.trans hk')
  replace hb := Lib.hid (Nat.le_trans hb0.out hG.out.size)
  clear h' hk' hsubc hcs2
  generalize f (advP b) = r at *
  obtain ⟨rb, p1, p2⟩ := r
  simp only [partV]
  have hWr := hok.out.2.1
  replace hWr := Lib.hid hWr
  cases hp : pkP s rb with
  | none =>
    have hpv : pkV s rb = .tuple #[.int .u8 0, .bool false] := by simp only [pkV, hp]
    have hat2 : Hid (atomP s sub c b = (advP (failP 2 rb), (p1, p2))) := Lib.hid (by rw [hat.out, hp]; rfl)
    clear hp hat
    go_wp2_with fail
    -- the part p has been made in the block behind w
    have hP := Blk.new w4 213 #[.int .i64 (p1 : Int), .int .i64 (p2 : Int)]
    have hgw : Grows w4 (w4.alloc (.cells #[.int .i64 (p1 : Int), .int .i64 (p2 : Int)] 213)) := (Grows.refl _).alloc _
    (try replace hX := Lib.hid (hX.out.grows hgw))
    (try replace hR := Lib.hid (hR.out.grows hgw))
    replace h := Lib.hid (h.out.grows hgw)
    replace hG := Lib.hid (hG.out.trans (TKeep.grows hgw hb.out))
    replace hb := Lib.hid (Nat.le_trans hb.out hgw.size)
    clear hgw
    generalize w4.alloc (.cells #[.int .i64 (p1 : Int), .int .i64 (p2 : Int)] 213) = w5 at *
    generalize w4.heap.size = gP at *
    replace hP := Lib.hid hP
    refine (peek_any h.out).mono ?_
    rintro e w6 ⟨rfl, hgw6⟩
    replace h := Lib.hid (h.out.grows hgw6)
    replace hG := Lib.hid (hG.out.trans (TKeep.grows hgw6 hb.out))
    replace hb := Lib.hid (Nat.le_trans hb.out hgw6.size)
    (try replace hset := Lib.hid (hset.out.grows hgw6))
    (try replace hX := Lib.hid (hX.out.grows hgw6))
    (try replace hP := Lib.hid (hP.out.grows hgw6))
    (try replace hR := Lib.hid (hR.out.grows hgw6))
    clear hgw6
    rw [hpv]
    clear hpv
    go_wp2_with fail
    refine (fail_any2 h.out).mono ?_
    rintro e w7 ⟨rfl, hBw7, hgw7⟩
    (try replace hset := Lib.hid (hset.out.tk (TKeep.own h.out hgw7) (by decide)))
    (try replace hX := Lib.hid ((TKeep.own h.out hgw7).blk hX.out (by decide)))
    (try replace hP := Lib.hid ((TKeep.own h.out hgw7).blk hP.out (by decide)))
    (try replace hR := Lib.hid ((TKeep.own h.out hgw7).blk hR.out (by decide)))
    replace hG := Lib.hid (hG.out.trans ((TKeep.own h.out hgw7).mono hTC.out))
    replace h := Lib.hid hBw7
    replace hb := Lib.hid (Nat.le_trans hb0.out hG.out.size)
    clear hBw7 hgw7
    have hfa : (failP 2 rb).at_ < 100000 := by rw [failP_at]; have := hWr.out.1; omega
    have c1 : w7.cell? ⟨gB, 1, none⟩ = some (.int .i64 (((failP 2 rb)).at_ : Int)) := (h.out.blk.cell 1).trans rfl
    have f1 := h.out.blk.frozen 1
    have l1 := h.out.blk.lt
    have i1 : -9223372036854775808 ≤ (((failP 2 rb)).at_ : Int) + 1 ∧ (((failP 2 rb)).at_ : Int) + 1 ≤ 9223372036854775807 := by omega
    have hkq := TKeep.own h.out (grownBy_cell w7 ⟨gB, 1, none⟩ (.int .i64 ((((failP 2 rb)).at_ : Int) + 1)))
    have hA := Lib.hid h.out.adv
    have hP2 := Lib.hid (hkq.blk hP.out (by decide))
    have hR2 := Lib.hid (hkq.blk hR.out (by decide))
    have hG2 := Lib.hid (hG.out.trans (hkq.mono hTC.out))
    have hPB : ¬ gP = gB := fun e => blk_ne hP.out h.out.blk (by decide) e
    have hRB : ¬ gR = gB := fun e => blk_ne hR.out h.out.blk (by decide) e
    have hBR : ¬ gB = gR := fun e => hRB e.symm
    (try clear d0P); (try clear d1P); (try clear l0P); (try clear f0P); (try clear f1P)
    have d0P : w7.cell? ⟨gP, 0, none⟩ = _ := hP.out.cell 0
    have d1P : w7.cell? ⟨gP, 1, none⟩ = _ := hP.out.cell 1
    have f0P := hP.out.frozen 0
    have f1P := hP.out.frozen 1
    have l0P := hP.out.lt
    (try clear d0R); (try clear d1R); (try clear l0R); (try clear f0R); (try clear f1R)
    have d0R : w7.cell? ⟨gR, 0, none⟩ = _ := hR.out.cell 0
    have d1R : w7.cell? ⟨gR, 1, none⟩ = _ := hR.out.cell 1
    have f0R := hR.out.frozen 0
    have f1R := hR.out.frozen 1
    have l0R := hR.out.lt
    clear hkq
    go_wp2
    clear c1 f1 l1 i1 hPB hRB hBR
    clear d0P d1P f0P f1P l0P
    clear d0R d1R f0R f1R l0R
    clear hP hR hG h
    have h := hA
    have hR := hR2
    have hG := hG2
    clear hA hP2 hR2 hG2
    generalize w7.setCell ⟨gB, 1, none⟩ (.int .i64 ((((failP 2 rb)).at_ : Int) + 1)) = wz at *
    have hBz := hR.out.set_ 0 (.int .i64 (p1 : Int))
    have hBy := hBz.set_ 1 (.int .i64 (p2 : Int))
    have hke := (hG.out.setNew (g := gR) (i := 0) hgr.out hb0.out (.int .i64 (p1 : Int))).setNew (g := gR) (i := 1) hgr.out hb0.out (.int .i64 (p2 : Int))
    have hBf := (h.out.far hR.out (by decide) (grownBy_cell wz ⟨gR, 0, none⟩ (.int .i64 (p1 : Int)))).far hBz (by decide) (grownBy_cell _ ⟨gR, 1, none⟩ (.int .i64 (p2 : Int)))
    clear hR hG h hBz
    generalize (wz.setCell ⟨gR, 0, none⟩ (.int .i64 (p1 : Int))).setCell ⟨gR, 1, none⟩ (.int .i64 (p2 : Int)) = w7 at *
    have e0 : w7.cell? ⟨gR, 0, none⟩ = some (.int .i64 (p1 : Int)) := hBy.cell 0
    have e1 : w7.cell? ⟨gR, 1, none⟩ = some (.int .i64 (p2 : Int)) := hBy.cell 1
    refine bodyPost_ret (v := partV (p1, p2)) ?_ rfl ⟨?_, ?_⟩
    · simp [partV, results, Tryz.results183, go_sem, e0, e1]
    · rw [hat2.out]
    · rw [hat2.out]; exact ⟨_, _, hBf, hke⟩
  | some d =>
    have hpv : pkV s rb = .tuple #[.int .u8 (d.toNat : Int), .bool true] := by simp only [pkV, hp]
    by_cases h41 : d = 41
    · have i41 : (d.toNat : Int) = 41 := by rw [h41]; rfl
      have hat2 : Hid (atomP s sub c b = (advP rb, (p1, p2))) := Lib.hid (by rw [hat.out, hp]; simp [h41])
      clear hp hat h41
      go_wp2_with fail
      -- the part p has been made in the block behind w
      have hP := Blk.new w4 213 #[.int .i64 (p1 : Int), .int .i64 (p2 : Int)]
      have hgw : Grows w4 (w4.alloc (.cells #[.int .i64 (p1 : Int), .int .i64 (p2 : Int)] 213)) := (Grows.refl _).alloc _
      (try replace hX := Lib.hid (hX.out.grows hgw))
      (try replace hR := Lib.hid (hR.out.grows hgw))
      replace h := Lib.hid (h.out.grows hgw)
      replace hG := Lib.hid (hG.out.trans (TKeep.grows hgw hb.out))
      replace hb := Lib.hid (Nat.le_trans hb.out hgw.size)
      clear hgw
      generalize w4.alloc (.cells #[.int .i64 (p1 : Int), .int .i64 (p2 : Int)] 213) = w5 at *
      generalize w4.heap.size = gP at *
      replace hP := Lib.hid hP
      refine (peek_any h.out).mono ?_
      rintro e w6 ⟨rfl, hgw6⟩
      replace h := Lib.hid (h.out.grows hgw6)
      replace hG := Lib.hid (hG.out.trans (TKeep.grows hgw6 hb.out))
      replace hb := Lib.hid (Nat.le_trans hb.out hgw6.size)
      (try replace hset := Lib.hid (hset.out.grows hgw6))
      (try replace hX := Lib.hid (hX.out.grows hgw6))
      (try replace hP := Lib.hid (hP.out.grows hgw6))
      (try replace hR := Lib.hid (hR.out.grows hgw6))
      clear hgw6
      rw [hpv]
      clear hpv
      have hw1 : rb.at_ < 100000 := by have := hWr.out.1; omega
      have c1 : w6.cell? ⟨gB, 1, none⟩ = some (.int .i64 ((rb).at_ : Int)) := (h.out.blk.cell 1).trans rfl
      have f1 := h.out.blk.frozen 1
      have l1 := h.out.blk.lt
      have i1 : -9223372036854775808 ≤ ((rb).at_ : Int) + 1 ∧ ((rb).at_ : Int) + 1 ≤ 9223372036854775807 := by omega
      have hkq := TKeep.own h.out (grownBy_cell w6 ⟨gB, 1, none⟩ (.int .i64 (((rb).at_ : Int) + 1)))
      have hA := Lib.hid h.out.adv
      have hP2 := Lib.hid (hkq.blk hP.out (by decide))
      have hR2 := Lib.hid (hkq.blk hR.out (by decide))
      have hG2 := Lib.hid (hG.out.trans (hkq.mono hTC.out))
      have hPB : ¬ gP = gB := fun e => blk_ne hP.out h.out.blk (by decide) e
      have hRB : ¬ gR = gB := fun e => blk_ne hR.out h.out.blk (by decide) e
      have hBR : ¬ gB = gR := fun e => hRB e.symm
      (try clear d0P); (try clear d1P); (try clear l0P); (try clear f0P); (try clear f1P)
      have d0P : w6.cell? ⟨gP, 0, none⟩ = _ := hP.out.cell 0
      have d1P : w6.cell? ⟨gP, 1, none⟩ = _ := hP.out.cell 1
      have f0P := hP.out.frozen 0
      have f1P := hP.out.frozen 1
      have l0P := hP.out.lt
      (try clear d0R); (try clear d1R); (try clear l0R); (try clear f0R); (try clear f1R)
      have d0R : w6.cell? ⟨gR, 0, none⟩ = _ := hR.out.cell 0
      have d1R : w6.cell? ⟨gR, 1, none⟩ = _ := hR.out.cell 1
      have f0R := hR.out.frozen 0
      have f1R := hR.out.frozen 1
      have l0R := hR.out.lt
      clear hkq
      go_wp2
      clear c1 f1 l1 i1 hPB hRB hBR
      clear d0P d1P f0P f1P l0P
      clear d0R d1R f0R f1R l0R
      clear hP hR hG h
      have h := hA
      have hR := hR2
      have hG := hG2
      clear hA hP2 hR2 hG2
      generalize w6.setCell ⟨gB, 1, none⟩ (.int .i64 (((rb).at_ : Int) + 1)) = wz at *
      have hBz := hR.out.set_ 0 (.int .i64 (p1 : Int))
      have hBy := hBz.set_ 1 (.int .i64 (p2 : Int))
      have hke := (hG.out.setNew (g := gR) (i := 0) hgr.out hb0.out (.int .i64 (p1 : Int))).setNew (g := gR) (i := 1) hgr.out hb0.out (.int .i64 (p2 : Int))
      have hBf := (h.out.far hR.out (by decide) (grownBy_cell wz ⟨gR, 0, none⟩ (.int .i64 (p1 : Int)))).far hBz (by decide) (grownBy_cell _ ⟨gR, 1, none⟩ (.int .i64 (p2 : Int)))
      clear hR hG h hBz
      generalize (wz.setCell ⟨gR, 0, none⟩ (.int .i64 (p1 : Int))).setCell ⟨gR, 1, none⟩ (.int .i64 (p2 : Int)) = w7 at *
      have e0 : w7.cell? ⟨gR, 0, none⟩ = some (.int .i64 (p1 : Int)) := hBy.cell 0
      have e1 : w7.cell? ⟨gR, 1, none⟩ = some (.int .i64 (p2 : Int)) := hBy.cell 1
      refine bodyPost_ret (v := partV (p1, p2)) ?_ rfl ⟨?_, ?_⟩
      · simp [partV, results, Tryz.results183, go_sem, e0, e1]
      · rw [hat2.out]
      · rw [hat2.out]; exact ⟨_, _, hBf, hke⟩
    · have i41 : ¬ (d.toNat : Int) = 41 := fun e => h41 (UInt8.toNat_inj.1 (by show d.toNat = 41; omega))
      have hat2 : Hid (atomP s sub c b = (advP (failP 2 rb), (p1, p2))) := Lib.hid (by rw [hat.out, hp]; simp [h41])
      clear hp hat h41
      go_wp2_with fail
      -- the part p has been made in the block behind w
      have hP := Blk.new w4 213 #[.int .i64 (p1 : Int), .int .i64 (p2 : Int)]
      have hgw : Grows w4 (w4.alloc (.cells #[.int .i64 (p1 : Int), .int .i64 (p2 : Int)] 213)) := (Grows.refl _).alloc _
      (try replace hX := Lib.hid (hX.out.grows hgw))
      (try replace hR := Lib.hid (hR.out.grows hgw))
      replace h := Lib.hid (h.out.grows hgw)
      replace hG := Lib.hid (hG.out.trans (TKeep.grows hgw hb.out))
      replace hb := Lib.hid (Nat.le_trans hb.out hgw.size)
      clear hgw
      generalize w4.alloc (.cells #[.int .i64 (p1 : Int), .int .i64 (p2 : Int)] 213) = w5 at *
      generalize w4.heap.size = gP at *
      replace hP := Lib.hid hP
      refine (peek_any h.out).mono ?_
      rintro e w6 ⟨rfl, hgw6⟩
      replace h := Lib.hid (h.out.grows hgw6)
      replace hG := Lib.hid (hG.out.trans (TKeep.grows hgw6 hb.out))
      replace hb := Lib.hid (Nat.le_trans hb.out hgw6.size)
      (try replace hset := Lib.hid (hset.out.grows hgw6))
      (try replace hX := Lib.hid (hX.out.grows hgw6))
      (try replace hP := Lib.hid (hP.out.grows hgw6))
      (try replace hR := Lib.hid (hR.out.grows hgw6))
      clear hgw6
      rw [hpv]
      clear hpv
      go_wp2_with fail
      refine (fail_any2 h.out).mono ?_
      rintro e w7 ⟨rfl, hBw7, hgw7⟩
      (try replace hset := Lib.hid (hset.out.tk (TKeep.own h.out hgw7) (by decide)))
      (try replace hX := Lib.hid ((TKeep.own h.out hgw7).blk hX.out (by decide)))
      (try replace hP := Lib.hid ((TKeep.own h.out hgw7).blk hP.out (by decide)))
      (try replace hR := Lib.hid ((TKeep.own h.out hgw7).blk hR.out (by decide)))
      replace hG := Lib.hid (hG.out.trans ((TKeep.own h.out hgw7).mono hTC.out))
      replace h := Lib.hid hBw7
      replace hb := Lib.hid (Nat.le_trans hb0.out hG.out.size)
      clear hBw7 hgw7
      have hfa : (failP 2 rb).at_ < 100000 := by rw [failP_at]; have := hWr.out.1; omega
      have hw1 : rb.at_ < 100000 := by have := hWr.out.1; omega
      have c1 : w7.cell? ⟨gB, 1, none⟩ = some (.int .i64 (((failP 2 rb)).at_ : Int)) := (h.out.blk.cell 1).trans rfl
      have f1 := h.out.blk.frozen 1
      have l1 := h.out.blk.lt
      have i1 : -9223372036854775808 ≤ (((failP 2 rb)).at_ : Int) + 1 ∧ (((failP 2 rb)).at_ : Int) + 1 ≤ 9223372036854775807 := by omega
      have hkq := TKeep.own h.out (grownBy_cell w7 ⟨gB, 1, none⟩ (.int .i64 ((((failP 2 rb)).at_ : Int) + 1)))
      have hA := Lib.hid h.out.adv
      have hP2 := Lib.hid (hkq.blk hP.out (by decide))
      have hR2 := Lib.hid (hkq.blk hR.out (by decide))
      have hG2 := Lib.hid (hG.out.trans (hkq.mono hTC.out))
      have hPB : ¬ gP = gB := fun e => blk_ne hP.out h.out.blk (by decide) e
      have hRB : ¬ gR = gB := fun e => blk_ne hR.out h.out.blk (by decide) e
      have hBR : ¬ gB = gR := fun e => hRB e.symm
      (try clear d0P); (try clear d1P); (try clear l0P); (try clear f0P); (try clear f1P)
      have d0P : w7.cell? ⟨gP, 0, none⟩ = _ := hP.out.cell 0
      have d1P : w7.cell? ⟨gP, 1, none⟩ = _ := hP.out.cell 1
      have f0P := hP.out.frozen 0
      have f1P := hP.out.frozen 1
      have l0P := hP.out.lt
      (try clear d0R); (try clear d1R); (try clear l0R); (try clear f0R); (try clear f1R)
      have d0R : w7.cell? ⟨gR, 0, none⟩ = _ := hR.out.cell 0
      have d1R : w7.cell? ⟨gR, 1, none⟩ = _ := hR.out.cell 1
      have f0R := hR.out.frozen 0
      have f1R := hR.out.frozen 1
      have l0R := hR.out.lt
      clear hkq
      go_wp2
      clear c1 f1 l1 i1 hPB hRB hBR
      clear d0P d1P f0P f1P l0P
      clear d0R d1R f0R f1R l0R
      clear hP hR hG h
      have h := hA
      have hR := hR2
      have hG := hG2
      clear hA hP2 hR2 hG2
      generalize w7.setCell ⟨gB, 1, none⟩ (.int .i64 ((((failP 2 rb)).at_ : Int) + 1)) = wz at *
      have hBz := hR.out.set_ 0 (.int .i64 (p1 : Int))
      have hBy := hBz.set_ 1 (.int .i64 (p2 : Int))
      have hke := (hG.out.setNew (g := gR) (i := 0) hgr.out hb0.out (.int .i64 (p1 : Int))).setNew (g := gR) (i := 1) hgr.out hb0.out (.int .i64 (p2 : Int))
      have hBf := (h.out.far hR.out (by decide) (grownBy_cell wz ⟨gR, 0, none⟩ (.int .i64 (p1 : Int)))).far hBz (by decide) (grownBy_cell _ ⟨gR, 1, none⟩ (.int .i64 (p2 : Int)))
      clear hR hG h hBz
      generalize (wz.setCell ⟨gR, 0, none⟩ (.int .i64 (p1 : Int))).setCell ⟨gR, 1, none⟩ (.int .i64 (p2 : Int)) = w7 at *
      have e0 : w7.cell? ⟨gR, 0, none⟩ = some (.int .i64 (p1 : Int)) := hBy.cell 0
      have e1 : w7.cell? ⟨gR, 1, none⟩ = some (.int .i64 (p2 : Int)) := hBy.cell 1
      refine bodyPost_ret (v := partV (p1, p2)) ?_ rfl ⟨?_, ?_⟩
      · simp [partV, results, Tryz.results183, go_sem, e0, e1]
      · rw [hat2.out]
      · rw [hat2.out]; exact ⟨_, _, hBf, hke⟩
theorem atom_any {w : World} {base gB dp : Nat} {s : List UInt8} {b : PB} {c : UInt8} {sub : Option (PB → PB × PPt)} {xs : List StX} {sv : Value} (hsub : SubOK s sub dp) (hsp : SubP s 11 sub) (h : BAt w base gB s b xs sv) (hb : base ≤ w.heap.size) (hsl : s.length ≤ 100) (hcs : s[b.at_]? = some c) (hc : costP b ≤ 8 * b.at_ + 61) :
    Calls Tryz.prog 183 #[.pointer (some ⟨gB, 0, none⟩), .int .i64 (dp : Int)] w (PartPostS base gB s w (atomP s sub c b)) := by
  by_cases h40 : c = 40
  · cases hsb : sub with
    | none => rw [← hsb]; exact atom_none hsub hsp h hb hsl hcs hc h40 hsb
    | some f => rw [← hsb]; exact atom_some hsub hsp h hb hsl hcs hc h40 hsb
  · by_cases h91 : c = 91
    · exact atom_class h hb hsl hcs hc h40 h91
    · by_cases h46 : c = 46
      · exact atom_dot h hb hsl hcs hc h40 h91 h46
      · by_cases h92 : c = 92
        · cases hp : pkP s (advP b) with
          | none => exact atom_slash0 h hb hsl hcs hc h40 h91 h46 h92 hp
          | some d => exact atom_slash h hb hsl hcs hc h40 h91 h46 h92 hp
        · by_cases ho : oddB c = true
          · exact atom_odd h hb hsl hcs hc h40 h91 h46 h92 ho
          · exact atom_plain h hb hsl hcs hc h40 h91 h46 h92 ho
end Go.Proofs.YtfoffneipdkdjaaGreatDoor
namespace Go.Proofs.YtfoffneipdkdjaaGreatDoor
open Go.RowKit

theorem atomP_at {s : List UInt8} {k : Nat} {sub : Option (PB → PB × PPt)} {c : UInt8} {b : PB} (hs : SubP s k sub) (hb : b.at_ < s.length) : b.at_ + 1 ≤ (atomP s sub c b).1.at_ := by
  have ha : (advP b).at_ = b.at_ + 1 := rfl
  have hal : (advP b).at_ ≤ s.length := by omega
  have ho : ∀ ws z, (oneP ws z).1.at_ = z.at_ := fun ws z => (oneP_ok ws z).2.2.1
  unfold atomP
  split
  · split
    · rw [ho, failP_at]; omega
    · rename_i f
      have h1 := (hs f rfl (advP b) hal).1.at_
      simp only
      split
      · show _ ≤ (f (advP b)).1.at_ + 1; omega
      · show _ ≤ (failP 2 (f (advP b)).1).at_ + 1; rw [failP_at]; omega
  · split
    · have h1 := (classP_ok (s := s) (b := advP b) (WP.of_le hal)).1.at_
      simp only
      rw [ho]; omega
    · split
      · rw [ho]; omega
      · split
        · split
          · rw [ho]; show _ ≤ (failP 2 (advP b)).at_ + 1; rw [failP_at]; omega
          · rw [ho]; show _ ≤ (advP b).at_ + 1; omega
        · split
          · rw [ho, failP_at]; omega
          · rw [ho]; omega
set_option maxRecDepth 100000 in
set_option maxHeartbeats 3200000 in
theorem row_any {w : World} {base gB dp : Nat} {s : List UInt8} {b : PB} {sub : Option (PB → PB × PPt)} {xs : List StX} {sv : Value} (hsub : SubOK s sub dp) (hsp : SubP s 11 sub) (h : BAt w base gB s b xs sv) (hb : base ≤ w.heap.size) (hsl : s.length ≤ 100) (hW : WP s 12 b) (hc : costP b ≤ 8 * b.at_ + 60) :
    Calls Tryz.prog 172 #[.pointer (some ⟨gB, 0, none⟩), .int .i64 (dp : Int)] w (PartPostS base gB s w (rowP s sub b)) := by
  have hTC : Hid (∀ t ∈ [211], t ∈ TS) := Lib.hid (by intro t ht; simp [TS, TB] at *; exact .inr (.inl ht))
  have hTS : Hid (∀ t ∈ TB, t ∈ TS) := Lib.hid (fun t ht => List.mem_cons_of_mem _ ht)
  have hR := Blk.new w 213 #[.int .i64 0, .int .i64 0]
  have hg1 : Grows w (w.alloc (.cells #[.int .i64 0, .int .i64 0] 213)) := (Grows.refl _).alloc _
  replace hR := Lib.hid hR
  have hG := Lib.hid (TKeep.grows (T := TS) hg1 hb)
  replace h := Lib.hid (h.grows hg1)
  have hb0 : Hid (BLe base w) := Lib.hid hb
  replace hb := Lib.hid (Nat.le_trans hb hg1.size)
  have hgr : Hid (GLe w w.heap.size) := Lib.hid (Nat.le_refl _)
  have hrp : Hid (rowP s sub b = rowL s sub (s.length + 1) (b.sts.length, b.sts.length) (nodeP b)) := Lib.hid rfl
  replace hsub := Lib.hid hsub
  replace hsp := Lib.hid hsp
  replace hW := Lib.hid hW
  replace hc := Lib.hid hc
  clear hg1
  go_enter Tryz.func172, Tryz.ntmps172
  go_wp2_with fail
  generalize w.alloc (.cells #[.int .i64 0, .int .i64 0] 213) = w0 at *
  generalize w.heap.size = gR at *
  refine (node_any h.out hb.out (by have := costP_len b; have := hc.out; have := hW.out.1; omega)).mono ?_
  rintro e w1 ⟨rfl, sv1, h', hk'⟩
  replace h := Lib.hid h'
  clear h'
  (try replace hX := Lib.hid ((hk'.mono hTS.out).blk hX.out (by decide)))
  (try replace hP := Lib.hid ((hk'.mono hTS.out).blk hP.out (by decide)))
  (try replace hR := Lib.hid ((hk'.mono hTS.out).blk hR.out (by decide)))
  replace hG := Lib.hid (hG.out.trans (hk'.mono hTS.out))
  replace hb := Lib.hid (Nat.le_trans hb0.out hG.out.size)
  clear hk'
  have hI : Hid (InP (b.sts.length, b.sts.length) (nodeP b)) := Lib.hid ⟨by rw [nodeP_len]; simp, by rw [nodeP_len]; simp⟩
  have hW1 : Hid (WP s 12 (nodeP b)) := hW
  have hc1 : Hid (costP (nodeP b) ≤ 8 * (nodeP b).at_ + 61) := Lib.hid (by have := costP_node b; have := hc.out; have : (nodeP b).at_ = b.at_ := rfl; omega)
  generalize nodeP b = b1 at *
  generalize b.sts.length = N at *
  go_wp2_with fail
  have hgP : Hid (GLe w w1.heap.size) := Lib.hid hG.out.size
  have hRP : Hid (gR ≠ w1.heap.size) := Lib.hid (by have := hR.out.lt; omega)
  -- the part p has been made in the block behind w
  have hP := Blk.new w1 213 #[.int .i64 (N : Int), .int .i64 (N : Int)]
  have hgw : Grows w1 (w1.alloc (.cells #[.int .i64 (N : Int), .int .i64 (N : Int)] 213)) := (Grows.refl _).alloc _
  (try replace hX := Lib.hid (hX.out.grows hgw))
  (try replace hR := Lib.hid (hR.out.grows hgw))
  replace h := Lib.hid (h.out.grows hgw)
  replace hG := Lib.hid (hG.out.trans (TKeep.grows hgw hb.out))
  replace hb := Lib.hid (Nat.le_trans hb.out hgw.size)
  clear hgw
  generalize w1.alloc (.cells #[.int .i64 (N : Int), .int .i64 (N : Int)] 213) = w2 at *
  generalize w1.heap.size = gP at *
  replace hP := Lib.hid hP
  obtain ⟨R, hRR⟩ : ∃ R, R = rowL s sub (s.length + 1) (N, N) b1 := ⟨_, rfl⟩
  rw [← hRR] at hrp
  replace hRR := Lib.hid hRR
  go_loopw [] (fun wr => ∃ (f q : Nat) (bq : PB) (xq : List StX) (vq : Value), Hid (s.length ≤ f + bq.at_) ∧ Hid (R = rowL s sub f (N, q) bq) ∧ Hid (WP s 12 bq) ∧ Hid (InP (N, q) bq) ∧ Hid (costP bq ≤ 8 * bq.at_ + 61) ∧ Hid (BAt wr base gB s bq xq vq) ∧ Hid (Blk wr gP 213 #[.int .i64 (N : Int), .int .i64 (q : Int)]) ∧ Hid (Blk wr gR 213 #[.int .i64 0, .int .i64 0]) ∧ Hid (TKeep TS base w wr)) (fun wr => s.length + 20 - (match wr.cell? ⟨gB, 1, none⟩ with | some v => (intOf v).toNat | none => 0))
  case atStart => exact ⟨s.length + 1, N, b1, _, _, Lib.hid (by omega), hRR, hW1, hI, hc1, h, hP, hR, hG⟩
  case round =>
    clear hRR hW1 hI hc1 h hP hR hG hb
    obtain ⟨f, q, bq, xq, vq, hf, hR2, hWq, hI, hcq, h, hP, hR, hG⟩ := hrel
    have hb := Lib.hid (Nat.le_trans hb0.out hG.out.size)
    have hstep := rowL_step (sub := sub) (p := (N, q)) hf.out
    rw [← hR2.out] at hstep
    clear hR2
    have hm0 : Hid (∀ (w' : World) (b' : PB) xs' sv', BAt w' base gB s b' xs' sv' → (match w'.cell? ⟨gB, 1, none⟩ with | some v => (intOf v).toNat | none => 0) = b'.at_) := Lib.hid (fun w' b' _ _ hh => by
      have e : w'.cell? ⟨gB, 1, none⟩ = some (.int .i64 (b'.at_ : Int)) := (hh.blk.cell 1).trans rfl
      rw [e]; simp [intOf])
    have hmes := Lib.hid (hm0.out _ _ _ _ h.out)
    go_wp2_with fail
    refine (peek_any h.out).mono ?_
    rintro e w1 ⟨rfl, hgw1⟩
    replace h := Lib.hid (h.out.grows hgw1)
    replace hG := Lib.hid (hG.out.trans (TKeep.grows hgw1 hb.out))
    replace hb := Lib.hid (Nat.le_trans hb.out hgw1.size)
    (try replace hset := Lib.hid (hset.out.grows hgw1))
    (try replace hX := Lib.hid (hX.out.grows hgw1))
    (try replace hP := Lib.hid (hP.out.grows hgw1))
    (try replace hR := Lib.hid (hR.out.grows hgw1))
    clear hgw1
    cases hp : pkP s bq with
    | none =>
      simp only [pkV, hp]
      rw [hp] at hstep
      replace hstep := Lib.hid hstep
      clear hp
      (try clear d0P); (try clear d1P); (try clear l0P); (try clear f0P); (try clear f1P)
      have d0P : w1.cell? ⟨gP, 0, none⟩ = _ := hP.out.cell 0
      have d1P : w1.cell? ⟨gP, 1, none⟩ = _ := hP.out.cell 1
      have f0P := hP.out.frozen 0
      have f1P := hP.out.frozen 1
      have l0P := hP.out.lt
      (try clear d0R); (try clear d1R); (try clear l0R); (try clear f0R); (try clear f1R)
      have d0R : w1.cell? ⟨gR, 0, none⟩ = _ := hR.out.cell 0
      have d1R : w1.cell? ⟨gR, 1, none⟩ = _ := hR.out.cell 1
      have f0R := hR.out.frozen 0
      have f1R := hR.out.frozen 1
      have l0R := hR.out.lt
      go_wp2
      clear d0P d1P f0P f1P l0P
      clear d0R d1R f0R f1R l0R
      clear hP
      have hBz := hR.out.set_ 0 (.int .i64 (N : Int))
      have hBy := hBz.set_ 1 (.int .i64 (q : Int))
      have hke := (hG.out.setNew (g := gR) (i := 0) hgr.out hb0.out (.int .i64 (N : Int))).setNew (g := gR) (i := 1) hgr.out hb0.out (.int .i64 (q : Int))
      have hBf := (h.out.far hR.out (by decide) (grownBy_cell w1 ⟨gR, 0, none⟩ (.int .i64 (N : Int)))).far hBz (by decide) (grownBy_cell _ ⟨gR, 1, none⟩ (.int .i64 (q : Int)))
      clear hR hG h hBz
      generalize (w1.setCell ⟨gR, 0, none⟩ (.int .i64 (N : Int))).setCell ⟨gR, 1, none⟩ (.int .i64 (q : Int)) = w7 at *
      have e0 : w7.cell? ⟨gR, 0, none⟩ = some (.int .i64 (N : Int)) := hBy.cell 0
      have e1 : w7.cell? ⟨gR, 1, none⟩ = some (.int .i64 (q : Int)) := hBy.cell 1
      refine bodyPost_ret (v := partV (N, q)) ?_ rfl ⟨?_, ?_⟩
      · simp [partV, results, Tryz.results172, go_sem, e0, e1]
      · rw [hrp.out, hstep.out]
      · rw [hrp.out, hstep.out]; exact ⟨_, _, hBf, hke⟩
    | some c =>
      simp only [pkV, hp]
      rw [hp] at hstep
      have hlen := Lib.hid (pk_some hp).2.1
      have hcs := Lib.hid (pk_some hp).2.2
      clear hp
      by_cases h124 : c = 124
      · have i124 : (c.toNat : Int) = 124 := by rw [h124]; rfl
        simp only [h124, true_or, if_true] at hstep
        replace hstep := Lib.hid hstep
        clear h124
        (try clear d0P); (try clear d1P); (try clear l0P); (try clear f0P); (try clear f1P)
        have d0P : w1.cell? ⟨gP, 0, none⟩ = _ := hP.out.cell 0
        have d1P : w1.cell? ⟨gP, 1, none⟩ = _ := hP.out.cell 1
        have f0P := hP.out.frozen 0
        have f1P := hP.out.frozen 1
        have l0P := hP.out.lt
        (try clear d0R); (try clear d1R); (try clear l0R); (try clear f0R); (try clear f1R)
        have d0R : w1.cell? ⟨gR, 0, none⟩ = _ := hR.out.cell 0
        have d1R : w1.cell? ⟨gR, 1, none⟩ = _ := hR.out.cell 1
        have f0R := hR.out.frozen 0
        have f1R := hR.out.frozen 1
        have l0R := hR.out.lt
        go_wp2
        clear d0P d1P f0P f1P l0P
        clear d0R d1R f0R f1R l0R
        clear hP
        have hBz := hR.out.set_ 0 (.int .i64 (N : Int))
        have hBy := hBz.set_ 1 (.int .i64 (q : Int))
        have hke := (hG.out.setNew (g := gR) (i := 0) hgr.out hb0.out (.int .i64 (N : Int))).setNew (g := gR) (i := 1) hgr.out hb0.out (.int .i64 (q : Int))
        have hBf := (h.out.far hR.out (by decide) (grownBy_cell w1 ⟨gR, 0, none⟩ (.int .i64 (N : Int)))).far hBz (by decide) (grownBy_cell _ ⟨gR, 1, none⟩ (.int .i64 (q : Int)))
        clear hR hG h hBz
        generalize (w1.setCell ⟨gR, 0, none⟩ (.int .i64 (N : Int))).setCell ⟨gR, 1, none⟩ (.int .i64 (q : Int)) = w7 at *
        have e0 : w7.cell? ⟨gR, 0, none⟩ = some (.int .i64 (N : Int)) := hBy.cell 0
        have e1 : w7.cell? ⟨gR, 1, none⟩ = some (.int .i64 (q : Int)) := hBy.cell 1
        refine bodyPost_ret (v := partV (N, q)) ?_ rfl ⟨?_, ?_⟩
        · simp [partV, results, Tryz.results172, go_sem, e0, e1]
        · rw [hrp.out, hstep.out]
        · rw [hrp.out, hstep.out]; exact ⟨_, _, hBf, hke⟩
      · have i124 : ¬ (c.toNat : Int) = 124 := fun e => h124 (UInt8.toNat_inj.1 (by show c.toNat = 124; omega))
        by_cases h41 : c = 41
        · have i41 : (c.toNat : Int) = 41 := by rw [h41]; rfl
          simp only [h41, or_true, if_true] at hstep
          replace hstep := Lib.hid hstep
          clear h124 h41
          (try clear d0P); (try clear d1P); (try clear l0P); (try clear f0P); (try clear f1P)
          have d0P : w1.cell? ⟨gP, 0, none⟩ = _ := hP.out.cell 0
          have d1P : w1.cell? ⟨gP, 1, none⟩ = _ := hP.out.cell 1
          have f0P := hP.out.frozen 0
          have f1P := hP.out.frozen 1
          have l0P := hP.out.lt
          (try clear d0R); (try clear d1R); (try clear l0R); (try clear f0R); (try clear f1R)
          have d0R : w1.cell? ⟨gR, 0, none⟩ = _ := hR.out.cell 0
          have d1R : w1.cell? ⟨gR, 1, none⟩ = _ := hR.out.cell 1
          have f0R := hR.out.frozen 0
          have f1R := hR.out.frozen 1
          have l0R := hR.out.lt
          go_wp2
          clear d0P d1P f0P f1P l0P
          clear d0R d1R f0R f1R l0R
          clear hP
          have hBz := hR.out.set_ 0 (.int .i64 (N : Int))
          have hBy := hBz.set_ 1 (.int .i64 (q : Int))
          have hke := (hG.out.setNew (g := gR) (i := 0) hgr.out hb0.out (.int .i64 (N : Int))).setNew (g := gR) (i := 1) hgr.out hb0.out (.int .i64 (q : Int))
          have hBf := (h.out.far hR.out (by decide) (grownBy_cell w1 ⟨gR, 0, none⟩ (.int .i64 (N : Int)))).far hBz (by decide) (grownBy_cell _ ⟨gR, 1, none⟩ (.int .i64 (q : Int)))
          clear hR hG h hBz
          generalize (w1.setCell ⟨gR, 0, none⟩ (.int .i64 (N : Int))).setCell ⟨gR, 1, none⟩ (.int .i64 (q : Int)) = w7 at *
          have e0 : w7.cell? ⟨gR, 0, none⟩ = some (.int .i64 (N : Int)) := hBy.cell 0
          have e1 : w7.cell? ⟨gR, 1, none⟩ = some (.int .i64 (q : Int)) := hBy.cell 1
          refine bodyPost_ret (v := partV (N, q)) ?_ rfl ⟨?_, ?_⟩
          · simp [partV, results, Tryz.results172, go_sem, e0, e1]
          · rw [hrp.out, hstep.out]
          · rw [hrp.out, hstep.out]; exact ⟨_, _, hBf, hke⟩
        · have i41 : ¬ (c.toNat : Int) = 41 := fun e => h41 (UInt8.toNat_inj.1 (by show c.toNat = 41; omega))
          simp only [h124, h41, or_self, if_false] at hstep
          have b124 : ((c.toNat : Int) == 124) = false := by simpa using i124
          have b41 : ((c.toNat : Int) == 41) = false := by simpa using i41
          clear h124 h41 i124 i41
          have hao := atomP_ok (c := c) hsp.out (by omega) hlen.out
          have hto := timesP_ok hao.2.1 hao.2.2
          replace hao := Lib.hid hao
          replace hto := Lib.hid hto
          replace hstep := Lib.hid hstep
          go_wp2_with fail
          refine (atom_any hsub.out hsp.out h.out hb.out hsl hcs.out (by have := hcq.out; omega)).mono ?_
          rintro e w2 ⟨rfl, xs2, sv2, h', hk'⟩
          replace h := Lib.hid h'
          clear h'
          (try replace hX := Lib.hid (hk'.blk hX.out (by decide)))
          (try replace hP := Lib.hid (hk'.blk hP.out (by decide)))
          (try replace hR := Lib.hid (hk'.blk hR.out (by decide)))
          replace hG := Lib.hid (hG.out.trans hk')
          replace hb := Lib.hid (Nat.le_trans hb0.out hG.out.size)
          clear hk'
          have hac : Hid (costP (atomP s sub c bq).1 < 100000 ∧ (atomP s sub c bq).1.at_ < 100000) := Lib.hid (by
            have h1 := hao.out.1.cost
            have h2 := hao.out.2.1.1
            have h3 := hcq.out
            omega)
          go_wp2_with fail
          refine (times_any h.out hb.out hao.out.2.2 (by have := hac.out.2; omega) (by have := hac.out.1; omega)).mono ?_
          rintro e w3 ⟨rfl, xs3, sv3, h', hk'⟩
          replace h := Lib.hid h'
          clear h'
          (try replace hX := Lib.hid ((hk'.mono hTS.out).blk hX.out (by decide)))
          (try replace hP := Lib.hid ((hk'.mono hTS.out).blk hP.out (by decide)))
          (try replace hR := Lib.hid ((hk'.mono hTS.out).blk hR.out (by decide)))
          replace hG := Lib.hid (hG.out.trans (hk'.mono hTS.out))
          replace hb := Lib.hid (Nat.le_trans hb0.out hG.out.size)
          clear hk'
          have hq2 : Hid (s.length ≤ (f - 1) + (timesP s (atomP s sub c bq).1 (atomP s sub c bq).2).1.at_ ∧ bq.at_ < (timesP s (atomP s sub c bq).1 (atomP s sub c bq).2).1.at_ ∧ costP (timesP s (atomP s sub c bq).1 (atomP s sub c bq).2).1 + 1 ≤ 8 * (timesP s (atomP s sub c bq).1 (atomP s sub c bq).2).1.at_ + 61 ∧ bq.sts.length ≤ (timesP s (atomP s sub c bq).1 (atomP s sub c bq).2).1.sts.length) := Lib.hid (by
            have h1 := hao.out.1
            have h2 := hto.out.1
            have h3 := hcq.out
            have h4 := hf.out
            have h5 := h1.at_
            have h6 := h2.at_
            have h7 := h1.cost
            have h8 := h2.cost
            have h9 := h1.len
            have h10 := h2.len
            have h11 := atomP_at (c := c) hsp.out hlen.out
            omega)
          have hI3 : Hid (InP (N, (timesP s (atomP s sub c bq).1 (atomP s sub c bq).2).2.2) (timesP s (atomP s sub c bq).1 (atomP s sub c bq).2).1) := Lib.hid ⟨Nat.lt_of_lt_of_le hI.out.1 hq2.out.2.2.2, hto.out.2.2.2⟩
          have hq4 := Lib.hid (Nat.lt_of_lt_of_le hI.out.2 hq2.out.2.2.2)
          have hWt := Lib.hid hto.out.2.1
          have htI := Lib.hid hto.out.2.2
          clear hac hao hto hcq hI hWq hf
          generalize timesP s (atomP s sub c bq).1 (atomP s sub c bq).2 = rt at *
          obtain ⟨tb, t1, t2⟩ := rt
          simp only [partV]
          (try clear d0P); (try clear d1P); (try clear l0P); (try clear f0P); (try clear f1P)
          have d0P : w3.cell? ⟨gP, 0, none⟩ = _ := hP.out.cell 0
          have d1P : w3.cell? ⟨gP, 1, none⟩ = _ := hP.out.cell 1
          have f0P := hP.out.frozen 0
          have f1P := hP.out.frozen 1
          have l0P := hP.out.lt
          go_wp2_with fail
          clear d0P d1P f0P f1P l0P
          have hX := Blk.new w3 213 #[.int .i64 (t1 : Int), .int .i64 (t2 : Int)]
          have hgw : Grows w3 (w3.alloc (.cells #[.int .i64 (t1 : Int), .int .i64 (t2 : Int)] 213)) := (Grows.refl _).alloc _
          have hPX : Hid (gP < w3.heap.size) := Lib.hid hP.out.lt
          replace hP := Lib.hid (hP.out.grows hgw)
          replace hR := Lib.hid (hR.out.grows hgw)
          replace h := Lib.hid (h.out.grows hgw)
          replace hG := Lib.hid (hG.out.trans (TKeep.grows hgw hb.out))
          replace hb : Hid (base ≤ (w3.alloc (.cells #[.int .i64 (t1 : Int), .int .i64 (t2 : Int)] 213)).heap.size) := Lib.hid (Nat.le_trans hb.out hgw.size)
          clear hgw
          generalize w3.alloc (.cells #[.int .i64 (t1 : Int), .int .i64 (t2 : Int)] 213) = w4 at *
          generalize w3.heap.size = gX at *
          replace hX := Lib.hid hX
          refine (free_any (i := q) (j := t1) h.out hb.out hq4.out (by have := hq2.out.2.2.1; have := hWt.out.1; omega)).mono ?_
          rintro e w5 ⟨rfl, xs5, h', hk'⟩
          replace h := Lib.hid h'
          clear h'
          (try replace hX := Lib.hid ((hk'.mono hTS.out).blk hX.out (by decide)))
          (try replace hP := Lib.hid ((hk'.mono hTS.out).blk hP.out (by decide)))
          (try replace hR := Lib.hid ((hk'.mono hTS.out).blk hR.out (by decide)))
          replace hG := Lib.hid (hG.out.trans (hk'.mono hTS.out))
          replace hb := Lib.hid (Nat.le_trans hb0.out hG.out.size)
          clear hk'
          have hB6 := Lib.hid (h.out.far hP.out (by decide) (grownBy_cell w5 ⟨gP, 1, none⟩ (.int .i64 (t2 : Int))))
          have hP6 : Hid (Blk (w5.setCell ⟨gP, 1, none⟩ (.int .i64 (t2 : Int))) gP 213 #[.int .i64 (N : Int), .int .i64 (t2 : Int)]) := Lib.hid (hP.out.set_ 1 (.int .i64 (t2 : Int)))
          have hR6 := Lib.hid (hR.out.far (p := ⟨gP, 1, none⟩) hRP.out (.int .i64 (t2 : Int)))
          have hG6 := Lib.hid (hG.out.setNew (g := gP) (i := 1) hgP.out hb0.out (.int .i64 (t2 : Int)))
          have hcf := Lib.hid (costP_free q t1 tb)
          (try clear d0P); (try clear d1P); (try clear l0P); (try clear f0P); (try clear f1P)
          have d0P : w5.cell? ⟨gP, 0, none⟩ = _ := hP.out.cell 0
          have d1P : w5.cell? ⟨gP, 1, none⟩ = _ := hP.out.cell 1
          have f0P := hP.out.frozen 0
          have f1P := hP.out.frozen 1
          have l0P := hP.out.lt
          (try clear d0X); (try clear d1X); (try clear l0X); (try clear f0X); (try clear f1X)
          have d0X : w5.cell? ⟨gX, 0, none⟩ = _ := hX.out.cell 0
          have d1X : w5.cell? ⟨gX, 1, none⟩ = _ := hX.out.cell 1
          have f0X := hX.out.frozen 0
          have f1X := hX.out.frozen 1
          have l0X := hX.out.lt
          go_wp2
          go_roundw
          case rel => exact ⟨f - 1, t2, freeP q t1 tb, xs5, sv3, Lib.hid hq2.out.1, hstep, Lib.hid (freeP_WP hWt.out), Lib.hid (InP.mono hI3.out (by rw [freeP_len]; exact Nat.le_refl _)), Lib.hid (by have := hcf.out; have := hq2.out.2.2.1; show _ ≤ 8 * tb.at_ + 61; omega), hB6, hP6, hR6, hG6⟩
          case measure => rw [hm0.out _ _ _ _ hB6.out, hmes.out]; have := hq2.out.2.1; have := hlen.out; show _ - tb.at_ < _; omega
end Go.Proofs.YtfoffneipdkdjaaGreatDoor
namespace Go.Proofs.YtfoffneipdkdjaaGreatDoor
open Go.RowKit

theorem eitherL_step {s : List UInt8} {sub : Option (PB → PB × PPt)} {f : Nat} {p : PPt} {b : PB} (hf : 1 ≤ f) : eitherL s sub f p b =
    if pkP s (freeP (rowP s sub b).2.2 p.2 (freeP p.1 (rowP s sub b).2.1 (rowP s sub b).1)) = some 124 then eitherL s sub (f - 1) p (advP (freeP (rowP s sub b).2.2 p.2 (freeP p.1 (rowP s sub b).2.1 (rowP s sub b).1))) else (freeP (rowP s sub b).2.2 p.2 (freeP p.1 (rowP s sub b).2.1 (rowP s sub b).1), p) := by
  cases f with
  | zero => omega
  | succ f => rfl
set_option maxRecDepth 100000 in
set_option maxHeartbeats 3200000 in
theorem either_of {w : World} {base gB dp : Nat} {s : List UInt8} {b : PB} {sub : Option (PB → PB × PPt)} {xs : List StX} {sv : Value} (hsub : SubOK s sub dp) (hsp : SubP s 11 sub) (h : BAt w base gB s b xs sv) (hb : base ≤ w.heap.size) (hsl : s.length ≤ 100) (hW : b.at_ ≤ s.length) (hc : costP b ≤ 8 * b.at_ + 53) :
    Calls Tryz.prog 160 #[.pointer (some ⟨gB, 0, none⟩), .int .i64 (dp : Int)] w (PartPostS base gB s w (eitherL s sub (s.length + 1) (b.sts.length, b.sts.length + 1) (nodeP (nodeP b)))) := by
  have hTC : Hid (∀ t ∈ [211], t ∈ TS) := Lib.hid (by intro t ht; simp [TS, TB] at *; exact .inr (.inl ht))
  have hTS : Hid (∀ t ∈ TB, t ∈ TS) := Lib.hid (fun t ht => List.mem_cons_of_mem _ ht)
  have hR := Blk.new w 213 #[.int .i64 0, .int .i64 0]
  have hg1 : Grows w (w.alloc (.cells #[.int .i64 0, .int .i64 0] 213)) := (Grows.refl _).alloc _
  replace hR := Lib.hid hR
  have hG := Lib.hid (TKeep.grows (T := TS) hg1 hb)
  replace h := Lib.hid (h.grows hg1)
  have hb0 : Hid (BLe base w) := Lib.hid hb
  replace hb := Lib.hid (Nat.le_trans hb hg1.size)
  have hgr : Hid (GLe w w.heap.size) := Lib.hid (Nat.le_refl _)
  replace hsub := Lib.hid hsub
  replace hsp := Lib.hid hsp
  replace hW := Lib.hid hW
  replace hc := Lib.hid hc
  clear hg1
  obtain ⟨R, hRR⟩ : ∃ R, R = eitherL s sub (s.length + 1) (b.sts.length, b.sts.length + 1) (nodeP (nodeP b)) := ⟨_, rfl⟩
  rw [← hRR]
  replace hRR := Lib.hid hRR
  go_enter Tryz.func160, Tryz.ntmps160
  go_wp2_with fail
  generalize w.alloc (.cells #[.int .i64 0, .int .i64 0] 213) = w0 at *
  generalize w.heap.size = gR at *
  refine (node_any h.out hb.out (by have := costP_len b; have := hc.out; have := hW.out; omega)).mono ?_
  rintro e w1 ⟨rfl, sv1, h', hk'⟩
  replace h := Lib.hid h'
  clear h'
  (try replace hX := Lib.hid ((hk'.mono hTS.out).blk hX.out (by decide)))
  (try replace hP := Lib.hid ((hk'.mono hTS.out).blk hP.out (by decide)))
  (try replace hR := Lib.hid ((hk'.mono hTS.out).blk hR.out (by decide)))
  replace hG := Lib.hid (hG.out.trans (hk'.mono hTS.out))
  replace hb := Lib.hid (Nat.le_trans hb0.out hG.out.size)
  clear hk'
  go_wp2_with fail
  refine (node_any h.out hb.out (by have := costP_len b; have := hc.out; have := hW.out; rw [nodeP_len]; omega)).mono ?_
  rintro e w2 ⟨rfl, sv2, h', hk'⟩
  replace h := Lib.hid h'
  clear h'
  (try replace hX := Lib.hid ((hk'.mono hTS.out).blk hX.out (by decide)))
  (try replace hP := Lib.hid ((hk'.mono hTS.out).blk hP.out (by decide)))
  (try replace hR := Lib.hid ((hk'.mono hTS.out).blk hR.out (by decide)))
  replace hG := Lib.hid (hG.out.trans (hk'.mono hTS.out))
  replace hb := Lib.hid (Nat.le_trans hb0.out hG.out.size)
  clear hk'
  rw [nodeP_len]
  have hI : Hid (InP (b.sts.length, b.sts.length + 1) (nodeP (nodeP b))) := Lib.hid ⟨by rw [nodeP_len, nodeP_len]; simp; omega, by rw [nodeP_len, nodeP_len]; simp⟩
  have hW1 : Hid ((nodeP (nodeP b)).at_ ≤ s.length) := hW
  have hc1 : Hid (costP (nodeP (nodeP b)) ≤ 8 * (nodeP (nodeP b)).at_ + 55) := Lib.hid (by have := costP_node b; have := costP_node (nodeP b); have := hc.out; have : (nodeP (nodeP b)).at_ = b.at_ := rfl; omega)
  generalize nodeP (nodeP b) = b1 at *
  generalize b.sts.length = N at *
  have hgP : Hid (GLe w w2.heap.size) := Lib.hid hG.out.size
  go_wp2_with fail
  -- the part p has been made in the block behind w
  have hP := Blk.new w2 213 #[.int .i64 (N : Int), .int .i64 ((N : Int) + 1)]
  have hgw : Grows w2 (w2.alloc (.cells #[.int .i64 (N : Int), .int .i64 ((N : Int) + 1)] 213)) := (Grows.refl _).alloc _
  (try replace hX := Lib.hid (hX.out.grows hgw))
  (try replace hR := Lib.hid (hR.out.grows hgw))
  replace h := Lib.hid (h.out.grows hgw)
  replace hG := Lib.hid (hG.out.trans (TKeep.grows hgw hb.out))
  replace hb := Lib.hid (Nat.le_trans hb.out hgw.size)
  clear hgw
  generalize w2.alloc (.cells #[.int .i64 (N : Int), .int .i64 ((N : Int) + 1)] 213) = w3 at *
  generalize w2.heap.size = gP at *
  replace hP := Lib.hid hP
  go_loopw [] (fun wr => ∃ (f : Nat) (bq : PB) (xq : List StX) (vq : Value), Hid (s.length + 1 ≤ f + bq.at_) ∧ Hid (R = eitherL s sub f (N, N + 1) bq) ∧ Hid (bq.at_ ≤ s.length) ∧ Hid (InP (N, N + 1) bq) ∧ Hid (costP bq ≤ 8 * bq.at_ + 55) ∧ Hid (BAt wr base gB s bq xq vq) ∧ Hid (Blk wr gP 213 #[.int .i64 (N : Int), .int .i64 ((N : Int) + 1)]) ∧ Hid (Blk wr gR 213 #[.int .i64 0, .int .i64 0]) ∧ Hid (TKeep TS base w wr)) (fun wr => s.length + 20 - (match wr.cell? ⟨gB, 1, none⟩ with | some v => (intOf v).toNat | none => 0))
  case atStart => exact ⟨s.length + 1, b1, _, _, Lib.hid (by omega), hRR, hW1, hI, hc1, h, hP, hR, hG⟩
  case round =>
    clear hRR hW1 hI hc1 h hP hR hG hb
    obtain ⟨f, bq, xq, vq, hf, hR2, hWq, hI, hcq, h, hP, hR, hG⟩ := hrel
    have hb := Lib.hid (Nat.le_trans hb0.out hG.out.size)
    have hstep := eitherL_step (s := s) (sub := sub) (p := (N, N + 1)) (b := bq) (f := f) (by have := hf.out; have := hWq.out; omega)
    rw [← hR2.out] at hstep
    clear hR2
    have hm0 : Hid (∀ (w' : World) (b' : PB) xs' sv', BAt w' base gB s b' xs' sv' → (match w'.cell? ⟨gB, 1, none⟩ with | some v => (intOf v).toNat | none => 0) = b'.at_) := Lib.hid (fun w' b' _ _ hh => by
      have e : w'.cell? ⟨gB, 1, none⟩ = some (.int .i64 (b'.at_ : Int)) := (hh.blk.cell 1).trans rfl
      rw [e]; simp [intOf])
    have hmes := Lib.hid (hm0.out _ _ _ _ h.out)
    have hro := Lib.hid (rowP_ok hsp.out (by omega) (WP.of_le (k := 12) hWq.out))
    replace hstep := Lib.hid hstep
    go_wp2_with fail
    refine (row_any hsub.out hsp.out h.out hb.out hsl (WP.of_le hWq.out) (by have := hcq.out; omega)).mono ?_
    rintro e w4 ⟨rfl, xs4, sv4, h', hk'⟩
    replace h := Lib.hid h'
    clear h'
    (try replace hX := Lib.hid (hk'.blk hX.out (by decide)))
    (try replace hP := Lib.hid (hk'.blk hP.out (by decide)))
    (try replace hR := Lib.hid (hk'.blk hR.out (by decide)))
    replace hG := Lib.hid (hG.out.trans hk')
    replace hb := Lib.hid (Nat.le_trans hb0.out hG.out.size)
    clear hk'
    have hq2 : Hid (bq.at_ ≤ (rowP s sub bq).1.at_ ∧ costP (rowP s sub bq).1 ≤ 8 * (rowP s sub bq).1.at_ + 56 ∧ bq.sts.length ≤ (rowP s sub bq).1.sts.length ∧ (rowP s sub bq).1.at_ ≤ s.length + 12) := Lib.hid (by
      have h1 := hro.out.1
      have h2 := hcq.out
      have h3 := h1.cost
      have h4 := h1.at_
      have h5 := h1.len
      have h6 := hro.out.2.1.1
      omega)
    have htI := Lib.hid hro.out.2.2
    clear hro hcq
    generalize rowP s sub bq = rt at *
    obtain ⟨tb, t1, t2⟩ := rt
    simp only [partV]
    (try clear d0P); (try clear d1P); (try clear l0P); (try clear f0P); (try clear f1P)
    have d0P : w4.cell? ⟨gP, 0, none⟩ = _ := hP.out.cell 0
    have d1P : w4.cell? ⟨gP, 1, none⟩ = _ := hP.out.cell 1
    have f0P := hP.out.frozen 0
    have f1P := hP.out.frozen 1
    have l0P := hP.out.lt
    go_wp2_with fail
    clear d0P d1P f0P f1P l0P
    have hX := Blk.new w4 213 #[.int .i64 (t1 : Int), .int .i64 (t2 : Int)]
    have hgw : Grows w4 (w4.alloc (.cells #[.int .i64 (t1 : Int), .int .i64 (t2 : Int)] 213)) := (Grows.refl _).alloc _
    have hPX : Hid (gP < w4.heap.size) := Lib.hid hP.out.lt
    replace hP := Lib.hid (hP.out.grows hgw)
    replace hR := Lib.hid (hR.out.grows hgw)
    replace h := Lib.hid (h.out.grows hgw)
    replace hG := Lib.hid (hG.out.trans (TKeep.grows hgw hb.out))
    replace hb : Hid (base ≤ (w4.alloc (.cells #[.int .i64 (t1 : Int), .int .i64 (t2 : Int)] 213)).heap.size) := Lib.hid (Nat.le_trans hb.out hgw.size)
    clear hgw
    generalize w4.alloc (.cells #[.int .i64 (t1 : Int), .int .i64 (t2 : Int)] 213) = w5 at *
    generalize w4.heap.size = gX at *
    replace hX := Lib.hid hX
    refine (free_any (i := N) (j := t1) h.out hb.out (Nat.lt_of_lt_of_le hI.out.1 hq2.out.2.2.1) (by have := hq2.out; omega)).mono ?_
    rintro e w6 ⟨rfl, xs6, h', hk'⟩
    replace h := Lib.hid h'
    clear h'
    (try replace hX := Lib.hid ((hk'.mono hTS.out).blk hX.out (by decide)))
    (try replace hP := Lib.hid ((hk'.mono hTS.out).blk hP.out (by decide)))
    (try replace hR := Lib.hid ((hk'.mono hTS.out).blk hR.out (by decide)))
    replace hG := Lib.hid (hG.out.trans (hk'.mono hTS.out))
    replace hb := Lib.hid (Nat.le_trans hb0.out hG.out.size)
    clear hk'
    have hcf := Lib.hid (costP_free N t1 tb)
    (try clear d0P); (try clear d1P); (try clear l0P); (try clear f0P); (try clear f1P)
    have d0P : w6.cell? ⟨gP, 0, none⟩ = _ := hP.out.cell 0
    have d1P : w6.cell? ⟨gP, 1, none⟩ = _ := hP.out.cell 1
    have f0P := hP.out.frozen 0
    have f1P := hP.out.frozen 1
    have l0P := hP.out.lt
    (try clear d0X); (try clear d1X); (try clear l0X); (try clear f0X); (try clear f1X)
    have d0X : w6.cell? ⟨gX, 0, none⟩ = _ := hX.out.cell 0
    have d1X : w6.cell? ⟨gX, 1, none⟩ = _ := hX.out.cell 1
    have f0X := hX.out.frozen 0
    have f1X := hX.out.frozen 1
    have l0X := hX.out.lt
    go_wp2_with fail
    clear d0P d1P f0P f1P l0P
    clear d0X d1X f0X f1X l0X
    refine (free_any (i := t2) (j := N + 1) h.out hb.out (by rw [freeP_len]; exact htI.out.2) (by have := hq2.out; have := hcf.out; omega)).mono ?_
    rintro e w7 ⟨rfl, xs7, h', hk'⟩
    replace h := Lib.hid h'
    clear h'
    (try replace hX := Lib.hid ((hk'.mono hTS.out).blk hX.out (by decide)))
    (try replace hP := Lib.hid ((hk'.mono hTS.out).blk hP.out (by decide)))
    (try replace hR := Lib.hid ((hk'.mono hTS.out).blk hR.out (by decide)))
    replace hG := Lib.hid (hG.out.trans (hk'.mono hTS.out))
    replace hb := Lib.hid (Nat.le_trans hb0.out hG.out.size)
    clear hk'
    have hcf2 := Lib.hid (costP_free t2 (N + 1) (freeP N t1 tb))
    have hI7 : Hid (InP (N, N + 1) (freeP t2 (N + 1) (freeP N t1 tb))) := Lib.hid (InP.mono hI.out (by rw [freeP_len, freeP_len]; exact hq2.out.2.2.1))
    have hq7 : Hid (bq.at_ ≤ (freeP t2 (N + 1) (freeP N t1 tb)).at_ ∧ costP (freeP t2 (N + 1) (freeP N t1 tb)) ≤ 8 * (freeP t2 (N + 1) (freeP N t1 tb)).at_ + 58) := Lib.hid (by
      have h1 := hq2.out
      have h2 := hcf.out
      have h3 := hcf2.out
      have h4 : (freeP t2 (N + 1) (freeP N t1 tb)).at_ = tb.at_ := rfl
      rw [h4]
      omega)
    clear hcf hcf2 hX htI hI hPX hq2
    have hstep : Hid (R = if pkP s (freeP t2 (N + 1) (freeP N t1 tb)) = some 124 then eitherL s sub (f - 1) (N, N + 1) (advP (freeP t2 (N + 1) (freeP N t1 tb))) else (freeP t2 (N + 1) (freeP N t1 tb), (N, N + 1))) := hstep
    generalize freeP t2 (N + 1) (freeP N t1 tb) = b7 at *
    go_wp2_with fail
    refine (peek_any h.out).mono ?_
    rintro e w8 ⟨rfl, hgw8⟩
    replace h := Lib.hid (h.out.grows hgw8)
    replace hG := Lib.hid (hG.out.trans (TKeep.grows hgw8 hb.out))
    replace hb := Lib.hid (Nat.le_trans hb.out hgw8.size)
    (try replace hset := Lib.hid (hset.out.grows hgw8))
    (try replace hX := Lib.hid (hX.out.grows hgw8))
    (try replace hP := Lib.hid (hP.out.grows hgw8))
    (try replace hR := Lib.hid (hR.out.grows hgw8))
    clear hgw8
    cases hp : pkP s b7 with
    | none =>
      simp only [pkV, hp]
      have hst : Hid (R = (b7, (N, N + 1))) := Lib.hid (by rw [hstep.out, hp]; rfl)
      clear hp hstep
      have hstep := hst
      (try clear d0P); (try clear d1P); (try clear l0P); (try clear f0P); (try clear f1P)
      have d0P : w8.cell? ⟨gP, 0, none⟩ = _ := hP.out.cell 0
      have d1P : w8.cell? ⟨gP, 1, none⟩ = _ := hP.out.cell 1
      have f0P := hP.out.frozen 0
      have f1P := hP.out.frozen 1
      have l0P := hP.out.lt
      (try clear d0R); (try clear d1R); (try clear l0R); (try clear f0R); (try clear f1R)
      have d0R : w8.cell? ⟨gR, 0, none⟩ = _ := hR.out.cell 0
      have d1R : w8.cell? ⟨gR, 1, none⟩ = _ := hR.out.cell 1
      have f0R := hR.out.frozen 0
      have f1R := hR.out.frozen 1
      have l0R := hR.out.lt
      go_wp2
      clear d0P d1P f0P f1P l0P
      clear d0R d1R f0R f1R l0R
      clear hP
      have hBz := hR.out.set_ 0 (.int .i64 (N : Int))
      have hBy := hBz.set_ 1 (.int .i64 ((N : Int) + 1))
      have hke := (hG.out.setNew (g := gR) (i := 0) hgr.out hb0.out (.int .i64 (N : Int))).setNew (g := gR) (i := 1) hgr.out hb0.out (.int .i64 ((N : Int) + 1))
      have hBf := (h.out.far hR.out (by decide) (grownBy_cell w8 ⟨gR, 0, none⟩ (.int .i64 (N : Int)))).far hBz (by decide) (grownBy_cell _ ⟨gR, 1, none⟩ (.int .i64 ((N : Int) + 1)))
      clear hR hG h hBz
      generalize (w8.setCell ⟨gR, 0, none⟩ (.int .i64 (N : Int))).setCell ⟨gR, 1, none⟩ (.int .i64 ((N : Int) + 1)) = w7 at *
      have e0 : w7.cell? ⟨gR, 0, none⟩ = some (.int .i64 (N : Int)) := hBy.cell 0
      have e1 : w7.cell? ⟨gR, 1, none⟩ = some (.int .i64 ((N : Int) + 1)) := hBy.cell 1
      refine bodyPost_ret (v := partV (N, N + 1)) ?_ rfl ⟨?_, ?_⟩
      · simp [partV, results, Tryz.results160, go_sem, e0, e1]
      · rw [hstep.out]
      · rw [hstep.out]; exact ⟨_, _, hBf, hke⟩
    | some c =>
      simp only [pkV, hp]
      by_cases h124 : c = 124
      · have i124 : (c.toNat : Int) = 124 := by rw [h124]; rfl
        have b124 : ((c.toNat : Int) == 124) = true := by rw [i124]; rfl
        have hst : Hid (R = eitherL s sub (f - 1) (N, N + 1) (advP b7)) := Lib.hid (by rw [hstep.out, hp, h124]; rfl)
        have hlt := Lib.hid (pk_some hp).2.1
        have hlt2 : b7.at_ < 100000 := by have := hlt.out; omega
        clear hp hstep h124
        have c1 : w8.cell? ⟨gB, 1, none⟩ = some (.int .i64 (b7.at_ : Int)) := (h.out.blk.cell 1).trans rfl
        have f1 := h.out.blk.frozen 1
        have l1 := h.out.blk.lt
        have i1 : -9223372036854775808 ≤ (b7.at_ : Int) + 1 ∧ (b7.at_ : Int) + 1 ≤ 9223372036854775807 := by omega
        have hkq := TKeep.own h.out (grownBy_cell w8 ⟨gB, 1, none⟩ (.int .i64 ((b7.at_ : Int) + 1)))
        have hA := Lib.hid h.out.adv
        have hP2 := Lib.hid (hkq.blk hP.out (by decide))
        have hR2 := Lib.hid (hkq.blk hR.out (by decide))
        have hG2 := Lib.hid (hG.out.trans (hkq.mono hTC.out))
        clear hkq
        go_wp2
        go_roundw
        case rel => exact ⟨f - 1, advP b7, xs7, sv4, Lib.hid (by have := hf.out; have := hq7.out.1; simp only [advP]; omega), hst, Lib.hid (by have := hlt.out; simp only [advP]; omega), Lib.hid hI7.out, Lib.hid (by have := hq7.out.2; rw [costP_adv]; simp only [advP]; omega), hA, hP2, hR2, hG2⟩
        case measure => rw [hm0.out _ _ _ _ hA.out, hmes.out]; have := hq7.out.1; have := hlt.out; simp only [advP]; omega
      · have i124 : ¬ (c.toNat : Int) = 124 := fun e => h124 (UInt8.toNat_inj.1 (by show c.toNat = 124; omega))
        have b124 : ((c.toNat : Int) == 124) = false := by simpa using i124
        have hst : Hid (R = (b7, (N, N + 1))) := Lib.hid (by rw [hstep.out, hp]; simp [h124])
        clear hp hstep h124
        have hstep := hst
        (try clear d0P); (try clear d1P); (try clear l0P); (try clear f0P); (try clear f1P)
        have d0P : w8.cell? ⟨gP, 0, none⟩ = _ := hP.out.cell 0
        have d1P : w8.cell? ⟨gP, 1, none⟩ = _ := hP.out.cell 1
        have f0P := hP.out.frozen 0
        have f1P := hP.out.frozen 1
        have l0P := hP.out.lt
        (try clear d0R); (try clear d1R); (try clear l0R); (try clear f0R); (try clear f1R)
        have d0R : w8.cell? ⟨gR, 0, none⟩ = _ := hR.out.cell 0
        have d1R : w8.cell? ⟨gR, 1, none⟩ = _ := hR.out.cell 1
        have f0R := hR.out.frozen 0
        have f1R := hR.out.frozen 1
        have l0R := hR.out.lt
        go_wp2
        clear d0P d1P f0P f1P l0P
        clear d0R d1R f0R f1R l0R
        clear hP
        have hBz := hR.out.set_ 0 (.int .i64 (N : Int))
        have hBy := hBz.set_ 1 (.int .i64 ((N : Int) + 1))
        have hke := (hG.out.setNew (g := gR) (i := 0) hgr.out hb0.out (.int .i64 (N : Int))).setNew (g := gR) (i := 1) hgr.out hb0.out (.int .i64 ((N : Int) + 1))
        have hBf := (h.out.far hR.out (by decide) (grownBy_cell w8 ⟨gR, 0, none⟩ (.int .i64 (N : Int)))).far hBz (by decide) (grownBy_cell _ ⟨gR, 1, none⟩ (.int .i64 ((N : Int) + 1)))
        clear hR hG h hBz
        generalize (w8.setCell ⟨gR, 0, none⟩ (.int .i64 (N : Int))).setCell ⟨gR, 1, none⟩ (.int .i64 ((N : Int) + 1)) = w7 at *
        have e0 : w7.cell? ⟨gR, 0, none⟩ = some (.int .i64 (N : Int)) := hBy.cell 0
        have e1 : w7.cell? ⟨gR, 1, none⟩ = some (.int .i64 ((N : Int) + 1)) := hBy.cell 1
        refine bodyPost_ret (v := partV (N, N + 1)) ?_ rfl ⟨?_, ?_⟩
        · simp [partV, results, Tryz.results160, go_sem, e0, e1]
        · rw [hstep.out]
        · rw [hstep.out]; exact ⟨_, _, hBf, hke⟩
end Go.Proofs.YtfoffneipdkdjaaGreatDoor
namespace Go.Proofs.YtfoffneipdkdjaaGreatDoor
open Go.RowKit

theorem either_any {s : List UInt8} (hsl : s.length ≤ 100) : ∀ (d dp : Nat), d + dp = 8 → ∀ (w : World) (base gB : Nat) (b : PB) (xs : List StX) (sv : Value), BAt w base gB s b xs sv → base ≤ w.heap.size → b.at_ ≤ s.length → costP b ≤ 8 * b.at_ + 53 →
    Calls Tryz.prog 160 #[.pointer (some ⟨gB, 0, none⟩), .int .i64 (dp : Int)] w (PartPostS base gB s w (eitherP s d b)) := by
  intro d
  induction d with
  | zero =>
    intro dp hdp w base gB b xs sv h hb hW hc
    have : dp = 8 := by omega
    subst this
    exact either_of (sub := none) ⟨fun _ => rfl, fun f hf => by cases hf⟩ (fun f hf => by cases hf) h hb hsl hW hc
  | succ d ih =>
    intro dp hdp w base gB b xs sv h hb hW hc
    refine either_of (sub := some (eitherP s d)) ⟨fun hf => (by cases hf), fun f hf => ?_⟩ (fun f hf => ?_) h hb hsl hW hc
    · injection hf with hf
      subst hf
      refine ⟨by omega, fun w base gB b xs sv h hb hW hc => ?_⟩
      exact ih (dp + 1) (by omega) w base gB b xs sv h hb hW hc
    · injection hf with hf
      subst hf
      intro b hb
      have := eitherP_ok s d b hb
      exact ⟨this.1, this.2.1.weak (by omega), this.2.2⟩
/-- A pattern's states in memory. -/
structure StsAt (w : World) (base : Nat) (xs : List StX) (sv : Value) (sts : List PSt) : Prop where
  own : Own w base 230 3 encSt sv xs
  len : xs.length = sts.length
  st : ∀ (i : Nat) x y, xs[i]? = some x → sts[i]? = some y → x.next = y.next ∧ SetV w base x.pv y.set ∧ Own w base 3 1 encI x.fv y.free
theorem StsAt.grows {w w' : World} {base : Nat} {xs : List StX} {sv : Value} {sts : List PSt} (h : StsAt w base xs sv sts) (hg : Grows w w') : StsAt w' base xs sv sts :=
  ⟨h.own.grows hg, h.len, fun i x y h1 h2 => ⟨(h.st i x y h1 h2).1, (h.st i x y h1 h2).2.1.grows hg, (h.st i x y h1 h2).2.2.grows hg⟩⟩
def PatV (w : World) (base : Nat) (s : List UInt8) (v : Value) : Option PPat → Prop
  | none => v = .pointer none
  | some p => ∃ g xs sv, v = .pointer (some ⟨g, 0, none⟩) ∧ Blk w g 216 #[.string ⟨s.toArray⟩, sv, .int .i64 (p.start : Int), .int .i64 (p.stop : Int)] ∧ StsAt w base xs sv p.sts
def ReadPost (s : List UInt8) (w : World) (e : Ending) (w' : World) : Prop :=
  ∃ v, e = .returned (.tuple #[v, .int .i64 (patErr s : Int)]) ∧ PatV w' w.heap.size s v (patOf s) ∧ Grows w w'
set_option maxRecDepth 100000 in
set_option maxHeartbeats 3200000 in
theorem read_any (w : World) (s : List UInt8) : Calls Tryz.prog 147 #[.string ⟨s.toArray⟩] w (ReadPost s w) := by
  by_cases hsl : s.length ≤ 100
  · have hli : ¬ (s.length : Int) > 100 := by omega
    have hpe : Hid (patErr s = (readB s).1.err) := Lib.hid (by unfold patErr; rw [if_neg (by omega)])
    have hpo : Hid (patOf s = if (readB s).1.err ≠ 0 then none else some ⟨(readB s).1.sts, (readB s).2.1, (readB s).2.2⟩) := Lib.hid (by
      unfold patOf
      by_cases h0 : (readB s).1.err ≠ 0
      · rw [if_pos (.inr h0), if_pos h0]
      · rw [if_neg (by simp only [h0, or_false]; omega), if_neg h0])
    have hB0 := Blk.new w 211 #[.string ⟨s.toArray⟩, .int .i64 0, .int .i64 0, .slice none 0 0]
    have hg1 : Grows w (w.alloc (.cells #[.string ⟨s.toArray⟩, .int .i64 0, .int .i64 0, .slice none 0 0] 211)) := (Grows.refl _).alloc _
    have h : BAt (w.alloc (.cells #[.string ⟨s.toArray⟩, .int .i64 0, .int .i64 0, .slice none 0 0] 211)) w.heap.size w.heap.size s ⟨0, 0, []⟩ [] (.slice none 0 0) :=
      ⟨hB0, Nat.le_refl _, Own.nil_ _ _ _ _ _, rfl, fun i x y h1 _ => by simp at h1, fun i j x y g h1 => by simp at h1⟩
    have hG := Lib.hid (TKeep.grows (T := TS) hg1 (Nat.le_refl _))
    have hb0 : Hid (BLe w.heap.size w) := Lib.hid (Nat.le_refl _)
    have hb := Lib.hid hg1.size
    have hTC : Hid (∀ t ∈ [211], t ∈ TS) := Lib.hid (by intro t ht; simp [TS, TB] at *; exact .inr (.inl ht))
    have hrd : Hid (readB s = (if (eitherP s 8 ⟨0, 0, []⟩).1.at_ < s.length then failP 2 (eitherP s 8 ⟨0, 0, []⟩).1 else (eitherP s 8 ⟨0, 0, []⟩).1, (eitherP s 8 ⟨0, 0, []⟩).2)) := Lib.hid rfl
    replace h := Lib.hid h
    clear hB0 hg1
    go_enter Tryz.func147, Tryz.ntmps147
    go_wp2_with fail
    refine (either_any hsl 8 0 rfl _ _ _ _ _ _ h.out hb.out (Nat.zero_le _) (by simp [costP, frees])).mono ?_
    rintro e w2 ⟨rfl, xs, sv, h', hk'⟩
    replace h := Lib.hid h'
    clear h'
    (try replace hX := Lib.hid (hk'.blk hX.out (by decide)))
    (try replace hP := Lib.hid (hk'.blk hP.out (by decide)))
    (try replace hR := Lib.hid (hk'.blk hR.out (by decide)))
    replace hG := Lib.hid (hG.out.trans hk')
    replace hb := Lib.hid (Nat.le_trans hb0.out hG.out.size)
    clear hk'
    generalize eitherP s 8 ⟨0, 0, []⟩ = rt at *
    obtain ⟨tb, t1, t2⟩ := rt
    simp only [partV]
    simp only at hrd
    generalize hgB : w.heap.size = gB at *
    replace hgB := Lib.hid hgB
    have c1 : w2.cell? ⟨gB, 1, none⟩ = some (.int .i64 (tb.at_ : Int)) := (h.out.blk.cell 1).trans rfl
    have l1 := h.out.blk.lt
    by_cases hlt : tb.at_ < s.length
    · have hlti : (tb.at_ : Int) < (s.length : Int) := by omega
      rw [if_pos hlt] at hrd
      go_wp2_with fail
      clear c1 l1
      -- the part p has been made in the block behind w
      have hP := Blk.new w2 213 #[.int .i64 (t1 : Int), .int .i64 (t2 : Int)]
      have hgw : Grows w2 (w2.alloc (.cells #[.int .i64 (t1 : Int), .int .i64 (t2 : Int)] 213)) := (Grows.refl _).alloc _
      (try replace hX := Lib.hid (hX.out.grows hgw))
      (try replace hR := Lib.hid (hR.out.grows hgw))
      replace h := Lib.hid (h.out.grows hgw)
      replace hG := Lib.hid (hG.out.trans (TKeep.grows hgw hb.out))
      replace hb := Lib.hid (Nat.le_trans hb.out hgw.size)
      clear hgw
      generalize w2.alloc (.cells #[.int .i64 (t1 : Int), .int .i64 (t2 : Int)] 213) = w3 at *
      generalize w2.heap.size = gP at *
      replace hP := Lib.hid hP
      refine (fail_any2 h.out).mono ?_
      rintro e w4 ⟨rfl, hBw4, hgw4⟩
      (try replace hset := Lib.hid (hset.out.tk (TKeep.own h.out hgw4) (by decide)))
      (try replace hX := Lib.hid ((TKeep.own h.out hgw4).blk hX.out (by decide)))
      (try replace hP := Lib.hid ((TKeep.own h.out hgw4).blk hP.out (by decide)))
      (try replace hR := Lib.hid ((TKeep.own h.out hgw4).blk hR.out (by decide)))
      replace hG := Lib.hid (hG.out.trans ((TKeep.own h.out hgw4).mono hTC.out))
      replace h := Lib.hid hBw4
      replace hb := Lib.hid (Nat.le_trans hb0.out hG.out.size)
      clear hBw4 hgw4
      have hne0 := failP_err (e := 2) (by decide) tb
      have hpe2 : Hid (patErr s = (failP 2 tb).err) := Lib.hid (by rw [hpe.out, hrd.out])
      have hpo2 : Hid (patOf s = none) := Lib.hid (by rw [hpo.out, hrd.out, if_pos hne0])
      have c2 : w4.cell? ⟨gB, 2, none⟩ = some (.int .i64 ((failP 2 tb).err : Int)) := (h.out.blk.cell 2).trans rfl
      have l2 := h.out.blk.lt
      have hne : ¬ ((failP 2 tb).err : Int) = 0 := by omega
      clear hne0 hrd hpe hpo
      generalize (failP 2 tb).err = er at *
      go_wp2_with fail
      refine wp_region_k (by kernel_rfl) ?_
      refine wpAnyK_run (l' := #[true, true, true, true, true, true]) [0, 1, 2, 3, 4, 5] 0 up_grows (by kernel_rfl) (by intro c a d v w h; first | (cases d <;> exact h) | exact hQ0 _ _ _ _ _ h) rfl (by kernel_rfl) (by kernel_rfl) ?_
      iterate 6 (refine wpMixC_q rfl (fun K hK => ?_); go_simp; (try go_bits); first | (refine hK.out _ ?_; clear hK K) | (apply Exists.intro; refine ⟨fun wq hsq => ?_, hK.out _ ?_⟩; (first | (go_simp; done) | ((try go_simp); (try simp only [↓IntWalk.iteOmega]); (try go_bits); rfl) | (obtain ⟨hcq, hfq⟩ := bcells hsq; go_simp; done) | (obtain ⟨hcq, hfq⟩ := bcells hsq; (try go_simp); (try simp only [↓IntWalk.iteOmega]); (try go_bits); rfl)); clear hK K))
      refine wpMixC_nil ?_
      refine wpAnyK_end (by kernel_rfl) (fun wN hN hS => ?_)
      clear c2 l2
      go_wp2
      go_ret2
      refine ⟨.pointer none, ?_, ?_, ?_⟩
      · rw [hpe2.out]; rfl
      · rw [hpo2.out]; rfl
      · exact (Grows.of (hgB.out ▸ hG.out.below)).trans hN
    · have hlti : ¬ (tb.at_ : Int) < (s.length : Int) := by omega
      rw [if_neg hlt] at hrd
      have c2 : w2.cell? ⟨gB, 2, none⟩ = some (.int .i64 (tb.err : Int)) := (h.out.blk.cell 2).trans rfl
      have hpe2 : Hid (patErr s = tb.err) := Lib.hid (by rw [hpe.out, hrd.out])
      by_cases he : tb.err = 0
      · have hpo2 : Hid (patOf s = some ⟨tb.sts, t1, t2⟩) := Lib.hid (by rw [hpo.out, hrd.out, if_neg (by simpa using he)])
        have c3 : w2.cell? ⟨gB, 3, none⟩ = some sv := (h.out.blk.cell 3).trans rfl
        have hei : (tb.err : Int) = 0 := by omega
        rw [he] at hpe2
        clear hrd hpe hpo hlt he
        obtain ⟨sA, sc, hsv, -, -, -⟩ := h.out.own.arr hkSt
        obtain ⟨sn, hsn⟩ : ∃ n, n = xs.length := ⟨_, rfl⟩
        rw [← hsn] at hsv
        subst hsv
        clear hsn
        go_wp2_with fail
        clear c1 c2 c3 l1
        -- the part p has been made in the block behind w
        have hP := Blk.new w2 213 #[.int .i64 (t1 : Int), .int .i64 (t2 : Int)]
        have hgw : Grows w2 (w2.alloc (.cells #[.int .i64 (t1 : Int), .int .i64 (t2 : Int)] 213)) := (Grows.refl _).alloc _
        (try replace hX := Lib.hid (hX.out.grows hgw))
        (try replace hR := Lib.hid (hR.out.grows hgw))
        replace h := Lib.hid (h.out.grows hgw)
        replace hG := Lib.hid (hG.out.trans (TKeep.grows hgw hb.out))
        replace hb := Lib.hid (Nat.le_trans hb.out hgw.size)
        clear hgw
        generalize w2.alloc (.cells #[.int .i64 (t1 : Int), .int .i64 (t2 : Int)] 213) = w3 at *
        generalize w2.heap.size = gP at *
        replace hP := Lib.hid hP
        have c3 : w3.cell? ⟨gB, 3, none⟩ = some (.slice sA sn sc) := (h.out.blk.cell 3).trans rfl
        have l1 := h.out.blk.lt
        have d0P : w3.cell? ⟨gP, 0, none⟩ = some (.int .i64 (t1 : Int)) := hP.out.cell 0
        have d1P : w3.cell? ⟨gP, 1, none⟩ = some (.int .i64 (t2 : Int)) := hP.out.cell 1
        have l0P := hP.out.lt
        clear hP
        refine wp_region_k (by kernel_rfl) ?_
        refine wpAnyK_run (l' := #[true, true, true, true, true, true, true, true, true, true, false, false, false]) [0, 1, 2, 3, 4, 5, 6, 7, 8, 9] 3 up_grows (by kernel_rfl) (by intro c a d v w h; first | (cases d <;> exact h) | exact hQ0 _ _ _ _ _ h) rfl (by kernel_rfl) (by kernel_rfl) ?_
        iterate 10 (refine wpMixC_q rfl (fun K hK => ?_); go_simp; (try go_bits); first | (refine hK.out _ ?_; clear hK K) | (apply Exists.intro; refine ⟨fun wq hsq => ?_, hK.out _ ?_⟩; (first | (go_simp; done) | ((try go_simp); (try simp only [↓IntWalk.iteOmega]); (try go_bits); rfl) | (obtain ⟨hcq, hfq⟩ := bcells hsq; go_simp; done) | (obtain ⟨hcq, hfq⟩ := bcells hsq; (try go_simp); (try simp only [↓IntWalk.iteOmega]); (try go_bits); rfl)); clear hK K))
        refine wpMixC_nil ?_
        refine wpAnyK_alt [10] (by kernel_rfl) (by simp) (fun wN hN hS => (AllReadyK.cons rfl (fun K' hK => ?_) AllReadyK.nil))
        replace h := Lib.hid (h.out.grows hN)
        replace hG := Lib.hid (hG.out.trans (TKeep.grows hN hb.out))
        replace hb := Lib.hid (Nat.le_trans hb.out hN.size)
        try replace hB9 := Lib.hid (hB9.out.grows hN)
        clear hN
        go_simp
        refine hK.out _ _ ?_ (fun hS => ?_)
        · exact Grows.trans (by assumption) ((Grows.refl _).alloc _)
        have hB9 := Lib.hid (Blk.new wN 216 #[.string ⟨s.toArray⟩, .slice sA sn sc, .int .i64 (t1 : Int), .int .i64 (t2 : Int)])
        have hgw : Grows wN (wN.alloc (.cells #[.string ⟨s.toArray⟩, .slice sA sn sc, .int .i64 (t1 : Int), .int .i64 (t2 : Int)] 216)) := (Grows.refl _).alloc _
        replace h := Lib.hid (h.out.grows hgw)
        replace hG := Lib.hid (hG.out.trans (TKeep.grows hgw hb.out))
        replace hb := Lib.hid (Nat.le_trans hb.out hgw.size)
        clear hgw
        obtain ⟨gT, hgT⟩ : ∃ g, g = wN.heap.size := ⟨_, rfl⟩
        rw [← hgT] at hB9
        replace hgT := Lib.hid hgT
        clear hK hS
        refine wpAnyK_run (l' := #[true, true, true, true, true, true, true, true, true, true, true, true, true]) [11, 12] 0 up_grows (by kernel_rfl) (by intro c a d v w h; first | (cases d <;> exact h) | exact hQ0 _ _ _ _ _ h) rfl (by kernel_rfl) (by kernel_rfl) ?_
        iterate 2 (refine wpMixC_q rfl (fun K hK => ?_); go_simp; (try go_bits); first | (refine hK.out _ ?_; clear hK K) | (apply Exists.intro; refine ⟨fun wq hsq => ?_, hK.out _ ?_⟩; (first | (go_simp; done) | ((try go_simp); (try simp only [↓IntWalk.iteOmega]); (try go_bits); rfl) | (obtain ⟨hcq, hfq⟩ := bcells hsq; go_simp; done) | (obtain ⟨hcq, hfq⟩ := bcells hsq; (try go_simp); (try simp only [↓IntWalk.iteOmega]); (try go_bits); rfl)); clear hK K))
        refine wpMixC_nil ?_
        refine wpAnyK_end (by kernel_rfl) (fun wN hN hS => ?_)
        replace h := Lib.hid (h.out.grows hN)
        replace hG := Lib.hid (hG.out.trans (TKeep.grows hN hb.out))
        replace hb := Lib.hid (Nat.le_trans hb.out hN.size)
        try replace hB9 := Lib.hid (hB9.out.grows hN)
        clear c3 l1 d0P d1P l0P
        go_wp2
        go_ret2
        refine ⟨.pointer (some ⟨gT, 0, none⟩), ?_, ?_, Grows.of (hgB.out ▸ hG.out.below)⟩
        · rw [hpe2.out, hgT.out]; rfl
        · rw [hpo2.out, hgB.out]
          exact ⟨_, xs, .slice sA sn sc, rfl, hB9.out, h.out.own, h.out.len, h.out.st⟩
      · have hpo2 : Hid (patOf s = none) := Lib.hid (by rw [hpo.out, hrd.out, if_pos he])
        have hei : ¬ (tb.err : Int) = 0 := by omega
        clear hrd hpe hpo hlt he
        go_wp2_with fail
        clear c1 c2 l1
        -- the part p has been made in the block behind w
        have hP := Blk.new w2 213 #[.int .i64 (t1 : Int), .int .i64 (t2 : Int)]
        have hgw : Grows w2 (w2.alloc (.cells #[.int .i64 (t1 : Int), .int .i64 (t2 : Int)] 213)) := (Grows.refl _).alloc _
        (try replace hX := Lib.hid (hX.out.grows hgw))
        (try replace hR := Lib.hid (hR.out.grows hgw))
        replace h := Lib.hid (h.out.grows hgw)
        replace hG := Lib.hid (hG.out.trans (TKeep.grows hgw hb.out))
        replace hb := Lib.hid (Nat.le_trans hb.out hgw.size)
        clear hgw
        generalize w2.alloc (.cells #[.int .i64 (t1 : Int), .int .i64 (t2 : Int)] 213) = w3 at *
        generalize w2.heap.size = gP at *
        replace hP := Lib.hid hP
        have c2 : w3.cell? ⟨gB, 2, none⟩ = some (.int .i64 (tb.err : Int)) := (h.out.blk.cell 2).trans rfl
        have l1 := h.out.blk.lt
        refine wp_region_k (by kernel_rfl) ?_
        refine wpAnyK_run (l' := #[true, true, true, true, true, true]) [0, 1, 2, 3, 4, 5] 0 up_grows (by kernel_rfl) (by intro c a d v w h; first | (cases d <;> exact h) | exact hQ0 _ _ _ _ _ h) rfl (by kernel_rfl) (by kernel_rfl) ?_
        iterate 6 (refine wpMixC_q rfl (fun K hK => ?_); go_simp; (try go_bits); first | (refine hK.out _ ?_; clear hK K) | (apply Exists.intro; refine ⟨fun wq hsq => ?_, hK.out _ ?_⟩; (first | (go_simp; done) | ((try go_simp); (try simp only [↓IntWalk.iteOmega]); (try go_bits); rfl) | (obtain ⟨hcq, hfq⟩ := bcells hsq; go_simp; done) | (obtain ⟨hcq, hfq⟩ := bcells hsq; (try go_simp); (try simp only [↓IntWalk.iteOmega]); (try go_bits); rfl)); clear hK K))
        refine wpMixC_nil ?_
        refine wpAnyK_end (by kernel_rfl) (fun wN hN hS => ?_)
        clear c2 l1
        go_wp2
        go_ret2
        refine ⟨.pointer none, ?_, ?_, ?_⟩
        · rw [hpe2.out]; rfl
        · rw [hpo2.out]; rfl
        · exact (Grows.of (hgB.out ▸ hG.out.below)).trans hN
  · have hli : (s.length : Int) > 100 := by omega
    have hpe : patErr s = 4 := by unfold patErr; rw [if_pos (by omega)]
    have hpo : patOf s = none := by unfold patOf; rw [if_pos (.inl (by omega))]
    replace hpe := Lib.hid hpe
    replace hpo := Lib.hid hpo
    go_enter Tryz.func147, Tryz.ntmps147
    go_wp2
    go_ret2
    refine ⟨.pointer none, ?_, ?_, Grows.refl w⟩
    · rw [hpe.out]; rfl
    · rw [hpo.out]; rfl
end Go.Proofs.YtfoffneipdkdjaaGreatDoor
