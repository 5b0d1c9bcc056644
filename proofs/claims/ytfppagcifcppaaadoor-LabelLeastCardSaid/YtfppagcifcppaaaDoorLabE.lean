/- Labels: the reference's Flows, Join, Meet; two lists that are the same. -/
import Derived.Test.YtfppagcifcppaaaDoorLabD
namespace Go.Proofs.YtfppagcifcppaaaDoor
open Go.RowKit

theorem all_take_succ {α : Type} (q : α → Bool) (xs : List α) (k : Nat) (x : α) (h : xs[k]? = some x) : (xs.take (k + 1)).all q = ((xs.take k).all q && q x) := by
  rw [List.take_add_one, h]; simp
theorem all_take_no {α : Type} {q : α → Bool} {xs : List α} {k : Nat} (h : (xs.take k).all q = false) : xs.all q = false := by
  rw [← Bool.not_eq_true, List.all_eq_true] at h ⊢
  exact fun hh => h fun x hx => hh x ((List.take_sublist k xs).mem hx)

set_option maxRecDepth 100000 in
set_option maxHeartbeats 3200000 in
theorem refFlows_any (a b : Lab) (w : World) (ha : a.ok) (hb : b.ok) :
    Calls Tryd.prog 45 #[.agg #[.int .i64 a.lv, .int .u32 (a.c : Int)], .agg #[.int .i64 b.lv, .int .u32 (b.c : Int)]] w fun e w' => e = .returned (.bool (flowsL a b)) ∧ Grows w w' := by
  have cA := fun W => lRefRight_any a W
  have cB := fun W => lRefRight_any b W
  have cTA := fun W => refTeams_any a W ha
  have cTB := fun W => refTeams_any b W hb
  have hfl : flowsL a b = (labRight a.lv && labRight b.lv && decide (a.lv ≤ b.lv) && (teams a.c).all (fun k => decide (k ∈ teams b.c))) := by rw [subB_teams]; rfl
  have hlA := teams_len a.c
  have hlB := teams_len b.c
  have cH := fun A m c j W h h' => has_any A m c (teams b.c) j W h h' 69 rfl
  generalize flowsL a b = r at *
  generalize labRight a.lv = p at *
  generalize labRight b.lv = q at *
  generalize teams a.c = ta at *
  generalize teams b.c = tb at *
  replace cA := Lib.hid cA
  replace cB := Lib.hid cB
  replace cTA := Lib.hid cTA
  replace cTB := Lib.hid cTB
  replace cH := Lib.hid cH
  replace hfl := Lib.hid hfl
  clear ha hb
  go_enter Tryd.func45, Tryd.ntmps45
  go_wp2_with fail
  refine (cTA.out _).mono ?_
  rintro e w1 ⟨v, rfl, ho, hb1⟩
  obtain ⟨A, c, rfl, hc, hcm, hArr⟩ := ho.arr hkI
  obtain ⟨m, hm⟩ : ∃ m, m = ta.length := ⟨_, rfl⟩
  rw [← hm] at hArr hc ⊢
  rw [← hm] at hlA
  replace hm := Lib.hid hm
  replace hArr := Lib.hid hArr
  have bA : Blk w1 w.heap.size 62 #[.int .i64 a.lv, .int .u32 (a.c : Int)] := ((Blk.new w _ _).alloc _).grows hb1
  have bB : Blk w1 (w.heap.size + 1) 62 #[.int .i64 b.lv, .int .u32 (b.c : Int)] := (Blk.new1 w _ _ _).grows hb1
  have hg1 : Grows w w1 := (((Grows.refl w).alloc _).alloc _).trans hb1
  clear ho hb1
  go_wp2
  go_loopw [6] (fun i wr => ∃ (k : Nat), k ≤ m ∧ i = .int .i64 k ∧ Hid ((ta.take k).all (fun j => decide (j ∈ tb)) = true) ∧ Grows w1 wr) (fun i _ => m - (intOf i).toNat)
  case atStart => exact ⟨0, by omega, rfl, by simp [Hid], Grows.refl _⟩
  case round =>
    obtain ⟨k, hk, rfl, hyes, hg⟩ := hrel
    have bA2 := bA.grows hg
    have bB2 := bB.grows hg
    have a0 : wr.cell? ⟨w.heap.size, 0, none⟩ = some (.int .i64 a.lv) := bA2.cell 0
    have a1 : wr.cell? ⟨w.heap.size, 1, none⟩ = some (.int .u32 (a.c : Int)) := bA2.cell 1
    have b0 : wr.cell? ⟨w.heap.size + 1, 0, none⟩ = some (.int .i64 b.lv) := bB2.cell 0
    have b1 : wr.cell? ⟨w.heap.size + 1, 1, none⟩ = some (.int .u32 (b.c : Int)) := bB2.cell 1
    have sA := bA2.lt
    have sB := bB2.lt
    by_cases hkm : k < m
    · obtain ⟨bb, off, t, rfl, hbb, hx, hcell⟩ := ((hArr.out).keep hg).at_ hkm
      have c0 : wr.cell? ⟨bb, off + k, none⟩ = some (.int .i64 t) := by simpa using hcell 0 _ rfl
      have hs := all_take_succ (fun j => decide (j ∈ tb)) ta k t hx
      rw [hyes.out, Bool.true_and] at hs
      have cHt := fun A m c W h h' => cH.out A m c t W h h'
      cases hq : decide (t ∈ tb)
      · rw [hq] at hs
        have hfin : r = false := by rw [hfl.out, all_take_no hs, Bool.and_false]
        simp only [hq] at cHt
        replace cHt := Lib.hid cHt
        replace hfin := Lib.hid hfin
        clear hs hq hx hcell hyes
        go_wp2_with fail
        refine wp_region_mixg [(0, true), (2, true), (3, true), (4, true), (5, true), (1, false), (6, false), (7, true)] (by kernel_rfl) (by kernel_rfl) rfl (by kernel_rfl) (by intro c a d v w h; cases d <;> exact h) ?_
        iterate 5 (refine wpMix_q rfl (fun K hK => ?_); go_simp; (try go_bits); first | (refine hK _ ?_; clear hK K) | (apply Exists.intro; refine ⟨fun wq hsq => ?_, hK _ ?_⟩; (first | (go_simp; done) | ((try go_simp); (try simp only [↓IntWalk.iteOmega]); (try go_bits); rfl) | (obtain ⟨hcq, hfq⟩ := bcells hsq; go_simp; done) | (obtain ⟨hcq, hfq⟩ := bcells hsq; (try go_simp); (try simp only [↓IntWalk.iteOmega]); (try go_bits); rfl)); clear hK K))
        refine wpMix_m rfl (fun K' hK => ?_)
        go_simp
        refine (cTB.out _).mono ?_
        rintro e w2 ⟨v2, rfl, ho2, hb2⟩
        obtain ⟨A2, c2, rfl, hc2, hcm2, hArr2⟩ := ho2.arr hkI
        generalize tb.length = m2 at *
        clear ho2
        replace hArr2 := Lib.hid hArr2
        refine hK.out _ _ ?_ (fun hS => ?_)
        · repeat (first | assumption | exact Grows.refl _ | apply Grows.drew | apply Grows.drewN | refine Grows.alloc ?_ _ | (refine Grows.setCell ?_ (by first | (simp; done) | (simp; omega) | omega) _) | (refine Grows.trans ?_ (by assumption)))
        clear hK hS
        refine wpMix_m rfl (fun K' hK => ?_)
        go_simp
        refine (cHt.out _ _ _ _ hArr2.out (by unfold maxLen; omega)).mono ?_
        rintro e w3 ⟨rfl, rfl⟩
        refine hK.out _ _ ?_ (fun hS => ?_)
        · repeat (first | assumption | exact Grows.refl _ | apply Grows.drew | apply Grows.drewN | refine Grows.alloc ?_ _ | (refine Grows.setCell ?_ (by first | (simp; done) | (simp; omega) | omega) _) | (refine Grows.trans ?_ (by assumption)))
        clear hK hS
        iterate 1 (refine wpMix_q rfl (fun K hK => ?_); go_simp; (try go_bits); first | (refine hK _ ?_; clear hK K) | (apply Exists.intro; refine ⟨fun wq hsq => ?_, hK _ ?_⟩; (first | (go_simp; done) | ((try go_simp); (try simp only [↓IntWalk.iteOmega]); (try go_bits); rfl) | (obtain ⟨hcq, hfq⟩ := bcells hsq; go_simp; done) | (obtain ⟨hcq, hfq⟩ := bcells hsq; (try go_simp); (try simp only [↓IntWalk.iteOmega]); (try go_bits); rfl)); clear hK K))
        refine wpMix_nil ?_
        go_wp2
        go_ret
        exact ⟨ret_bool hfin.out.symm, ((hg1.trans hg).drew).trans hb2⟩
      · rw [hq] at hs
        simp only [hq] at cHt
        replace cHt := Lib.hid cHt
        replace hs := Lib.hid hs
        clear hq hx hcell hyes
        go_wp2_with fail
        refine wp_region_mixg [(0, true), (2, true), (3, true), (4, true), (5, true), (1, false), (6, false), (7, true)] (by kernel_rfl) (by kernel_rfl) rfl (by kernel_rfl) (by intro c a d v w h; cases d <;> exact h) ?_
        iterate 5 (refine wpMix_q rfl (fun K hK => ?_); go_simp; (try go_bits); first | (refine hK _ ?_; clear hK K) | (apply Exists.intro; refine ⟨fun wq hsq => ?_, hK _ ?_⟩; (first | (go_simp; done) | ((try go_simp); (try simp only [↓IntWalk.iteOmega]); (try go_bits); rfl) | (obtain ⟨hcq, hfq⟩ := bcells hsq; go_simp; done) | (obtain ⟨hcq, hfq⟩ := bcells hsq; (try go_simp); (try simp only [↓IntWalk.iteOmega]); (try go_bits); rfl)); clear hK K))
        refine wpMix_m rfl (fun K' hK => ?_)
        go_simp
        refine (cTB.out _).mono ?_
        rintro e w2 ⟨v2, rfl, ho2, hb2⟩
        obtain ⟨A2, c2, rfl, hc2, hcm2, hArr2⟩ := ho2.arr hkI
        generalize tb.length = m2 at *
        clear ho2
        replace hArr2 := Lib.hid hArr2
        refine hK.out _ _ ?_ (fun hS => ?_)
        · repeat (first | assumption | exact Grows.refl _ | apply Grows.drew | apply Grows.drewN | refine Grows.alloc ?_ _ | (refine Grows.setCell ?_ (by first | (simp; done) | (simp; omega) | omega) _) | (refine Grows.trans ?_ (by assumption)))
        clear hK hS
        refine wpMix_m rfl (fun K' hK => ?_)
        go_simp
        refine (cHt.out _ _ _ _ hArr2.out (by unfold maxLen; omega)).mono ?_
        rintro e w3 ⟨rfl, rfl⟩
        refine hK.out _ _ ?_ (fun hS => ?_)
        · repeat (first | assumption | exact Grows.refl _ | apply Grows.drew | apply Grows.drewN | refine Grows.alloc ?_ _ | (refine Grows.setCell ?_ (by first | (simp; done) | (simp; omega) | omega) _) | (refine Grows.trans ?_ (by assumption)))
        clear hK hS
        iterate 1 (refine wpMix_q rfl (fun K hK => ?_); go_simp; (try go_bits); first | (refine hK _ ?_; clear hK K) | (apply Exists.intro; refine ⟨fun wq hsq => ?_, hK _ ?_⟩; (first | (go_simp; done) | ((try go_simp); (try simp only [↓IntWalk.iteOmega]); (try go_bits); rfl) | (obtain ⟨hcq, hfq⟩ := bcells hsq; go_simp; done) | (obtain ⟨hcq, hfq⟩ := bcells hsq; (try go_simp); (try simp only [↓IntWalk.iteOmega]); (try go_bits); rfl)); clear hK K))
        refine wpMix_nil ?_
        go_wp2
        go_roundw
        case rel => exact ⟨k + 1, by omega, by go_num, hs.out, hg.drew.trans hb2⟩
        case measure => simp [intOf]; omega
    · obtain rfl : k = m := by omega
      have hfl2 : r = (p && q && decide (a.lv ≤ b.lv)) := by
        have := hyes.out
        rw [List.take_of_length_le (Nat.le_of_eq hm.out.symm)] at this
        rw [hfl.out, this, Bool.and_true]
      clear hyes hfl
      cases p
      · simp only [Bool.false_and] at hfl2
        replace hfl2 := Lib.hid hfl2
        go_wp2_with fail
        refine (cA.out _).mono ?_
        rintro e w2 ⟨rfl, hb2⟩
        go_wp2_with fail
        go_ret
        exact ⟨ret_bool hfl2.out.symm, (hg1.trans hg).trans hb2⟩
      · cases q
        · simp only [Bool.false_and, Bool.true_and] at hfl2
          replace hfl2 := Lib.hid hfl2
          go_wp2_with fail
          refine (cA.out _).mono ?_
          rintro e w2 ⟨rfl, hb2⟩
          replace b0 := hb2.cell b0
          replace b1 := hb2.cell b1
          go_wp2_with fail
          refine (cB.out _).mono ?_
          rintro e w3 ⟨rfl, hb3⟩
          go_wp2_with fail
          go_ret
          exact ⟨ret_bool hfl2.out.symm, ((hg1.trans hg).trans hb2).trans hb3⟩
        · simp only [Bool.true_and] at hfl2
          by_cases hle : a.lv ≤ b.lv
          · rw [decide_eq_true hle] at hfl2
            replace hfl2 := Lib.hid hfl2
            go_wp2_with fail
            refine (cA.out _).mono ?_
            rintro e w2 ⟨rfl, hb2⟩
            replace b0 := hb2.cell b0
            replace b1 := hb2.cell b1
            replace a0 := hb2.cell a0
            go_wp2_with fail
            refine (cB.out _).mono ?_
            rintro e w3 ⟨rfl, hb3⟩
            replace b0 := hb3.cell b0
            replace a0 := hb3.cell a0
            go_wp2_with fail
            go_ret
            exact ⟨ret_bool hfl2.out.symm, ((hg1.trans hg).trans hb2).trans hb3⟩
          · rw [decide_eq_false hle] at hfl2
            have hleh := Lib.hid hle
            replace hfl2 := Lib.hid hfl2
            go_wp2_with fail
            refine (cA.out _).mono ?_
            rintro e w2 ⟨rfl, hb2⟩
            replace b0 := hb2.cell b0
            replace b1 := hb2.cell b1
            replace a0 := hb2.cell a0
            go_wp2_with fail
            refine (cB.out _).mono ?_
            rintro e w3 ⟨rfl, hb3⟩
            replace b0 := hb3.cell b0
            replace a0 := hb3.cell a0
            go_wp2_with fail
            go_ret
            exact ⟨ret_bool (by rw [hfl2.out, decide_eq_false (by have := hleh.out; omega)]), ((hg1.trans hg).trans hb2).trans hb3⟩

set_option maxRecDepth 100000 in
set_option maxHeartbeats 1600000 in
theorem sameInts_any (A B : Option Addr) (m c m' c' : Nat) (xs ys : List Nat) (w : World) (h : Arr w 1 encI A m xs) (h' : Arr w 1 encI B m' ys) (hm : m ≤ maxLen) (hm' : m' ≤ maxLen) :
    Calls Tryd.prog 50 #[.slice A m c, .slice B m' c'] w fun e w' => e = .returned (.bool (decide (xs = ys))) ∧ Grows w w' := by
  unfold maxLen at hm hm'
  have hl := h.1
  have hl' := h'.1
  by_cases hmm : m = m'
  · subst hmm
    have hb : ((m : Int) != (m : Int)) = false := by simp
    replace hl := Lib.hid hl
    replace hl' := Lib.hid hl'
    replace h := Lib.hid h
    replace h' := Lib.hid h'
    go_enter Tryd.func50, Tryd.ntmps50
    go_wp2
    go_loopw [5] (fun i wr => ∃ k : Nat, k ≤ m ∧ i = .int .i64 k ∧ Hid (xs.take k = ys.take k) ∧ Grows w wr) (fun i _ => m - (intOf i).toNat)
    case atStart => exact ⟨0, by omega, rfl, by simp [Hid], Grows.refl _⟩
    case round =>
      obtain ⟨k, hk, rfl, hsame, hg⟩ := hrel
      by_cases hkm : k < m
      · obtain ⟨b1, o1, x, rfl, _, hx, hc1⟩ := ((h.out).keep hg).at_ hkm
        obtain ⟨b2, o2, y, rfl, _, hy, hc2⟩ := ((h'.out).keep hg).at_ hkm
        have c1 : wr.cell? ⟨b1, o1 + k, none⟩ = some (.int .i64 x) := by simpa using hc1 0 _ rfl
        have c2 : wr.cell? ⟨b2, o2 + k, none⟩ = some (.int .i64 y) := by simpa using hc2 0 _ rfl
        by_cases hxy : x = y
        · subst hxy
          have hs : xs.take (k + 1) = ys.take (k + 1) := by rw [List.take_add_one, List.take_add_one, hx, hy, hsame.out]
          replace hs := Lib.hid hs
          clear hx hy hc1 hc2 hsame
          go_wp2
          go_quiet (fail)
          go_wp2
          go_roundw
          case rel => exact ⟨k + 1, by omega, by go_num, hs.out, hg.drewN _⟩
          case measure => simp [intOf]; omega
        · have hbn : ((x : Int) != (y : Int)) = true := by rw [bne_iff_ne]; omega
          have hfin : decide (xs = ys) = false := by
            rw [decide_eq_false_iff_not]; rintro rfl
            rw [hx] at hy; injection hy with hy; exact hxy hy
          replace hfin := Lib.hid hfin
          clear hx hy hc1 hc2 hsame hxy
          go_wp2
          go_quiet (fail)
          go_wp2
          go_ret
          exact ⟨ret_bool hfin.out.symm, hg.drewN _⟩
      · obtain rfl : k = m := by omega
        have hfin : decide (xs = ys) = true := by
          have := hsame.out
          rw [List.take_of_length_le (Nat.le_of_eq hl.out), List.take_of_length_le (Nat.le_of_eq hl'.out)] at this
          rw [decide_eq_true_eq]; exact this
        replace hfin := Lib.hid hfin
        clear hsame
        go_wp2
        go_ret
        exact ⟨ret_bool hfin.out.symm, hg⟩
  · have hb : ((m : Int) != (m' : Int)) = true := by rw [bne_iff_ne]; omega
    have hfin : decide (xs = ys) = false := by
      rw [decide_eq_false_iff_not]; rintro rfl; exact hmm (hl.symm.trans hl')
    replace hfin := Lib.hid hfin
    clear hl hl' h h' hmm
    go_enter Tryd.func50, Tryd.ntmps50
    go_wp2
    go_ret
    exact ⟨ret_bool hfin.out.symm, Grows.refl _⟩
end Go.Proofs.YtfppagcifcppaaaDoor
