/- The walk of the law WindowNext. -/
import Derived.Test.YtfppagcifcppaaaDoorWinL
import Derived.Test.YtfppagcifcppaaaDoorWinM
import Derived.Test.YtfppagcifcppaaaDoorAlt
namespace Go.Proofs.YtfppagcifcppaaaDoor
open Go.RowKit

set_option maxRecDepth 100000 in
set_option maxHeartbeats 3200000 in
theorem next_law (A : Option Addr) (m c : Nat) (ws : List Win) (x : Win) (a : Int) (w : World) (he : LibEnv w) (h : Arr w 3 encW A m ws) (hcap : m ≤ c) (hcm : c ≤ maxLen) :
    Calls Tryd.prog 4 #[.slice A m c, .agg #[.int .i64 x.p, .int .i64 x.f, .int .i64 x.l], .int .i64 a] w fun e w' => e = .returned (.bool true) ∧ Grows w w' := by
  have cL := fun o => lives_any (w.alloc o) (he.grows ((Grows.refl w).alloc o))
  have hm : m ≤ maxLen := by omega
  have hA := Lib.hid h
  replace cL := Lib.hid cL
  clear h he hcap hcm
  have hmm : ((maxLen : Nat) : Int) = 9223372036854775807 := by simp [maxLen]
  go_enter Tryd.func4, Tryd.ntmps4
  go_wp2_with fail
  refine (cL.out _).mono ?_
  rintro e w1 ⟨rfl, hb1⟩
  have bl : Blk w1 w.heap.size 37 #[.int .i64 x.p, .int .i64 x.f, .int .i64 x.l] := (Blk.new w _ _).grows hb1
  have hg1 : Grows w w1 := ((Grows.refl _).alloc _).trans hb1
  clear cL hb1
  go_wp2_with fail
  refine (good_any A m c ws w1 (hA.out.keep hg1) hm).mono ?_
  rintro e w2 ⟨v2, rfl, ho2, hb2⟩
  have hgl : ((ws.take 4).map goodW).length ≤ 4 := by simp; omega
  generalize (ws.take 4).map goodW = gs at ho2 hgl
  obtain ⟨A2, c2, rfl, hc2, hcm2, hA2⟩ := ho2.arr hkW
  generalize hL : gs.length = L at *
  clear ho2 hA hm
  replace hA2 := Lib.hid hA2
  replace bl := bl.grows hb2
  replace hg1 := hg1.trans hb2
  clear hb2
  go_wp2_with fail
  refine (back_any A2 L c2 gs w2 hA2.out (by omega)).mono ?_
  rintro e w3 ⟨v3, rfl, ho3, hb3⟩
  rw [List.take_of_length_le (by omega)] at ho3
  obtain ⟨A3, c3, rfl, hc3, hcm3, hA3⟩ := ho3.arr hkW
  rw [hL] at hc3 hA3
  simp only [hL]
  clear ho3 hA2 hc2 hcm2
  replace bl := bl.grows hb3
  replace hg1 := hg1.trans hb3
  clear hb3
  replace hA3 := Lib.hid hA3
  have hN0 := u64w a
  generalize hN : IntKind.u64.wrap a = N at *
  replace hL := Lib.hid hL
  go_wp2_with fail
  obtain ⟨R, hR0, hR1, hR⟩ : ∃ R : Int, 0 ≤ R ∧ R < 1000000 ∧ N % 1000000 = R := ⟨_, by omega, by omega, rfl⟩
  simp only [hR]
  clear hR hN hN0
  refine (next_any A3 L c3 gs R w3 hA3.out hc3 hcm3).mono ?_
  rintro e w4 ⟨n, ok, rfl, hn, hb4⟩
  replace bl := bl.grows hb4
  replace hg1 := hg1.trans hb4
  have hA4 := hA3.out.keep hb4
  clear hb4 hA3
  replace hA4 := Lib.hid hA4
  replace hn := Lib.hid hn
  have hsz4 := bl.lt
  have d0 : w4.cell? ⟨w.heap.size, 0, none⟩ = some (.int .i64 x.p) := bl.cell 0
  have d1 : w4.cell? ⟨w.heap.size, 1, none⟩ = some (.int .i64 x.f) := bl.cell 1
  have d2 : w4.cell? ⟨w.heap.size, 2, none⟩ = some (.int .i64 x.l) := bl.cell 2
  go_wp2_with fail
  refine wp_region_alt (by kernel_rfl) ?_
  refine wpAnyH_run (l' := #[true, false, true, false, false, false, false, true, false, false, false, false, false, false]) [(0, true), (2, true), (7, true)] 11 (by kernel_rfl) (by intro c a d v w h; cases d <;> exact h) rfl (by kernel_rfl) (Grows.refl _).drew ?_
  iterate 3 (refine wpMixK_q rfl (fun K hK => ?_); go_simp; (try go_bits); first | (refine hK _ ?_; clear hK K) | (apply Exists.intro; refine ⟨fun wq hsq => ?_, hK _ ?_⟩; (first | (go_simp; done) | ((try go_simp); (try simp only [↓IntWalk.iteOmega]); (try go_bits); rfl) | (obtain ⟨hcq, hfq⟩ := bcells hsq; go_simp; done) | (obtain ⟨hcq, hfq⟩ := bcells hsq; (try go_simp); (try simp only [↓IntWalk.iteOmega]); (try go_bits); rfl)); clear hK K))
  refine wpMixK_nil (fun hS => ?_)
  refine wpAnyH_alt [1, 3] (by kernel_rfl) (by simp) (AllReadyH.cons rfl (fun K' hK => ?_) (AllReadyH.cons rfl (fun K' hK => ?_) AllReadyH.nil))
  · skip
    try clear hS
    refine Own.grownOpt T_ww rfl (.const (.slice none 0 0)) (.tmp 28) rfl (Own.nil_ _ w4.heap.size _ _ _) rfl rfl (hA4.out.keep (by
      repeat (first | assumption | exact Grows.refl _ | apply Grows.drew | apply Grows.drewN | refine Grows.alloc ?_ _ | (refine Grows.setCell ?_ (by first | (simp; done) | (simp; omega) | omega) _) | (refine Grows.trans ?_ (by assumption)))
    )) hkW oneW (Grows.size (by
      repeat (first | assumption | exact Grows.refl _ | apply Grows.drew | apply Grows.drewN | refine Grows.alloc ?_ _ | (refine Grows.setCell ?_ (by first | (simp; done) | (simp; omega) | omega) _) | (refine Grows.trans ?_ (by assumption)))
    )) (by simp; unfold maxLen; omega) (by simp; omega) (fun v29 wa h29 hgr hat => ?_)
    have hb29 : Grows _ wa := (Below.refl _ _).grown hgr (Nat.le_refl _) (fun g hk => by cases hk)
    clear hgr hat
    refine hK.out _ _ ?_ (fun hS => ?_)
    · repeat (first | assumption | exact Grows.refl _ | apply Grows.drew | apply Grows.drewN | refine Grows.alloc ?_ _ | (refine Grows.setCell ?_ (by first | (simp; done) | (simp; omega) | omega) _) | (refine Grows.trans ?_ (by assumption)))
    clear hK
    refine wpAnyH_run (l' := #[true, true, true, true, true, true, true, true, true, true, true, true, true, true]) [(3, false), (4, false), (5, false), (6, false), (8, false), (9, true), (10, true), (11, true), (12, true), (13, true)] 0 (by kernel_rfl) (by intro c a d v w h; cases d <;> exact h) rfl (by kernel_rfl) hS ?_
    clear hS
    refine wpMixK_m rfl (fun K' hK => ?_)
    go_simp
    refine hK.out _ _ ?_ (fun hS => ?_)
    · repeat (first | assumption | exact Grows.refl _ | apply Grows.drew | apply Grows.drewN | refine Grows.alloc ?_ _ | (refine Grows.setCell ?_ (by first | (simp; done) | (simp; omega) | omega) _) | (refine Grows.trans ?_ (by assumption)))
    clear hK hS
    refine wpMixK_m rfl (fun K' hK => ?_)
    go_simp
    refine (good_any _ 1 1 [x] _ (Arr.one (x := x) (by first | exact Blk.new _ _ _ | exact Blk.grows (Blk.new w4.drew 37 _) hb29)) (by simp [maxLen])).mono ?_
    rintro e wb ⟨v32, rfl, h32', hb32⟩
    obtain ⟨A32, c32, rfl, hcc32, hcm32, h32⟩ : ∃ A c, v32 = .slice A 1 c ∧ 1 ≤ c ∧ c ≤ maxLen ∧ Arr wb 3 encW A 1 [goodW x] := h32'.arr hkW
    clear h32'
    refine hK.out _ _ ?_ (fun hS => ?_)
    · repeat (first | assumption | exact Grows.refl _ | apply Grows.drew | apply Grows.drewN | refine Grows.alloc ?_ _ | (refine Grows.setCell ?_ (by first | (simp; done) | (simp; omega) | omega) _) | (refine Grows.trans ?_ (by assumption)))
    clear hK hS
    refine wpMixK_m rfl (fun K' hK => ?_)
    go_simp
    refine (back_any A32 1 c32 [goodW x] _ (h32.keep (by
      repeat (first | assumption | exact Grows.refl _ | apply Grows.drew | apply Grows.drewN | refine Grows.alloc ?_ _ | (refine Grows.setCell ?_ (by first | (simp; done) | (simp; omega) | omega) _) | (refine Grows.trans ?_ (by assumption)))
    )) (by simp [maxLen])).mono ?_
    rintro e wc ⟨v33, rfl, h33', hb33⟩
    obtain ⟨A33, c33, rfl, hcc33, hcm33, h33⟩ : ∃ A c, v33 = .slice A 1 c ∧ 1 ≤ c ∧ c ≤ maxLen ∧ Arr wc 3 encW A 1 [goodW x] := h33'.arr hkW
    clear h33'
    refine hK.out _ _ ?_ (fun hS => ?_)
    · repeat (first | assumption | exact Grows.refl _ | apply Grows.drew | apply Grows.drewN | refine Grows.alloc ?_ _ | (refine Grows.setCell ?_ (by first | (simp; done) | (simp; omega) | omega) _) | (refine Grows.trans ?_ (by assumption)))
    clear hK hS
    refine wpMixK_m rfl (fun K' hK => ?_)
    refine Own.grownOpt T_ww rfl (.tmp 29) (.tmp 33) rfl (h29.grows (by
      repeat (first | assumption | exact Grows.refl _ | apply Grows.drew | apply Grows.drewN | refine Grows.alloc ?_ _ | (refine Grows.setCell ?_ (by first | (simp; done) | (simp; omega) | omega) _) | (refine Grows.trans ?_ (by assumption)))
    )) rfl rfl (h33.keep (by
      repeat (first | assumption | exact Grows.refl _ | apply Grows.drew | apply Grows.drewN | refine Grows.alloc ?_ _ | (refine Grows.setCell ?_ (by first | (simp; done) | (simp; omega) | omega) _) | (refine Grows.trans ?_ (by assumption)))
    )) hkW oneW (Grows.size (by
      repeat (first | assumption | exact Grows.refl _ | apply Grows.drew | apply Grows.drewN | refine Grows.alloc ?_ _ | (refine Grows.setCell ?_ (by first | (simp; done) | (simp; omega) | omega) _) | (refine Grows.trans ?_ (by assumption)))
    )) (by simp [hL.out]; unfold maxLen; omega) (by simp [hL.out]; omega) (fun v6 wd h6 hgr hat => ?_)
    have hb6 : Grows w4 wd := Own.below (h29.grows (by
      repeat (first | assumption | exact Grows.refl _ | apply Grows.drew | apply Grows.drewN | refine Grows.alloc ?_ _ | (refine Grows.setCell ?_ (by first | (simp; done) | (simp; omega) | omega) _) | (refine Grows.trans ?_ (by assumption)))
    )) (Grows.below (by
      repeat (first | assumption | exact Grows.refl _ | apply Grows.drew | apply Grows.drewN | refine Grows.alloc ?_ _ | (refine Grows.setCell ?_ (by first | (simp; done) | (simp; omega) | omega) _) | (refine Grows.trans ?_ (by assumption)))
    )) (Nat.le_refl _) (Grows.size (by
      repeat (first | assumption | exact Grows.refl _ | apply Grows.drew | apply Grows.drewN | refine Grows.alloc ?_ _ | (refine Grows.setCell ?_ (by first | (simp; done) | (simp; omega) | omega) _) | (refine Grows.trans ?_ (by assumption)))
    )) hgr
    rw [List.nil_append] at h6
    obtain ⟨A6, c6, rfl, hc6, hcm6, hA6⟩ := h6.arr hkW
    clear h6 hgr hat
    generalize hL6 : (gs ++ [goodW x]).length = L6 at *
    replace hL6 := Lib.hid hL6
    replace hA6 := Lib.hid hA6
    refine hK.out _ _ ?_ (fun hS => ?_)
    · repeat (first | assumption | exact Grows.refl _ | apply Grows.drew | apply Grows.drewN | refine Grows.alloc ?_ _ | (refine Grows.setCell ?_ (by first | (simp; done) | (simp; omega) | omega) _) | (refine Grows.trans ?_ (by assumption)))
    clear hK hS
    refine wpMixK_m rfl (fun K' hK => ?_)
    go_simp
    refine (next_any A6 L6 c6 (gs ++ [goodW x]) R _ hA6.out hc6 hcm6).mono ?_
    rintro e w8 ⟨k, yes, rfl, hk, hb8⟩
    refine hK.out _ _ ?_ (fun hS => ?_)
    · exact hb6.trans hb8
    clear hK hS
    iterate 5 (refine wpMixK_q rfl (fun K hK => ?_); go_simp; (try go_bits); first | (refine hK _ ?_; clear hK K) | (apply Exists.intro; refine ⟨fun wq hsq => ?_, hK _ ?_⟩; (first | (go_simp; done) | ((try go_simp); (try simp only [↓IntWalk.iteOmega]); (try go_bits); rfl) | (obtain ⟨hcq, hfq⟩ := bcells hsq; go_simp; done) | (obtain ⟨hcq, hfq⟩ := bcells hsq; (try go_simp); (try simp only [↓IntWalk.iteOmega]); (try go_bits); rfl)); clear hK K))
    refine wpMixK_nil (fun hS => ?_)
    refine wpAnyH_end (by kernel_rfl) ?_
    try clear hS
    replace hg1 := hg1.trans (hb6.trans hb8)
    have hA8 := Lib.hid (hA4.out.keep (hb6.trans hb8))
    have hmore := next_more (g := goodW x) (by have := hL.out; omega) hR0 hR1 hn.out hk
    obtain ⟨hno, hyes⟩ := hmore
    clear hk hn hb6 hb8 hA4 hA6 hL6 h33 h32 h29 hb29 hb32 hb33
    cases ok
    · obtain ⟨rfl, rfl⟩ := hno rfl
      clear hyes
      go_wp2_with fail
      go_ret
      exact ⟨rfl, hg1⟩
    · obtain ⟨q1, q2, q3, q4, q5⟩ := hyes rfl
      clear hno
      have cq : Calls Tryd.prog 20 #[.slice A3 L c3, .int .i64 n] w8 fun e w' => e = .returned (.bool false) ∧ Grows w8 w' := by
        have := muted_any A3 L c3 gs n w8 hA8.out hc3 hcm3
        rw [show (gs.take 20).any (isIn n) = false from q3] at this
        exact this
      have cn : n - R < 100000 → ∀ W, Grows w8 W → Calls Tryd.prog 22 #[.slice A3 L c3, .int .i64 R, .int .i64 (n - 1)] W fun e w' => e = .returned (.int .i64 (n - R)) ∧ Grows W w' := fun hd W hW => by
        have := count_any A3 L c3 gs R (n - 1) W (hA8.out.keep hW) hc3 hcm3
        rw [q5 hd] at this
        exact this
      replace cq := Lib.hid cq
      replace cn := Lib.hid cn
      clear q3 q5 hA8
      have hyk : yes = false ∨ (yes = true ∧ n ≤ k) := by cases yes <;> simp_all
      clear q4
      by_cases hd : 100000 ≤ n - R
      · rcases hyk with rfl | ⟨rfl, hyk⟩
        all_goals
          go_wp2_with fail
          refine cq.out.mono ?_
          rintro e w9 ⟨rfl, hb9⟩
          go_wp2_with fail
          go_ret
          exact ⟨rfl, hg1.trans hb9⟩
      · replace cn := Lib.hid (cn.out (by omega))
        by_cases hnr : n = R
        · have hb0 : (n == R) = true := by simp [hnr]
          rcases hyk with rfl | ⟨rfl, hyk⟩
          all_goals
            clear hnr
            go_wp2_with fail
            refine cq.out.mono ?_
            rintro e w9 ⟨rfl, hb9⟩
            go_wp2_with fail
            go_ret
            exact ⟨rfl, hg1.trans hb9⟩
        · have hb0 : (n == R) = false := by simp [hnr]
          rcases hyk with rfl | ⟨rfl, hyk⟩
          all_goals
            clear hnr
            go_wp2_with fail
            refine cq.out.mono ?_
            rintro e w9 ⟨rfl, hb9⟩
            go_wp2_with fail
            refine (cn.out _ hb9).mono ?_
            rintro e w10 ⟨rfl, hb10⟩
            go_wp2_with fail
            go_ret
            exact ⟨rfl, (hg1.trans hb9).trans hb10⟩
  · skip
    try clear hS
    go_simp
    refine hK.out _ _ ?_ (fun hS => ?_)
    · repeat (first | assumption | exact Grows.refl _ | apply Grows.drew | apply Grows.drewN | refine Grows.alloc ?_ _ | (refine Grows.setCell ?_ (by first | (simp; done) | (simp; omega) | omega) _) | (refine Grows.trans ?_ (by assumption)))
    clear hK
    refine wpAnyH_run (l' := #[true, true, true, true, true, true, true, true, true, true, true, true, true, true]) [(1, false), (4, false), (5, false), (6, false), (8, false), (9, true), (10, true), (11, true), (12, true), (13, true)] 0 (by kernel_rfl) (by intro c a d v w h; cases d <;> exact h) rfl (by kernel_rfl) hS ?_
    clear hS
    refine wpMixK_m rfl (fun K' hK => ?_)
    refine Own.grownOpt T_ww rfl (.const (.slice none 0 0)) (.tmp 28) rfl (Own.nil_ _ w4.heap.size _ _ _) rfl rfl (hA4.out.keep (by
      repeat (first | assumption | exact Grows.refl _ | apply Grows.drew | apply Grows.drewN | refine Grows.alloc ?_ _ | (refine Grows.setCell ?_ (by first | (simp; done) | (simp; omega) | omega) _) | (refine Grows.trans ?_ (by assumption)))
    )) hkW oneW (Grows.size (by
      repeat (first | assumption | exact Grows.refl _ | apply Grows.drew | apply Grows.drewN | refine Grows.alloc ?_ _ | (refine Grows.setCell ?_ (by first | (simp; done) | (simp; omega) | omega) _) | (refine Grows.trans ?_ (by assumption)))
    )) (by simp; unfold maxLen; omega) (by simp; omega) (fun v29 wa h29 hgr hat => ?_)
    have hb29 : Grows _ wa := (Below.refl _ _).grown hgr (Nat.le_refl _) (fun g hk => by cases hk)
    clear hgr hat
    refine hK.out _ _ ?_ (fun hS => ?_)
    · repeat (first | assumption | exact Grows.refl _ | apply Grows.drew | apply Grows.drewN | refine Grows.alloc ?_ _ | (refine Grows.setCell ?_ (by first | (simp; done) | (simp; omega) | omega) _) | (refine Grows.trans ?_ (by assumption)))
    clear hK hS
    refine wpMixK_m rfl (fun K' hK => ?_)
    go_simp
    refine (good_any _ 1 1 [x] _ (Arr.one (x := x) (by first | exact Blk.new _ _ _ | exact Blk.grows (Blk.new w4.drew 37 _) hb29)) (by simp [maxLen])).mono ?_
    rintro e wb ⟨v32, rfl, h32', hb32⟩
    obtain ⟨A32, c32, rfl, hcc32, hcm32, h32⟩ : ∃ A c, v32 = .slice A 1 c ∧ 1 ≤ c ∧ c ≤ maxLen ∧ Arr wb 3 encW A 1 [goodW x] := h32'.arr hkW
    clear h32'
    refine hK.out _ _ ?_ (fun hS => ?_)
    · repeat (first | assumption | exact Grows.refl _ | apply Grows.drew | apply Grows.drewN | refine Grows.alloc ?_ _ | (refine Grows.setCell ?_ (by first | (simp; done) | (simp; omega) | omega) _) | (refine Grows.trans ?_ (by assumption)))
    clear hK hS
    refine wpMixK_m rfl (fun K' hK => ?_)
    go_simp
    refine (back_any A32 1 c32 [goodW x] _ (h32.keep (by
      repeat (first | assumption | exact Grows.refl _ | apply Grows.drew | apply Grows.drewN | refine Grows.alloc ?_ _ | (refine Grows.setCell ?_ (by first | (simp; done) | (simp; omega) | omega) _) | (refine Grows.trans ?_ (by assumption)))
    )) (by simp [maxLen])).mono ?_
    rintro e wc ⟨v33, rfl, h33', hb33⟩
    obtain ⟨A33, c33, rfl, hcc33, hcm33, h33⟩ : ∃ A c, v33 = .slice A 1 c ∧ 1 ≤ c ∧ c ≤ maxLen ∧ Arr wc 3 encW A 1 [goodW x] := h33'.arr hkW
    clear h33'
    refine hK.out _ _ ?_ (fun hS => ?_)
    · repeat (first | assumption | exact Grows.refl _ | apply Grows.drew | apply Grows.drewN | refine Grows.alloc ?_ _ | (refine Grows.setCell ?_ (by first | (simp; done) | (simp; omega) | omega) _) | (refine Grows.trans ?_ (by assumption)))
    clear hK hS
    refine wpMixK_m rfl (fun K' hK => ?_)
    refine Own.grownOpt T_ww rfl (.tmp 29) (.tmp 33) rfl (h29.grows (by
      repeat (first | assumption | exact Grows.refl _ | apply Grows.drew | apply Grows.drewN | refine Grows.alloc ?_ _ | (refine Grows.setCell ?_ (by first | (simp; done) | (simp; omega) | omega) _) | (refine Grows.trans ?_ (by assumption)))
    )) rfl rfl (h33.keep (by
      repeat (first | assumption | exact Grows.refl _ | apply Grows.drew | apply Grows.drewN | refine Grows.alloc ?_ _ | (refine Grows.setCell ?_ (by first | (simp; done) | (simp; omega) | omega) _) | (refine Grows.trans ?_ (by assumption)))
    )) hkW oneW (Grows.size (by
      repeat (first | assumption | exact Grows.refl _ | apply Grows.drew | apply Grows.drewN | refine Grows.alloc ?_ _ | (refine Grows.setCell ?_ (by first | (simp; done) | (simp; omega) | omega) _) | (refine Grows.trans ?_ (by assumption)))
    )) (by simp [hL.out]; unfold maxLen; omega) (by simp [hL.out]; omega) (fun v6 wd h6 hgr hat => ?_)
    have hb6 : Grows w4 wd := Own.below (h29.grows (by
      repeat (first | assumption | exact Grows.refl _ | apply Grows.drew | apply Grows.drewN | refine Grows.alloc ?_ _ | (refine Grows.setCell ?_ (by first | (simp; done) | (simp; omega) | omega) _) | (refine Grows.trans ?_ (by assumption)))
    )) (Grows.below (by
      repeat (first | assumption | exact Grows.refl _ | apply Grows.drew | apply Grows.drewN | refine Grows.alloc ?_ _ | (refine Grows.setCell ?_ (by first | (simp; done) | (simp; omega) | omega) _) | (refine Grows.trans ?_ (by assumption)))
    )) (Nat.le_refl _) (Grows.size (by
      repeat (first | assumption | exact Grows.refl _ | apply Grows.drew | apply Grows.drewN | refine Grows.alloc ?_ _ | (refine Grows.setCell ?_ (by first | (simp; done) | (simp; omega) | omega) _) | (refine Grows.trans ?_ (by assumption)))
    )) hgr
    rw [List.nil_append] at h6
    obtain ⟨A6, c6, rfl, hc6, hcm6, hA6⟩ := h6.arr hkW
    clear h6 hgr hat
    generalize hL6 : (gs ++ [goodW x]).length = L6 at *
    replace hL6 := Lib.hid hL6
    replace hA6 := Lib.hid hA6
    refine hK.out _ _ ?_ (fun hS => ?_)
    · repeat (first | assumption | exact Grows.refl _ | apply Grows.drew | apply Grows.drewN | refine Grows.alloc ?_ _ | (refine Grows.setCell ?_ (by first | (simp; done) | (simp; omega) | omega) _) | (refine Grows.trans ?_ (by assumption)))
    clear hK hS
    refine wpMixK_m rfl (fun K' hK => ?_)
    go_simp
    refine (next_any A6 L6 c6 (gs ++ [goodW x]) R _ hA6.out hc6 hcm6).mono ?_
    rintro e w8 ⟨k, yes, rfl, hk, hb8⟩
    refine hK.out _ _ ?_ (fun hS => ?_)
    · exact hb6.trans hb8
    clear hK hS
    iterate 5 (refine wpMixK_q rfl (fun K hK => ?_); go_simp; (try go_bits); first | (refine hK _ ?_; clear hK K) | (apply Exists.intro; refine ⟨fun wq hsq => ?_, hK _ ?_⟩; (first | (go_simp; done) | ((try go_simp); (try simp only [↓IntWalk.iteOmega]); (try go_bits); rfl) | (obtain ⟨hcq, hfq⟩ := bcells hsq; go_simp; done) | (obtain ⟨hcq, hfq⟩ := bcells hsq; (try go_simp); (try simp only [↓IntWalk.iteOmega]); (try go_bits); rfl)); clear hK K))
    refine wpMixK_nil (fun hS => ?_)
    refine wpAnyH_end (by kernel_rfl) ?_
    try clear hS
    replace hg1 := hg1.trans (hb6.trans hb8)
    have hA8 := Lib.hid (hA4.out.keep (hb6.trans hb8))
    have hmore := next_more (g := goodW x) (by have := hL.out; omega) hR0 hR1 hn.out hk
    obtain ⟨hno, hyes⟩ := hmore
    clear hk hn hb6 hb8 hA4 hA6 hL6 h33 h32 h29 hb29 hb32 hb33
    cases ok
    · obtain ⟨rfl, rfl⟩ := hno rfl
      clear hyes
      go_wp2_with fail
      go_ret
      exact ⟨rfl, hg1⟩
    · obtain ⟨q1, q2, q3, q4, q5⟩ := hyes rfl
      clear hno
      have cq : Calls Tryd.prog 20 #[.slice A3 L c3, .int .i64 n] w8 fun e w' => e = .returned (.bool false) ∧ Grows w8 w' := by
        have := muted_any A3 L c3 gs n w8 hA8.out hc3 hcm3
        rw [show (gs.take 20).any (isIn n) = false from q3] at this
        exact this
      have cn : n - R < 100000 → ∀ W, Grows w8 W → Calls Tryd.prog 22 #[.slice A3 L c3, .int .i64 R, .int .i64 (n - 1)] W fun e w' => e = .returned (.int .i64 (n - R)) ∧ Grows W w' := fun hd W hW => by
        have := count_any A3 L c3 gs R (n - 1) W (hA8.out.keep hW) hc3 hcm3
        rw [q5 hd] at this
        exact this
      replace cq := Lib.hid cq
      replace cn := Lib.hid cn
      clear q3 q5 hA8
      have hyk : yes = false ∨ (yes = true ∧ n ≤ k) := by cases yes <;> simp_all
      clear q4
      by_cases hd : 100000 ≤ n - R
      · rcases hyk with rfl | ⟨rfl, hyk⟩
        all_goals
          go_wp2_with fail
          refine cq.out.mono ?_
          rintro e w9 ⟨rfl, hb9⟩
          go_wp2_with fail
          go_ret
          exact ⟨rfl, hg1.trans hb9⟩
      · replace cn := Lib.hid (cn.out (by omega))
        by_cases hnr : n = R
        · have hb0 : (n == R) = true := by simp [hnr]
          rcases hyk with rfl | ⟨rfl, hyk⟩
          all_goals
            clear hnr
            go_wp2_with fail
            refine cq.out.mono ?_
            rintro e w9 ⟨rfl, hb9⟩
            go_wp2_with fail
            go_ret
            exact ⟨rfl, hg1.trans hb9⟩
        · have hb0 : (n == R) = false := by simp [hnr]
          rcases hyk with rfl | ⟨rfl, hyk⟩
          all_goals
            clear hnr
            go_wp2_with fail
            refine cq.out.mono ?_
            rintro e w9 ⟨rfl, hb9⟩
            go_wp2_with fail
            refine (cn.out _ hb9).mono ?_
            rintro e w10 ⟨rfl, hb10⟩
            go_wp2_with fail
            go_ret
            exact ⟨rfl, (hg1.trans hb9).trans hb10⟩
end Go.Proofs.YtfppagcifcppaaaDoor
