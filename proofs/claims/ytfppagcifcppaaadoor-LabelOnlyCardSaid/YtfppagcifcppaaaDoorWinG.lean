/- Windows: Next, the program's and the reference's. -/
import Derived.Test.YtfppagcifcppaaaDoorWinF
namespace Go.Proofs.YtfppagcifcppaaaDoor
open Go.RowKit

/-- n is the least time from f on, no later than the last time and no further than 100000, at which q is false; or there is none. -/
def NextIs (q : Int → Bool) (f n : Int) (ok : Bool) : Prop :=
  (ok = true ∧ f ≤ n ∧ n ≤ 1099511627776 ∧ n - f ≤ 100000 ∧ q n = false ∧ ∀ s, f ≤ s → s < n → q s = true) ∨
  (ok = false ∧ n = 0 ∧ ∀ s, f ≤ s → s ≤ 1099511627776 → s - f ≤ 100000 → q s = true)
theorem NextIs.one {q : Int → Bool} {f n m : Int} {ok ok' : Bool} (h : NextIs q f n ok) (h' : NextIs q f m ok') : n = m ∧ ok = ok' := by
  rcases h with ⟨rfl, a1, a2, a3, a4, a5⟩ | ⟨rfl, rfl, a3⟩ <;> rcases h' with ⟨rfl, b1, b2, b3, b4, b5⟩ | ⟨rfl, rfl, b3⟩
  · refine ⟨?_, rfl⟩
    rcases Int.lt_trichotomy n m with h | h | h
    · rw [b5 n a1 h] at a4; cases a4
    · exact h
    · rw [a5 m b1 h] at b4; cases b4
  · rw [b3 n a1 a2 a3] at a4; cases a4
  · rw [a3 m b1 b2 b3] at b4; cases b4
  · exact ⟨rfl, rfl⟩
def NextPost (q : Int → Bool) (f : Int) (w : World) (e : Ending) (w' : World) : Prop := ∃ n ok, e = .returned (.tuple #[.int .i64 n, .bool ok]) ∧ NextIs q f n ok ∧ Grows w w'

set_option maxRecDepth 100000 in
set_option maxHeartbeats 1600000 in
theorem refNext_any (A : Option Addr) (m c : Nat) (ws : List Win) (a : Int) (w : World) (h : Arr w 3 encW A m ws) (hm : m ≤ maxLen) :
    Calls Tryd.prog 26 #[.slice A m c, .int .i64 a] w (NextPost (mutedAt ws) (max a 0) w) := by
  have cM := fun t W (hW : Grows w W) => refMuted_any A m c ws t W (h.keep hW) hm
  change ∀ t W, _ → Calls _ _ _ _ fun e w' => e = .returned (.bool (mutedAt ws t)) ∧ _ at cM
  obtain ⟨F, hF⟩ : ∃ F, F = max a 0 := ⟨_, rfl⟩
  rw [← hF]
  generalize mutedAt ws = q at *
  have f0 : 0 ≤ F := by omega
  have hmx : (if a < 0 then (0 : Int) else a) = F := by split <;> omega
  clear hF h hm
  replace cM := Lib.hid cM
  go_enter Tryd.func26, Tryd.ntmps26
  go_wp2
  go_loopw [6] (fun vt wr => ∃ τ : Int, vt = .int .i64 τ ∧ F ≤ τ ∧ τ ≤ F + 100001 ∧ τ ≤ 1099511627777 + F ∧ Hid (∀ s, F ≤ s → s < τ → q s = true) ∧ Grows w wr) (fun vt _ => (F + 100001 - intOf vt).toNat)
  case atStart => exact ⟨F, rfl, by omega, by omega, by omega, fun s h1 h2 => absurd h1 (by omega), Grows.refl _⟩
  case round =>
    obtain ⟨τ, rfl, h1, h2, h3, hq, hg⟩ := hrel
    clear hmx
    by_cases hlt : τ ≤ 1099511627776 ∧ τ - F ≤ 100000
    · obtain ⟨j1, j2⟩ := hlt
      have cT := fun W hW => cM.out τ W hW
      cases hqq : q τ
      · have hfin : NextIs q F τ true := .inl ⟨rfl, h1, j1, j2, hqq, hq.out⟩
        rw [hqq] at cT
        replace cT := Lib.hid cT
        replace hfin := Lib.hid hfin
        clear hqq hq
        go_wp2_with (go_at_call 21; refine (cT.out _ hg).mono ?_; rintro e w9 ⟨rfl, hb9⟩)
        go_ret2
        exact ⟨τ, true, rfl, hfin.out, hg.trans hb9⟩
      · have hs : ∀ s, F ≤ s → s < τ + 1 → q s = true := fun s a1 a2 => by
          by_cases e : s = τ
          · rw [e]; exact hqq
          · exact hq.out s a1 (by omega)
        rw [hqq] at cT
        replace cT := Lib.hid cT
        replace hs := Lib.hid hs
        clear hqq hq
        go_wp2_with (go_at_call 21; refine (cT.out _ hg).mono ?_; rintro e w9 ⟨rfl, hb9⟩)
        go_roundw
        case rel => exact ⟨τ + 1, by go_num, by omega, by omega, by omega, hs, hg.trans hb9⟩
        case measure => simp [intOf]; omega
    · have hfin : NextIs q F 0 false := .inr ⟨rfl, rfl, fun s a1 a2 a3 => hq.out s a1 (by omega)⟩
      replace hfin := Lib.hid hfin
      clear hq
      go_wp2
      all_goals go_ret2
      all_goals exact ⟨0, false, rfl, hfin.out, hg⟩

theorem place_in {p f l n : Int} (h : wIn p f l n = true) : WRight p f l ∧ 0 ≤ n ∧ n ≤ 1099511627776 ∧ (n - f) % p < l := by
  simp only [wIn, Bool.and_eq_true, wTime, decide_eq_true_eq] at h
  exact ⟨wRight_iff.1 h.1.1, h.1.2.1, h.1.2.2, h.2⟩
/-- From a time in a window on, all up to the window's end are in it (as long as they are times). -/
theorem in_run {p f l n s : Int} (h : wIn p f l n = true) (h1 : n ≤ s) (h2 : s < n + (l - (n - f) % p)) (h3 : s ≤ 1099511627776) : wIn p f l s = true := by
  obtain ⟨hR, h4, h5, h6⟩ := place_in h
  obtain ⟨g1, g2, g3, g4, g5, g6⟩ := hR
  have m0 := Int.emod_nonneg (n - f) (show p ≠ 0 by omega)
  have m1 := Int.emod_lt_of_pos (n - f) g1
  have e : (s - f) % p = (n - f) % p + (s - n) := by
    have : s - f = (n - f) + (s - n) := by omega
    rw [this, ← Int.emod_add_emod, Int.emod_eq_of_lt (by omega) (by omega)]
  simp only [wIn, Bool.and_eq_true, wTime, decide_eq_true_eq]
  exact ⟨⟨wRight_iff.2 ⟨g1, g2, g3, g4, g5, g6⟩, by omega, by omega⟩, by omega⟩

set_option maxRecDepth 100000 in
set_option maxHeartbeats 1600000 in
theorem next_any (A : Option Addr) (m c : Nat) (ws : List Win) (a : Int) (w : World) (h : Arr w 3 encW A m ws) (hcap : m ≤ c) (hcm : c ≤ maxLen) :
    Calls Tryd.prog 25 #[.slice A m c, .int .i64 a] w (NextPost (mutedAt ws) (max a 0) w) := by
  have cP := plan_any A m c ws w h hcap hcm
  obtain ⟨F, hF⟩ : ∃ F, F = max a 0 := ⟨_, rfl⟩
  rw [← hF]
  have f0 : 0 ≤ F := by omega
  have hmx : (if a < 0 then (0 : Int) else a) = F := by split <;> omega
  clear hF h hcap hcm
  replace cP := Lib.hid cP
  go_enter Tryd.func25, Tryd.ntmps25
  go_wp2_with fail
  go_step3
  go_wp2_with fail
  refine cP.out.mono ?_
  rintro e w1 ⟨v1, rfl, hown1, hb1⟩
  obtain ⟨A1, cc1, rfl, hcap1, hcm1, harr1⟩ := hown1.arr hkW
  have hq0 : ∀ t, (planW ws).any (isIn t) = mutedAt ws t := fun t => any_plan t ws
  clear hown1
  generalize mutedAt ws = q at *
  generalize planW ws = ps at *
  obtain ⟨m1, hm1⟩ : ∃ m1, m1 = ps.length := ⟨_, rfl⟩
  rw [← hm1] at harr1 hcap1 ⊢
  unfold maxLen at hcm1
  replace hm1 := Lib.hid hm1
  replace hq0 := Lib.hid hq0
  go_wp2
  go_step3
  go_wp2_with fail
  go_loopw [6] (fun vt wr => ∃ τ : Int, vt = .int .i64 τ ∧ F ≤ τ ∧ τ ≤ F + 200001 ∧ τ ≤ 1099511927777 + F ∧ Hid (∀ s, F ≤ s → s < τ → s ≤ 1099511627776 → q s = true) ∧ Grows w1 wr) (fun vt _ => (F + 200002 - intOf vt).toNat)
  case atStart => exact ⟨F, rfl, by omega, by omega, by omega, fun s h1 h2 => absurd h1 (by omega), Grows.refl _⟩
  case round =>
    obtain ⟨τ, rfl, h1, h2, h3, hq, hg⟩ := hrel
    clear hmx
    by_cases hlt : τ ≤ 1099511627776 ∧ τ - F ≤ 100000
    · obtain ⟨j1, j2⟩ := hlt
      have cT := fun W => time_any τ W
      rw [show wTime τ = true from decide_eq_true ⟨by omega, j1⟩] at cT
      replace cT := Lib.hid cT
      go_wp2_with (go_at_call 60; refine (cT.out _).mono ?_; rintro e w9 ⟨rfl, rfl⟩)
      go_loopw [6, 24] (fun vt vi wr => ∃ k : Nat, vt = .int .i64 τ ∧ vi = .int .i64 k ∧ k ≤ m1 ∧ Hid ((ps.take k).any (isIn τ) = false) ∧ Grows w1 wr) (fun _ vi _ => m1 - (intOf vi).toNat)
      case atStart => exact ⟨0, rfl, rfl, by omega, by simp [Hid], hg⟩
      case round =>
        obtain ⟨k, rfl, rfl, hk, hno, hg2⟩ := hrel
        by_cases hkm : k < m1
        · obtain ⟨b, off, x, rfl, _, hx, hcell⟩ := (harr1.keep hg2).at_ hkm
          have c0 : wr.cell? ⟨b, off + k * 3, none⟩ = some (.int .i64 x.p) := hcell 0 _ rfl
          have c1 : wr.cell? ⟨b, off + k * 3 + 1, none⟩ = some (.int .i64 x.f) := hcell 1 _ rfl
          have c2 : wr.cell? ⟨b, off + k * 3 + 2, none⟩ = some (.int .i64 x.l) := hcell 2 _ rfl
          have hs := any_take_succ (isIn τ) ps k x hx
          rw [hno.out, Bool.false_or] at hs
          have cI := fun W => in_any x.p x.f x.l τ W
          cases hi : isIn τ x
          · have hi' : wIn x.p x.f x.l τ = false := hi
            rw [hi'] at cI
            rw [hi] at hs
            replace cI := Lib.hid cI
            replace hs := Lib.hid hs
            clear hcell hno hi hi' hx
            go_wp2_with (go_at_call 30; refine (cI.out _).mono ?_; rintro e w9 ⟨rfl, hb9⟩)
            go_roundw
            case rel => exact ⟨k + 1, rfl, by go_num, by omega, hs.out, (hg2.alloc _).trans hb9⟩
            case measure => simp [intOf]; omega
          · have hi' : wIn x.p x.f x.l τ = true := hi
            rw [hi'] at cI
            obtain ⟨hR, _, _, hpl⟩ := place_in hi'
            have hrun := fun s => in_run (s := s) hi'
            have cP := fun W => place_any x.p x.f x.l τ W hR (by omega) j1
            have hqx : ∀ s, isIn s x = true → q s = true := fun s hsx => by
              rw [← hq0.out s, List.any_eq_true]
              exact ⟨x, List.mem_of_getElem? hx, hsx⟩
            obtain ⟨r1, r2, r3, r4, r5, r6⟩ := hR
            have m0 := Int.emod_nonneg (τ - x.f) (show x.p ≠ 0 by omega)
            have m1' := Int.emod_lt_of_pos (τ - x.f) r1
            have hq2 : ∀ s, F ≤ s → s < τ + (x.l - (τ - x.f) % x.p) → s ≤ 1099511627776 → q s = true := fun s a1 a2 a3 => by
              by_cases hsτ : s < τ
              · exact hq.out s a1 hsτ a3
              · exact hqx s (hrun s (by omega) a2 a3)
            replace cI := Lib.hid cI
            replace cP := Lib.hid cP
            replace hq2 := Lib.hid hq2
            clear hs hcell hno hi hi' hx hrun hqx
            go_wp2_with (first | (go_at_call 30; refine (cI.out _).mono ?_; rintro e w9 ⟨rfl, hb9⟩; obtain ⟨hc9, hf9⟩ := bcells hb9; have hs9 := hb9.lt))
            refine wp_region_mixg [(0, true), (1, true), (2, true), (3, true), (4, true), (5, false), (6, true), (7, true), (8, true)] (by kernel_rfl) (by kernel_rfl) rfl (by kernel_rfl) (by intro c a d v w h; cases d <;> exact h) ?_
            iterate 5 (refine wpMix_q rfl (fun K hK => ?_); go_simp; (try go_bits); first | (refine hK _ ?_; clear hK K) | (apply Exists.intro; refine ⟨fun wq hsq => ?_, hK _ ?_⟩; (first | (go_simp; done) | ((try go_simp); (try simp only [↓IntWalk.iteOmega]); (try go_bits); rfl) | (obtain ⟨hcq, hfq⟩ := bcells hsq; go_simp; done) | (obtain ⟨hcq, hfq⟩ := bcells hsq; (try go_simp); (try simp only [↓IntWalk.iteOmega]); (try go_bits); rfl)); clear hK K))
            refine wpMix_m rfl (fun K' hK => ?_)
            go_simp
            refine (cP.out _).mono ?_
            rintro e w8 ⟨rfl, hb8⟩
            refine hK.out _ _ ?_ (fun hS => ?_)
            · exact (Grows.refl _).drew.trans hb8
            clear hK hS
            iterate 3 (refine wpMix_q rfl (fun K hK => ?_); go_simp; (try go_bits); first | (refine hK _ ?_; clear hK K) | (apply Exists.intro; refine ⟨fun wq hsq => ?_, hK _ ?_⟩; (first | (go_simp; done) | ((try go_simp); (try simp only [↓IntWalk.iteOmega]); (try go_bits); rfl) | (obtain ⟨hcq, hfq⟩ := bcells hsq; go_simp; done) | (obtain ⟨hcq, hfq⟩ := bcells hsq; (try go_simp); (try simp only [↓IntWalk.iteOmega]); (try go_bits); rfl)); clear hK K))
            refine wpMix_nil ?_
            go_wp2
            go_roundw
            case rel => exact ⟨_, rfl, by omega, by omega, by omega, hq2, ((hg2.alloc _).trans hb9).drew.trans hb8⟩
            case measure => simp [intOf]; omega
        · obtain rfl : k = m1 := by omega
          have hqt : q τ = false := by
            rw [← hq0.out τ, ← List.take_of_length_le (Nat.le_of_eq hm1.out.symm)]; exact hno.out
          have hfin : NextIs q F τ true := .inl ⟨rfl, h1, j1, j2, hqt, fun s a1 a2 => hq.out s a1 a2 (by omega)⟩
          replace hfin := Lib.hid hfin
          clear hno hqt
          go_wp2
          go_ret2
          exact ⟨τ, true, rfl, hfin.out, hb1.trans hg2⟩
    · have hfin : NextIs q F 0 false := .inr ⟨rfl, rfl, fun s a1 a2 a3 => hq.out s a1 (by omega) a2⟩
      have cT := fun W => time_any τ W
      replace hfin := Lib.hid hfin
      clear hq
      cases ht : wTime τ
      · rw [ht] at cT
        replace cT := Lib.hid cT
        clear ht
        go_wp2_with (go_at_call 60; refine (cT.out _).mono ?_; rintro e w9 ⟨rfl, rfl⟩)
        all_goals rw [Exit.noGoto_ret]
        all_goals go_ret2
        all_goals exact ⟨0, false, rfl, hfin.out, hb1.trans hg⟩
      · rw [ht] at cT
        replace cT := Lib.hid cT
        have hno : ¬ τ - F ≤ 100000 := by simp [wTime] at ht; omega
        clear ht
        go_wp2_with (go_at_call 60; refine (cT.out _).mono ?_; rintro e w9 ⟨rfl, rfl⟩)
        all_goals rw [Exit.noGoto_ret]
        all_goals go_ret2
        all_goals exact ⟨0, false, rfl, hfin.out, hb1.trans hg⟩
end Go.Proofs.YtfppagcifcppaaaDoor
