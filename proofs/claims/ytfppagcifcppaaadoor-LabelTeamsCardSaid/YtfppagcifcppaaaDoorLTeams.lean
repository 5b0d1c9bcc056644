/- The walk of the law LabelTeams. -/
import Derived.Test.YtfppagcifcppaaaDoorLTeamP
namespace Go.Proofs.YtfppagcifcppaaaDoor
open Go.RowKit

set_option maxRecDepth 100000 in
set_option maxHeartbeats 6400000 in
theorem lteams_law (a b : Lab) (w : World) (he : LibEnv w) (ha : a.ok) (hb : b.ok) :
    Calls Tryd.prog 15 #[.agg #[.int .i64 a.lv, .int .u32 (a.c : Int)], .agg #[.int .i64 b.lv, .int .u32 (b.c : Int)]] w fun e w' => e = .returned (.bool true) ∧ Grows w w' := by
  have cL := fun o o' => llives_any ((w.alloc o).alloc o') (he.grows (((Grows.refl w).alloc o).alloc o'))
  clear he
  replace cL := Lib.hid cL
  go_enter Tryd.func15, Tryd.ntmps15
  go_wp2_with fail
  refine (cL.out _ _).mono ?_
  rintro e w1 ⟨rfl, hb1⟩
  have blA : Blk w1 w.heap.size 62 #[.int .i64 a.lv, .int .u32 (a.c : Int)] := ((Blk.new w _ _).alloc _).grows hb1
  have blB : Blk w1 (w.heap.size + 1) 62 #[.int .i64 b.lv, .int .u32 (b.c : Int)] := (Blk.new1 w _ _ _).grows hb1
  have hg : Grows w w1 := (((Grows.refl _).alloc _).alloc _).trans hb1
  clear hb1 cL
  go_wp2_with fail
  apply wp_cut (R := TwoR w w.heap.size (w.heap.size + 1) 62 (.int .u32 (a.c : Int)) (.int .u32 (b.c : Int)))
  case h1 =>
    have d0A := blA.cell 0
    have d0B := blB.cell 0
    have sA := blA.lt
    have sB := blB.lt
    have f0A := blA.frozen 0
    have f0B := blB.frozen 0
    refine wp_region_altb (w.heap.size) (by kernel_rfl) ?_
    refine wpAnyH_run (l' := #[true, false, false, false, false, true, false, false, false, false, false, false, false, false]) [(0, true), (5, true)] 12 (by kernel_rfl) (by intro c a d v w h; cases d <;> exact h) rfl (by kernel_rfl) (Below.refl _ _).drew ?_
    iterate 2 (refine wpMixK_q rfl (fun K hK => ?_); go_simp; (try go_bits); first | (refine hK _ ?_; clear hK K) | (apply Exists.intro; refine ⟨fun wq hsq => ?_, hK _ ?_⟩; (first | (go_simp; done) | ((try go_simp); (try simp only [↓IntWalk.iteOmega]); (try go_bits); rfl) | (obtain ⟨hcq, hfq⟩ := bcellsB hsq; go_simp; done) | (obtain ⟨hcq, hfq⟩ := bcellsB hsq; (try go_simp); (try simp only [↓IntWalk.iteOmega]); (try go_bits); rfl)); clear hK K))
    refine wpMixK_nil (fun hS => ?_)
    refine wpAnyH_alt [1, 6] (by kernel_rfl) (by simp) (AllReadyH.cons rfl (fun K' hK => ?_) (AllReadyH.cons rfl (fun K' hK => ?_) AllReadyH.nil))
    · skip
      try clear hS
      go_simp
      refine hK.out _ _ ?_ (fun hS => ?_)
      · repeat (first | assumption | exact Below.refl _ _ | apply Below.drew | apply below_drewN | (refine Below.alloc2t ?_ (by first | rfl | simp) (by first | omega | (simp; omega) | simp)) | (refine Below.alloc ?_ (by first | omega | (simp; omega) | simp) _) | (refine Below.setCell ?_ (by first | omega | (simp; omega) | simp) _))
      clear hK
      refine wpAnyH_run (l' := #[true, true, true, true, true, true, false, false, false, false, true, false, false, false]) [(2, true), (3, true), (4, true), (10, true)] 7 (by kernel_rfl) (by intro c a d v w h; cases d <;> exact h) rfl (by kernel_rfl) hS ?_
      clear hS
      iterate 4 (refine wpMixK_q rfl (fun K hK => ?_); go_simp; (try go_bits); first | (refine hK _ ?_; clear hK K) | (apply Exists.intro; refine ⟨fun wq hsq => ?_, hK _ ?_⟩; (first | (go_simp; done) | ((try go_simp); (try simp only [↓IntWalk.iteOmega]); (try go_bits); rfl) | (obtain ⟨hcq, hfq⟩ := bcellsB hsq; go_simp; done) | (obtain ⟨hcq, hfq⟩ := bcellsB hsq; (try go_simp); (try simp only [↓IntWalk.iteOmega]); (try go_bits); rfl)); clear hK K))
      refine wpMixK_nil (fun hS => ?_)
      refine wpAnyH_alt [6, 11] (by kernel_rfl) (by simp) (AllReadyH.cons rfl (fun K' hK => ?_) (AllReadyH.cons rfl (fun K' hK => ?_) AllReadyH.nil))
      · skip
        try clear hS
        go_simp
        refine hK.out _ _ ?_ (fun hS => ?_)
        · repeat (first | assumption | exact Below.refl _ _ | apply Below.drew | apply below_drewN | (refine Below.alloc2t ?_ (by first | rfl | simp) (by first | omega | (simp; omega) | simp)) | (refine Below.alloc ?_ (by first | omega | (simp; omega) | simp) _) | (refine Below.setCell ?_ (by first | omega | (simp; omega) | simp) _))
        clear hK
        refine wpAnyH_run (l' := #[true, true, true, true, true, true, true, true, true, true, true, true, true, true]) [(7, true), (8, true), (9, true), (11, false), (12, true), (13, false)] 0 (by kernel_rfl) (by intro c a d v w h; cases d <;> exact h) rfl (by kernel_rfl) hS ?_
        clear hS
        iterate 3 (refine wpMixK_q rfl (fun K hK => ?_); go_simp; (try go_bits); first | (refine hK _ ?_; clear hK K) | (apply Exists.intro; refine ⟨fun wq hsq => ?_, hK _ ?_⟩; (first | (go_simp; done) | ((try go_simp); (try simp only [↓IntWalk.iteOmega]); (try go_bits); rfl) | (obtain ⟨hcq, hfq⟩ := bcellsB hsq; go_simp; done) | (obtain ⟨hcq, hfq⟩ := bcellsB hsq; (try go_simp); (try simp only [↓IntWalk.iteOmega]); (try go_bits); rfl)); clear hK K))
        refine wpMixK_m rfl (fun K' hK => ?_)
        go_simp
        refine hK.out _ _ ?_ (fun hS => ?_)
        · repeat (first | assumption | exact Below.refl _ _ | apply Below.drew | apply below_drewN | (refine Below.alloc2t ?_ (by first | rfl | simp) (by first | omega | (simp; omega) | simp)) | (refine Below.alloc ?_ (by first | omega | (simp; omega) | simp) _) | (refine Below.setCell ?_ (by first | omega | (simp; omega) | simp) _))
        clear hK hS
        iterate 1 (refine wpMixK_q rfl (fun K hK => ?_); go_simp; (try go_bits); first | (refine hK _ ?_; clear hK K) | (apply Exists.intro; refine ⟨fun wq hsq => ?_, hK _ ?_⟩; (first | (go_simp; done) | ((try go_simp); (try simp only [↓IntWalk.iteOmega]); (try go_bits); rfl) | (obtain ⟨hcq, hfq⟩ := bcellsB hsq; go_simp; done) | (obtain ⟨hcq, hfq⟩ := bcellsB hsq; (try go_simp); (try simp only [↓IntWalk.iteOmega]); (try go_bits); rfl)); clear hK K))
        refine wpMixK_m rfl (fun K' hK => ?_)
        go_simp
        refine hK.out _ _ ?_ (fun hS => ?_)
        · repeat (first | assumption | exact Below.refl _ _ | apply Below.drew | apply below_drewN | (refine Below.alloc2t ?_ (by first | rfl | simp) (by first | omega | (simp; omega) | simp)) | (refine Below.alloc ?_ (by first | omega | (simp; omega) | simp) _) | (refine Below.setCell ?_ (by first | omega | (simp; omega) | simp) _))
        clear hK hS
        refine wpMixK_nil (fun hS => ?_)
        refine wpAnyH_end (by kernel_rfl) ?_
        try clear hS
        go_simp
        refine ⟨rfl, _, _, (m8 a.lv).1, (m8 a.lv).2, (m8 b.lv).1, (m8 b.lv).2, ?_⟩
        exact two_set blA blB (by omega) hg (Nat.le_refl _) (by omega)
      · skip
        try clear hS
        go_simp
        refine hK.out _ _ ?_ (fun hS => ?_)
        · repeat (first | assumption | exact Below.refl _ _ | apply Below.drew | apply below_drewN | (refine Below.alloc2t ?_ (by first | rfl | simp) (by first | omega | (simp; omega) | simp)) | (refine Below.alloc ?_ (by first | omega | (simp; omega) | simp) _) | (refine Below.setCell ?_ (by first | omega | (simp; omega) | simp) _))
        clear hK
        refine wpAnyH_run (l' := #[true, true, true, true, true, true, true, true, true, true, true, true, true, true]) [(6, false), (7, true), (8, true), (9, true), (12, true), (13, false)] 0 (by kernel_rfl) (by intro c a d v w h; cases d <;> exact h) rfl (by kernel_rfl) hS ?_
        clear hS
        refine wpMixK_m rfl (fun K' hK => ?_)
        go_simp
        refine hK.out _ _ ?_ (fun hS => ?_)
        · repeat (first | assumption | exact Below.refl _ _ | apply Below.drew | apply below_drewN | (refine Below.alloc2t ?_ (by first | rfl | simp) (by first | omega | (simp; omega) | simp)) | (refine Below.alloc ?_ (by first | omega | (simp; omega) | simp) _) | (refine Below.setCell ?_ (by first | omega | (simp; omega) | simp) _))
        clear hK hS
        iterate 4 (refine wpMixK_q rfl (fun K hK => ?_); go_simp; (try go_bits); first | (refine hK _ ?_; clear hK K) | (apply Exists.intro; refine ⟨fun wq hsq => ?_, hK _ ?_⟩; (first | (go_simp; done) | ((try go_simp); (try simp only [↓IntWalk.iteOmega]); (try go_bits); rfl) | (obtain ⟨hcq, hfq⟩ := bcellsB hsq; go_simp; done) | (obtain ⟨hcq, hfq⟩ := bcellsB hsq; (try go_simp); (try simp only [↓IntWalk.iteOmega]); (try go_bits); rfl)); clear hK K))
        refine wpMixK_m rfl (fun K' hK => ?_)
        go_simp
        refine hK.out _ _ ?_ (fun hS => ?_)
        · repeat (first | assumption | exact Below.refl _ _ | apply Below.drew | apply below_drewN | (refine Below.alloc2t ?_ (by first | rfl | simp) (by first | omega | (simp; omega) | simp)) | (refine Below.alloc ?_ (by first | omega | (simp; omega) | simp) _) | (refine Below.setCell ?_ (by first | omega | (simp; omega) | simp) _))
        clear hK hS
        refine wpMixK_nil (fun hS => ?_)
        refine wpAnyH_end (by kernel_rfl) ?_
        try clear hS
        go_simp
        refine ⟨rfl, _, _, (m8 a.lv).1, (m8 a.lv).2, (m8 b.lv).1, (m8 b.lv).2, ?_⟩
        exact two_set blA blB (by omega) hg (Nat.le_refl _) (by omega)
    · skip
      try clear hS
      go_simp
      refine hK.out _ _ ?_ (fun hS => ?_)
      · repeat (first | assumption | exact Below.refl _ _ | apply Below.drew | apply below_drewN | (refine Below.alloc2t ?_ (by first | rfl | simp) (by first | omega | (simp; omega) | simp)) | (refine Below.alloc ?_ (by first | omega | (simp; omega) | simp) _) | (refine Below.setCell ?_ (by first | omega | (simp; omega) | simp) _))
      clear hK
      refine wpAnyH_run (l' := #[true, true, true, true, true, true, true, true, true, true, true, true, true, true]) [(7, true), (8, true), (9, true), (1, false), (2, true), (3, true), (4, true), (10, true), (11, false), (12, true), (13, false)] 0 (by kernel_rfl) (by intro c a d v w h; cases d <;> exact h) rfl (by kernel_rfl) hS ?_
      clear hS
      iterate 3 (refine wpMixK_q rfl (fun K hK => ?_); go_simp; (try go_bits); first | (refine hK _ ?_; clear hK K) | (apply Exists.intro; refine ⟨fun wq hsq => ?_, hK _ ?_⟩; (first | (go_simp; done) | ((try go_simp); (try simp only [↓IntWalk.iteOmega]); (try go_bits); rfl) | (obtain ⟨hcq, hfq⟩ := bcellsB hsq; go_simp; done) | (obtain ⟨hcq, hfq⟩ := bcellsB hsq; (try go_simp); (try simp only [↓IntWalk.iteOmega]); (try go_bits); rfl)); clear hK K))
      refine wpMixK_m rfl (fun K' hK => ?_)
      go_simp
      refine hK.out _ _ ?_ (fun hS => ?_)
      · repeat (first | assumption | exact Below.refl _ _ | apply Below.drew | apply below_drewN | (refine Below.alloc2t ?_ (by first | rfl | simp) (by first | omega | (simp; omega) | simp)) | (refine Below.alloc ?_ (by first | omega | (simp; omega) | simp) _) | (refine Below.setCell ?_ (by first | omega | (simp; omega) | simp) _))
      clear hK hS
      iterate 4 (refine wpMixK_q rfl (fun K hK => ?_); go_simp; (try go_bits); first | (refine hK _ ?_; clear hK K) | (apply Exists.intro; refine ⟨fun wq hsq => ?_, hK _ ?_⟩; (first | (go_simp; done) | ((try go_simp); (try simp only [↓IntWalk.iteOmega]); (try go_bits); rfl) | (obtain ⟨hcq, hfq⟩ := bcellsB hsq; go_simp; done) | (obtain ⟨hcq, hfq⟩ := bcellsB hsq; (try go_simp); (try simp only [↓IntWalk.iteOmega]); (try go_bits); rfl)); clear hK K))
      refine wpMixK_m rfl (fun K' hK => ?_)
      go_simp
      refine hK.out _ _ ?_ (fun hS => ?_)
      · repeat (first | assumption | exact Below.refl _ _ | apply Below.drew | apply below_drewN | (refine Below.alloc2t ?_ (by first | rfl | simp) (by first | omega | (simp; omega) | simp)) | (refine Below.alloc ?_ (by first | omega | (simp; omega) | simp) _) | (refine Below.setCell ?_ (by first | omega | (simp; omega) | simp) _))
      clear hK hS
      iterate 1 (refine wpMixK_q rfl (fun K hK => ?_); go_simp; (try go_bits); first | (refine hK _ ?_; clear hK K) | (apply Exists.intro; refine ⟨fun wq hsq => ?_, hK _ ?_⟩; (first | (go_simp; done) | ((try go_simp); (try simp only [↓IntWalk.iteOmega]); (try go_bits); rfl) | (obtain ⟨hcq, hfq⟩ := bcellsB hsq; go_simp; done) | (obtain ⟨hcq, hfq⟩ := bcellsB hsq; (try go_simp); (try simp only [↓IntWalk.iteOmega]); (try go_bits); rfl)); clear hK K))
      refine wpMixK_m rfl (fun K' hK => ?_)
      go_simp
      refine hK.out _ _ ?_ (fun hS => ?_)
      · repeat (first | assumption | exact Below.refl _ _ | apply Below.drew | apply below_drewN | (refine Below.alloc2t ?_ (by first | rfl | simp) (by first | omega | (simp; omega) | simp)) | (refine Below.alloc ?_ (by first | omega | (simp; omega) | simp) _) | (refine Below.setCell ?_ (by first | omega | (simp; omega) | simp) _))
      clear hK hS
      refine wpMixK_nil (fun hS => ?_)
      refine wpAnyH_end (by kernel_rfl) ?_
      try clear hS
      go_simp
      refine ⟨rfl, _, _, (m8 a.lv).1, (m8 a.lv).2, (m8 b.lv).1, (m8 b.lv).2, ?_⟩
      exact two_set blA blB (by omega) hg (Nat.le_refl _) (by omega)
  intro w2 hR
  clear hg blA blB
  obtain ⟨A', B', a0, a7, b0, b7, blA, blB, hg2⟩ := hR
  have hra : labRight (⟨A', a.c⟩ : Lab).lv = true := labRight_iff.2 ⟨a0, a7⟩
  have hrb : labRight (⟨B', b.c⟩ : Lab).lv = true := labRight_iff.2 ⟨b0, b7⟩
  have hj := joinL_yes hra hrb
  have hm := meetL_yes hra hrb
  have hjok := joinL_lt (a := ⟨A', a.c⟩) (b := ⟨B', b.c⟩) ha hb
  have hmok := meetL_lt (a := ⟨A', a.c⟩) (b := ⟨B', b.c⟩) ha
  rw [hj] at hjok
  rw [hm] at hmok
  have cTa : ∀ W, Calls Tryd.prog 51 #[.agg #[.int .i64 A', .int .u32 (a.c : Int)]] W fun e w' => ∃ v, e = .returned v ∧ Own w' W.heap.size 3 1 encI v (teams a.c) ∧ Grows W w' := fun W => lTeams_any ⟨A', a.c⟩ W ha
  have cTb : ∀ W, Calls Tryd.prog 51 #[.agg #[.int .i64 B', .int .u32 (b.c : Int)]] W fun e w' => ∃ v, e = .returned v ∧ Own w' W.heap.size 3 1 encI v (teams b.c) ∧ Grows W w' := fun W => lTeams_any ⟨B', b.c⟩ W hb
  have cTj : ∀ W, Calls Tryd.prog 51 #[.agg #[.int .i64 (max A' B'), .int .u32 ((a.c ||| b.c : Nat) : Int)]] W fun e w' => ∃ v, e = .returned v ∧ Own w' W.heap.size 3 1 encI v (teams (a.c ||| b.c)) ∧ Grows W w' := fun W => lTeams_any ⟨max A' B', a.c ||| b.c⟩ W hjok
  have cTm : ∀ W, Calls Tryd.prog 51 #[.agg #[.int .i64 (min A' B'), .int .u32 ((a.c &&& b.c : Nat) : Int)]] W fun e w' => ∃ v, e = .returned v ∧ Own w' W.heap.size 3 1 encI v (teams (a.c &&& b.c)) ∧ Grows W w' := fun W => lTeams_any ⟨min A' B', a.c &&& b.c⟩ W hmok
  have cJ : ∀ W, Calls Tryd.prog 46 #[.agg #[.int .i64 A', .int .u32 (a.c : Int)], .agg #[.int .i64 B', .int .u32 (b.c : Int)]] W fun e w' => e = .returned (.agg #[.int .i64 (max A' B'), .int .u32 ((a.c ||| b.c : Nat) : Int)]) ∧ Grows W w' := fun W => by
    have h := lJoin_any ⟨A', a.c⟩ ⟨B', b.c⟩ W ha hb
    rw [hj] at h
    exact h
  have cM : ∀ W, Calls Tryd.prog 48 #[.agg #[.int .i64 A', .int .u32 (a.c : Int)], .agg #[.int .i64 B', .int .u32 (b.c : Int)]] W fun e w' => e = .returned (.agg #[.int .i64 (min A' B'), .int .u32 ((a.c &&& b.c : Nat) : Int)]) ∧ Grows W w' := fun W => by
    have h := lMeet_any ⟨A', a.c⟩ ⟨B', b.c⟩ W ha hb
    rw [hm] at h
    exact h
  have la := teams_len a.c
  have lb := teams_len b.c
  have lj := teams_len (a.c ||| b.c)
  have lm := teams_len (a.c &&& b.c)
  have hP1 : ∀ i t, (teams a.c)[i]? = some t → t < 32 ∧ decide (t ∈ teams (a.c ||| b.c)) = true ∧ decide (t ∈ teams (a.c &&& b.c)) = decide (t ∈ teams b.c) := fun i t h => by
    have ht := List.mem_of_getElem? h
    refine ⟨teams_lt ht, decide_eq_true (teams_join.2 (.inl ht)), ?_⟩
    rw [decide_eq_decide, teams_meet]
    simp [ht]
  have hS1 : ∀ i t t', (teams a.c)[i + 1]? = some t → (teams a.c)[i]? = some t' → t' < t := fun i t t' => teams_step
  have hP2 : ∀ i t, (teams (a.c ||| b.c))[i]? = some t → decide (t ∈ teams a.c) = true ∨ (decide (t ∈ teams a.c) = false ∧ decide (t ∈ teams b.c) = true) := fun i t h => by
    have ht := teams_join.1 (List.mem_of_getElem? h)
    by_cases h1 : t ∈ teams a.c
    · exact .inl (decide_eq_true h1)
    · exact .inr ⟨decide_eq_false h1, decide_eq_true (ht.resolve_left h1)⟩
  have hP3 := teams_sum a.c b.c
  clear ha hb hra hrb hj hm hjok hmok a0 a7 b0 b7
  generalize teams a.c = ta at *
  generalize teams b.c = tb at *
  generalize teams (a.c ||| b.c) = tj at *
  generalize teams (a.c &&& b.c) = tm at *
  generalize max A' B' = mx at *
  generalize min A' B' = mn at *
  generalize a.c ||| b.c = cj at *
  generalize a.c &&& b.c = cm at *
  have hb3 : (((tj.length : Int) + tm.length) == ((ta.length : Int) + tb.length)) = true := by rw [beq_iff_eq]; omega
  replace cTa := Lib.hid cTa
  replace cTb := Lib.hid cTb
  replace cTj := Lib.hid cTj
  replace cTm := Lib.hid cTm
  replace cJ := Lib.hid cJ
  replace cM := Lib.hid cM
  replace hP1 := Lib.hid hP1
  replace hS1 := Lib.hid hS1
  replace hP2 := Lib.hid hP2
  clear hP3
  have d0A := blA.cell 0
  have d1A := blA.cell 1
  have sA := blA.lt
  have d0B := blB.cell 0
  have d1B := blB.cell 1
  have sB := blB.lt
  go_wp2_with fail
  refine wp_region_mixg [(0, true), (2, true), (1, false), (3, false), (4, true), (5, true)] (by kernel_rfl) (by kernel_rfl) rfl (by kernel_rfl) (by intro c a d v w h; cases d <;> exact h) ?_
  iterate 2 (refine wpMix_q rfl (fun K hK => ?_); go_simp; (try go_bits); first | (refine hK _ ?_; clear hK K) | (apply Exists.intro; refine ⟨fun wq hsq => ?_, hK _ ?_⟩; (first | (go_simp; done) | ((try go_simp); (try simp only [↓IntWalk.iteOmega]); (try go_bits); rfl) | (obtain ⟨hcq, hfq⟩ := bcells hsq; go_simp; done) | (obtain ⟨hcq, hfq⟩ := bcells hsq; (try go_simp); (try simp only [↓IntWalk.iteOmega]); (try go_bits); rfl)); clear hK K))
  refine wpMix_m rfl (fun K' hK => ?_)
  go_simp
  refine (cTa.out _).mono ?_
  rintro e v1 ⟨vv, rfl, ho, hbv1⟩
  obtain ⟨X, cx, rfl, _, _, hX⟩ := ho.arr hkI
  clear ho
  refine hK.out _ _ ?_ (fun hS => ?_)
  · repeat (first | assumption | exact Grows.refl _ | apply Grows.drew | apply Grows.drewN | refine Grows.alloc ?_ _ | (refine Grows.setCell ?_ (by first | (simp; done) | (simp; omega) | omega) _) | (refine Grows.trans ?_ (by assumption)))
  clear hK hS
  refine wpMix_m rfl (fun K' hK => ?_)
  go_simp
  refine (cTb.out _).mono ?_
  rintro e v2 ⟨vv, rfl, ho, hbv2⟩
  obtain ⟨Y, cy, rfl, _, _, hY⟩ := ho.arr hkI
  clear ho
  replace hX := hX.keep hbv2
  refine hK.out _ _ ?_ (fun hS => ?_)
  · repeat (first | assumption | exact Grows.refl _ | apply Grows.drew | apply Grows.drewN | refine Grows.alloc ?_ _ | (refine Grows.setCell ?_ (by first | (simp; done) | (simp; omega) | omega) _) | (refine Grows.trans ?_ (by assumption)))
  clear hK hS
  iterate 2 (refine wpMix_q rfl (fun K hK => ?_); go_simp; (try go_bits); first | (refine hK _ ?_; clear hK K) | (apply Exists.intro; refine ⟨fun wq hsq => ?_, hK _ ?_⟩; (first | (go_simp; done) | ((try go_simp); (try simp only [↓IntWalk.iteOmega]); (try go_bits); rfl) | (obtain ⟨hcq, hfq⟩ := bcells hsq; go_simp; done) | (obtain ⟨hcq, hfq⟩ := bcells hsq; (try go_simp); (try simp only [↓IntWalk.iteOmega]); (try go_bits); rfl)); clear hK K))
  refine wpMix_nil ?_
  have hg4 : Grows w2 v2 := by
    repeat (first | assumption | exact Grows.refl _ | apply Grows.drew | apply Grows.drewN | refine Grows.alloc ?_ _ | (refine Grows.setCell ?_ (by first | (simp; done) | (simp; omega) | omega) _) | (refine Grows.trans ?_ (by assumption)))
  replace blA := blA.grows hg4
  (try clear d0A); (try clear d1A); (try clear sA)
  have d0A := blA.cell 0
  have d1A := blA.cell 1
  have sA := blA.lt
  replace blB := blB.grows hg4
  (try clear d0B); (try clear d1B); (try clear sB)
  have d0B := blB.cell 0
  have d1B := blB.cell 1
  have sB := blB.lt
  go_wp2_with fail
  refine wp_region_mixg [(0, true), (1, true), (4, true), (5, true), (2, false), (3, false), (6, false), (7, false), (8, true), (9, true)] (by kernel_rfl) (by kernel_rfl) rfl (by kernel_rfl) (by intro c a d v w h; cases d <;> exact h) ?_
  iterate 4 (refine wpMix_q rfl (fun K hK => ?_); go_simp; (try go_bits); first | (refine hK _ ?_; clear hK K) | (apply Exists.intro; refine ⟨fun wq hsq => ?_, hK _ ?_⟩; (first | (go_simp; done) | ((try go_simp); (try simp only [↓IntWalk.iteOmega]); (try go_bits); rfl) | (obtain ⟨hcq, hfq⟩ := bcells hsq; go_simp; done) | (obtain ⟨hcq, hfq⟩ := bcells hsq; (try go_simp); (try simp only [↓IntWalk.iteOmega]); (try go_bits); rfl)); clear hK K))
  refine wpMix_m rfl (fun K' hK => ?_)
  go_simp
  refine (cJ.out _).mono ?_
  rintro e v3 ⟨rfl, hbv3⟩
  refine hK.out _ _ ?_ (fun hS => ?_)
  · repeat (first | assumption | exact Grows.refl _ | apply Grows.drew | apply Grows.drewN | refine Grows.alloc ?_ _ | (refine Grows.setCell ?_ (by first | (simp; done) | (simp; omega) | omega) _) | (refine Grows.trans ?_ (by assumption)))
  clear hK hS
  refine wpMix_m rfl (fun K' hK => ?_)
  go_simp
  refine (cTj.out _).mono ?_
  rintro e v4 ⟨vv, rfl, ho, hbv4⟩
  obtain ⟨Z, cz, rfl, _, _, hZ⟩ := ho.arr hkI
  clear ho
  refine hK.out _ _ ?_ (fun hS => ?_)
  · repeat (first | assumption | exact Grows.refl _ | apply Grows.drew | apply Grows.drewN | refine Grows.alloc ?_ _ | (refine Grows.setCell ?_ (by first | (simp; done) | (simp; omega) | omega) _) | (refine Grows.trans ?_ (by assumption)))
  clear hK hS
  refine wpMix_m rfl (fun K' hK => ?_)
  go_simp
  refine (cM.out _).mono ?_
  rintro e v5 ⟨rfl, hbv5⟩
  refine hK.out _ _ ?_ (fun hS => ?_)
  · repeat (first | assumption | exact Grows.refl _ | apply Grows.drew | apply Grows.drewN | refine Grows.alloc ?_ _ | (refine Grows.setCell ?_ (by first | (simp; done) | (simp; omega) | omega) _) | (refine Grows.trans ?_ (by assumption)))
  clear hK hS
  refine wpMix_m rfl (fun K' hK => ?_)
  go_simp
  refine (cTm.out _).mono ?_
  rintro e v6 ⟨vv, rfl, ho, hbv6⟩
  obtain ⟨V, cv, rfl, _, _, hV⟩ := ho.arr hkI
  clear ho
  refine hK.out _ _ ?_ (fun hS => ?_)
  · repeat (first | assumption | exact Grows.refl _ | apply Grows.drew | apply Grows.drewN | refine Grows.alloc ?_ _ | (refine Grows.setCell ?_ (by first | (simp; done) | (simp; omega) | omega) _) | (refine Grows.trans ?_ (by assumption)))
  clear hK hS
  iterate 2 (refine wpMix_q rfl (fun K hK => ?_); go_simp; (try go_bits); first | (refine hK _ ?_; clear hK K) | (apply Exists.intro; refine ⟨fun wq hsq => ?_, hK _ ?_⟩; (first | (go_simp; done) | ((try go_simp); (try simp only [↓IntWalk.iteOmega]); (try go_bits); rfl) | (obtain ⟨hcq, hfq⟩ := bcells hsq; go_simp; done) | (obtain ⟨hcq, hfq⟩ := bcells hsq; (try go_simp); (try simp only [↓IntWalk.iteOmega]); (try go_bits); rfl)); clear hK K))
  refine wpMix_nil ?_
  replace hZ := hZ.keep (show Grows v4 v6 by
    repeat (first | assumption | exact Grows.refl _ | apply Grows.drew | apply Grows.drewN | refine Grows.alloc ?_ _ | (refine Grows.setCell ?_ (by first | (simp; done) | (simp; omega) | omega) _) | (refine Grows.trans ?_ (by assumption)))
  )
  have hg6 : Grows v2 v6 := by
    repeat (first | assumption | exact Grows.refl _ | apply Grows.drew | apply Grows.drewN | refine Grows.alloc ?_ _ | (refine Grows.setCell ?_ (by first | (simp; done) | (simp; omega) | omega) _) | (refine Grows.trans ?_ (by assumption)))
  replace hX := hX.keep hg6
  replace hY := hY.keep hg6
  have hg7 : Grows w v6 := hg2.trans (hg4.trans hg6)
  clear blA blB d0A d1A d0B d1B sA sB hg2 hg4 hg6 hbv1 hbv2 hbv3 hbv4 hbv5 hbv6 cTa cTb cTj cTm cJ cM
  have cZ := fun t W hW => lhas_any Z tj.length cz tj t W (hZ.keep hW) (by unfold maxLen; omega) _ rfl
  have cV := fun t W hW => lhas_any V tm.length cv tm t W (hV.keep hW) (by unfold maxLen; omega) _ rfl
  have cY := fun t W hW => lhas_any Y tb.length cy tb t W (hY.keep hW) (by unfold maxLen; omega) _ rfl
  have cX := fun t W hW => lhas_any X ta.length cx ta t W (hX.keep hW) (by unfold maxLen; omega) _ rfl
  replace cZ := Lib.hid cZ
  replace cV := Lib.hid cV
  replace cY := Lib.hid cY
  replace cX := Lib.hid cX
  replace hX := Lib.hid hX
  replace hZ := Lib.hid hZ
  clear hY hV
  go_wp2_with fail
  go_loopw [9] (fun i wr => ∃ k : Nat, k ≤ ta.length ∧ i = .int .i64 k ∧ Grows v6 wr) (fun i _ => ta.length - (intOf i).toNat)
  case atStart => exact ⟨0, by omega, rfl, by
    repeat (first | assumption | exact Grows.refl _ | apply Grows.drew | apply Grows.drewN | refine Grows.alloc ?_ _ | (refine Grows.setCell ?_ (by first | (simp; done) | (simp; omega) | omega) _) | (refine Grows.trans ?_ (by assumption)))
  ⟩
  case round =>
    obtain ⟨k, hk, rfl, hgr⟩ := hrel
    by_cases hlt : k < ta.length
    · obtain ⟨bX, oX, t, rfl, hsX, ht, hcell⟩ := (hX.out.keep hgr).at_ hlt
      have c0 : wr.cell? ⟨bX, oX + k, none⟩ = some (.int .i64 t) := by simpa using hcell 0 _ rfl
      obtain ⟨ht31, htj, htm⟩ := hP1.out k t ht
      have c34 := fun W hW => cZ.out t W hW
      have c43 := fun W hW => cV.out t W hW
      have c49 := fun W hW => cY.out t W hW
      rw [htj] at c34
      rw [htm] at c43
      generalize decide (t ∈ tb) = q at c43 c49
      replace c34 := Lib.hid c34
      replace c43 := Lib.hid c43
      replace c49 := Lib.hid c49
      clear htj htm hcell
      have hti : (t : Int) ≤ 31 := by omega
      rcases k with _ | k
      · replace c0 : wr.cell? ⟨bX, oX, none⟩ = some (.int .i64 t) := c0
        clear ht
        go_wp2_with fail
        refine wp_region_mixg [(0, true), (1, true), (2, true), (3, true), (4, true), (5, true), (6, true), (7, true), (8, true), (9, true), (10, true), (11, true), (12, true), (13, true), (14, true), (15, true), (16, true), (17, true), (18, true), (19, true), (20, true), (21, true), (22, true), (23, true), (24, true), (25, true), (26, true), (27, true), (28, true), (29, true), (30, true), (31, true), (32, true), (33, true), (34, false), (35, true), (36, true), (37, true), (38, true), (39, true), (40, true), (41, true), (42, true), (44, true), (45, true), (46, true), (47, true), (48, true), (43, false), (49, false), (50, true), (51, true)] (by kernel_rfl) (by kernel_rfl) rfl (by kernel_rfl) (by intro c a d v w h; cases d <;> exact h) ?_
        iterate 34 (refine wpMix_q rfl (fun K hK => ?_); go_simp; (try go_bits); first | (refine hK _ ?_; clear hK K) | (apply Exists.intro; refine ⟨fun wq hsq => ?_, hK _ ?_⟩; (first | (go_simp; done) | ((try go_simp); (try simp only [↓IntWalk.iteOmega]); (try go_bits); rfl) | (obtain ⟨hcq, hfq⟩ := bcells hsq; go_simp; done) | (obtain ⟨hcq, hfq⟩ := bcells hsq; (try go_simp); (try simp only [↓IntWalk.iteOmega]); (try go_bits); rfl)); clear hK K))
        refine wpMix_m rfl (fun K' hK => ?_)
        go_simp
        refine (c34.out _ (by
          repeat (first | assumption | exact Grows.refl _ | apply Grows.drew | apply Grows.drewN | refine Grows.alloc ?_ _ | (refine Grows.setCell ?_ (by first | (simp; done) | (simp; omega) | omega) _) | (refine Grows.trans ?_ (by assumption)))
        )).mono ?_
        rintro e vz ⟨rfl, rfl⟩
        refine hK.out _ _ ?_ (fun hS => ?_)
        · repeat (first | assumption | exact Grows.refl _ | apply Grows.drew | apply Grows.drewN | refine Grows.alloc ?_ _ | (refine Grows.setCell ?_ (by first | (simp; done) | (simp; omega) | omega) _) | (refine Grows.trans ?_ (by assumption)))
        clear hK hS
        iterate 13 (refine wpMix_q rfl (fun K hK => ?_); go_simp; (try go_bits); first | (refine hK _ ?_; clear hK K) | (apply Exists.intro; refine ⟨fun wq hsq => ?_, hK _ ?_⟩; (first | (go_simp; done) | ((try go_simp); (try simp only [↓IntWalk.iteOmega]); (try go_bits); rfl) | (obtain ⟨hcq, hfq⟩ := bcells hsq; go_simp; done) | (obtain ⟨hcq, hfq⟩ := bcells hsq; (try go_simp); (try simp only [↓IntWalk.iteOmega]); (try go_bits); rfl)); clear hK K))
        refine wpMix_m rfl (fun K' hK => ?_)
        go_simp
        refine (c43.out _ (by
          repeat (first | assumption | exact Grows.refl _ | apply Grows.drew | apply Grows.drewN | refine Grows.alloc ?_ _ | (refine Grows.setCell ?_ (by first | (simp; done) | (simp; omega) | omega) _) | (refine Grows.trans ?_ (by assumption)))
        )).mono ?_
        rintro e vz ⟨rfl, rfl⟩
        refine hK.out _ _ ?_ (fun hS => ?_)
        · repeat (first | assumption | exact Grows.refl _ | apply Grows.drew | apply Grows.drewN | refine Grows.alloc ?_ _ | (refine Grows.setCell ?_ (by first | (simp; done) | (simp; omega) | omega) _) | (refine Grows.trans ?_ (by assumption)))
        clear hK hS
        refine wpMix_m rfl (fun K' hK => ?_)
        go_simp
        refine (c49.out _ (by
          repeat (first | assumption | exact Grows.refl _ | apply Grows.drew | apply Grows.drewN | refine Grows.alloc ?_ _ | (refine Grows.setCell ?_ (by first | (simp; done) | (simp; omega) | omega) _) | (refine Grows.trans ?_ (by assumption)))
        )).mono ?_
        rintro e vz ⟨rfl, rfl⟩
        refine hK.out _ _ ?_ (fun hS => ?_)
        · repeat (first | assumption | exact Grows.refl _ | apply Grows.drew | apply Grows.drewN | refine Grows.alloc ?_ _ | (refine Grows.setCell ?_ (by first | (simp; done) | (simp; omega) | omega) _) | (refine Grows.trans ?_ (by assumption)))
        clear hK hS
        iterate 2 (refine wpMix_q rfl (fun K hK => ?_); go_simp; (try go_bits); first | (refine hK _ ?_; clear hK K) | (apply Exists.intro; refine ⟨fun wq hsq => ?_, hK _ ?_⟩; (first | (go_simp; done) | ((try go_simp); (try simp only [↓IntWalk.iteOmega]); (try go_bits); rfl) | (obtain ⟨hcq, hfq⟩ := bcells hsq; go_simp; done) | (obtain ⟨hcq, hfq⟩ := bcells hsq; (try go_simp); (try simp only [↓IntWalk.iteOmega]); (try go_bits); rfl)); clear hK K))
        refine wpMix_nil ?_
        go_wp2
        go_roundw
        case rel => exact ⟨1, by omega, by go_num, by
          repeat (first | assumption | exact Grows.refl _ | apply Grows.drew | apply Grows.drewN | refine Grows.alloc ?_ _ | (refine Grows.setCell ?_ (by first | (simp; done) | (simp; omega) | omega) _) | (refine Grows.trans ?_ (by assumption)))
        ⟩
        case measure => simp [intOf]; omega
      · obtain ⟨bX', oX', t', hbX, _, ht', hcell'⟩ := (hX.out.keep hgr).at_ (i := k) (by omega)
        obtain ⟨rfl, rfl⟩ : bX' = bX ∧ oX' = oX := by
          simp only [Option.some.injEq, Addr.mk.injEq, and_true] at hbX
          exact ⟨hbX.1.symm, hbX.2.symm⟩
        have c1 : wr.cell? ⟨bX', oX' + k, none⟩ = some (.int .i64 t') := by simpa using hcell' 0 _ rfl
        have hlt' := hS1.out k t t' ht ht'
        have hle : ¬ ((t : Int) ≤ (t' : Int)) := by omega
        clear ht ht' hbX hcell'
        go_wp2_with fail
        refine wp_region_mixg [(0, true), (1, true), (2, true), (3, true), (4, true), (5, true), (6, true), (7, true), (8, true), (9, true), (10, true), (11, true), (12, true), (13, true), (14, true), (15, true), (16, true), (17, true), (18, true), (19, true), (20, true), (21, true), (22, true), (23, true), (24, true), (25, true), (26, true), (27, true), (28, true), (29, true), (30, true), (31, true), (32, true), (33, true), (34, false), (35, true), (36, true), (37, true), (38, true), (39, true), (40, true), (41, true), (42, true), (44, true), (45, true), (46, true), (47, true), (48, true), (43, false), (49, false), (50, true), (51, true)] (by kernel_rfl) (by kernel_rfl) rfl (by kernel_rfl) (by intro c a d v w h; cases d <;> exact h) ?_
        iterate 34 (refine wpMix_q rfl (fun K hK => ?_); go_simp; (try go_bits); first | (refine hK _ ?_; clear hK K) | (apply Exists.intro; refine ⟨fun wq hsq => ?_, hK _ ?_⟩; (first | (go_simp; done) | ((try go_simp); (try simp only [↓IntWalk.iteOmega]); (try go_bits); rfl) | (obtain ⟨hcq, hfq⟩ := bcells hsq; go_simp; done) | (obtain ⟨hcq, hfq⟩ := bcells hsq; (try go_simp); (try simp only [↓IntWalk.iteOmega]); (try go_bits); rfl)); clear hK K))
        refine wpMix_m rfl (fun K' hK => ?_)
        go_simp
        refine (c34.out _ (by
          repeat (first | assumption | exact Grows.refl _ | apply Grows.drew | apply Grows.drewN | refine Grows.alloc ?_ _ | (refine Grows.setCell ?_ (by first | (simp; done) | (simp; omega) | omega) _) | (refine Grows.trans ?_ (by assumption)))
        )).mono ?_
        rintro e vz ⟨rfl, rfl⟩
        refine hK.out _ _ ?_ (fun hS => ?_)
        · repeat (first | assumption | exact Grows.refl _ | apply Grows.drew | apply Grows.drewN | refine Grows.alloc ?_ _ | (refine Grows.setCell ?_ (by first | (simp; done) | (simp; omega) | omega) _) | (refine Grows.trans ?_ (by assumption)))
        clear hK hS
        iterate 13 (refine wpMix_q rfl (fun K hK => ?_); go_simp; (try go_bits); first | (refine hK _ ?_; clear hK K) | (apply Exists.intro; refine ⟨fun wq hsq => ?_, hK _ ?_⟩; (first | (go_simp; done) | ((try go_simp); (try simp only [↓IntWalk.iteOmega]); (try go_bits); rfl) | (obtain ⟨hcq, hfq⟩ := bcells hsq; go_simp; done) | (obtain ⟨hcq, hfq⟩ := bcells hsq; (try go_simp); (try simp only [↓IntWalk.iteOmega]); (try go_bits); rfl)); clear hK K))
        refine wpMix_m rfl (fun K' hK => ?_)
        go_simp
        refine (c43.out _ (by
          repeat (first | assumption | exact Grows.refl _ | apply Grows.drew | apply Grows.drewN | refine Grows.alloc ?_ _ | (refine Grows.setCell ?_ (by first | (simp; done) | (simp; omega) | omega) _) | (refine Grows.trans ?_ (by assumption)))
        )).mono ?_
        rintro e vz ⟨rfl, rfl⟩
        refine hK.out _ _ ?_ (fun hS => ?_)
        · repeat (first | assumption | exact Grows.refl _ | apply Grows.drew | apply Grows.drewN | refine Grows.alloc ?_ _ | (refine Grows.setCell ?_ (by first | (simp; done) | (simp; omega) | omega) _) | (refine Grows.trans ?_ (by assumption)))
        clear hK hS
        refine wpMix_m rfl (fun K' hK => ?_)
        go_simp
        refine (c49.out _ (by
          repeat (first | assumption | exact Grows.refl _ | apply Grows.drew | apply Grows.drewN | refine Grows.alloc ?_ _ | (refine Grows.setCell ?_ (by first | (simp; done) | (simp; omega) | omega) _) | (refine Grows.trans ?_ (by assumption)))
        )).mono ?_
        rintro e vz ⟨rfl, rfl⟩
        refine hK.out _ _ ?_ (fun hS => ?_)
        · repeat (first | assumption | exact Grows.refl _ | apply Grows.drew | apply Grows.drewN | refine Grows.alloc ?_ _ | (refine Grows.setCell ?_ (by first | (simp; done) | (simp; omega) | omega) _) | (refine Grows.trans ?_ (by assumption)))
        clear hK hS
        iterate 2 (refine wpMix_q rfl (fun K hK => ?_); go_simp; (try go_bits); first | (refine hK _ ?_; clear hK K) | (apply Exists.intro; refine ⟨fun wq hsq => ?_, hK _ ?_⟩; (first | (go_simp; done) | ((try go_simp); (try simp only [↓IntWalk.iteOmega]); (try go_bits); rfl) | (obtain ⟨hcq, hfq⟩ := bcells hsq; go_simp; done) | (obtain ⟨hcq, hfq⟩ := bcells hsq; (try go_simp); (try simp only [↓IntWalk.iteOmega]); (try go_bits); rfl)); clear hK K))
        refine wpMix_nil ?_
        go_wp2
        go_roundw
        case rel => exact ⟨k + 1 + 1, by omega, by go_num, by
          repeat (first | assumption | exact Grows.refl _ | apply Grows.drew | apply Grows.drewN | refine Grows.alloc ?_ _ | (refine Grows.setCell ?_ (by first | (simp; done) | (simp; omega) | omega) _) | (refine Grows.trans ?_ (by assumption)))
        ⟩
        case measure => simp [intOf]; omega
    · obtain rfl : k = ta.length := by omega
      clear hP1 hS1
      go_wp2_with fail
      go_loopw [10] (fun i wr => ∃ k : Nat, k ≤ tj.length ∧ i = .int .i64 k ∧ Grows v6 wr) (fun i _ => tj.length - (intOf i).toNat)
      case atStart => exact ⟨0, by omega, rfl, by
        repeat (first | assumption | exact Grows.refl _ | apply Grows.drew | apply Grows.drewN | refine Grows.alloc ?_ _ | (refine Grows.setCell ?_ (by first | (simp; done) | (simp; omega) | omega) _) | (refine Grows.trans ?_ (by assumption)))
      ⟩
      case round =>
        clear hgr
        obtain ⟨k, hk, rfl, hgr⟩ := hrel
        by_cases hlt : k < tj.length
        · obtain ⟨bZ, oZ, t, rfl, hsZ, ht, hcell⟩ := (hZ.out.keep hgr).at_ hlt
          have c0 : wr.cell? ⟨bZ, oZ + k, none⟩ = some (.int .i64 t) := by simpa using hcell 0 _ rfl
          have c34 := fun W hW => cX.out t W hW
          have c43 := fun W hW => cY.out t W hW
          have hcs := hP2.out k t ht
          clear ht hcell
          generalize decide (t ∈ ta) = q at c34 hcs
          generalize decide (t ∈ tb) = r at c43 hcs
          replace c34 := Lib.hid c34
          replace c43 := Lib.hid c43
          rcases hcs with rfl | ⟨rfl, rfl⟩
          · go_wp2_with fail
            refine (c34.out _ hgr).mono ?_
            rintro e vz ⟨rfl, rfl⟩
            go_wp2
            go_roundw
            case rel => exact ⟨k + 1, by omega, by go_num, by
              repeat (first | assumption | exact Grows.refl _ | apply Grows.drew | apply Grows.drewN | refine Grows.alloc ?_ _ | (refine Grows.setCell ?_ (by first | (simp; done) | (simp; omega) | omega) _) | (refine Grows.trans ?_ (by assumption)))
            ⟩
            case measure => simp [intOf]; omega
          · go_wp2_with fail
            refine (c34.out _ hgr).mono ?_
            rintro e vz ⟨rfl, rfl⟩
            go_wp2_with fail
            refine (c43.out _ hgr).mono ?_
            rintro e vz ⟨rfl, rfl⟩
            go_wp2
            go_roundw
            case rel => exact ⟨k + 1, by omega, by go_num, by
              repeat (first | assumption | exact Grows.refl _ | apply Grows.drew | apply Grows.drewN | refine Grows.alloc ?_ _ | (refine Grows.setCell ?_ (by first | (simp; done) | (simp; omega) | omega) _) | (refine Grows.trans ?_ (by assumption)))
            ⟩
            case measure => simp [intOf]; omega
        · obtain rfl : k = tj.length := by omega
          go_wp2
          go_ret
          exact ⟨rfl, hg7.trans (by
            repeat (first | assumption | exact Grows.refl _ | apply Grows.drew | apply Grows.drewN | refine Grows.alloc ?_ _ | (refine Grows.setCell ?_ (by first | (simp; done) | (simp; omega) | omega) _) | (refine Grows.trans ?_ (by assumption)))
          )⟩
end Go.Proofs.YtfppagcifcppaaaDoor
