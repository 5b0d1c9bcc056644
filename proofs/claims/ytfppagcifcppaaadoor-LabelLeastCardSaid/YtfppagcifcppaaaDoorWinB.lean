/- Windows: contracts of the reference's Muted and Good, and of the laws' back and good. -/
import Derived.Test.YtfppagcifcppaaaDoorWinA
namespace Go.Proofs.YtfppagcifcppaaaDoor
open Go.RowKit

structure Win where
  p : Int
  f : Int
  l : Int
deriving DecidableEq
def encW (x : Win) : List Value := [.int .i64 x.p, .int .i64 x.f, .int .i64 x.l]
def isIn (n : Int) (x : Win) : Bool := wIn x.p x.f x.l n

theorem any_take_succ {α : Type} (q : α → Bool) (xs : List α) (k : Nat) (x : α) (h : xs[k]? = some x) : (xs.take (k + 1)).any q = ((xs.take k).any q || q x) := by
  rw [List.take_add_one, h]; simp
theorem any_take_mono {α : Type} (q : α → Bool) (xs : List α) {k m : Nat} (h : k ≤ m) (ht : (xs.take k).any q = true) : (xs.take m).any q = true := by
  rw [List.any_eq_true] at ht ⊢
  obtain ⟨x, hx, hq⟩ := ht
  exact ⟨x, (List.take_sublist_take_left h).mem hx, hq⟩
theorem take_end {α : Type} {xs : List α} {k m c : Nat} (hl : xs.length = m) (hk : k ≤ m) (hc : k ≤ c) (h : ¬ (k < m ∧ k < c)) : xs.take k = xs.take c := by
  by_cases h1 : k = c
  · rw [h1]
  · rw [List.take_of_length_le (by omega), List.take_of_length_le (by omega)]

set_option maxHeartbeats 800000 in
theorem refMuted_any (A : Option Addr) (m c : Nat) (ws : List Win) (n : Int) (w : World) (h : Arr w 3 encW A m ws) (hm : m ≤ maxLen) :
    Calls Tryd.prog 21 #[.slice A m c, .int .i64 n] w fun e w' => e = .returned (.bool ((ws.take 20).any (isIn n))) ∧ Grows w w' := by
  unfold maxLen at hm
  go_enter Tryd.func21, Tryd.ntmps21
  go_wp2
  go_loopw [5] (fun i wr => ∃ k : Nat, k ≤ m ∧ k ≤ 20 ∧ i = .int .i64 k ∧ Hid ((ws.take k).any (isIn n) = false) ∧ Grows w wr) (fun i _ => 20 - (intOf i).toNat)
  case atStart => exact ⟨0, by omega, by omega, rfl, by simp [Hid], Grows.refl _⟩
  case round =>
    obtain ⟨k, hk, hk20, rfl, hno, hg⟩ := hrel
    by_cases hlt : k < m ∧ k < 20
    · obtain ⟨h1, h2⟩ := hlt
      obtain ⟨b, off, x, rfl, _, hx, hcell⟩ := (h.keep hg).at_ h1
      have hs := any_take_succ (isIn n) ws k x hx
      rw [hno.out, Bool.false_or] at hs
      have c0 : wr.cell? ⟨b, off + k * 3, none⟩ = some (.int .i64 x.p) := hcell 0 _ rfl
      have c1 : wr.cell? ⟨b, off + k * 3 + 1, none⟩ = some (.int .i64 x.f) := hcell 1 _ rfl
      have c2 : wr.cell? ⟨b, off + k * 3 + 2, none⟩ = some (.int .i64 x.l) := hcell 2 _ rfl
      have cI := fun w => refIn_any x.p x.f x.l n w
      change ∀ w, Calls _ _ _ _ fun e w' => e = .returned (.bool (isIn n x)) ∧ _ at cI
      generalize hq : isIn n x = q at cI hs
      replace hs := Lib.hid hs
      clear hno hcell hq h hx
      cases q
      · go_wp2_with (go_at_call 36; refine (cI _).mono ?_; rintro e w1 ⟨rfl, hb⟩)
        go_roundw
        case rel => exact ⟨k + 1, by omega, by omega, by go_num, hs.out, hg.trans hb⟩
        case measure => simp [intOf]; omega
      · go_wp2_with (go_at_call 36; refine (cI _).mono ?_; rintro e w1 ⟨rfl, hb⟩)
        go_ret
        exact ⟨ret_bool (any_take_mono _ _ (by omega) hs.out).symm, hg.trans hb⟩
    · have he := take_end h.1 hk hk20 hlt
      have hfin : (ws.take 20).any (isIn n) = false := by rw [← he]; exact hno.out
      replace hfin := Lib.hid hfin
      clear he hno h
      go_wp2
      all_goals go_ret
      all_goals exact ⟨ret_bool hfin.out.symm, hg⟩

theorem u64w (x : Int) : 0 ≤ IntKind.u64.wrap x := by
  rw [IntKind.wrap_u64]; omega
def goodW (x : Win) : Win :=
  ⟨1 + IntKind.u64.wrap x.p % 50, IntKind.u64.wrap x.f % (1 + IntKind.u64.wrap x.p % 50), 1 + IntKind.u64.wrap x.l % (1 + IntKind.u64.wrap x.p % 50)⟩
theorem u64_of {x : Int} (h : 0 ≤ x) (h' : x ≤ 9223372036854775807) : IntKind.u64.wrap x = x := by rw [IntKind.wrap_u64]; omega
set_option maxRecDepth 100000 in
set_option maxHeartbeats 800000 in
theorem good1_any (x : Win) (w : World) :
    Calls Tryd.prog 59 #[.agg #[.int .i64 x.p, .int .i64 x.f, .int .i64 x.l]] w fun e w' => e = .returned (.agg #[.int .i64 (goodW x).p, .int .i64 (goodW x).f, .int .i64 (goodW x).l]) ∧ Grows w w' := by
  have uP := u64w x.p
  have uF := u64w x.f
  have uL := u64w x.l
  unfold goodW
  generalize hP : IntKind.u64.wrap x.p = P at *
  generalize hF : IntKind.u64.wrap x.f = F at *
  generalize hL : IntKind.u64.wrap x.l = L at *
  obtain ⟨Q, hQ⟩ : ∃ Q, Q = 1 + P % 50 := ⟨_, rfl⟩
  have q1 : 1 ≤ Q := by omega
  have q2 : Q ≤ 50 := by omega
  have hu := u64_of (x := Q) (by omega) (by omega)
  have f0 := Int.emod_nonneg F (show Q ≠ 0 by omega)
  have f1 := Int.emod_lt_of_pos F (show 0 < Q by omega)
  have l0 := Int.emod_nonneg L (show Q ≠ 0 by omega)
  have l1 := Int.emod_lt_of_pos L (show 0 < Q by omega)
  replace hQ := hQ.symm
  go_enter Tryd.func59, Tryd.ntmps59
  go_wp2
  refine wp_region_mixb (w.heap.size + 1) [(0, true), (1, true), (2, true), (3, true), (4, true), (5, true), (6, true), (7, true), (8, true), (9, true), (10, true), (11, true), (12, true), (13, true), (14, true), (15, true), (16, true), (17, false)] (by kernel_rfl) (by kernel_rfl) rfl (by kernel_rfl) (by intro c a d v w h; cases d <;> exact h) ?_
  iterate 17 (refine wpMix_q rfl (fun K hK => ?_); go_simp; (try go_bits); first | (refine hK _ ?_; clear hK K) | (apply Exists.intro; refine ⟨fun wq hsq => ?_, hK _ ?_⟩; (first | (go_simp; done) | ((try go_simp); (try simp only [↓IntWalk.iteOmega]); (try go_bits); rfl) | (obtain ⟨hcq, hfq⟩ := bcellsB hsq; go_simp; done) | (obtain ⟨hcq, hfq⟩ := bcellsB hsq; (try go_simp); (try simp only [↓IntWalk.iteOmega]); (try go_bits); rfl)); clear hK K))
  refine wpMix_m rfl (fun K' hK => ?_)
  go_simp
  refine hK.out _ _ ?_ (fun hS => ?_)
  · repeat (first | assumption | exact Below.refl _ _ | apply Below.drew | apply below_drewN | (refine Below.alloc2t ?_ (by first | rfl | simp) (by first | omega | (simp; omega) | simp)) | (refine Below.alloc ?_ (by first | omega | (simp; omega) | simp) _) | (refine Below.setCell ?_ (by first | omega | (simp; omega) | simp) _))
  clear hK
  refine wpMix_nil ?_
  go_wp2
  refine bodyPost_ret (v := .agg #[.int .i64 Q, .int .i64 (F % Q), .int .i64 (1 + L % Q)]) ?_ rfl ⟨?_, ?_⟩
  · simp [results, Tryd.results59, go_sem]
  · rw [hQ]
  · repeat (first | assumption | exact Grows.refl _ | apply Grows.drew | apply Grows.drewN | refine Grows.alloc ?_ _ | (refine Grows.setCell ?_ (by first | (simp; done) | (simp; omega) | omega) _) | (refine Grows.trans ?_ (by assumption)))

theorem hkW (x : Win) : (encW x).length = 3 := rfl
theorem oneW (x : Win) : ∀ u ∈ encW x, u.oneCell' = true := by intro u hu; simp [encW] at hu; rcases hu with rfl | rfl | rfl <;> rfl
theorem T_ww : SliceT Tryd.prog 24 39 3 24 := SliceT.mk' (z := .agg #[.int .i64 0, .int .i64 0, .int .i64 0]) Tryd.underlying24 (by kernel_rfl) rfl (by omega)
theorem T_rw : SliceT Tryd.prog 22 37 3 24 := SliceT.mk' (z := .agg #[.int .i64 0, .int .i64 0, .int .i64 0]) Tryd.underlying22 (by kernel_rfl) rfl (by omega)
theorem take_snoc {α : Type} (xs : List α) (k : Nat) (x : α) (h : xs[k]? = some x) : xs.take k ++ [x] = xs.take (k + 1) := by
  rw [List.take_add_one, h]; rfl

set_option maxRecDepth 100000 in
set_option maxHeartbeats 1600000 in
theorem back_any (A : Option Addr) (m c : Nat) (ws : List Win) (w : World) (h : Arr w 3 encW A m ws) (hm : m ≤ maxLen) :
    Calls Tryd.prog 19 #[.slice A m c] w fun e w' => ∃ v, e = .returned v ∧ Own w' w.heap.size 39 3 encW v (ws.take 22) ∧ Grows w w' := by
  unfold maxLen at hm
  have hlen := h.1
  go_enter Tryd.func19, Tryd.ntmps19
  go_wp2
  go_loopw [3, 4] (fun v i wr => ∃ k : Nat, k ≤ m ∧ k ≤ 22 ∧ i = .int .i64 k ∧ Own wr w.heap.size 39 3 encW v (ws.take k) ∧ Grows w wr) (fun _ i _ => 22 - (intOf i).toNat)
  case atStart => exact ⟨0, by omega, by omega, rfl, Own.nil_ _ _ _ _ _, Grows.refl _⟩
  case round =>
    obtain ⟨k, hk, hk20, rfl, hown, hg⟩ := hrel
    by_cases hlt : k < m ∧ k < 22
    · obtain ⟨h1, h2⟩ := hlt
      obtain ⟨b, off, x, rfl, hb, hx, hcell⟩ := h.at_ h1
      have c0 : wr.cell? ⟨b, off + k * 3, none⟩ = some (.int .i64 x.p) := hg.cell (hcell 0 _ rfl)
      have c1 : wr.cell? ⟨b, off + k * 3 + 1, none⟩ = some (.int .i64 x.f) := hg.cell (hcell 1 _ rfl)
      have c2 : wr.cell? ⟨b, off + k * 3 + 2, none⟩ = some (.int .i64 x.l) := hg.cell (hcell 2 _ rfl)
      have hsz := hg.size
      have hl : (ws.take k).length = k := by rw [List.length_take]; omega
      replace hl := Lib.hid hl
      replace hlen := Lib.hid hlen
      have hx := Lib.hid hx
      clear hcell
      go_wp2
      refine wp_region_mixb (w.heap.size) [(0, true), (1, true), (2, true), (3, true), (4, true), (5, true), (6, true), (7, true), (8, true), (9, true), (10, true), (11, true), (12, true), (13, true), (14, true), (15, true), (16, true), (17, false), (18, false), (19, true)] (by kernel_rfl) (by kernel_rfl) rfl (by kernel_rfl) (by intro c a d v w h; cases d <;> exact h) ?_
      iterate 17 (refine wpMix_q rfl (fun K hK => ?_); go_simp; (try go_bits); first | (refine hK _ ?_; clear hK K) | (apply Exists.intro; refine ⟨fun wq hsq => ?_, hK _ ?_⟩; (first | (go_simp; done) | ((try go_simp); (try simp only [↓IntWalk.iteOmega]); (try go_bits); rfl) | (obtain ⟨hcq, hfq⟩ := bcellsB hsq; go_simp; done) | (obtain ⟨hcq, hfq⟩ := bcellsB hsq; (try go_simp); (try simp only [↓IntWalk.iteOmega]); (try go_bits); rfl)); clear hK K))
      refine wpMix_m rfl (fun K' hK => ?_)
      go_simp
      refine hK.out _ _ ?_ (fun hS => ?_)
      · repeat (first | assumption | exact Below.refl _ _ | apply Below.drew | apply below_drewN | (refine Below.alloc2t ?_ (by first | rfl | simp) (by first | omega | (simp; omega) | simp)) | (refine Below.alloc ?_ (by first | omega | (simp; omega) | simp) _) | (refine Below.setCell ?_ (by first | omega | (simp; omega) | simp) _))
      clear hK
      refine wpMix_m rfl (fun K' hK => ?_)
      refine Own.grown (x := x) T_ww rfl (.tmp 15) (.tmp 32) rfl (hown.alloc _).drew rfl ⟨wr.heap.size, 0, none⟩ rfl rfl (news_of (by exact heap_alloc_new wr _)) (oneW x) (by simp; omega) (by rw [hl.out]; unfold maxLen; omega) (by rw [hl.out]; omega) (fun v1 w1 hown1 hgr hat => ?_)
      have hb1 : Below w.heap.size wr w1 := Own.below ((hown.alloc _).drew) (by
        repeat (first | assumption | exact Below.refl _ _ | apply Below.drew | apply below_drewN | (refine Below.alloc2t ?_ (by first | rfl | simp) (by first | omega | (simp; omega) | simp)) | (refine Below.alloc ?_ (by first | omega | (simp; omega) | simp) _) | (refine Below.setCell ?_ (by first | omega | (simp; omega) | simp) _))
      ) (Nat.le_refl _) (by simp; omega) hgr
      refine hK.out _ _ ?_ (fun hS => ?_)
      · exact hb1
      clear hK hgr hat
      iterate 1 (refine wpMix_q rfl (fun K hK => ?_); go_simp; (try go_bits); first | (refine hK _ ?_; clear hK K) | (apply Exists.intro; refine ⟨fun wq hsq => ?_, hK _ ?_⟩; (first | (go_simp; done) | ((try go_simp); (try simp only [↓IntWalk.iteOmega]); (try go_bits); rfl) | (obtain ⟨hcq, hfq⟩ := bcellsB hsq; go_simp; done) | (obtain ⟨hcq, hfq⟩ := bcellsB hsq; (try go_simp); (try simp only [↓IntWalk.iteOmega]); (try go_bits); rfl)); clear hK K))
      refine wpMix_nil ?_
      go_wp2
      go_roundw
      case rel => exact ⟨k + 1, by omega, by omega, by go_num, by rw [← take_snoc _ _ _ hx.out]; exact hown1, hg.then_ hb1⟩
      case measure => simp [intOf]; omega
    · have he := take_end hlen hk hk20 hlt
      have hfin : Own wr w.heap.size 39 3 encW u3 (ws.take 22) := by rw [← he]; exact hown
      clear he hown h hlen
      go_wp2
      all_goals go_ret
      all_goals exact ⟨u3, rfl, hfin, hg⟩

set_option maxRecDepth 100000 in
set_option maxHeartbeats 1600000 in
theorem good_any (A : Option Addr) (m c : Nat) (ws : List Win) (w : World) (h : Arr w 3 encW A m ws) (hm : m ≤ maxLen) :
    Calls Tryd.prog 24 #[.slice A m c] w fun e w' => ∃ v, e = .returned v ∧ Own w' w.heap.size 37 3 encW v ((ws.take 4).map goodW) ∧ Grows w w' := by
  unfold maxLen at hm
  have hlen := h.1
  go_enter Tryd.func24, Tryd.ntmps24
  go_wp2
  go_loopw [3, 4] (fun v i wr => ∃ k : Nat, k ≤ m ∧ k ≤ 4 ∧ i = .int .i64 k ∧ Own wr w.heap.size 37 3 encW v ((ws.take k).map goodW) ∧ Grows w wr) (fun _ i _ => 4 - (intOf i).toNat)
  case atStart => exact ⟨0, by omega, by omega, rfl, Own.nil_ _ _ _ _ _, Grows.refl _⟩
  case round =>
    obtain ⟨k, hk, hk20, rfl, hown, hg⟩ := hrel
    by_cases hlt : k < m ∧ k < 4
    · obtain ⟨h1, h2⟩ := hlt
      obtain ⟨b, off, x, rfl, hb, hx, hcell⟩ := h.at_ h1
      have c0 : wr.cell? ⟨b, off + k * 3, none⟩ = some (.int .i64 x.p) := hg.cell (hcell 0 _ rfl)
      have c1 : wr.cell? ⟨b, off + k * 3 + 1, none⟩ = some (.int .i64 x.f) := hg.cell (hcell 1 _ rfl)
      have c2 : wr.cell? ⟨b, off + k * 3 + 2, none⟩ = some (.int .i64 x.l) := hg.cell (hcell 2 _ rfl)
      have hsz := hg.size
      have hl : ((ws.take k).map goodW).length = k := by rw [List.length_map, List.length_take]; omega
      replace hl := Lib.hid hl
      replace hlen := Lib.hid hlen
      have hs : (ws.take k).map goodW ++ [goodW x] = (ws.take (k + 1)).map goodW := by rw [← take_snoc _ _ _ hx]; simp
      replace hs := Lib.hid hs
      have cG := fun w => good1_any x w
      generalize hgx : goodW x = y at cG hs
      replace cG := Lib.hid cG
      clear hcell hgx hx
      go_wp2_with (first
        | (go_at_call 59; refine (cG.out _).mono ?_; rintro e w0 ⟨rfl, hb0⟩; have hsz0 := hb0.size)
        | (at_builtin; refine wpList_grown (x := y) T_rw rfl (.tmp 15) (.tmp 21) rfl ((hown.grows hb0).alloc _) rfl ⟨w0.heap.size, 0, none⟩ rfl rfl (news_of (by exact heap_alloc_new w0 _)) (oneW y) (by simp; omega) (by rw [hl.out]; unfold maxLen; omega) (by rw [hl.out]; omega) (fun v1 w1 hown1 hgr hat => ?_)))
      have hb1 : Below w.heap.size w0 w1 := Own.below ((hown.grows hb0).alloc _) (by
        repeat (first | assumption | exact Below.refl _ _ | apply Below.drew | apply below_drewN | (refine Below.alloc2t ?_ (by first | rfl | simp) (by first | omega | (simp; omega) | simp)) | (refine Below.alloc ?_ (by first | omega | (simp; omega) | simp) _) | (refine Below.setCell ?_ (by first | omega | (simp; omega) | simp) _))
      ) (Nat.le_refl _) (by simp; omega) hgr
      clear hgr hat
      go_wp2
      go_roundw
      case rel => exact ⟨k + 1, by omega, by omega, by go_num, by rw [← hs.out]; exact hown1, (hg.trans hb0).then_ hb1⟩
      case measure => simp [intOf]; omega
    · have he := take_end hlen hk hk20 hlt
      have hfin : Own wr w.heap.size 37 3 encW u3 ((ws.take 4).map goodW) := by rw [← he]; exact hown
      clear he hown h hlen
      go_wp2
      all_goals go_ret
      all_goals exact ⟨u3, rfl, hfin, hg⟩
end Go.Proofs.YtfppagcifcppaaaDoor
