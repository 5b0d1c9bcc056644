/- Labels: All and Above. -/
import Derived.Test.YtfppagcifcppaaaDoorLTeamP
namespace Go.Proofs.YtfppagcifcppaaaDoor
open Go.RowKit

def accL (xs : List Lab) (k : Nat) : Lab := (xs.take k).foldl joinL ⟨0, 0⟩
theorem accL_succ {xs : List Lab} {k : Nat} {x : Lab} (h : xs[k]? = some x) : accL xs (k + 1) = joinL (accL xs k) x := by
  unfold accL
  rw [List.take_add_one, h, Option.toList_some, List.foldl_append]
  rfl
theorem accL_ok {xs : List Lab} (hok : ∀ x ∈ xs, x.ok) : ∀ k, (accL xs k).ok
  | 0 => by unfold accL Lab.ok; simp
  | k + 1 => by
    rcases h : xs[k]? with _ | x
    · have : accL xs (k + 1) = accL xs k := by unfold accL; rw [List.take_add_one, h]; simp
      rw [this]; exact accL_ok hok k
    · rw [accL_succ h]; exact joinL_lt (accL_ok hok k) (hok x (List.mem_of_getElem? h))
set_option maxRecDepth 100000 in
set_option maxHeartbeats 1600000 in
theorem lAll_any (A : Option Addr) (m c : Nat) (xs : List Lab) (w : World) (h : Arr w 2 encL A m xs) (hm : m ≤ maxLen) (hok : ∀ x ∈ xs, x.ok) :
    Calls Tryd.prog 54 #[.slice A m c] w fun e w' => e = .returned (.agg #[.int .i64 (accL xs m).lv, .int .u32 ((accL xs m).c : Int)]) ∧ Grows w w' := by
  have hacc := accL_ok hok
  unfold maxLen at hm
  replace h := Lib.hid h
  replace hok := Lib.hid hok
  replace hacc := Lib.hid hacc
  go_enter Tryd.func54, Tryd.ntmps54
  go_wp2
  go_loopw [8] (fun i wr => ∃ k : Nat, k ≤ m ∧ i = .int .i64 k ∧ Blk wr w.heap.size 62 #[.int .i64 0, .int .u32 0] ∧ Blk wr (w.heap.size + 1) 62 #[.int .i64 (accL xs k).lv, .int .u32 ((accL xs k).c : Int)] ∧ Grows w wr) (fun i _ => m - (intOf i).toNat)
  case atStart => exact ⟨0, by omega, rfl, (Blk.new w _ _).alloc _, Blk.new1 w _ _ _, ((Grows.refl w).alloc _).alloc _⟩
  case round =>
    obtain ⟨k, hk, rfl, bR, bA, hg⟩ := hrel
    by_cases hkm : k < m
    · obtain ⟨b, off, x, rfl, hsx, hx, hcell⟩ := ((h.out).keep hg).at_ hkm
      have c0 : wr.cell? ⟨b, off + k * 2, none⟩ = some (.int .i64 x.lv) := by simpa using hcell 0 _ rfl
      have c1 : wr.cell? ⟨b, off + k * 2 + 1, none⟩ = some (.int .u32 (x.c : Int)) := by simpa using hcell 1 _ rfl
      have cJ := fun W => lJoin_any (accL xs k) x W (hacc.out k) (hok.out x (List.mem_of_getElem? hx))
      have hs := accL_succ hx
      have d0A := bA.cell 0
      have d1A := bA.cell 1
      have sA := bA.lt
      generalize accL xs k = acc at *
      rw [← hs] at cJ
      replace cJ := Lib.hid cJ
      clear hcell hs hx
      go_wp2_with fail
      refine (cJ.out _).mono ?_
      rintro e w1 ⟨rfl, hb1⟩
      replace bR := (bR.alloc (.cells #[.int .i64 x.lv, .int .u32 (x.c : Int)] 62)).grows hb1
      replace bA := (bA.alloc (.cells #[.int .i64 x.lv, .int .u32 (x.c : Int)] 62)).grows hb1
      replace hg := (hg.alloc (.cells #[.int .i64 x.lv, .int .u32 (x.c : Int)] 62)).trans hb1
      clear hb1 d0A d1A sA c0 c1 hsx
      have d0A := bA.cell 0
      have d1A := bA.cell 1
      have sA := bA.lt
      have f0A := bA.frozen 0
      have f1A := bA.frozen 1
      have bA2 : Blk ((w1.setCell ⟨w.heap.size + 1, 0, none⟩ (.int .i64 (accL xs (k + 1)).lv)).setCell ⟨w.heap.size + 1, 1, none⟩ (.int .u32 ((accL xs (k + 1)).c : Int))) (w.heap.size + 1) 62 #[.int .i64 (accL xs (k + 1)).lv, .int .u32 ((accL xs (k + 1)).c : Int)] := (bA.set_ 0 _).set_ 1 _
      have bR2 : Blk ((w1.setCell ⟨w.heap.size + 1, 0, none⟩ (.int .i64 (accL xs (k + 1)).lv)).setCell ⟨w.heap.size + 1, 1, none⟩ (.int .u32 ((accL xs (k + 1)).c : Int))) w.heap.size 62 #[.int .i64 0, .int .u32 0] := (bR.far (by simp) _).far (by simp) _
      go_wp2
      go_roundw
      case rel => exact ⟨k + 1, by omega, by go_num, bR2, bA2, by
        repeat (first | assumption | exact Grows.refl _ | apply Grows.drew | apply Grows.drewN | refine Grows.alloc ?_ _ | (refine Grows.setCell ?_ (by first | (simp; done) | (simp; omega) | omega) _) | (refine Grows.trans ?_ (by assumption)))
      ⟩
      case measure => simp [intOf]; omega
    · obtain rfl : k = m := by omega
      have d0A := bA.cell 0
      have d1A := bA.cell 1
      have sA := bA.lt
      have d0R := bR.cell 0
      have d1R := bR.cell 1
      have f0R := bR.frozen 0
      have f1R := bR.frozen 1
      have sR := bR.lt
      have bR2 : Blk ((wr.setCell ⟨w.heap.size, 0, none⟩ (.int .i64 (accL xs k).lv)).setCell ⟨w.heap.size, 1, none⟩ (.int .u32 ((accL xs k).c : Int))) w.heap.size 62 #[.int .i64 (accL xs k).lv, .int .u32 ((accL xs k).c : Int)] := (bR.set_ 0 _).set_ 1 _
      go_wp2
      have e0 := bR2.cell 0
      have e1 := bR2.cell 1
      refine bodyPost_ret (v := .agg #[.int .i64 (accL xs k).lv, .int .u32 ((accL xs k).c : Int)]) ?_ rfl ⟨rfl, ?_⟩
      · simp [results, Tryd.results54, go_sem, e0, e1]
      · repeat (first | assumption | exact Grows.refl _ | apply Grows.drew | apply Grows.drewN | refine Grows.alloc ?_ _ | (refine Grows.setCell ?_ (by first | (simp; done) | (simp; omega) | omega) _) | (refine Grows.trans ?_ (by assumption)))
def aboveTo (a : Lab) (xs : List Lab) (k : Nat) : List Nat := (List.range k).filter fun i => flowsL a (xs.getD i ⟨0, 0⟩)
theorem aboveTo_yes {a : Lab} {xs : List Lab} {k : Nat} {x : Lab} (h : xs[k]? = some x) (hf : flowsL a x = true) : aboveTo a xs (k + 1) = aboveTo a xs k ++ [k] := by
  unfold aboveTo
  rw [List.range_succ, List.filter_append]
  simp [h, hf]
theorem aboveTo_no {a : Lab} {xs : List Lab} {k : Nat} {x : Lab} (h : xs[k]? = some x) (hf : flowsL a x = false) : aboveTo a xs (k + 1) = aboveTo a xs k := by
  unfold aboveTo
  rw [List.range_succ, List.filter_append]
  simp [h, hf]
theorem aboveTo_len (a : Lab) (xs : List Lab) (k : Nat) : (aboveTo a xs k).length ≤ k := by
  have := List.length_filter_le (fun i => flowsL a (xs.getD i ⟨0, 0⟩)) (List.range k)
  simpa [aboveTo] using this
set_option maxRecDepth 100000 in
set_option maxHeartbeats 1600000 in
theorem lAbove_any (a : Lab) (ha : a.ok) (A : Option Addr) (m c : Nat) (xs : List Lab) (w : World) (h : Arr w 2 encL A m xs) (hm : m ≤ 1000) (hok : ∀ x ∈ xs, x.ok) :
    Calls Tryd.prog 55 #[.agg #[.int .i64 a.lv, .int .u32 (a.c : Int)], .slice A m c] w fun e w' => ∃ v, e = .returned v ∧ Own w' w.heap.size 3 1 encI v (aboveTo a xs m) ∧ Grows w w' := by
  replace h := Lib.hid h
  replace hok := Lib.hid hok
  replace ha := Lib.hid ha
  go_enter Tryd.func55, Tryd.ntmps55
  go_wp2
  go_loopw [5, 6, 7, 10] (fun v _ _ i wr => ∃ k : Nat, k ≤ m ∧ i = .int .i64 k ∧ Own wr (w.heap.size + 1) 3 1 encI v (aboveTo a xs k) ∧ Below (w.heap.size + 1) (w.alloc (.cells #[.int .i64 a.lv, .int .u32 (a.c : Int)] 62)) wr) (fun _ _ _ i _ => m - (intOf i).toNat)
  case atStart => exact ⟨0, by omega, rfl, Own.nil_ _ _ _ _ _, Below.refl _ _⟩
  case round =>
    obtain ⟨k, hk, rfl, hown, hg⟩ := hrel
    by_cases hkm : k < m
    · have hgw : Grows w wr := ((Grows.refl w).alloc _).below.trans (hg.mono (by omega))
      have bA : Blk wr w.heap.size 62 #[.int .i64 a.lv, .int .u32 (a.c : Int)] := (Blk.new w _ _).below hg (by omega)
      have d0A := bA.cell 0
      have d1A := bA.cell 1
      have sA := bA.lt
      obtain ⟨b, off, x, rfl, hsx, hx, hcell⟩ := ((h.out).keep hgw).at_ hkm
      have c0 : wr.cell? ⟨b, off + k * 2, none⟩ = some (.int .i64 x.lv) := by simpa using hcell 0 _ rfl
      have c1 : wr.cell? ⟨b, off + k * 2 + 1, none⟩ = some (.int .u32 (x.c : Int)) := by simpa using hcell 1 _ rfl
      have cF := fun W => lFlows_any a x W ha.out (hok.out x (List.mem_of_getElem? hx))
      have hyes := aboveTo_yes (a := a) hx
      have hno := aboveTo_no (a := a) hx
      have hl := aboveTo_len a xs k
      have hsz := hg.size
      simp only [World.size_alloc] at hsz
      generalize flowsL a x = f at *
      replace cF := Lib.hid cF
      replace hyes := Lib.hid hyes
      replace hno := Lib.hid hno
      replace hl := Lib.hid hl
      clear hcell hx
      go_wp2_with fail
      refine (cF.out _).mono ?_
      rintro e w1 ⟨rfl, hb1⟩
      have hb2 : Grows wr w1 := ((Grows.refl wr).alloc (.cells #[.int .i64 x.lv, .int .u32 (x.c : Int)] 62)).trans hb1
      have hsz1 := hb2.size
      replace hown := hown.grows hb2
      replace hg : Below (w.heap.size + 1) (w.alloc (.cells #[.int .i64 a.lv, .int .u32 (a.c : Int)] 62)) w1 := hg.trans (hb2.below.mono (by omega))
      clear hb1 hb2 bA d0A d1A sA c0 c1 hsx
      cases f
      · go_wp2
        go_roundw
        case rel => exact ⟨k + 1, by omega, by go_num, by rw [hno.out (by simp)]; exact hown, hg⟩
        case measure => simp [intOf]; omega
      · go_wp2_with (at_builtin; refine wpList_grown (x := k) T_ii rfl (.tmp 18) (.tmp 20) rfl (hown.alloc _) rfl ⟨w1.heap.size, 0, none⟩ rfl rfl (news_of (by exact heap_alloc_new w1 _)) (oneI k) (by simp; omega) (by have := hl.out; unfold maxLen; omega) (by have := hl.out; omega) (fun v1 w2 hown1 hgr hat => ?_))
        have hb1 : Below (w.heap.size + 1) w1 w2 := Own.below (hown.alloc _) (by
          repeat (first | assumption | exact Below.refl _ _ | apply Below.drew | apply below_drewN | (refine Below.alloc2t ?_ (by first | rfl | simp) (by first | omega | (simp; omega) | simp)) | (refine Below.alloc ?_ (by first | omega | (simp; omega) | simp) _) | (refine Below.setCell ?_ (by first | omega | (simp; omega) | simp) _))
        ) (Nat.le_refl _) (by simp; omega) hgr
        clear hgr hat
        go_wp2
        go_roundw
        case rel => exact ⟨k + 1, by omega, by go_num, by rw [hyes.out (by simp)]; exact hown1, hg.trans hb1⟩
        case measure => simp [intOf]; omega
    · obtain rfl : k = m := by omega
      go_wp2
      go_ret
      exact ⟨_, rfl, hown.low (by omega), ((Grows.refl w).alloc _).below.trans (hg.mono (by omega))⟩
theorem right_join {a b : Lab} (h : labRight a.lv = true) (h' : labRight b.lv = true) : labRight (joinL a b).lv = true := by
  rw [joinL_yes h h']
  rw [labRight_iff] at *
  show 0 ≤ max a.lv b.lv ∧ max a.lv b.lv ≤ 7
  omega
theorem flows_joinL {a b : Lab} (h : labRight a.lv = true) (h' : labRight b.lv = true) : flowsL a (joinL a b) = true := by
  have hr := right_join h h'
  rw [joinL_yes h h'] at hr ⊢
  rw [flowsL_iff]
  exact ⟨h, hr, by show a.lv ≤ max a.lv b.lv; omega, fun k _ hx => by rw [joinL_bit, hx]; rfl⟩
theorem flows_joinR {a b : Lab} (h : labRight a.lv = true) (h' : labRight b.lv = true) : flowsL b (joinL a b) = true := by
  have hr := right_join h h'
  rw [joinL_yes h h'] at hr ⊢
  rw [flowsL_iff]
  exact ⟨h', hr, by show b.lv ≤ max a.lv b.lv; omega, fun k _ hx => by rw [joinL_bit, hx]; simp⟩
theorem join_least {a b c : Lab} (h : flowsL a c = true) (h' : flowsL b c = true) : flowsL (joinL a b) c = true := by
  have hr := right_join (flows_right h).1 (flows_right h').1
  rw [joinL_yes (flows_right h).1 (flows_right h').1] at hr ⊢
  rw [flowsL_iff] at h h' ⊢
  refine ⟨hr, h.2.1, by show max a.lv b.lv ≤ c.lv; omega, fun k hk hx => ?_⟩
  rw [joinL_bit, Bool.or_eq_true] at hx
  rcases hx with hx | hx
  · exact h.2.2.2 k hk hx
  · exact h'.2.2.2 k hk hx
theorem acc_right {xs : List Lab} : ∀ k, (∀ x ∈ xs.take k, labRight x.lv = true) → labRight (accL xs k).lv = true ∧ ∀ x ∈ xs.take k, flowsL x (accL xs k) = true
  | 0, _ => ⟨by show labRight 0 = true; decide, fun x hx => by simp at hx⟩
  | k + 1, h => by
    rcases hx : xs[k]? with _ | x
    · have e : xs.take (k + 1) = xs.take k := by rw [List.take_add_one, hx]; simp
      have e2 : accL xs (k + 1) = accL xs k := by unfold accL; rw [e]
      rw [e] at h
      rw [e2, e]; exact acc_right k h
    · have e : xs.take (k + 1) = xs.take k ++ [x] := by rw [List.take_add_one, hx]; simp
      rw [e] at h
      obtain ⟨h1, h2⟩ := acc_right (xs := xs) k (fun y hy => h y (List.mem_append_left _ hy))
      have hxr := h x (by simp)
      rw [accL_succ hx, e]
      refine ⟨right_join h1 hxr, fun y hy => ?_⟩
      rcases List.mem_append.1 hy with hy | hy
      · exact flows_trans (h2 y hy) (flows_joinL h1 hxr)
      · obtain rfl : y = x := by simpa using hy
        exact flows_joinR h1 hxr
theorem acc_least {xs : List Lab} {a : Lab} (ha : labRight a.lv = true) : ∀ k, (∀ x ∈ xs.take k, flowsL x a = true) → flowsL (accL xs k) a = true
  | 0, _ => by
    rw [flowsL_iff]
    exact ⟨by show labRight 0 = true; decide, ha, (labRight_iff.1 ha).1, fun k _ hx => by simp [accL] at hx⟩
  | k + 1, h => by
    rcases hx : xs[k]? with _ | x
    · have e : xs.take (k + 1) = xs.take k := by rw [List.take_add_one, hx]; simp
      have e2 : accL xs (k + 1) = accL xs k := by unfold accL; rw [e]
      rw [e] at h
      rw [e2]; exact acc_least ha k h
    · have e : xs.take (k + 1) = xs.take k ++ [x] := by rw [List.take_add_one, hx]; simp
      rw [e] at h
      rw [accL_succ hx]
      exact join_least (acc_least ha k (fun y hy => h y (List.mem_append_left _ hy))) (h x (by simp))
theorem top_join {y : Lab} (hy : y.ok) : joinL topL y = topL := by
  cases h : labRight y.lv
  · exact joinL_no (.inr h)
  · rw [joinL_yes (by decide) h]
    have := labRight_iff.1 h
    refine lab_ext ?_ ?_
    · show max 7 y.lv = 7; omega
    · refine bits_ext (Nat.or_lt_two_pow (n := 32) (by decide) hy) (by decide) fun k hk => ?_
      rw [joinL_bit]
      have h1 := not_bit (b := 0) (by omega) hk
      simp at h1
      show ((4294967295 : Nat).testBit k || y.c.testBit k) = (4294967295 : Nat).testBit k
      rw [h1]; rfl
theorem acc_top {xs : List Lab} (hok : ∀ x ∈ xs, x.ok) : ∀ k, (∃ x ∈ xs.take k, labRight x.lv = false) → accL xs k = topL
  | 0, h => by obtain ⟨x, hx, _⟩ := h; simp at hx
  | k + 1, h => by
    rcases hx : xs[k]? with _ | x
    · have e : xs.take (k + 1) = xs.take k := by rw [List.take_add_one, hx]; simp
      have e2 : accL xs (k + 1) = accL xs k := by unfold accL; rw [e]
      rw [e] at h
      rw [e2]; exact acc_top hok k h
    · have e : xs.take (k + 1) = xs.take k ++ [x] := by rw [List.take_add_one, hx]; simp
      rw [e] at h
      obtain ⟨y, hy, hyr⟩ := h
      rw [accL_succ hx]
      rcases List.mem_append.1 hy with hy | hy
      · rw [acc_top hok k ⟨y, hy, hyr⟩]
        exact top_join (hok x (List.mem_of_getElem? hx))
      · obtain rfl : y = x := by simpa using hy
        exact joinL_no (.inr hyr)
theorem aboveTo_pre {a : Lab} {xs : List Lab} {k : Nat} : ∀ m, k ≤ m → ∃ r, aboveTo a xs m = aboveTo a xs k ++ r
  | 0, h => by obtain rfl : k = 0 := by omega
               exact ⟨[], by simp⟩
  | m + 1, h => by
    by_cases e : k = m + 1
    · subst e; exact ⟨[], by simp⟩
    · obtain ⟨r, hr⟩ := aboveTo_pre (a := a) (xs := xs) (k := k) m (by omega)
      unfold aboveTo at hr ⊢
      rw [List.range_succ, List.filter_append, hr, List.append_assoc]
      exact ⟨_, rfl⟩
theorem aboveTo_get {a : Lab} {xs : List Lab} {k m : Nat} {x : Lab} (hk : k < m) (h : xs[k]? = some x) (hf : flowsL a x = true) : (aboveTo a xs m)[(aboveTo a xs k).length]? = some k := by
  obtain ⟨r, hr⟩ := aboveTo_pre (a := a) (xs := xs) (k := k + 1) m (by omega)
  rw [hr, aboveTo_yes h hf, List.append_assoc, List.getElem?_append_right (Nat.le_refl _)]
  simp
end Go.Proofs.YtfppagcifcppaaaDoor
