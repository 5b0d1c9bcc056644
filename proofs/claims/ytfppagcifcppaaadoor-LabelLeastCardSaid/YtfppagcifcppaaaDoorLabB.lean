/- Labels: the teams of a label, the program's and the reference's; is a number in a list. -/
import Derived.Test.YtfppagcifcppaaaDoorLabA
namespace Go.Proofs.YtfppagcifcppaaaDoor
open Go.RowKit

def encI (n : Nat) : List Value := [.int .i64 (n : Int)]
theorem hkI (n : Nat) : (encI n).length = 1 := rfl
theorem oneI (n : Nat) : ∀ u ∈ encI n, u.oneCell' = true := by intro u hu; simp [encI] at hu; subst hu; rfl
theorem T_ii : SliceT Tryd.prog 74 3 1 8 := SliceT.mk' (z := .int .i64 0) Tryd.underlying74 (by kernel_rfl) rfl (by omega)
def bitsTo (c k : Nat) : List Nat := (List.range k).filter fun j => c.testBit j
theorem bitsTo_all (c : Nat) : bitsTo c 32 = teams c := rfl
theorem bitsTo_yes {c k : Nat} (h : c.testBit k = true) : bitsTo c (k + 1) = bitsTo c k ++ [k] := by
  unfold bitsTo; rw [List.range_succ, List.filter_append]; simp [h]
theorem bitsTo_no {c k : Nat} (h : c.testBit k = false) : bitsTo c (k + 1) = bitsTo c k := by
  unfold bitsTo; rw [List.range_succ, List.filter_append]; simp [h]
theorem bitsTo_len (c k : Nat) : (bitsTo c k).length ≤ k := by
  unfold bitsTo; exact Nat.le_trans (List.length_filter_le _ _) (by simp)
theorem teams_len (c : Nat) : (teams c).length ≤ 32 := bitsTo_len c 32
theorem testBit_div (c k : Nat) : c.testBit k = decide (c / 2 ^ k % 2 = 1) := by
  rw [Nat.testBit_eq_decide_div_mod_eq]

set_option maxRecDepth 100000 in
set_option maxHeartbeats 1600000 in
theorem refTeams_any (x : Lab) (w : World) (hx : x.ok) :
    Calls Tryd.prog 52 #[.agg #[.int .i64 x.lv, .int .u32 (x.c : Int)]] w fun e w' => ∃ v, e = .returned v ∧ Own w' w.heap.size 3 1 encI v (teams x.c) ∧ Grows w w' := by
  have hxc : (x.c : Int) < 4294967296 := by unfold Lab.ok at hx; omega
  go_enter Tryd.func52, Tryd.ntmps52
  go_wp2
  go_loopw [3, 4, 5] (fun v r i wr => ∃ (k : Nat) (R : Int), k ≤ 32 ∧ i = .int .i64 k ∧ r = .int .u32 R ∧ 0 ≤ R ∧ R < 4294967296 ∧ Hid (R = ((x.c / 2 ^ k : Nat) : Int)) ∧ Own wr w.heap.size 3 1 encI v (bitsTo x.c k) ∧ Grows w wr) (fun _ _ i _ => 32 - (intOf i).toNat)
  case atStart => exact ⟨0, x.c, by omega, rfl, rfl, by omega, hxc, (by simp : (x.c : Int) = ((x.c / 2 ^ 0 : Nat) : Int)), Own.nil_ _ _ _ _ _, (Grows.refl w).alloc _⟩
  case round =>
    obtain ⟨k, R, hk, rfl, rfl, hR0, hR, hRk, hown, hg⟩ := hrel
    by_cases hlt : k < 32
    · have hnext : R / 2 = ((x.c / 2 ^ (k + 1) : Nat) : Int) := by rw [hRk.out, Nat.pow_succ, ← Nat.div_div_eq_div_mul]; omega
      have hbit := testBit_div x.c k
      have hRk' := hRk.out
      have hl := bitsTo_len x.c k
      have hsz := hg.size
      replace hnext := Lib.hid hnext
      clear hxc hx
      cases hb : x.c.testBit k
      · have hr1 : R % 2 = 0 := by
          rw [hb] at hbit; simp only [Bool.false_eq, decide_eq_false_iff_not] at hbit
          omega
        have hno := Lib.hid (bitsTo_no hb)
        clear hb hbit hRk hRk' hl
        go_wp2
        go_roundw
        case rel => exact ⟨k + 1, R / 2, by omega, by go_num, rfl, by omega, by omega, hnext.out, by rw [hno.out]; exact hown, hg⟩
        case measure => simp [intOf]; omega
      · have hr1 : R % 2 = 1 := by
          rw [hb] at hbit; simp only [Bool.true_eq, decide_eq_true_eq] at hbit
          omega
        have hyes := Lib.hid (bitsTo_yes hb)
        clear hb hbit hRk hRk'
        replace hl := Lib.hid hl
        go_wp2_with (at_builtin; refine wpList_grown (x := k) T_ii rfl (.tmp 15) (.tmp 17) rfl (hown.alloc _) rfl ⟨wr.heap.size, 0, none⟩ rfl rfl (news_of (by exact heap_alloc_new wr _)) (oneI k) (by simp; omega) (by have := hl.out; unfold maxLen; omega) (by have := hl.out; omega) (fun v1 w1 hown1 hgr hat => ?_))
        have hb1 : Below w.heap.size wr w1 := Own.below (hown.alloc _) (by
          repeat (first | assumption | exact Below.refl _ _ | apply Below.drew | apply below_drewN | (refine Below.alloc2t ?_ (by first | rfl | simp) (by first | omega | (simp; omega) | simp)) | (refine Below.alloc ?_ (by first | omega | (simp; omega) | simp) _) | (refine Below.setCell ?_ (by first | omega | (simp; omega) | simp) _))
        ) (Nat.le_refl _) (by simp; omega) hgr
        clear hgr hat
        go_wp2
        go_roundw
        case rel => exact ⟨k + 1, R / 2, by omega, by go_num, rfl, by omega, by omega, hnext.out, by rw [hyes.out]; exact hown1, hg.then_ hb1⟩
        case measure => simp [intOf]; omega
    · obtain rfl : k = 32 := by omega
      clear hRk
      go_wp2
      go_ret
      exact ⟨u3, rfl, hown, hg⟩

set_option maxRecDepth 100000 in
set_option maxHeartbeats 1600000 in
theorem has_any (A : Option Addr) (m c : Nat) (xs : List Nat) (j : Nat) (w : World) (h : Arr w 1 encI A m xs) (hm : m ≤ maxLen) (g : FuncId) (hgf : g = 69) :
    Calls Tryd.prog g #[.slice A m c, .int .i64 j] w fun e w' => e = .returned (.bool (decide (j ∈ xs))) ∧ w' = w := by
  subst hgf
  unfold maxLen at hm
  have hlen := h.1
  go_enter Tryd.func69, Tryd.ntmps69
  go_wp2
  go_loop [5] (fun i => ∃ k : Nat, k ≤ m ∧ i = .int .i64 k ∧ Hid (j ∉ xs.take k)) (fun i => m - (intOf i).toNat)
  case atStart => exact ⟨0, by omega, rfl, by simp [Hid]⟩
  case round =>
    obtain ⟨k, hk, rfl, hno⟩ := hrel
    by_cases hlt : k < m
    · obtain ⟨b, off, y, rfl, _, hy, hcell⟩ := h.at_ hlt
      have c0 : w.cell? ⟨b, off + k, none⟩ = some (.int .i64 y) := by simpa using hcell 0 _ rfl
      by_cases hyj : y = j
      · have hb : ((y : Int) == (j : Int)) = true := by simp [hyj]
        have hfin : decide (j ∈ xs) = true := by rw [decide_eq_true_eq, ← hyj]; exact List.mem_of_getElem? hy
        replace hfin := Lib.hid hfin
        clear hyj hno hy hcell h hlen
        go_wp2
        go_ret
        exact ⟨ret_bool hfin.out.symm, rfl⟩
      · have hb : ((y : Int) == (j : Int)) = false := by rw [beq_eq_false_iff_ne]; omega
        have hno2 : j ∉ xs.take (k + 1) := by
          rw [List.take_add_one, hy]; simp [hno.out, Ne.symm hyj]
        replace hno2 := Lib.hid hno2
        clear hyj hno hy hcell h hlen
        go_wp2
        go_round
        case rel => exact ⟨k + 1, by omega, by go_num, hno2.out⟩
        case measure => simp [intOf]; omega
    · obtain rfl : k = m := by omega
      have hfin : decide (j ∈ xs) = false := by rw [decide_eq_false_iff_not, ← List.take_of_length_le (Nat.le_of_eq hlen)]; exact hno.out
      replace hfin := Lib.hid hfin
      clear hno h hlen
      go_wp2
      go_ret
      exact ⟨ret_bool hfin.out.symm, rfl⟩
end Go.Proofs.YtfppagcifcppaaaDoor
