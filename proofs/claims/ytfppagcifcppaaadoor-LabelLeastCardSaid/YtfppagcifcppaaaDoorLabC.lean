/- Labels: the program's Teams. -/
import Derived.Test.YtfppagcifcppaaaDoorLabB
import Derived.Laws.ShiftsVarLaws
namespace Go.Proofs.YtfppagcifcppaaaDoor
open Go.RowKit

theorem Own.low {α : Type} {w : World} {b b' k : Nat} {e : TypeId} {enc : α → List Value} {v : Value} {xs : List α} (h : Own w b e k enc v xs) (hb : b' ≤ b) : Own w b' e k enc v xs := by
  refine ⟨h.1, ?_⟩
  rcases h.2 with h2 | ⟨g, cap, cur, h1, h2, h3⟩
  · exact .inl h2
  · exact .inr ⟨g, cap, cur, h1, Nat.le_trans hb h2, h3⟩
theorem and_one (c k : Nat) (hc : c < 4294967296) : (bits .and .u32 ((c : Int) / 2 ^ k) 1 == 1) = c.testBit k := by
  have h0 : c / 2 ^ k < 4294967296 := Nat.lt_of_le_of_lt (Nat.div_le_self _ _) hc
  have h1 := u32_and_nat (c / 2 ^ k) 1 h0 (by decide)
  have h2 : ((c / 2 ^ k : Nat) : Int) = (c : Int) / 2 ^ k := by simp
  rw [h2] at h1
  rw [show bits .and .u32 ((c : Int) / 2 ^ k) 1 = bits .and .u32 ((c : Int) / 2 ^ k) ((1 : Nat) : Int) from rfl, h1, Nat.and_one_is_mod, testBit_div, Bool.eq_iff_iff, beq_iff_eq, decide_eq_true_eq]
  omega

set_option maxRecDepth 100000 in
set_option maxHeartbeats 1600000 in
theorem lTeams_any (x : Lab) (w : World) (hx : x.ok) :
    Calls Tryd.prog 51 #[.agg #[.int .i64 x.lv, .int .u32 (x.c : Int)]] w fun e w' => ∃ v, e = .returned v ∧ Own w' w.heap.size 3 1 encI v (teams x.c) ∧ Grows w w' := by
  replace hx := Lib.hid hx
  go_enter Tryd.func51, Tryd.ntmps51
  go_wp2
  go_loopw [3, 5] (fun v i wr => ∃ (k : Nat), k ≤ 32 ∧ i = .int .i64 k ∧ Own wr (w.heap.size + 1) 3 1 encI v (bitsTo x.c k) ∧ Below (w.heap.size + 1) (w.alloc (.cells #[.int .i64 x.lv, .int .u32 (x.c : Int)] 62)) wr) (fun _ i _ => 32 - (intOf i).toNat)
  case atStart => exact ⟨0, by omega, rfl, Own.nil_ _ _ _ _ _, Below.refl _ _⟩
  case round =>
    obtain ⟨k, hk, rfl, hown, hg⟩ := hrel
    by_cases hlt : k < 32
    · have c1 : wr.cell? ⟨w.heap.size, 1, none⟩ = some (.int .u32 (x.c : Int)) := (Below.cell (p := ⟨w.heap.size, 1, none⟩) hg (by simp)).trans (by simp)
      have hr1 := and_one x.c k hx.out
      have hl := bitsTo_len x.c k
      have hsz := hg.size
      simp only [World.size_alloc] at hsz
      replace hl := Lib.hid hl
      cases hb : x.c.testBit k
      · rw [hb] at hr1
        have hno := Lib.hid (bitsTo_no hb)
        clear hb
        go_wp2
        go_roundw
        case rel => exact ⟨k + 1, by omega, by go_num, by rw [hno.out]; exact hown, hg⟩
        case measure => simp [intOf]; omega
      · rw [hb] at hr1
        have hyes := Lib.hid (bitsTo_yes hb)
        clear hb
        go_wp2_with (at_builtin; refine wpList_grown (x := k) T_ii rfl (.tmp 14) (.tmp 16) rfl (hown.alloc _) rfl ⟨wr.heap.size, 0, none⟩ rfl rfl (news_of (by exact heap_alloc_new wr _)) (oneI k) (by simp; omega) (by have := hl.out; unfold maxLen; omega) (by have := hl.out; omega) (fun v1 w1 hown1 hgr hat => ?_))
        have hb1 : Below (w.heap.size + 1) wr w1 := Own.below (hown.alloc _) (by
          repeat (first | assumption | exact Below.refl _ _ | apply Below.drew | apply below_drewN | (refine Below.alloc2t ?_ (by first | rfl | simp) (by first | omega | (simp; omega) | simp)) | (refine Below.alloc ?_ (by first | omega | (simp; omega) | simp) _) | (refine Below.setCell ?_ (by first | omega | (simp; omega) | simp) _))
        ) (Nat.le_refl _) (by simp; omega) hgr
        clear hgr hat
        go_wp2
        go_roundw
        case rel => exact ⟨k + 1, by omega, by go_num, by rw [hyes.out]; exact hown1, hg.trans hb1⟩
        case measure => simp [intOf]; omega
    · obtain rfl : k = 32 := by omega
      go_wp2
      go_ret
      exact ⟨u3, rfl, hown.low (by omega), ((Grows.refl w).alloc _).below.trans (hg.mono (by omega))⟩
end Go.Proofs.YtfppagcifcppaaaDoor
