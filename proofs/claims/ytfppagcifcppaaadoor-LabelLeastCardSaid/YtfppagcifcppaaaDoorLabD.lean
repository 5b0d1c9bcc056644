/- Labels: the reference's label of teams. -/
import Derived.Test.YtfppagcifcppaaaDoorLabC
namespace Go.Proofs.YtfppagcifcppaaaDoor
open Go.RowKit

theorem sumT_snoc {ts : List Nat} {k t : Nat} (h : ts[k]? = some t) : sumT (ts.take (k + 1)) = sumT (ts.take k) + 2 ^ t := by
  unfold sumT; rw [List.take_add_one, h]; simp [List.sum_append]
theorem sumT_take_lt {ts : List Nat} (hn : ts.Nodup) (hlt : ∀ k ∈ ts, k < 32) (k : Nat) : sumT (ts.take k) < 4294967296 :=
  (sumT_bits (List.Pairwise.sublist (List.take_sublist k ts) hn) (fun j hj => hlt j ((List.take_sublist k ts).mem hj))).1
theorem w32 {x : Int} (h0 : 0 ≤ x) (h1 : x < 4294967296) : IntKind.u32.wrap x = x := by rw [IntKind.wrap_u32']; omega
theorem pow_lt {t : Nat} (h : t ≤ 31) : (2 : Nat) ^ t ≤ 2147483648 := Nat.le_trans (Nat.pow_le_pow_right (by decide) h) (by decide)

set_option maxRecDepth 100000 in
set_option maxHeartbeats 1600000 in
theorem of_any (lv : Int) (A : Option Addr) (m c : Nat) (ts : List Nat) (w : World) (h : Arr w 1 encI A m ts) (hm : m ≤ maxLen) (hn : ts.Nodup) (hlt : ∀ k ∈ ts, k < 32) :
    Calls Tryd.prog 70 #[.int .i64 lv, .slice A m c] w fun e w' => e = .returned (.agg #[.int .i64 lv, .int .u32 (sumT ts : Nat)]) ∧ Grows w w' := by
  unfold maxLen at hm
  have hlen := h.1
  have hall := sumT_take_lt hn hlt
  replace hlen := Lib.hid hlen
  replace hall := Lib.hid hall
  replace hlt := Lib.hid hlt
  replace hn := Lib.hid hn
  go_enter Tryd.func70, Tryd.ntmps70
  go_wp2
  go_loopw [6] (fun i wr => ∃ (k : Nat) (S : Int), k ≤ m ∧ i = .int .i64 k ∧ Hid (S = (sumT (ts.take k) : Nat)) ∧ 0 ≤ S ∧ Blk wr (w.heap.size + 1) 62 #[.int .i64 lv, .int .u32 S] ∧ Blk wr w.heap.size 62 #[.int .i64 0, .int .u32 0] ∧ Grows w wr) (fun i _ => m - (intOf i).toNat)
  case atStart => exact ⟨0, 0, by omega, rfl, by simp [Hid, sumT], by omega, Blk.new1 w _ _ _, (Blk.new w _ _).alloc _, ((Grows.refl w).alloc _).alloc _⟩
  case round =>
    obtain ⟨k, S, hk, rfl, hS, hS0, bA, bR, hg⟩ := hrel
    have a0 : wr.cell? ⟨w.heap.size + 1, 0, none⟩ = some (.int .i64 lv) := bA.cell 0
    have a1 : wr.cell? ⟨w.heap.size + 1, 1, none⟩ = some (.int .u32 S) := bA.cell 1
    have fa := bA.frozen 1
    have r0 : wr.cell? ⟨w.heap.size, 0, none⟩ = some (.int .i64 0) := bR.cell 0
    have r1 : wr.cell? ⟨w.heap.size, 1, none⟩ = some (.int .u32 0) := bR.cell 1
    have fr0 := bR.frozen 0
    have fr1 := bR.frozen 1
    by_cases hkm : k < m
    · obtain ⟨b, off, t, rfl, _, hx, hcell⟩ := (h.keep hg).at_ hkm
      have c0 : wr.cell? ⟨b, off + k, none⟩ = some (.int .i64 t) := by simpa using hcell 0 _ rfl
      have ht : t ≤ 31 := by have := hlt.out t (List.mem_of_getElem? hx); omega
      have hsn := sumT_snoc hx
      have hb2 := hall.out (k + 1)
      have hpt := pow_lt ht
      have hT0 : (0 : Int) ≤ ((2 ^ t : Nat) : Int) := Int.natCast_nonneg _
      have hfin : ((sumT (ts.take (k + 1)) : Nat) : Int) = S + ((2 ^ t : Nat) : Int) := by rw [hsn, hS.out]; simp
      have hbd : S + ((2 ^ t : Nat) : Int) < 4294967296 := by omega
      obtain ⟨T, hT⟩ : ∃ T : Int, T = ((2 ^ t : Nat) : Int) := ⟨_, rfl⟩
      rw [← hT] at hfin hbd hT0
      have hw := w32 (x := S + T) (by omega) hbd
      replace hT := Lib.hid hT
      replace hfin := Lib.hid hfin
      have hh := Lib.hid h
      clear hsn hb2 hpt hx hcell hbd h
      go_wp2
      go_loop [7, 8] (fun vb vj => ∃ (q : Nat) (B : Int), q ≤ t ∧ vj = .int .i64 q ∧ vb = .int .u32 B ∧ 0 ≤ B ∧ Hid (B = ((2 ^ q : Nat) : Int))) (fun _ vj => t - (intOf vj).toNat)
      case atStart => exact ⟨0, 1, by omega, rfl, rfl, by omega, by simp [Hid]⟩
      case round =>
        obtain ⟨q, B, hq, rfl, rfl, hB0, hB⟩ := hrel
        by_cases hqt : q < t
        · have hp := pow_lt (t := q + 1) (by omega)
          have hB2 : B * 2 = ((2 ^ (q + 1) : Nat) : Int) := by rw [hB.out, Nat.pow_succ]; simp
          have hw2 := w32 (x := B * 2) (by omega) (by omega)
          replace hB2 := Lib.hid hB2
          clear hp hB
          go_wp2
          go_round
          case rel => exact ⟨q + 1, B * 2, by omega, by go_num, rfl, by omega, hB2.out⟩
          case measure => simp [intOf]; omega
        · obtain rfl : q = t := by omega
          obtain rfl : B = T := hB.out.trans hT.out.symm
          go_wp2
          go_roundw
          case rel => exact ⟨k + 1, S + B, by omega, by go_num, hfin.out.symm, by omega, bA.set_ 1 _, bR.far (by simp) _, hg.setCell (by simp) _⟩
          case measure => simp [intOf]; omega
    · obtain rfl : k = m := by omega
      have hfin : S = (sumT ts : Nat) := by rw [hS.out, List.take_of_length_le (Nat.le_of_eq hlen.out)]
      replace hfin := Lib.hid hfin
      clear hS
      go_wp2
      refine bodyPost_ret (v := .agg #[.int .i64 lv, .int .u32 S]) ?_ rfl ⟨by rw [hfin.out], ?_⟩
      · simp [results, Tryd.results70, go_sem, r0, r1]
      · exact Grows.setCell (Grows.setCell hg (by simp) _) (by simp) _
end Go.Proofs.YtfppagcifcppaaaDoor
