/- The library's iterator over the parts of a text: its word. -/
import Derived.Test.YtfppagcifcppaaaDoorSeqBox
import Derived.Test.YtfppagcifcppaaaDoorLabP
import Derived.Test.YtfppagcifcppaaaDoorOwn
import Derived.Test.YtfppagcifcppaaaDoorShelf2
import Derived.RangeFuncBox
namespace Go.Proofs.YtfppagcifcppaaaDoor
open Go.RowKit Go.Shelf

attribute [local go_sem] Oper.semAt_some

def leftS (B : Nat) (w : World) : Nat := match w.cell? ⟨B, 0, none⟩ with
  | some (.string s) => s.size
  | _ => 0
theorem leftS_eq {B : Nat} {w : World} {t : TypeId} {l : List UInt8} (h : Blk w B t #[.string ⟨l.toArray⟩]) : leftS B w = l.length := by
  unfold leftS
  rw [h.cell 0]
  simp [ByteArray.size]
theorem splitF_step {c : UInt8} {n : Nat} {s : List UInt8} (h : 0 ≤ Lib.index s [c]) : splitF c (n + 1) s = s.take (Lib.index s [c]).toNat :: splitF c n (s.drop ((Lib.index s [c]).toNat + 1)) := by
  conv => lhs; unfold splitF
  rw [if_pos h]
theorem splitF_stop {c : UInt8} {n : Nat} {s : List UInt8} (h : ¬ 0 ≤ Lib.index s [c]) : splitF c n s = [s] := by
  cases n with
  | zero => rfl
  | succ n => unfold splitF; rw [if_neg h]
theorem splitF_nil {c : UInt8} {s : List UInt8} (h : s.length = 0) : ¬ 0 ≤ Lib.index s [c] := fun h1 => by
  have := index_found h1
  rw [List.eq_nil_of_length_eq_zero h] at this; cases this

set_option maxRecDepth 100000 in
set_option maxHeartbeats 3200000 in
theorem splitSeq_box (n B : Nat) (s : List UInt8) (hs : s.length ≤ 1000) (w : World) (bS : Blk w B 9 #[.string ⟨s.toArray⟩]) (bP : Blk w (B + 1) 9 #[.string ⟨#[44]⟩]) (bV : Blk w (B + 2) 3 #[.int .i64 0]) :
    SeqBox Tryd.prog n 92 #[.pointer (some ⟨B + 1, 0, none⟩), .pointer (some ⟨B, 0, none⟩), .pointer (some ⟨B + 2, 0, none⟩)] (fun x : List UInt8 => #[.string ⟨x.toArray⟩]) (splitF 44 s.length s) [B, B + 1, B + 2] w := by
  intro l J Jx W hS hsz hJ hJx hY h0
  have bS1 : Blk W B 9 #[.string ⟨s.toArray⟩] := (hS B (by simp)).trans bS
  have bP1 : Blk W (B + 1) 9 #[.string ⟨#[44]⟩] := (hS (B + 1) (by simp)).trans bP
  have bV1 : Blk W (B + 2) 3 #[.int .i64 0] := (hS (B + 2) (by simp)).trans bV
  have p0 : W.cell? ⟨B + 1, 0, none⟩ = some (.string ⟨#[44]⟩) := bP1.cell 0
  refine callsIn_of_wp Tryd.func92 rfl trivial ?_ rfl
  simp only [Tryd.ntmps92, List.size_toArray, List.length_cons, List.length_nil, Nat.reduceAdd, Nat.reduceSub, Array.replicate_succ, Array.replicate_zero, List.push_toArray, List.append_toArray, List.nil_append, List.cons_append]
  gi_wp2_with fail
  gi_loopw [7, 8] (fun _ _ wr => ∃ (pre : List (List UInt8)) (cur : List UInt8) (k : Nat), splitF 44 s.length s = pre ++ splitF 44 k cur ∧ cur.length ≤ k ∧ k ≤ 1000 ∧ J pre wr ∧ Blk wr B 9 #[.string ⟨cur.toArray⟩] ∧ Blk wr (B + 1) 9 #[.string ⟨#[44]⟩] ∧ Blk wr (B + 2) 3 #[.int .i64 0]) (fun _ _ wr => leftS B wr)
  case atStart => exact ⟨[], s, s.length, rfl, Nat.le_refl _, hs, h0, bS1, bP1, bV1⟩
  case round =>
    obtain ⟨pre, cur, k, hx, hck, hk, hj, bS, bP, bV⟩ := hrel
    have c0 : wr.cell? ⟨B, 0, none⟩ = some (.string ⟨cur.toArray⟩) := bS.cell 0
    have p0 : wr.cell? ⟨B + 1, 0, none⟩ = some (.string ⟨#[44]⟩) := bP.cell 0
    have v0 : wr.cell? ⟨B + 2, 0, none⟩ = some (.int .i64 0) := bV.cell 0
    have fS := bS.frozen 0
    have cX := Any.strings_Index_one Tryd.lays143 ⟨cur.toArray⟩ 44 wr
    rw [← Lib.index_one] at cX
    simp only at cX
    have hge := Lib.index_ge cur [44]
    by_cases hi : 0 ≤ Lib.index cur [44]
    · have hroom := Lib.index_room cur [44] hi
      simp only [List.length_cons, List.length_nil] at hroom
      obtain ⟨k, rfl⟩ : ∃ k', k = k' + 1 := ⟨k - 1, by omega⟩
      rw [splitF_step hi] at hx
      obtain ⟨i, hii⟩ := Int.eq_ofNat_of_zero_le hi
      rw [hii] at cX hx hroom
      rw [Int.toNat_natCast] at hx
      clear hi hge
      obtain ⟨fn, tmps, assign, body, hy, hR⟩ := hY pre (cur.take i) wr hj (by rw [hx]; exact ⟨splitF 44 k (cur.drop (i + 1)), by simp⟩)
      replace cX := Lib.hid cX
      have hx1 : (⟨cur.toArray⟩ : ByteArray).extract 0 i = ⟨(cur.take i).toArray⟩ := ByteArray.ext (by simp)
      have hx2 : (⟨cur.toArray⟩ : ByteArray).extract (i + 1) cur.length = ⟨(cur.drop (i + 1)).toArray⟩ := by
        apply ByteArray.ext
        simp
        exact List.take_of_length_le (by simp)
      gi_wp2_with fail
      refine ⟨trivial, (callsIn_wide.2 cX.out).mono ?_⟩
      rintro e w2 ⟨rfl, rfl⟩
      gi_wp2_with fail
      refine hR.mono ?_
      rintro e W3 (⟨rfl, hJ3, hk3⟩ | ⟨rfl, hJx3⟩)
      · have bS3 : Blk W3 B 9 #[.string ⟨cur.toArray⟩] := (hk3 B (by simp)).trans bS
        have bP3 : Blk W3 (B + 1) 9 #[.string ⟨#[44]⟩] := (hk3 (B + 1) (by simp)).trans bP
        have bV3 : Blk W3 (B + 2) 3 #[.int .i64 0] := (hk3 (B + 2) (by simp)).trans bV
        have c3 : W3.cell? ⟨B, 0, none⟩ = some (.string ⟨cur.toArray⟩) := bS3.cell 0
        have p3 : W3.cell? ⟨B + 1, 0, none⟩ = some (.string ⟨#[44]⟩) := bP3.cell 0
        have fS3 := bS3.frozen 0
        gi_wp2_with fail
        go_roundw
        case rel => exact ⟨pre ++ [cur.take i], cur.drop (i + 1), k, by rw [hx]; simp, by simp; omega, by omega, hJ _ _ _ _ hJ3 (grownBy_setCell' _ _ _) (fun r e => by cases e; simp), bS3.set_ 0 _, bP3.far (by simp) _, bV3.far (by simp) _⟩
        case measure => rw [leftS_eq (bS3.set_ 0 _), leftS_eq bS]; simp; omega
      · gi_wp2_with fail
        refine bodyPost_ret (results_none rfl _ _ _) rfl ?_
        exact ⟨⟨_, rfl⟩, .inr ⟨pre ++ [cur.take i], by rw [hx]; exact ⟨splitF 44 k (cur.drop (i + 1)), by simp⟩, hJx3⟩⟩
    · rw [splitF_stop hi] at hx
      have hlt : Lib.index cur [44] < 0 := by omega
      obtain ⟨fn, tmps, assign, body, hy, hR⟩ := hY pre cur wr hj (by rw [hx]; exact ⟨[], by simp⟩)
      generalize Lib.index cur [44] = i at *
      replace cX := Lib.hid cX
      gi_wp2_with fail
      refine ⟨trivial, (callsIn_wide.2 cX.out).mono ?_⟩
      rintro e w2 ⟨rfl, rfl⟩
      gi_wp2_with fail
      refine hR.mono ?_
      rintro e W3 (⟨rfl, hJ3, hk3⟩ | ⟨rfl, hJx3⟩)
      · gi_wp2_with fail
        go_end0
        exact ⟨⟨_, rfl⟩, .inl (by rw [hx]; exact hJ3)⟩
      · gi_wp2_with fail
        go_end0
        exact ⟨⟨_, rfl⟩, .inr ⟨pre ++ [cur], by rw [hx]; exact List.prefix_rfl, hJx3⟩⟩
end Go.Proofs.YtfppagcifcppaaaDoor
