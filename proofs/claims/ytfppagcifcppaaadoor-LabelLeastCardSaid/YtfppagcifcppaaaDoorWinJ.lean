/- Windows: Read, the program's. -/
import Derived.Test.YtfppagcifcppaaaDoorWinI
namespace Go.Proofs.YtfppagcifcppaaaDoor
open Go.RowKit

def ReadPost (s : List UInt8) (w : World) (e : Ending) (w' : World) : Prop := ∃ x err, e = .returned (.tuple #[.agg (encW x).toArray, .int .i64 err]) ∧ ReadIs s x err ∧ Grows w w'
theorem cut_len (l sep : List UInt8) : (Lib.cut l sep).1.length ≤ l.length ∧ (Lib.cut l sep).2.1.length ≤ l.length := by
  unfold Lib.cut
  split
  · simp [List.length_take, List.length_drop]; omega
  · simp
set_option maxRecDepth 100000 in
set_option maxHeartbeats 3200000 in
theorem read_any (s : List UInt8) (hs : s.length ≤ 1000) (w : World) (he : LibEnv w) :
    Calls Tryd.prog 28 #[.string ⟨s.toArray⟩] w (ReadPost s w) := by
  have hsl := hs
  have k1 := cut_len s [58]
  have k2 := cut_len (Lib.cut s [58]).2.1 [43]
  have cA := fun W hW => cut_any ⟨s.toArray⟩ ⟨#[58]⟩ (by simp only [ByteArray.size, List.size_toArray]; omega) W (he.grows (w' := W) hW)
  have cB := fun W hW => cut_any ⟨(Lib.cut s [58]).2.1.toArray⟩ ⟨#[43]⟩ (by simp only [ByteArray.size, List.size_toArray]; omega) W (he.grows (w' := W) hW)
  have hgs : guess s = ⟨atoiV (Lib.cut s [58]).1, atoiV (Lib.cut (Lib.cut s [58]).2.1 [43]).1, atoiV (Lib.cut (Lib.cut s [58]).2.1 [43]).2.1⟩ := rfl
  have hG := guess_is s
  simp only at cA cB
  generalize (Lib.cut (Lib.cut s [58]).2.1 [43]).2.2 = ok2 at *
  generalize (Lib.cut (Lib.cut s [58]).2.1 [43]).1 = lb at *
  generalize (Lib.cut (Lib.cut s [58]).2.1 [43]).2.1 = lc at *
  generalize (Lib.cut s [58]).2.2 = ok1 at *
  generalize (Lib.cut s [58]).1 = la at *
  generalize (Lib.cut s [58]).2.1 = lr at *
  have cX : ∀ l : List UInt8, l.length ≤ 1000 → ∀ W, Grows w W → Calls Tryd.prog 64 #[.string ⟨l.toArray⟩] W (AtoiPost l W) := fun l hl W hW => atoi_any ⟨l.toArray⟩ (by simp only [ByteArray.size, List.size_toArray]; omega) W (he.grows hW)
  have cXa := cX la (by omega)
  have cXb := cX lb (by omega)
  have cXc := cX lc (by omega)
  have cT := fun W hW => text_any (guess s) W (he.grows (w' := W) hW)
  replace cA := Lib.hid cA
  replace cB := Lib.hid cB
  replace cXa := Lib.hid cXa
  replace cXb := Lib.hid cXb
  replace cXc := Lib.hid cXc
  replace hgs := Lib.hid hgs
  replace hG := Lib.hid hG
  replace cT := Lib.hid cT
  clear cX k1 k2 hsl
  go_enter Tryd.func28, Tryd.ntmps28
  go_wp2_with fail
  refine (cA.out _ (by
    repeat (first | assumption | exact Grows.refl _ | apply Grows.drew | apply Grows.drewN | refine Grows.alloc ?_ _ | (refine Grows.setCell ?_ (by first | (simp; done) | (simp; omega) | omega) _) | (refine Grows.trans ?_ (by assumption)))
  )).mono ?_
  rintro e w1 ⟨rfl, hb1⟩
  go_wp2_with fail
  refine (cB.out _ (by
    repeat (first | assumption | exact Grows.refl _ | apply Grows.drew | apply Grows.drewN | refine Grows.alloc ?_ _ | (refine Grows.setCell ?_ (by first | (simp; done) | (simp; omega) | omega) _) | (refine Grows.trans ?_ (by assumption)))
  )).mono ?_
  rintro e w2 ⟨rfl, hb2⟩
  have hw2 : Grows w w2 := by
    repeat (first | assumption | exact Grows.refl _ | apply Grows.drew | apply Grows.drewN | refine Grows.alloc ?_ _ | (refine Grows.setCell ?_ (by first | (simp; done) | (simp; omega) | omega) _) | (refine Grows.trans ?_ (by assumption)))
  have bl0 : Blk w2 w.heap.size 39 #[.int .i64 0, .int .i64 0, .int .i64 0] := ((Blk.new w _ _).grows hb1).grows hb2
  have sz1 := hw2.size
  go_wp2_with fail
  go_loopw [32] (fun vi wr => ∃ (k : Nat) (v0 v1 v2 : Int), vi = .int .i64 k ∧ k ≤ 3 ∧ Hid ((0 < k → v0 = atoiV la) ∧ (1 < k → v1 = atoiV lb) ∧ (2 < k → v2 = atoiV lc)) ∧ Blk wr w2.heap.size 39 #[.int .i64 v0, .int .i64 v1, .int .i64 v2] ∧
    Blk wr (w2.heap.size + 1) 89 #[.pointer (some ⟨w2.heap.size, 0, none⟩), .pointer (some ⟨w2.heap.size, 1, none⟩), .pointer (some ⟨w2.heap.size, 2, none⟩)] ∧ Grows w2 wr) (fun vi _ => 3 - (intOf vi).toNat)
  case atStart => exact ⟨0, 0, 0, 0, rfl, by omega, by simp [Hid], (Blk.new _ _ _).alloc _, by simpa using Blk.new (w2.alloc _) _ _, by
    repeat (first | assumption | exact Grows.refl _ | apply Grows.drew | apply Grows.drewN | refine Grows.alloc ?_ _ | (refine Grows.setCell ?_ (by first | (simp; done) | (simp; omega) | omega) _) | (refine Grows.trans ?_ (by assumption)))
  ⟩
  case round =>
    obtain ⟨k, v0, v1, v2, rfl, hk, hv, bA, bB, hg⟩ := hrel
    have hw3 := hw2.trans hg
    have sz2 := hg.size
    have szB := bB.lt
    have c0 : wr.cell? ⟨w2.heap.size, 0, none⟩ = some (.int .i64 v0) := bA.cell 0
    have c1 : wr.cell? ⟨w2.heap.size, 1, none⟩ = some (.int .i64 v1) := bA.cell 1
    have c2 : wr.cell? ⟨w2.heap.size, 2, none⟩ = some (.int .i64 v2) := bA.cell 2
    have p0 : wr.cell? ⟨w2.heap.size + 1, 0, none⟩ = some (.pointer (some ⟨w2.heap.size, 0, none⟩)) := bB.cell 0
    have p1 : wr.cell? ⟨w2.heap.size + 1, 1, none⟩ = some (.pointer (some ⟨w2.heap.size, 1, none⟩)) := bB.cell 1
    have p2 : wr.cell? ⟨w2.heap.size + 1, 2, none⟩ = some (.pointer (some ⟨w2.heap.size, 2, none⟩)) := bB.cell 2
    have hor : k = 0 ∨ k = 1 ∨ k = 2 ∨ k = 3 := by omega
    rcases hor with rfl | rfl | rfl | rfl
    · go_wp2_with (go_at_call 64; refine (cXa.out _ (hw3.alloc _)).mono ?_; rintro e w5 ⟨ev, rfl, _, hb5⟩; have d0 : w5.cell? ⟨w2.heap.size, 0, none⟩ = some (.int .i64 v0) := ((bA.alloc _).grows hb5).cell 0; have f0 : w5.frozen? ⟨w2.heap.size, 0, none⟩ = false := ((bA.alloc _).grows hb5).frozen 0)
      go_roundw
      case rel => exact ⟨1, atoiV la, v1, v2, by go_num, by omega, by simp [Hid], by simpa using ((bA.alloc _).grows hb5).set_ 0 (.int .i64 (atoiV la)), (((bB.alloc _).grows hb5).far (by simp) _), ((hg.alloc _).trans hb5).setCell (by simp) _⟩
      case measure => simp [intOf]
    · go_wp2_with (go_at_call 64; refine (cXb.out _ (hw3.alloc _)).mono ?_; rintro e w5 ⟨ev, rfl, _, hb5⟩; have d0 : w5.cell? ⟨w2.heap.size, 1, none⟩ = some (.int .i64 v1) := ((bA.alloc _).grows hb5).cell 1; have f0 : w5.frozen? ⟨w2.heap.size, 1, none⟩ = false := ((bA.alloc _).grows hb5).frozen 1)
      go_roundw
      case rel => exact ⟨2, v0, atoiV lb, v2, by go_num, by omega, ⟨fun _ => hv.out.1 (by omega), fun _ => rfl, fun h => absurd h (by omega)⟩, by simpa using ((bA.alloc _).grows hb5).set_ 1 (.int .i64 (atoiV lb)), (((bB.alloc _).grows hb5).far (by simp) _), ((hg.alloc _).trans hb5).setCell (by simp) _⟩
      case measure => simp [intOf]
    · go_wp2_with (go_at_call 64; refine (cXc.out _ (hw3.alloc _)).mono ?_; rintro e w5 ⟨ev, rfl, _, hb5⟩; have d0 : w5.cell? ⟨w2.heap.size, 2, none⟩ = some (.int .i64 v2) := ((bA.alloc _).grows hb5).cell 2; have f0 : w5.frozen? ⟨w2.heap.size, 2, none⟩ = false := ((bA.alloc _).grows hb5).frozen 2)
      go_roundw
      case rel => exact ⟨3, v0, v1, atoiV lc, by go_num, by omega, ⟨fun _ => hv.out.1 (by omega), fun _ => hv.out.2.1 (by omega), fun _ => rfl⟩, by simpa using ((bA.alloc _).grows hb5).set_ 2 (.int .i64 (atoiV lc)), (((bB.alloc _).grows hb5).far (by simp) _), ((hg.alloc _).trans hb5).setCell (by simp) _⟩
      case measure => simp [intOf]
    · obtain ⟨q0, q1, q2⟩ := hv.out
      obtain rfl := q0 (by omega)
      obtain rfl := q1 (by omega)
      obtain rfl := q2 (by omega)
      have bl1 := bl0.grows hg
      have hG' := hG.out
      have cT' := cT.out
      rw [hgs.out] at cT' hG'
      simp only at cT'
      clear hG cT hgs cA cB cXa cXb cXc hv q0 q1 q2 p0 p1 p2
      generalize atoiV la = v0 at *
      generalize atoiV lb = v1 at *
      generalize atoiV lc = v2 at *
      have fA : ∀ {W}, Grows wr W → W.cell? ⟨w2.heap.size, 0, none⟩ = some (.int .i64 v0) ∧ W.cell? ⟨w2.heap.size, 1, none⟩ = some (.int .i64 v1) ∧ W.cell? ⟨w2.heap.size, 2, none⟩ = some (.int .i64 v2) := fun h => ⟨(bA.grows h).cell 0, (bA.grows h).cell 1, (bA.grows h).cell 2⟩
      have fB : ∀ {W}, Grows wr W → W.cell? ⟨w.heap.size, 0, none⟩ = some (.int .i64 0) ∧ W.cell? ⟨w.heap.size, 1, none⟩ = some (.int .i64 0) ∧ W.cell? ⟨w.heap.size, 2, none⟩ = some (.int .i64 0) ∧ W.frozen? ⟨w.heap.size, 0, none⟩ = false ∧ W.frozen? ⟨w.heap.size, 1, none⟩ = false ∧ W.frozen? ⟨w.heap.size, 2, none⟩ = false := fun h => ⟨(bl1.grows h).cell 0, (bl1.grows h).cell 1, (bl1.grows h).cell 2, (bl1.grows h).frozen 0, (bl1.grows h).frozen 1, (bl1.grows h).frozen 2⟩
      by_cases hr : rightW ⟨v0, v1, v2⟩ = true
      · have h0 : errW ⟨v0, v1, v2⟩ = 0 := by unfold errW; rw [if_pos hr]
        by_cases ht : textW ⟨v0, v1, v2⟩ = s
        · have hfin := hG'.1 ⟨hr, ht⟩
          unfold TextPost at cT'
          rw [h0, ht] at cT'
          replace hfin := Lib.hid hfin
          replace cT' := Lib.hid cT'
          clear hG' h0 ht hr
          go_wp2_with (go_at_call 27; refine (cT'.out _ hw3).mono ?_; rintro e w5 ⟨rfl, hb5⟩; obtain ⟨d0, d1, d2⟩ := fA hb5; obtain ⟨e0, e1, e2, f0, f1, f2⟩ := fB hb5)
          have hgw : Grows w w5 := hw3.trans hb5
          have bl3 := (((bl1.grows hb5).set_ 0 (.int .i64 v0)).set_ 1 (.int .i64 v1)).set_ 2 (.int .i64 v2)
          have z0 : _ = some (Value.int .i64 v0) := bl3.cell 0
          have z1 : _ = some (Value.int .i64 v1) := bl3.cell 1
          have z2 : _ = some (Value.int .i64 v2) := bl3.cell 2
          refine bodyPost_ret (v := .tuple #[.agg #[.int .i64 v0, .int .i64 v1, .int .i64 v2], .int .i64 0]) ?_ rfl ⟨⟨v0, v1, v2⟩, 0, rfl, hfin.out, ?_⟩
          · simp [results, Tryd.results28, go_sem, z0, z1, z2]
          · repeat (first | assumption | exact Grows.refl _ | apply Grows.drew | apply Grows.drewN | refine Grows.alloc ?_ _ | (refine Grows.setCell ?_ (by first | (simp; done) | (simp; omega) | omega) _) | (refine Grows.trans ?_ (by assumption)))
        · have hfin := hG'.2 (fun h => ht h.2)
          unfold TextPost at cT'
          rw [h0] at cT'
          have hne : (!textW ⟨v0, v1, v2⟩ == s) = true := by simpa using ht
          generalize textW ⟨v0, v1, v2⟩ = tl at *
          replace hfin := Lib.hid hfin
          replace cT' := Lib.hid cT'
          clear hG' h0 ht hr
          go_wp2_with (go_at_call 27; refine (cT'.out _ hw3).mono ?_; rintro e w5 ⟨rfl, hb5⟩; obtain ⟨d0, d1, d2⟩ := fA hb5; obtain ⟨e0, e1, e2, f0, f1, f2⟩ := fB hb5)
          have hgw : Grows w w5 := hw3.trans hb5
          have bl3 := (((bl1.grows hb5).set_ 0 (.int .i64 0)).set_ 1 (.int .i64 0)).set_ 2 (.int .i64 0)
          have z0 : _ = some (Value.int .i64 0) := bl3.cell 0
          have z1 : _ = some (Value.int .i64 0) := bl3.cell 1
          have z2 : _ = some (Value.int .i64 0) := bl3.cell 2
          refine bodyPost_ret (v := .tuple #[.agg #[.int .i64 0, .int .i64 0, .int .i64 0], .int .i64 2]) ?_ rfl ⟨⟨0, 0, 0⟩, 2, rfl, hfin.out, ?_⟩
          · simp [results, Tryd.results28, go_sem, z0, z1, z2]
          · repeat (first | assumption | exact Grows.refl _ | apply Grows.drew | apply Grows.drewN | refine Grows.alloc ?_ _ | (refine Grows.setCell ?_ (by first | (simp; done) | (simp; omega) | omega) _) | (refine Grows.trans ?_ (by assumption)))
      · have h0 : errW ⟨v0, v1, v2⟩ = 1 := by unfold errW; rw [if_neg hr]
        have hfin := hG'.2 (fun h => hr h.1)
        unfold TextPost at cT'
        rw [h0] at cT'
        generalize textW ⟨v0, v1, v2⟩ = tl at *
        replace hfin := Lib.hid hfin
        replace cT' := Lib.hid cT'
        clear hG' h0 hr
        go_wp2_with (go_at_call 27; refine (cT'.out _ hw3).mono ?_; rintro e w5 ⟨rfl, hb5⟩; obtain ⟨d0, d1, d2⟩ := fA hb5; obtain ⟨e0, e1, e2, f0, f1, f2⟩ := fB hb5)
        have hgw : Grows w w5 := hw3.trans hb5
        have bl3 := (((bl1.grows hb5).set_ 0 (.int .i64 0)).set_ 1 (.int .i64 0)).set_ 2 (.int .i64 0)
        have z0 : _ = some (Value.int .i64 0) := bl3.cell 0
        have z1 : _ = some (Value.int .i64 0) := bl3.cell 1
        have z2 : _ = some (Value.int .i64 0) := bl3.cell 2
        refine bodyPost_ret (v := .tuple #[.agg #[.int .i64 0, .int .i64 0, .int .i64 0], .int .i64 2]) ?_ rfl ⟨⟨0, 0, 0⟩, 2, rfl, hfin.out, ?_⟩
        · simp [results, Tryd.results28, go_sem, z0, z1, z2]
        · repeat (first | assumption | exact Grows.refl _ | apply Grows.drew | apply Grows.drewN | refine Grows.alloc ?_ _ | (refine Grows.setCell ?_ (by first | (simp; done) | (simp; omega) | omega) _) | (refine Grows.trans ?_ (by assumption)))
end Go.Proofs.YtfppagcifcppaaaDoor
