/- The reference's Find and Raised. -/
import Derived.Test.YtfoffneipdkdjaaGreatDoorBs14
import Derived.Test.YtfoffneipdkdjaaGreatDoorBsLabF
import Derived.Test.YtfoffneipdkdjaaGreatDoorBs8
namespace Go.Proofs.YtfoffneipdkdjaaGreatDoor
open Go.RowKit

theorem any_take_succ {α : Type} {q : α → Bool} {l : List α} {k : Nat} {x : α} (h : l[k]? = some x) : (l.take (k + 1)).any q = ((l.take k).any q || q x) := by
  rw [List.take_add_one, h]; simp
set_option maxRecDepth 100000 in
set_option maxHeartbeats 1600000 in
theorem rfind_any {A : Option Addr} {m c : Nat} {l : List Nam} {n : List UInt8} (w : World) (h : Arr w 3 encN A m l) (hm : m ≤ 9223372036854775807) :
    Calls Tryz.prog 46 #[.slice A m c, .string ⟨n.toArray⟩] w fun e w' => e = .returned (.tuple #[.agg #[.int .i64 (labOf (findL l n)).lv, .int .u32 ((labOf (findL l n)).c : Int)], .bool (findL l n).isSome]) ∧ Grows w w' := by
  have hml := Lib.hid h.1
  obtain ⟨R, hR⟩ : ∃ R, R = findL l n := ⟨_, rfl⟩
  rw [← hR]
  replace hR := Lib.hid hR
  replace h := Lib.hid h
  go_enter Tryz.func46, Tryz.ntmps46
  go_wp2
  have b1 : Hid (Blk (w.alloc (.cells #[.int .i64 0, .int .u32 0] 40)) w.heap.size 40 #[.int .i64 0, .int .u32 0]) := Lib.hid (Blk.new w _ _)
  go_loopw [6] (fun iv wr => ∃ k : Nat, k ≤ m ∧ iv = .int .i64 (k : Int) ∧ Hid ((l.take k).any (fun x => x.n == n) = false) ∧ Hid (Blk wr w.heap.size 40 #[.int .i64 0, .int .u32 0]) ∧ Hid (Grows w wr)) (fun iv _ => m - (intOf iv).toNat)
  case atStart => exact ⟨0, by omega, rfl, Lib.hid (by simp), b1, Lib.hid ((Grows.refl w).alloc _)⟩
  case round =>
    clear b1
    obtain ⟨k, hk, rfl, hno, b1, hG⟩ := hrel
    have d0 := b1.out.cell 0
    have d1 := b1.out.cell 1
    have f0 := b1.out.frozen 0
    have f1 := b1.out.frozen 1
    have s1 := b1.out.lt
    by_cases hkm : k < m
    · obtain ⟨b, off, x, rfl, hbb, hx, hcell⟩ := (h.out.keep hG.out).at_ hkm
      have c0 : wr.cell? ⟨b, off + k * 3, none⟩ = some (.string ⟨x.n.toArray⟩) := by simpa using hcell 0 _ rfl
      have c1 : wr.cell? ⟨b, off + k * 3 + 1, none⟩ = some (.int .i64 x.l.lv) := hcell 1 _ rfl
      have c2 : wr.cell? ⟨b, off + k * 3 + 2, none⟩ = some (.int .u32 (x.l.c : Int)) := hcell 2 _ rfl
      have hki : (k : Int) < (m : Int) := by omega
      cases hb : (x.n == n) with
      | true =>
        have hR2 := hR.out
        rw [find_some hx hb hno.out] at hR2
        subst hR2
        have hG0 := hG.out
        clear hR hno hcell hx hG
        go_wp2_with fail
        refine bodyPost_ret (v := .tuple #[.agg #[.int .i64 x.l.lv, .int .u32 (x.l.c : Int)], .bool true]) ?_ rfl ⟨rfl, ?_⟩
        · simp [results, Tryz.results46, go_sem, d0, d1]
        · repeat (first | assumption | exact Grows.refl _ | apply Grows.drew | apply Grows.drewN | refine Grows.alloc ?_ _ | (refine Grows.setCell ?_ (by first | (simp; done) | (simp; omega) | omega) _) | (refine Grows.trans ?_ (by assumption)))
      | false =>
        have hno2 : Hid ((l.take (k + 1)).any (fun x => x.n == n) = false) := Lib.hid (by rw [any_take_succ hx, hno.out, hb]; rfl)
        clear hno hcell hx
        go_wp2
        go_roundw
        case rel => exact ⟨k + 1, by omega, by go_num, hno2, b1, hG⟩
        case measure => simp [intOf]; omega
    · have hki : ¬ (k : Int) < (m : Int) := by omega
      have hR2 := hR.out
      have hno2 := hno.out
      rw [List.take_of_length_le (by rw [hml.out]; omega)] at hno2
      rw [find_none hno2] at hR2
      subst hR2
      have hG0 := hG.out
      clear hR hno hno2 hG
      go_wp2_with fail
      refine bodyPost_ret (v := .tuple #[.agg #[.int .i64 0, .int .u32 0], .bool false]) ?_ rfl ⟨rfl, ?_⟩
      · simp [results, Tryz.results46, go_sem, d0, d1]
      · repeat (first | assumption | exact Grows.refl _ | apply Grows.drew | apply Grows.drewN | refine Grows.alloc ?_ _ | (refine Grows.setCell ?_ (by first | (simp; done) | (simp; omega) | omega) _) | (refine Grows.trans ?_ (by assumption)))
set_option maxRecDepth 100000 in
set_option maxHeartbeats 1600000 in
theorem rraised_any {p : PolX} {n : List UInt8} {l : Lab} (w : World) (hp : p.At w) (hl : l.ok) :
    Calls Tryz.prog 29 #[p.val, .string ⟨n.toArray⟩, .agg #[.int .i64 l.lv, .int .u32 (l.c : Int)]] w fun e w' => e = .returned (.agg #[.int .i64 (raisedL p.pol n l).lv, .int .u32 ((raisedL p.pol n l).c : Int)]) ∧ Grows w w' := by
  have hA := fun W (hW : Grows w W) => rfind_any (c := p.a.k) (n := n) W (hp.a.arr.keep hW) hp.a.le
  have hlab := hp.a.lab
  unfold PolX.val
  have hrl : raisedL p.pol n l = (match findL p.a.l n with | some r => joinL l r | none => l) := rfl
  obtain ⟨⟨sl, sA, sm, sk⟩, ⟨rl, rA, rm, rk⟩, ⟨el, eA, em, ek⟩, ⟨al, aA, am, ak⟩, o, oA, om, ok, i, iA, im, ik⟩ := p
  simp only at hA hrl hlab ⊢
  clear hp
  cases hf : findL al n with
  | none =>
    rw [hf] at hA hrl
    simp only at hrl
    rw [hrl]
    simp only [labOf, Option.getD_none, Option.isSome_none] at hA
    replace hA := Lib.hid hA
    clear hrl hf
    go_enter Tryz.func29, Tryz.ntmps29
    go_wp2_with fail
    refine (hA.out _ (by
      repeat (first | assumption | exact Grows.refl _ | apply Grows.drew | apply Grows.drewN | refine Grows.alloc ?_ _ | (refine Grows.setCell ?_ (by first | (simp; done) | (simp; omega) | omega) _) | (refine Grows.trans ?_ (by assumption)))
    )).mono ?_
    rintro e w1 ⟨rfl, hb⟩
    have bl : Blk w1 (w.heap.size + 1) 40 (labC l) := ((Blk.new1 w _ _ _).alloc _).grows hb
    have l0 : w1.cell? ⟨w.heap.size + 1, 0, none⟩ = some (.int .i64 l.lv) := bl.cell 0
    have l1 : w1.cell? ⟨w.heap.size + 1, 1, none⟩ = some (.int .u32 (l.c : Int)) := bl.cell 1
    have b1 : Blk w1 (w.heap.size + 1 + 1) 40 (labC ⟨0, 0⟩) := (Blk.new2 w _ _ _ _).grows hb
    have sl := bl.lt
    clear bl
    have d0 : _ = some (Value.int .i64 0) := b1.cell 0
    have d1 : _ = some (Value.int .u32 0) := b1.cell 1
    have f0 := b1.frozen 0
    have f1 := b1.frozen 1
    have s1 := b1.lt
    have hg : Grows w w1 := by
      repeat (first | assumption | exact Grows.refl _ | apply Grows.drew | apply Grows.drewN | refine Grows.alloc ?_ _ | (refine Grows.setCell ?_ (by first | (simp; done) | (simp; omega) | omega) _) | (refine Grows.trans ?_ (by assumption)))
    clear hA hb b1
    go_wp2_with fail
    refine bodyPost_ret (v := .agg #[.int .i64 l.lv, .int .u32 (l.c : Int)]) ?_ rfl ⟨rfl, ?_⟩
    · simp only [results, Tryz.results29]
      go_simp
    · repeat (first | assumption | exact Grows.refl _ | apply Grows.drew | apply Grows.drewN | refine Grows.alloc ?_ _ | (refine Grows.setCell ?_ (by first | (simp; done) | (simp; omega) | omega) _) | (refine Grows.trans ?_ (by assumption)))
  | some r =>
    have hr : r.ok := by obtain ⟨x, hx, rfl⟩ := find_mem hf; exact hlab x hx
    rw [hf] at hA hrl
    simp only at hrl
    rw [hrl]
    simp only [labOf, Option.getD_some, Option.isSome_some] at hA
    have cJ := fun W => refJoin_any l r W hl hr
    generalize joinL l r = J at *
    replace hA := Lib.hid hA
    replace cJ := Lib.hid cJ
    clear hrl hf hr hlab
    go_enter Tryz.func29, Tryz.ntmps29
    go_wp2_with fail
    refine (hA.out _ (by
      repeat (first | assumption | exact Grows.refl _ | apply Grows.drew | apply Grows.drewN | refine Grows.alloc ?_ _ | (refine Grows.setCell ?_ (by first | (simp; done) | (simp; omega) | omega) _) | (refine Grows.trans ?_ (by assumption)))
    )).mono ?_
    rintro e w1 ⟨rfl, hb⟩
    have bl : Blk w1 (w.heap.size + 1) 40 (labC l) := ((Blk.new1 w _ _ _).alloc _).grows hb
    have l0 : w1.cell? ⟨w.heap.size + 1, 0, none⟩ = some (.int .i64 l.lv) := bl.cell 0
    have l1 : w1.cell? ⟨w.heap.size + 1, 1, none⟩ = some (.int .u32 (l.c : Int)) := bl.cell 1
    have b1 : Blk w1 (w.heap.size + 1 + 1) 40 (labC ⟨0, 0⟩) := (Blk.new2 w _ _ _ _).grows hb
    have sl := bl.lt
    clear bl
    have s0 := b1.lt
    have hg : Grows w w1 := by
      repeat (first | assumption | exact Grows.refl _ | apply Grows.drew | apply Grows.drewN | refine Grows.alloc ?_ _ | (refine Grows.setCell ?_ (by first | (simp; done) | (simp; omega) | omega) _) | (refine Grows.trans ?_ (by assumption)))
    clear hA hb
    go_wp2_with fail
    refine (cJ.out _).mono ?_
    rintro e w2 ⟨rfl, hb2⟩
    replace b1 := (b1.alloc _).grows hb2
    have d0 : _ = some (Value.int .i64 0) := b1.cell 0
    have d1 : _ = some (Value.int .u32 0) := b1.cell 1
    have f0 := b1.frozen 0
    have f1 := b1.frozen 1
    have s1 := b1.lt
    have hg2 : Grows w w2 := by
      repeat (first | assumption | exact Grows.refl _ | apply Grows.drew | apply Grows.drewN | refine Grows.alloc ?_ _ | (refine Grows.setCell ?_ (by first | (simp; done) | (simp; omega) | omega) _) | (refine Grows.trans ?_ (by assumption)))
    clear cJ hb2 b1 hg s0
    go_wp2_with fail
    refine bodyPost_ret (v := .agg #[.int .i64 J.lv, .int .u32 (J.c : Int)]) ?_ rfl ⟨rfl, ?_⟩
    · simp only [results, Tryz.results29]
      go_simp
    · repeat (first | assumption | exact Grows.refl _ | apply Grows.drew | apply Grows.drewN | refine Grows.alloc ?_ _ | (refine Grows.setCell ?_ (by first | (simp; done) | (simp; omega) | omega) _) | (refine Grows.trans ?_ (by assumption)))

end Go.Proofs.YtfoffneipdkdjaaGreatDoor
