/- Parts: LabD LabE LwD MorP ParP LowP SamA PicA -/
import Derived.Laws.ShiftsVarLaws
import Derived.Test.YtfoffneipdkdjaaGreatDoorBs9
import Derived.Test.YtfoffneipdkdjaaGreatDoorBs12
import Derived.Test.YtfoffneipdkdjaaGreatDoorBs13
import Derived.Test.YtfoffneipdkdjaaGreatDoorBs10
import Derived.Test.YtfoffneipdkdjaaGreatDoorBs11
namespace Go.Proofs.YtfoffneipdkdjaaGreatDoor
open Go.RowKit

theorem sumT_snoc {ts : List Nat} {k t : Nat} (h : ts[k]? = some t) : sumT (ts.take (k + 1)) = sumT (ts.take k) + 2 ^ t := by
  unfold sumT; rw [List.take_add_one, h]; simp [List.sum_append]
theorem sumT_take_lt {ts : List Nat} (hn : ts.Nodup) (hlt : ∀ k ∈ ts, k < 32) (k : Nat) : sumT (ts.take k) < 4294967296 :=
  (sumT_bits (List.Pairwise.sublist (List.take_sublist k ts) hn) (fun j hj => hlt j ((List.take_sublist k ts).mem hj))).1
theorem w32 {x : Int} (h0 : 0 ≤ x) (h1 : x < 4294967296) : IntKind.u32.wrap x = x := by rw [IntKind.wrap_u32']; omega
theorem pow_lt {t : Nat} (h : t ≤ 31) : (2 : Nat) ^ t ≤ 2147483648 := Nat.le_trans (Nat.pow_le_pow_right (by decide) h) (by decide)

set_option maxRecDepth 100000 in
set_option maxHeartbeats 1600000 in
theorem lof_any (lv : Int) (A : Option Addr) (m c : Nat) (ts : List Nat) (w : World) (h : Arr w 1 encI A m ts) (hm : m ≤ maxLen) (hn : ts.Nodup) (hlt : ∀ k ∈ ts, k < 32) :
    Calls Tryz.prog 100 #[.int .i64 lv, .slice A m c] w fun e w' => e = .returned (.agg #[.int .i64 lv, .int .u32 (sumT ts : Nat)]) ∧ Grows w w' := by
  unfold maxLen at hm
  have hlen := h.1
  have hall := sumT_take_lt hn hlt
  replace hlen := Lib.hid hlen
  replace hall := Lib.hid hall
  replace hlt := Lib.hid hlt
  replace hn := Lib.hid hn
  go_enter Tryz.func100, Tryz.ntmps100
  go_wp2
  go_loopw [6] (fun i wr => ∃ (k : Nat) (S : Int), k ≤ m ∧ i = .int .i64 k ∧ Hid (S = (sumT (ts.take k) : Nat)) ∧ 0 ≤ S ∧ Blk wr (w.heap.size + 1) 40 #[.int .i64 lv, .int .u32 S] ∧ Blk wr w.heap.size 40 #[.int .i64 0, .int .u32 0] ∧ Grows w wr) (fun i _ => m - (intOf i).toNat)
  case atStart => exact ⟨0, 0, by omega, rfl, by simp [Hid, sumT], by omega, Blk.new1 w _ _ _, (Blk.new w _ _).alloc _, ((Grows.refl w).alloc _).alloc _⟩
  case round =>
    obtain ⟨k, S, hk, rfl, hS, hS0, bA, bR, hg⟩ := hrel
    have a0 : wr.cell? ⟨w.heap.size + 1, 0, none⟩ = some (.int .i64 lv) := bA.cell 0
    have a1 : wr.cell? ⟨w.heap.size + 1, 1, none⟩ = some (.int .u32 S) := bA.cell 1
    have fa := bA.frozen 1
    have r0 : wr.cell? ⟨w.heap.size, 0, none⟩ = some (.int .i64 0) := bR.cell 0
    have r1 : wr.cell? ⟨w.heap.size, 1, none⟩ = some (.int .u32 0) := bR.cell 1
    have fr0 := bR.frozen 0
    have fr1 := bR.frozen 1
    by_cases hkm : k < m
    · obtain ⟨b, off, t, rfl, _, hx, hcell⟩ := (h.keep hg).at_ hkm
      have c0 : wr.cell? ⟨b, off + k, none⟩ = some (.int .i64 t) := by simpa using hcell 0 _ rfl
      have ht : t ≤ 31 := by have := hlt.out t (List.mem_of_getElem? hx); omega
      have hsn := sumT_snoc hx
      have hb2 := hall.out (k + 1)
      have hpt := pow_lt ht
      have hT0 : (0 : Int) ≤ ((2 ^ t : Nat) : Int) := Int.natCast_nonneg _
      have hfin : ((sumT (ts.take (k + 1)) : Nat) : Int) = S + ((2 ^ t : Nat) : Int) := by rw [hsn, hS.out]; simp
      have hbd : S + ((2 ^ t : Nat) : Int) < 4294967296 := by omega
      obtain ⟨T, hT⟩ : ∃ T : Int, T = ((2 ^ t : Nat) : Int) := ⟨_, rfl⟩
      rw [← hT] at hfin hbd hT0
      have hw := w32 (x := S + T) (by omega) hbd
      replace hT := Lib.hid hT
      replace hfin := Lib.hid hfin
      have hh := Lib.hid h
      clear hsn hb2 hpt hx hcell hbd h
      go_wp2
      go_loop [7, 8] (fun vb vj => ∃ (q : Nat) (B : Int), q ≤ t ∧ vj = .int .i64 q ∧ vb = .int .u32 B ∧ 0 ≤ B ∧ Hid (B = ((2 ^ q : Nat) : Int))) (fun _ vj => t - (intOf vj).toNat)
      case atStart => exact ⟨0, 1, by omega, rfl, rfl, by omega, by simp [Hid]⟩
      case round =>
        obtain ⟨q, B, hq, rfl, rfl, hB0, hB⟩ := hrel
        by_cases hqt : q < t
        · have hp := pow_lt (t := q + 1) (by omega)
          have hB2 : B * 2 = ((2 ^ (q + 1) : Nat) : Int) := by rw [hB.out, Nat.pow_succ]; simp
          have hw2 := w32 (x := B * 2) (by omega) (by omega)
          replace hB2 := Lib.hid hB2
          clear hp hB
          go_wp2
          go_round
          case rel => exact ⟨q + 1, B * 2, by omega, by go_num, rfl, by omega, hB2.out⟩
          case measure => simp [intOf]; omega
        · obtain rfl : q = t := by omega
          obtain rfl : B = T := hB.out.trans hT.out.symm
          go_wp2
          go_roundw
          case rel => exact ⟨k + 1, S + B, by omega, by go_num, hfin.out.symm, by omega, bA.set_ 1 _, bR.far (by simp) _, hg.setCell (by simp) _⟩
          case measure => simp [intOf]; omega
    · obtain rfl : k = m := by omega
      have hfin : S = (sumT ts : Nat) := by rw [hS.out, List.take_of_length_le (Nat.le_of_eq hlen.out)]
      replace hfin := Lib.hid hfin
      clear hS
      go_wp2
      refine bodyPost_ret (v := .agg #[.int .i64 lv, .int .u32 S]) ?_ rfl ⟨by rw [hfin.out], ?_⟩
      · simp [results, Tryz.results100, go_sem, r0, r1]
      · exact Grows.setCell (Grows.setCell hg (by simp) _) (by simp) _
end Go.Proofs.YtfoffneipdkdjaaGreatDoor
namespace Go.Proofs.YtfoffneipdkdjaaGreatDoor
open Go.RowKit

theorem all_take_succ {α : Type} (q : α → Bool) (xs : List α) (k : Nat) (x : α) (h : xs[k]? = some x) : (xs.take (k + 1)).all q = ((xs.take k).all q && q x) := by
  rw [List.take_add_one, h]; simp
theorem all_take_no {α : Type} {q : α → Bool} {xs : List α} {k : Nat} (h : (xs.take k).all q = false) : xs.all q = false := by
  rw [← Bool.not_eq_true, List.all_eq_true] at h ⊢
  exact fun hh => h fun x hx => hh x ((List.take_sublist k xs).mem hx)

set_option maxRecDepth 100000 in
set_option maxHeartbeats 3200000 in
theorem refFlows_any (a b : Lab) (w : World) (ha : a.ok) (hb : b.ok) :
    Calls Tryz.prog 27 #[.agg #[.int .i64 a.lv, .int .u32 (a.c : Int)], .agg #[.int .i64 b.lv, .int .u32 (b.c : Int)]] w fun e w' => e = .returned (.bool (flowsL a b)) ∧ Grows w w' := by
  have cA := fun W => lRefRight_any a W
  have cB := fun W => lRefRight_any b W
  have cTA := fun W => refTeams_any a W ha
  have cTB := fun W => refTeams_any b W hb
  have hfl : flowsL a b = (labRight a.lv && labRight b.lv && decide (a.lv ≤ b.lv) && (teams a.c).all (fun k => decide (k ∈ teams b.c))) := by rw [subB_teams]; rfl
  have hlA := teams_len a.c
  have hlB := teams_len b.c
  have cH := fun A m c j W h h' => has_any A m c (teams b.c) j W h h' 59 rfl
  generalize flowsL a b = r at *
  generalize labRight a.lv = p at *
  generalize labRight b.lv = q at *
  generalize teams a.c = ta at *
  generalize teams b.c = tb at *
  replace cA := Lib.hid cA
  replace cB := Lib.hid cB
  replace cTA := Lib.hid cTA
  replace cTB := Lib.hid cTB
  replace cH := Lib.hid cH
  replace hfl := Lib.hid hfl
  clear ha hb
  go_enter Tryz.func27, Tryz.ntmps27
  go_wp2_with fail
  refine (cTA.out _).mono ?_
  rintro e w1 ⟨v, rfl, ho, hb1⟩
  obtain ⟨A, c, rfl, hc, hcm, hArr⟩ := ho.arr hkI
  obtain ⟨m, hm⟩ : ∃ m, m = ta.length := ⟨_, rfl⟩
  rw [← hm] at hArr hc ⊢
  rw [← hm] at hlA
  replace hm := Lib.hid hm
  replace hArr := Lib.hid hArr
  have bA : Blk w1 w.heap.size 40 #[.int .i64 a.lv, .int .u32 (a.c : Int)] := ((Blk.new w _ _).alloc _).grows hb1
  have bB : Blk w1 (w.heap.size + 1) 40 #[.int .i64 b.lv, .int .u32 (b.c : Int)] := (Blk.new1 w _ _ _).grows hb1
  have hg1 : Grows w w1 := (((Grows.refl w).alloc _).alloc _).trans hb1
  clear ho hb1
  go_wp2
  go_loopw [6] (fun i wr => ∃ (k : Nat), k ≤ m ∧ i = .int .i64 k ∧ Hid ((ta.take k).all (fun j => decide (j ∈ tb)) = true) ∧ Grows w1 wr) (fun i _ => m - (intOf i).toNat)
  case atStart => exact ⟨0, by omega, rfl, by simp [Hid], Grows.refl _⟩
  case round =>
    obtain ⟨k, hk, rfl, hyes, hg⟩ := hrel
    have bA2 := bA.grows hg
    have bB2 := bB.grows hg
    have a0 : wr.cell? ⟨w.heap.size, 0, none⟩ = some (.int .i64 a.lv) := bA2.cell 0
    have a1 : wr.cell? ⟨w.heap.size, 1, none⟩ = some (.int .u32 (a.c : Int)) := bA2.cell 1
    have b0 : wr.cell? ⟨w.heap.size + 1, 0, none⟩ = some (.int .i64 b.lv) := bB2.cell 0
    have b1 : wr.cell? ⟨w.heap.size + 1, 1, none⟩ = some (.int .u32 (b.c : Int)) := bB2.cell 1
    have sA := bA2.lt
    have sB := bB2.lt
    by_cases hkm : k < m
    · obtain ⟨bb, off, t, rfl, hbb, hx, hcell⟩ := ((hArr.out).keep hg).at_ hkm
      have c0 : wr.cell? ⟨bb, off + k, none⟩ = some (.int .i64 t) := by simpa using hcell 0 _ rfl
      have hs := all_take_succ (fun j => decide (j ∈ tb)) ta k t hx
      rw [hyes.out, Bool.true_and] at hs
      have cHt := fun A m c W h h' => cH.out A m c t W h h'
      cases hq : decide (t ∈ tb)
      · rw [hq] at hs
        have hfin : r = false := by rw [hfl.out, all_take_no hs, Bool.and_false]
        simp only [hq] at cHt
        replace cHt := Lib.hid cHt
        replace hfin := Lib.hid hfin
        clear hs hq hx hcell hyes
        go_wp2_with fail
        refine wp_region_mixg [(0, true), (2, true), (3, true), (4, true), (5, true), (1, false), (6, false), (7, true)] (by kernel_rfl) (by kernel_rfl) rfl (by kernel_rfl) (by intro c a d v w h; first | (cases d <;> exact h) | exact hQ0 _ _ _ _ _ h) ?_
        iterate 5 (refine wpMix_q rfl (fun K hK => ?_); go_simp; (try go_bits); first | (refine hK _ ?_; clear hK K) | (apply Exists.intro; refine ⟨fun wq hsq => ?_, hK _ ?_⟩; (first | (go_simp; done) | ((try go_simp); (try simp only [↓IntWalk.iteOmega]); (try go_bits); rfl) | (obtain ⟨hcq, hfq⟩ := bcells hsq; go_simp; done) | (obtain ⟨hcq, hfq⟩ := bcells hsq; (try go_simp); (try simp only [↓IntWalk.iteOmega]); (try go_bits); rfl)); clear hK K))
        refine wpMix_m rfl (fun K' hK => ?_)
        go_simp
        refine (cTB.out _).mono ?_
        rintro e w2 ⟨v2, rfl, ho2, hb2⟩
        obtain ⟨A2, c2, rfl, hc2, hcm2, hArr2⟩ := ho2.arr hkI
        generalize tb.length = m2 at *
        clear ho2
        replace hArr2 := Lib.hid hArr2
        refine hK.out _ _ ?_ (fun hS => ?_)
        · repeat (first | assumption | exact Grows.refl _ | apply Grows.drew | apply Grows.drewN | refine Grows.alloc ?_ _ | (refine Grows.setCell ?_ (by first | (simp; done) | (simp; omega) | omega) _) | (refine Grows.trans ?_ (by assumption)))
        clear hK hS
        refine wpMix_m rfl (fun K' hK => ?_)
        go_simp
        refine (cHt.out _ _ _ _ hArr2.out (by unfold maxLen; omega)).mono ?_
        rintro e w3 ⟨rfl, rfl⟩
        refine hK.out _ _ ?_ (fun hS => ?_)
        · repeat (first | assumption | exact Grows.refl _ | apply Grows.drew | apply Grows.drewN | refine Grows.alloc ?_ _ | (refine Grows.setCell ?_ (by first | (simp; done) | (simp; omega) | omega) _) | (refine Grows.trans ?_ (by assumption)))
        clear hK hS
        iterate 1 (refine wpMix_q rfl (fun K hK => ?_); go_simp; (try go_bits); first | (refine hK _ ?_; clear hK K) | (apply Exists.intro; refine ⟨fun wq hsq => ?_, hK _ ?_⟩; (first | (go_simp; done) | ((try go_simp); (try simp only [↓IntWalk.iteOmega]); (try go_bits); rfl) | (obtain ⟨hcq, hfq⟩ := bcells hsq; go_simp; done) | (obtain ⟨hcq, hfq⟩ := bcells hsq; (try go_simp); (try simp only [↓IntWalk.iteOmega]); (try go_bits); rfl)); clear hK K))
        refine wpMix_nil ?_
        go_wp2
        go_ret
        exact ⟨ret_bool hfin.out.symm, ((hg1.trans hg).drew).trans hb2⟩
      · rw [hq] at hs
        simp only [hq] at cHt
        replace cHt := Lib.hid cHt
        replace hs := Lib.hid hs
        clear hq hx hcell hyes
        go_wp2_with fail
        refine wp_region_mixg [(0, true), (2, true), (3, true), (4, true), (5, true), (1, false), (6, false), (7, true)] (by kernel_rfl) (by kernel_rfl) rfl (by kernel_rfl) (by intro c a d v w h; first | (cases d <;> exact h) | exact hQ0 _ _ _ _ _ h) ?_
        iterate 5 (refine wpMix_q rfl (fun K hK => ?_); go_simp; (try go_bits); first | (refine hK _ ?_; clear hK K) | (apply Exists.intro; refine ⟨fun wq hsq => ?_, hK _ ?_⟩; (first | (go_simp; done) | ((try go_simp); (try simp only [↓IntWalk.iteOmega]); (try go_bits); rfl) | (obtain ⟨hcq, hfq⟩ := bcells hsq; go_simp; done) | (obtain ⟨hcq, hfq⟩ := bcells hsq; (try go_simp); (try simp only [↓IntWalk.iteOmega]); (try go_bits); rfl)); clear hK K))
        refine wpMix_m rfl (fun K' hK => ?_)
        go_simp
        refine (cTB.out _).mono ?_
        rintro e w2 ⟨v2, rfl, ho2, hb2⟩
        obtain ⟨A2, c2, rfl, hc2, hcm2, hArr2⟩ := ho2.arr hkI
        generalize tb.length = m2 at *
        clear ho2
        replace hArr2 := Lib.hid hArr2
        refine hK.out _ _ ?_ (fun hS => ?_)
        · repeat (first | assumption | exact Grows.refl _ | apply Grows.drew | apply Grows.drewN | refine Grows.alloc ?_ _ | (refine Grows.setCell ?_ (by first | (simp; done) | (simp; omega) | omega) _) | (refine Grows.trans ?_ (by assumption)))
        clear hK hS
        refine wpMix_m rfl (fun K' hK => ?_)
        go_simp
        refine (cHt.out _ _ _ _ hArr2.out (by unfold maxLen; omega)).mono ?_
        rintro e w3 ⟨rfl, rfl⟩
        refine hK.out _ _ ?_ (fun hS => ?_)
        · repeat (first | assumption | exact Grows.refl _ | apply Grows.drew | apply Grows.drewN | refine Grows.alloc ?_ _ | (refine Grows.setCell ?_ (by first | (simp; done) | (simp; omega) | omega) _) | (refine Grows.trans ?_ (by assumption)))
        clear hK hS
        iterate 1 (refine wpMix_q rfl (fun K hK => ?_); go_simp; (try go_bits); first | (refine hK _ ?_; clear hK K) | (apply Exists.intro; refine ⟨fun wq hsq => ?_, hK _ ?_⟩; (first | (go_simp; done) | ((try go_simp); (try simp only [↓IntWalk.iteOmega]); (try go_bits); rfl) | (obtain ⟨hcq, hfq⟩ := bcells hsq; go_simp; done) | (obtain ⟨hcq, hfq⟩ := bcells hsq; (try go_simp); (try simp only [↓IntWalk.iteOmega]); (try go_bits); rfl)); clear hK K))
        refine wpMix_nil ?_
        go_wp2
        go_roundw
        case rel => exact ⟨k + 1, by omega, by go_num, hs.out, hg.drew.trans hb2⟩
        case measure => simp [intOf]; omega
    · obtain rfl : k = m := by omega
      have hfl2 : r = (p && q && decide (a.lv ≤ b.lv)) := by
        have := hyes.out
        rw [List.take_of_length_le (Nat.le_of_eq hm.out.symm)] at this
        rw [hfl.out, this, Bool.and_true]
      clear hyes hfl
      cases p
      · simp only [Bool.false_and] at hfl2
        replace hfl2 := Lib.hid hfl2
        go_wp2_with fail
        refine (cA.out _).mono ?_
        rintro e w2 ⟨rfl, hb2⟩
        go_wp2_with fail
        go_ret
        exact ⟨ret_bool hfl2.out.symm, (hg1.trans hg).trans hb2⟩
      · cases q
        · simp only [Bool.false_and, Bool.true_and] at hfl2
          replace hfl2 := Lib.hid hfl2
          go_wp2_with fail
          refine (cA.out _).mono ?_
          rintro e w2 ⟨rfl, hb2⟩
          replace b0 := hb2.cell b0
          replace b1 := hb2.cell b1
          go_wp2_with fail
          refine (cB.out _).mono ?_
          rintro e w3 ⟨rfl, hb3⟩
          go_wp2_with fail
          go_ret
          exact ⟨ret_bool hfl2.out.symm, ((hg1.trans hg).trans hb2).trans hb3⟩
        · simp only [Bool.true_and] at hfl2
          by_cases hle : a.lv ≤ b.lv
          · rw [decide_eq_true hle] at hfl2
            replace hfl2 := Lib.hid hfl2
            go_wp2_with fail
            refine (cA.out _).mono ?_
            rintro e w2 ⟨rfl, hb2⟩
            replace b0 := hb2.cell b0
            replace b1 := hb2.cell b1
            replace a0 := hb2.cell a0
            go_wp2_with fail
            refine (cB.out _).mono ?_
            rintro e w3 ⟨rfl, hb3⟩
            replace b0 := hb3.cell b0
            replace a0 := hb3.cell a0
            go_wp2_with fail
            go_ret
            exact ⟨ret_bool hfl2.out.symm, ((hg1.trans hg).trans hb2).trans hb3⟩
          · rw [decide_eq_false hle] at hfl2
            have hleh := Lib.hid hle
            replace hfl2 := Lib.hid hfl2
            go_wp2_with fail
            refine (cA.out _).mono ?_
            rintro e w2 ⟨rfl, hb2⟩
            replace b0 := hb2.cell b0
            replace b1 := hb2.cell b1
            replace a0 := hb2.cell a0
            go_wp2_with fail
            refine (cB.out _).mono ?_
            rintro e w3 ⟨rfl, hb3⟩
            replace b0 := hb3.cell b0
            replace a0 := hb3.cell a0
            go_wp2_with fail
            go_ret
            exact ⟨ret_bool (by rw [hfl2.out, decide_eq_false (by have := hleh.out; omega)]), ((hg1.trans hg).trans hb2).trans hb3⟩

end Go.Proofs.YtfoffneipdkdjaaGreatDoor
namespace Go.Proofs.YtfoffneipdkdjaaGreatDoor
open Go.RowKit Go.Maps

def polC (q : PolX) : Array Value := #[.slice q.s.A q.s.m q.s.k, .slice q.r.A q.r.m q.r.k, .slice q.e.A q.e.m q.e.k, .slice q.a.A q.a.m q.a.k, .slice q.oA q.om q.ok, .slice q.iA q.im q.ik]
theorem cut12_at {x : AlrX} {w : World} (h : Arr w 2 encF x.A x.m x.a.fs) (hl : x.a.l.ok) : x.cut12.At w :=
  ⟨h.take (Nat.min_le_left _ _), by show min x.m 12 ≤ 1000; omega, hl⟩
theorem own_arr {α : Type} {w : World} {b0 k : Nat} {e : TypeId} {enc : α → List Value} {xs : List α} {A : Option Addr} {m c : Nat} (h : Own w b0 e k enc (.slice A m c) xs) (hk : ∀ x, (enc x).length = k) : m = xs.length ∧ m ≤ c ∧ c ≤ maxLen ∧ Arr w k enc A m xs := by
  obtain ⟨A', c', hv, h1, h2, h3⟩ := h.arr hk
  injection hv with hv1 hv2 hv3
  subst hv1 hv2 hv3
  exact ⟨rfl, h1, h2, h3⟩
theorem few_at {xs : List AlrX} {w : World} (hx : ∀ x ∈ xs, Arr w 2 encF x.A x.m x.a.fs ∧ x.a.l.ok) : ∀ y ∈ (xs.take 12).map AlrX.cut12, y.At w := by
  intro y hy
  obtain ⟨x, hx', rfl⟩ := List.mem_map.1 hy
  obtain ⟨h1, h2⟩ := hx x (List.mem_of_mem_take hx')
  exact cut12_at h1 h2
end Go.Proofs.YtfoffneipdkdjaaGreatDoor
namespace Go.Proofs.YtfoffneipdkdjaaGreatDoor
open Go.RowKit

/-- A group as it was, or with an id more. -/
def SameG (g h : Grp) : Prop := g.route = h.route ∧ g.by_ = h.by_ ∧ g.ids.length ≤ h.ids.length ∧ h.ids.length ≤ g.ids.length + 1
theorem SameG.refl (g : Grp) : SameG g g := ⟨rfl, rfl, Nat.le_refl _, Nat.le_succ _⟩
def MoreR : List Grp → List Grp → Prop
  | l, [] => l = []
  | l, y :: bs => (∃ x l', l = x :: l' ∧ SameG x y ∧ MoreR l' bs) ∨ (y.ids.length = 1 ∧ (∀ x, l.head? = some x → x.route ≠ y.route) ∧ (∀ x, bs.head? = some x → x.route ≠ y.route) ∧ MoreR l bs)
def RoomM (r : Nat) (gs hs : List Grp) : Prop :=
  (gs.length = hs.length ∧ ∀ (i : Nat) g h, gs[i]? = some g → hs[i]? = some h → SameG g h) ∨ (∃ g : Grp, hs = gs ++ [g] ∧ g.ids.length = 1 ∧ g.route = r)
theorem RoomM.refl (r : Nat) (gs : List Grp) : RoomM r gs gs := .inl ⟨rfl, fun i g h h1 h2 => by rw [h1] at h2; injection h2 with h2; subst h2; exact SameG.refl g⟩
theorem more_same {A B : List Grp} (h : MoreR A B) : ∀ (gs hs : List Grp), gs.length = hs.length → (∀ (i : Nat) g h, gs[i]? = some g → hs[i]? = some h → SameG g h) → MoreR (gs ++ A) (hs ++ B)
  | [], [], _, _ => h
  | g :: gs, x :: hs, hl, hi => .inl ⟨g, gs ++ A, rfl, hi 0 g x rfl rfl, more_same h gs hs (by simpa using hl) (fun i g' h' h1 h2 => hi (i + 1) g' h' (by simpa using h1) (by simpa using h2))⟩
theorem more_new {A B : List Grp} (h : MoreR A B) {y : Grp} (hy : y.ids.length = 1) (hA : ∀ x, A.head? = some x → x.route ≠ y.route) (hB : ∀ x, B.head? = some x → x.route ≠ y.route) : ∀ (gs : List Grp), MoreR (gs ++ A) (gs ++ y :: B)
  | [] => .inr ⟨hy, hA, hB, h⟩
  | g :: gs => .inl ⟨g, gs ++ A, rfl, SameG.refl g, more_new h hy hA hB gs⟩
/-- Each group's route is its room's. -/
def RouteR (r0 : Nat) (rooms : List (List Grp)) : Prop := ∀ (i : Nat) gs g, rooms[i]? = some gs → g ∈ gs → g.route = r0 + i
theorem RouteR.tail {r0 : Nat} {gs : List Grp} {rooms : List (List Grp)} (h : RouteR r0 (gs :: rooms)) : RouteR (r0 + 1) rooms := fun i hs g h1 h2 => by
  have := h (i + 1) hs g (by simpa using h1) h2; omega
theorem RouteR.flat {r0 : Nat} {rooms : List (List Grp)} (h : RouteR r0 rooms) {g : Grp} (hg : g ∈ rooms.flatten) : r0 ≤ g.route := by
  obtain ⟨gs, h1, h2⟩ := List.mem_flatten.1 hg
  obtain ⟨i, hi, rfl⟩ := List.getElem_of_mem h1
  have := h i _ g (List.getElem?_eq_getElem hi) h2
  omega
theorem more_flat : ∀ (rooms rooms' : List (List Grp)) (r0 : Nat), rooms.length = rooms'.length → RouteR r0 rooms → RouteR r0 rooms' → (∀ (i : Nat) gs hs, rooms[i]? = some gs → rooms'[i]? = some hs → RoomM (r0 + i) gs hs) → MoreR rooms.flatten rooms'.flatten
  | [], [], _, _, _, _, _ => (rfl : ([] : List Grp) = [])
  | gs :: rooms, hs :: rooms', r0, hl, hR, hR', hi => by
    have ih := more_flat rooms rooms' (r0 + 1) (by simpa using hl) hR.tail hR'.tail (fun i a b h1 h2 => by
      have := hi (i + 1) a b (by simpa using h1) (by simpa using h2)
      rwa [show r0 + (i + 1) = r0 + 1 + i by omega] at this)
    rw [List.flatten_cons, List.flatten_cons]
    rcases hi 0 gs hs rfl rfl with ⟨h1, h2⟩ | ⟨g, rfl, h1, h2⟩
    · exact more_same ih gs hs h1 h2
    · rw [List.append_assoc]
      refine more_new ih h1 (fun x hx => ?_) (fun x hx => ?_) gs
      · have := hR.tail.flat (List.mem_of_mem_head? hx); omega
      · have := hR'.tail.flat (List.mem_of_mem_head? hx); omega
theorem addId_len2 (l : List Nat) (t : Nat) : l.length ≤ (addId l t).length ∧ (addId l t).length ≤ l.length + 1 := by
  refine ⟨?_, addId_len l t⟩
  unfold addId
  split
  · exact Nat.le_refl _
  · rw [putAt_len (posU_le l t)]; omega
theorem addId_nil (t : Nat) : addId [] t = [t] := by simp [addId, putAt, posU]
theorem bump_room {rooms : List (List Grp)} {r k id : Nat} : (bumpG rooms r k id).length = rooms.length ∧ (∀ s, s ≠ r → (bumpG rooms r k id)[s]? = rooms[s]?) := by
  unfold bumpG
  cases hr : rooms[r]? with
  | none => exact ⟨rfl, fun _ _ => rfl⟩
  | some gs =>
    simp only
    cases hk : gs[k]? with
    | none => exact ⟨rfl, fun _ _ => rfl⟩
    | some g => exact ⟨by simp, fun s hs => by simp only; rw [List.getElem?_set_ne (Ne.symm hs)]⟩
theorem bump_at {rooms : List (List Grp)} {r k id : Nat} {gs : List Grp} {g : Grp} (hr : rooms[r]? = some gs) (hk : gs[k]? = some g) : (bumpG rooms r k id)[r]? = some (gs.set k { g with ids := addId g.ids id }) := by
  rw [bumpG_eq hr hk, List.getElem?_set_self (List.getElem?_eq_some_iff.1 hr).1]
/-- One step: one room, and that one only. -/
theorem step_room {rec : List UInt8} {id : Nat} {fs : List Fld} {names : Nat → List (List UInt8)} {st : GSt} {r : Nat} {gs : List Grp} (hr : st.rooms[r]? = some gs) :
    (stepG rec id fs names st r).rooms.length = st.rooms.length ∧ (∀ s, s ≠ r → (stepG rec id fs names st r).rooms[s]? = st.rooms[s]?) ∧ ∃ hs, (stepG rec id fs names st r).rooms[r]? = some hs ∧ RoomM r gs hs := by
  unfold stepG
  cases hl : lookP st.place (whereL r (pickF fs (names r))) with
  | some k =>
    simp only
    refine ⟨bump_room.1, bump_room.2, ?_⟩
    cases hk : gs[k]? with
    | none =>
      refine ⟨gs, ?_, RoomM.refl r gs⟩
      unfold bumpG; rw [hr]; simp only; rw [hk]; exact hr
    | some g =>
      refine ⟨_, bump_at hr hk, .inl ⟨by simp, fun i a b h1 h2 => ?_⟩⟩
      by_cases hki : k = i
      · subst hki
        rw [List.getElem?_set_self (List.getElem?_eq_some_iff.1 hk).1] at h2
        rw [hk] at h1
        injection h1 with h1; injection h2 with h2
        subst h1 h2
        exact ⟨rfl, rfl, (addId_len2 g.ids id).1, (addId_len2 g.ids id).2⟩
      · rw [List.getElem?_set_ne hki] at h2
        rw [h1] at h2; injection h2 with h2; subst h2
        exact SameG.refl _
  | none =>
    rw [hr]
    simp only
    have hrl : r < st.rooms.length := (List.getElem?_eq_some_iff.1 hr).1
    refine ⟨by rw [bump_room.1]; simp, fun s hs => by rw [bump_room.2 s hs, List.getElem?_set_ne (Ne.symm hs)], ?_⟩
    refine ⟨_, bump_at (List.getElem?_set_self hrl) List.getElem?_concat_length, .inr ⟨⟨r, pickF fs (names r), keyA rec r (pickF fs (names r)), [id]⟩, ?_, rfl, rfl⟩⟩
    simp [addId_nil]
theorem step_none {rec : List UInt8} {id : Nat} {fs : List Fld} {names : Nat → List (List UInt8)} {st : GSt} {r : Nat} (hr : st.rooms[r]? = none) : (stepG rec id fs names st r).rooms = st.rooms := by
  unfold stepG
  cases hl : lookP st.place (whereL r (pickF fs (names r))) with
  | some k => simp only; unfold bumpG; rw [hr]
  | none => rw [hr]
theorem RoomM.route {r : Nat} {gs hs : List Grp} (h : RoomM r gs hs) (hg : ∀ g ∈ gs, g.route = r) : ∀ g ∈ hs, g.route = r := by
  intro x hx
  rcases h with ⟨h1, h2⟩ | ⟨g, rfl, _, h2⟩
  · obtain ⟨i, hi, rfl⟩ := List.getElem_of_mem hx
    have h3 : i < gs.length := by omega
    have := h2 i _ _ (List.getElem?_eq_getElem h3) (List.getElem?_eq_getElem hi)
    rw [← this.1]; exact hg _ (List.getElem_mem h3)
  · rcases List.mem_append.1 hx with h | h
    · exact hg x h
    · rw [List.mem_singleton.1 h]; exact h2
theorem RouteR.step {rec : List UInt8} {id : Nat} {fs : List Fld} {names : Nat → List (List UInt8)} {st : GSt} (h : RouteR 0 st.rooms) (r : Nat) : RouteR 0 (stepG rec id fs names st r).rooms := by
  cases hr : st.rooms[r]? with
  | none => rw [step_none hr]; exact h
  | some gs =>
    obtain ⟨_, h1, hs, h2, h3⟩ := step_room (rec := rec) (id := id) (fs := fs) (names := names) hr
    intro i ys g h4 h5
    by_cases hi : i = r
    · subst hi
      rw [h2] at h4; injection h4 with h4; subst h4
      have := h3.route (fun g hg => by have := h i gs g hr hg; omega) g h5
      omega
    · rw [h1 i hi] at h4; exact h i ys g h4 h5
theorem RouteR.fold {rec : List UInt8} {id : Nat} {fs : List Fld} {names : Nat → List (List UInt8)} : ∀ (F : List Nat) {st : GSt}, RouteR 0 st.rooms → RouteR 0 (F.foldl (stepG rec id fs names) st).rooms
  | [], _, h => h
  | r :: F, _, h => RouteR.fold F (h.step r)
theorem RouteR.alert {ft : List Fld → Mat → Bool} {p : Pol} {rec : List UInt8} {now : Int} {st : GSt} (h : RouteR 0 st.rooms) (a : Alr) : RouteR 0 (alertG ft p rec now st a).rooms := by
  unfold alertG
  cases seesA p rec a now with
  | none => exact h
  | some c => exact RouteR.fold _ h
theorem RouteR.start (n : Nat) : RouteR 0 (List.replicate n []) := fun i gs g h1 h2 => by
  have := List.mem_of_getElem? h1
  simp at this
  rw [this.2] at h2; cases h2
theorem RouteR.all {ft : List Fld → Mat → Bool} {p : Pol} {rec : List UInt8} {now : Int} : ∀ (l : List Alr) {st : GSt}, RouteR 0 st.rooms → RouteR 0 (l.foldl (alertG ft p rec now) st).rooms
  | [], _, h => h
  | a :: l, _, h => RouteR.all l (h.alert a)
/-- Steps by routes that are unlike one another. -/
theorem fold_room {rec : List UInt8} {id : Nat} {fs : List Fld} {names : Nat → List (List UInt8)} : ∀ (F : List Nat) (st : GSt), F.Nodup → (F.foldl (stepG rec id fs names) st).rooms.length = st.rooms.length ∧ ∀ (i : Nat) gs, st.rooms[i]? = some gs → ∃ hs, (F.foldl (stepG rec id fs names) st).rooms[i]? = some hs ∧ RoomM i gs hs ∧ (¬ i ∈ F → hs = gs)
  | [], st, _ => ⟨rfl, fun i gs h => ⟨gs, h, RoomM.refl i gs, fun _ => rfl⟩⟩
  | r :: F, st, hF => by
    obtain ⟨hrF, hF'⟩ := List.nodup_cons.1 hF
    obtain ⟨hl, hi⟩ := fold_room (rec := rec) (id := id) (fs := fs) (names := names) F (stepG rec id fs names st r) hF'
    rw [List.foldl_cons]
    cases hr : st.rooms[r]? with
    | none =>
      rw [step_none hr] at hl hi
      refine ⟨hl, fun i gs h => ?_⟩
      obtain ⟨hs, h1, h2, h3⟩ := hi i gs h
      exact ⟨hs, h1, h2, fun hn => h3 (fun hm => hn (List.mem_cons_of_mem _ hm))⟩
    | some g0 =>
      obtain ⟨s1, s2, y, s3, s4⟩ := step_room (rec := rec) (id := id) (fs := fs) (names := names) hr
      refine ⟨by rw [hl, s1], fun i gs h => ?_⟩
      by_cases hir : i = r
      · subst hir
        rw [hr] at h; injection h with h; subst h
        obtain ⟨hs, h1, _, h3⟩ := hi i y s3
        have := h3 hrF
        subst this
        exact ⟨hs, h1, s4, fun hn => absurd List.mem_cons_self hn⟩
      · obtain ⟨hs, h1, h2, h3⟩ := hi i gs (by rw [s2 i hir]; exact h)
        exact ⟨hs, h1, h2, fun hn => h3 (fun hm => hn (List.mem_cons_of_mem _ hm))⟩
theorem fitsL_nodup (ft : List Fld → Mat → Bool) (p : Pol) (rec : List UInt8) (fs : List Fld) : (fitsL ft p rec fs).Nodup := by
  unfold fitsL fitsTo
  exact List.Pairwise.filter _ List.nodup_range
/-- THE LAW. -/
theorem groups_more (fb : Mat → Bool) (ft : List Fld → Mat → Bool) (p : Pol) (rec : List UInt8) (l : List Alr) (a : Alr) (now : Int) : MoreR (groupsL fb ft p rec l now) (groupsL fb ft p rec (l ++ [a]) now) := by
  unfold groupsL
  split
  · unfold groupsSt
    rw [List.foldl_append]
    have hR := RouteR.all (ft := ft) (p := p) (rec := rec) (now := now) l (st := ⟨List.replicate p.routes.length [], []⟩) (RouteR.start _)
    generalize l.foldl (alertG ft p rec now) ⟨List.replicate p.routes.length [], []⟩ = st at *
    rw [List.foldl_cons, List.foldl_nil]
    have hR' := hR.alert (ft := ft) (p := p) (rec := rec) (now := now) a
    refine more_flat _ _ 0 ?_ hR hR' ?_
    · unfold alertG
      cases seesA p rec a now with
      | none => rfl
      | some c => exact (fold_room _ st (fitsL_nodup ft p rec c.fs)).1.symm
    · intro i gs hs h1 h2
      rw [Nat.zero_add]
      unfold alertG at h2
      cases hs' : seesA p rec a now with
      | none => rw [hs'] at h2; simp only at h2; rw [h1] at h2; injection h2 with h2; subst h2; exact RoomM.refl i gs
      | some c =>
        rw [hs'] at h2
        simp only at h2
        obtain ⟨ys, h3, h4, _⟩ := (fold_room _ st (fitsL_nodup ft p rec c.fs)).2 i gs h1
        rw [h3] at h2; injection h2 with h2; subst h2; exact h4
  · exact (rfl : ([] : List Grp) = [])
theorem GrpsAt.grows {w w' : World} {b0 : Nat} {gs : List GrpX} (h : GrpsAt w b0 gs) (hg : Grows w w') : GrpsAt w' b0 gs := fun x hx => ⟨(h x hx).1.grows hg, (h x hx).2.grows hg⟩
end Go.Proofs.YtfoffneipdkdjaaGreatDoor
namespace Go.Proofs.YtfoffneipdkdjaaGreatDoor
open Go.RowKit

/-! ### where: of fields -/
def NoEq (l : List UInt8) : Prop := ∀ b ∈ l, b ≠ 61
def FsOK (fs : List Fld) : Prop := ∀ f ∈ fs, NoEq f.n
theorem nameB_noeq {n : List UInt8} (h : nameB n = true) : NoEq n := by
  intro b hb e
  subst e
  unfold nameB at h
  simp only [Bool.and_eq_true] at h
  have := List.all_eq_true.1 h.2 61 hb
  revert this
  decide
theorem split_at {a b x y : List UInt8} {s : UInt8} (ha : ∀ c ∈ a, c ≠ s) (hb : ∀ c ∈ b, c ≠ s) (h : a ++ s :: x = b ++ s :: y) : a = b ∧ x = y := by
  induction a generalizing b with
  | nil =>
    cases b with
    | nil => simp at h; exact ⟨rfl, h⟩
    | cons c b => simp at h; exact absurd h.1.symm (hb c List.mem_cons_self)
  | cons c a ih =>
    cases b with
    | nil => simp at h; exact absurd h.1 (ha c List.mem_cons_self)
    | cons d b =>
      simp only [List.cons_append, List.cons.injEq] at h
      obtain ⟨rfl, h⟩ := h
      obtain ⟨rfl, h2⟩ := ih (fun c hc => ha c (List.mem_cons_of_mem _ hc)) (fun c hc => hb c (List.mem_cons_of_mem _ hc)) h
      exact ⟨rfl, h2⟩
theorem dec_nocolon (n : Nat) : ∀ c ∈ Lib.decDigits n, c ≠ 58 := fun c hc e => by
  have := decDigits_dig n c hc
  subst e
  revert this
  decide
theorem whereF_inj : ∀ {fs gs : List Fld}, FsOK fs → FsOK gs → fs.flatMap whereF = gs.flatMap whereF → fs = gs
  | [], [], _, _, _ => rfl
  | [], g :: gs, _, _, h => by simp [whereF] at h
  | f :: fs, [], _, _, h => by simp [whereF] at h
  | f :: fs, g :: gs, hf, hg, h => by
    simp only [List.flatMap_cons, whereF, List.cons_append, List.append_assoc, List.cons.injEq, true_and] at h
    obtain ⟨h1, h2⟩ := split_at (hf f List.mem_cons_self) (hg g List.mem_cons_self) h
    obtain ⟨h3, h4⟩ := split_at (dec_nocolon _) (dec_nocolon _) h2
    have h5 := decDigits_inj h3
    obtain ⟨h6, h7⟩ := List.append_inj h4 h5
    have h8 := whereF_inj (fun x hx => hf x (List.mem_cons_of_mem _ hx)) (fun x hx => hg x (List.mem_cons_of_mem _ hx)) h7
    rw [h8]
    congr 1
    cases f; cases g
    simp only at h1 h6
    rw [h1, h6]
theorem whereL_inj {r r' : Nat} {fs gs : List Fld} (hf : FsOK fs) (hg : FsOK gs) (h : whereL r fs = whereL r' gs) : r = r' ∧ fs = gs := by
  have hr := whereL_route h
  subst hr
  unfold whereL at h
  exact ⟨rfl, whereF_inj hf hg (List.append_cancel_left h)⟩
theorem lookP_snoc (s t : List UInt8) (k : Nat) : ∀ l : List (List UInt8 × Nat), lookP (l ++ [(t, k)]) s = if t = s then some k else lookP l s
  | [] => by simp [lookP]
  | x :: l => by
    rw [List.cons_append, lookP_cons, lookP_cons, lookP_snoc s t k l]
    by_cases h : t = s <;> simp [h]

/-! ### what holds of groups -/
structure PInv (st : GSt) : Prop where
  at_ : ∀ (r : Nat) (gs : List Grp) (k : Nat) (g : Grp), st.rooms[r]? = some gs → gs[k]? = some g → lookP st.place (whereL r g.by_) = some k ∧ FsOK g.by_ ∧ g.ids ≠ [] ∧ SortU g.ids
  of : ∀ (r : Nat) (fs : List Fld) (k : Nat), FsOK fs → lookP st.place (whereL r fs) = some k → ∃ (gs : List Grp) (g : Grp), st.rooms[r]? = some gs ∧ gs[k]? = some g ∧ g.by_ = fs
theorem PInv.start (n : Nat) : PInv ⟨List.replicate n [], []⟩ where
  at_ := fun r gs k g h1 h2 => by
    have := List.mem_of_getElem? h1
    simp at this
    rw [this.2] at h2; simp at h2
  of := fun r fs k _ h => by cases h
/-- A route's group of these fields has this id. -/
def Has (st : GSt) (r : Nat) (fs : List Fld) (id : Nat) : Prop := ∃ (gs : List Grp) (k : Nat) (g : Grp), st.rooms[r]? = some gs ∧ gs[k]? = some g ∧ g.by_ = fs ∧ id ∈ g.ids
theorem addId_mem (l : List Nat) (t : Nat) : t ∈ addId l t ∧ ∀ x ∈ l, x ∈ addId l t := by
  unfold addId
  split
  · rename_i h; exact ⟨h, fun _ h => h⟩
  · unfold putAt
    refine ⟨by simp, fun x hx => ?_⟩
    rw [← List.take_append_drop (posU l t) l] at hx
    rcases List.mem_append.1 hx with h | h
    · exact List.mem_append.2 (.inl h)
    · exact List.mem_append.2 (.inr (List.mem_cons_of_mem _ h))
theorem addId_ne (l : List Nat) (t : Nat) : addId l t ≠ [] := fun h => by have := (addId_mem l t).1; rw [h] at this; cases this
section
variable {rooms : List (List Grp)} {place : List (List UInt8 × Nat)}
theorem PInv.bump (h : PInv ⟨rooms, place⟩) {r k id : Nat} {gs : List Grp} {g : Grp} (hr : rooms[r]? = some gs) (hk : gs[k]? = some g) :
    PInv ⟨bumpG rooms r k id, place⟩ ∧ Has ⟨bumpG rooms r k id, place⟩ r g.by_ id ∧ ∀ r' fs id', Has ⟨rooms, place⟩ r' fs id' → Has ⟨bumpG rooms r k id, place⟩ r' fs id' := by
  have hat := bump_at (id := id) hr hk
  have hother := (bump_room (rooms := rooms) (r := r) (k := k) (id := id)).2
  have hkl : k < gs.length := (List.getElem?_eq_some_iff.1 hk).1
  have fwd : ∀ (s i : Nat) xs x, rooms[s]? = some xs → xs[i]? = some x → ∃ ys y, (bumpG rooms r k id)[s]? = some ys ∧ ys[i]? = some y ∧ y.by_ = x.by_ ∧ ∀ z ∈ x.ids, z ∈ y.ids := fun s i xs x h1 h2 => by
    by_cases hs : s = r
    · subst hs
      rw [hr] at h1; injection h1 with h1; subst h1
      refine ⟨_, if k = i then { g with ids := addId g.ids id } else x, hat, ?_, ?_⟩
      · by_cases hki : k = i
        · subst hki; rw [List.getElem?_set_self hkl]; simp
        · rw [List.getElem?_set_ne hki, if_neg hki]; exact h2
      · by_cases hki : k = i
        · subst hki
          rw [hk] at h2; injection h2 with h2; subst h2
          simp only [if_pos]
          exact ⟨trivial, (addId_mem g.ids id).2⟩
        · rw [if_neg hki]; exact ⟨rfl, fun z hz => hz⟩
    · exact ⟨xs, x, by rw [hother s hs]; exact h1, h2, rfl, fun z hz => hz⟩
  refine ⟨⟨fun s ys i y h1 h2 => ?_, fun s fs i hf hl => ?_⟩, ⟨_, k, _, hat, List.getElem?_set_self hkl, rfl, (addId_mem g.ids id).1⟩, fun s fs id' ⟨xs, i, x, h1, h2, h3, h4⟩ => ?_⟩
  · simp only at h1 ⊢
    by_cases hs : s = r
    · subst hs
      rw [hat] at h1; injection h1 with h1; subst h1
      by_cases hki : k = i
      · subst hki
        rw [List.getElem?_set_self hkl] at h2; injection h2 with h2; subst h2
        obtain ⟨a1, a2, a3, a4⟩ := h.at_ s gs k g hr hk
        exact ⟨a1, a2, addId_ne _ _, a4.add⟩
      · rw [List.getElem?_set_ne hki] at h2
        exact h.at_ s gs i y hr h2
    · rw [hother s hs] at h1
      exact h.at_ s ys i y h1 h2
  · obtain ⟨xs, x, h1, h2, h3⟩ := h.of s fs i hf hl
    obtain ⟨ys, y, h4, h5, h6, _⟩ := fwd s i xs x h1 h2
    exact ⟨ys, y, h4, h5, h6.trans h3⟩
  · obtain ⟨ys, y, h5, h6, h7, h8⟩ := fwd s i xs x h1 h2
    exact ⟨ys, i, y, h5, h6, h7.trans h3, h8 _ h4⟩
/-- A group more, with its first id. -/
theorem PInv.push (h : PInv ⟨rooms, place⟩) {r id key : Nat} {gs : List Grp} {fs : List Fld} (hr : rooms[r]? = some gs) (hf : FsOK fs) (hl : lookP place (whereL r fs) = none) :
    PInv ⟨rooms.set r (gs ++ [⟨r, fs, key, [id]⟩]), place ++ [(whereL r fs, gs.length)]⟩ ∧ Has ⟨rooms.set r (gs ++ [⟨r, fs, key, [id]⟩]), place ++ [(whereL r fs, gs.length)]⟩ r fs id ∧
      ∀ r' fs' id', Has ⟨rooms, place⟩ r' fs' id' → Has ⟨rooms.set r (gs ++ [⟨r, fs, key, [id]⟩]), place ++ [(whereL r fs, gs.length)]⟩ r' fs' id' := by
  have hrl : r < rooms.length := (List.getElem?_eq_some_iff.1 hr).1
  have hat : (rooms.set r (gs ++ [⟨r, fs, key, [id]⟩]))[r]? = some (gs ++ [⟨r, fs, key, [id]⟩]) := List.getElem?_set_self hrl
  have hlast : (gs ++ [(⟨r, fs, key, [id]⟩ : Grp)])[gs.length]? = some ⟨r, fs, key, [id]⟩ := by simp
  have fwd : ∀ (s i : Nat) xs x, rooms[s]? = some xs → xs[i]? = some x → ∃ ys, (rooms.set r (gs ++ [⟨r, fs, key, [id]⟩]))[s]? = some ys ∧ ys[i]? = some x := fun s i xs x h1 h2 => by
    by_cases hs : r = s
    · subst hs
      rw [hr] at h1; injection h1 with h1; subst h1
      exact ⟨_, hat, by rw [List.getElem?_append_left (List.getElem?_eq_some_iff.1 h2).1]; exact h2⟩
    · exact ⟨xs, by rw [List.getElem?_set_ne hs]; exact h1, h2⟩
  have old : ∀ (s : Nat) xs (i : Nat) x, rooms[s]? = some xs → xs[i]? = some x → lookP (place ++ [(whereL r fs, gs.length)]) (whereL s x.by_) = some i ∧ FsOK x.by_ ∧ x.ids ≠ [] ∧ SortU x.ids := fun s xs i x h1 h2 => by
    obtain ⟨a1, a2⟩ := h.at_ s xs i x h1 h2
    refine ⟨?_, a2⟩
    rw [lookP_snoc, if_neg]
    · exact a1
    · intro e; rw [← e] at a1; simp only at a1; rw [hl] at a1; cases a1
  refine ⟨⟨fun s ys i y h1 h2 => ?_, fun s fs' i hf' hl' => ?_⟩, ⟨_, gs.length, _, hat, hlast, rfl, List.mem_singleton.2 rfl⟩, fun s fs' id' ⟨xs, i, x, h1, h2, h3, h4⟩ => ?_⟩
  · simp only at h1 ⊢
    by_cases hs : r = s
    · subst hs
      rw [hat] at h1; injection h1 with h1; subst h1
      rcases Nat.lt_or_ge i gs.length with hi | hi
      · rw [List.getElem?_append_left hi] at h2
        exact old r gs i y hr h2
      · have hi2 : i = gs.length := by have := (List.getElem?_eq_some_iff.1 h2).1; simp at this; omega
        subst hi2
        rw [hlast] at h2; injection h2 with h2; subst h2
        refine ⟨by rw [lookP_snoc, if_pos rfl], hf, by simp, List.pairwise_singleton _ _⟩
    · rw [List.getElem?_set_ne hs] at h1
      exact old s ys i y h1 h2
  · simp only at hl' ⊢
    rw [lookP_snoc] at hl'
    split at hl'
    · rename_i he
      injection hl' with hl'; subst hl'
      obtain ⟨rfl, rfl⟩ := whereL_inj hf hf' he
      exact ⟨_, _, hat, hlast, rfl⟩
    · obtain ⟨xs, x, h1, h2, h3⟩ := h.of s fs' i hf' hl'
      obtain ⟨ys, h4, h5⟩ := fwd s i xs x h1 h2
      exact ⟨ys, x, h4, h5, h3⟩
  · obtain ⟨ys, h5, h6⟩ := fwd s i xs x h1 h2
    exact ⟨ys, i, x, h5, h6, h3, h4⟩
end
theorem pick_ok {fs : List Fld} (h : FsOK fs) (n : List (List UInt8)) : FsOK (pickF fs n) := fun f hf => h f (List.mem_filter.1 hf).1
theorem PInv.step {st : GSt} (h : PInv st) (rec : List UInt8) (id : Nat) {fs : List Fld} (hf : FsOK fs) (names : Nat → List (List UInt8)) (r : Nat) :
    PInv (stepG rec id fs names st r) ∧ (r < st.rooms.length → Has (stepG rec id fs names st r) r (pickF fs (names r)) id) ∧ ∀ r' fs' id', Has st r' fs' id' → Has (stepG rec id fs names st r) r' fs' id' := by
  obtain ⟨rooms, place⟩ := st
  unfold stepG
  simp only
  cases hl : lookP place (whereL r (pickF fs (names r))) with
  | some k =>
    simp only
    obtain ⟨gs, g, h1, h2, h3⟩ := h.of r _ k (pick_ok hf _) hl
    simp only at h1
    obtain ⟨p1, p2, p3⟩ := h.bump (id := id) h1 h2
    rw [h3] at p2
    exact ⟨p1, fun _ => p2, p3⟩
  | none =>
    cases hr : rooms[r]? with
    | none =>
      refine ⟨h, fun hlt => ?_, fun _ _ _ h => h⟩
      rw [List.getElem?_eq_none_iff] at hr; omega
    | some gs =>
      simp only
      have hrl : r < rooms.length := (List.getElem?_eq_some_iff.1 hr).1
      have e : bumpG (rooms.set r (gs ++ [⟨r, pickF fs (names r), keyA rec r (pickF fs (names r)), []⟩])) r gs.length id = rooms.set r (gs ++ [⟨r, pickF fs (names r), keyA rec r (pickF fs (names r)), [id]⟩]) := by
        rw [bumpG_eq (List.getElem?_set_self hrl) List.getElem?_concat_length]
        simp [addId_nil, List.set_set]
      rw [e]
      obtain ⟨p1, p2, p3⟩ := h.push (id := id) (key := keyA rec r (pickF fs (names r))) hr (pick_ok hf _) hl
      exact ⟨p1, fun _ => p2, p3⟩
theorem step_length {rec : List UInt8} {id : Nat} {fs : List Fld} {names : Nat → List (List UInt8)} {st : GSt} {r : Nat} : (stepG rec id fs names st r).rooms.length = st.rooms.length := by
  cases hr : st.rooms[r]? with
  | none => rw [step_none hr]
  | some gs => exact (step_room hr).1
theorem PInv.fold (rec : List UInt8) (id : Nat) {fs : List Fld} (hf : FsOK fs) (names : Nat → List (List UInt8)) : ∀ (F : List Nat) {st : GSt}, PInv st → (∀ r ∈ F, r < st.rooms.length) →
    PInv (F.foldl (stepG rec id fs names) st) ∧ (F.foldl (stepG rec id fs names) st).rooms.length = st.rooms.length ∧ (∀ r ∈ F, Has (F.foldl (stepG rec id fs names) st) r (pickF fs (names r)) id) ∧ ∀ r' fs' id', Has st r' fs' id' → Has (F.foldl (stepG rec id fs names) st) r' fs' id'
  | [], st, h, _ => ⟨h, rfl, fun _ h => (by cases h), fun _ _ _ h => h⟩
  | r :: F, st, h, hF => by
    obtain ⟨p1, p2, p3⟩ := h.step rec id hf names r
    have hlen := step_length (rec := rec) (id := id) (fs := fs) (names := names) (st := st) (r := r)
    obtain ⟨q1, q2, q3, q4⟩ := PInv.fold rec id hf names F p1 (fun s hs => by rw [hlen]; exact hF s (List.mem_cons_of_mem _ hs))
    rw [List.foldl_cons]
    refine ⟨q1, by rw [q2, hlen], fun s hs => ?_, fun r' fs' id' h' => q4 r' fs' id' (p3 r' fs' id' h')⟩
    rcases List.mem_cons.1 hs with rfl | hs
    · exact q4 _ _ _ (p2 (hF _ List.mem_cons_self))
    · exact q3 s hs
theorem sees_ok {p : Pol} {rec : List UInt8} {a c : Alr} {now : Int} (h : seesA p rec a now = some c) : FsOK c.fs := by
  unfold seesA at h
  split at h
  · cases h
  · split at h
    · rename_i hb
      simp only [Bool.and_eq_true] at hb
      have hab := hb.1
      unfold alertB at hab
      simp only [Bool.and_eq_true] at hab
      have hfi := fieldsB_info hab.1.1.1.2
      unfold cutA at h
      split at h
      · cases h
      · injection h with h; subst h
        intro f hf
        exact nameB_noeq (hfi.2 f (List.mem_filter.1 hf).1).1
    · cases h
theorem fitsL_lt {ft : List Fld → Mat → Bool} {p : Pol} {rec : List UInt8} {fs : List Fld} {r : Nat} (h : r ∈ fitsL ft p rec fs) : r < p.routes.length := by
  unfold fitsL fitsTo at h
  exact List.mem_range.1 (List.mem_filter.1 h).1
theorem PInv.all {ft : List Fld → Mat → Bool} {p : Pol} {rec : List UInt8} {now : Int} : ∀ (l : List Alr) {st : GSt}, PInv st → st.rooms.length = p.routes.length →
    PInv (l.foldl (alertG ft p rec now) st) ∧ (∀ r' fs' id', Has st r' fs' id' → Has (l.foldl (alertG ft p rec now) st) r' fs' id') ∧
      ∀ a ∈ l, ∀ c, seesA p rec a now = some c → ∀ r ∈ fitsL ft p rec c.fs, Has (l.foldl (alertG ft p rec now) st) r (pickF c.fs (namesAt p r)) (idA c)
  | [], st, h, _ => ⟨h, fun _ _ _ h => h, fun _ h => by cases h⟩
  | a :: l, st, h, hl => by
    rw [List.foldl_cons]
    cases hs : seesA p rec a now with
    | none =>
      have e : alertG ft p rec now st a = st := by unfold alertG; rw [hs]
      rw [e]
      obtain ⟨q1, q2, q3⟩ := PInv.all l h hl
      refine ⟨q1, q2, fun b hb c hc => ?_⟩
      rcases List.mem_cons.1 hb with rfl | hb
      · rw [hs] at hc; cases hc
      · exact q3 b hb c hc
    | some c0 =>
      have e : alertG ft p rec now st a = (fitsL ft p rec c0.fs).foldl (stepG rec (idA c0) c0.fs (namesAt p)) st := by unfold alertG; rw [hs]
      rw [e]
      obtain ⟨p1, p2, p3, p4⟩ := PInv.fold rec (idA c0) (sees_ok hs) (namesAt p) (fitsL ft p rec c0.fs) h (fun r hr => by rw [hl]; exact fitsL_lt hr)
      obtain ⟨q1, q2, q3⟩ := PInv.all l p1 (p2.trans hl)
      refine ⟨q1, fun r' fs' id' h' => q2 _ _ _ (p4 _ _ _ h'), fun b hb c hc r hr => ?_⟩
      rcases List.mem_cons.1 hb with rfl | hb
      · rw [hs] at hc; injection hc with hc; subst hc
        exact q2 _ _ _ (p3 r hr)
      · exact q3 b hb c hc r hr
/-- In their row, and unlike one another. -/
def ApartG (x y : Grp) : Prop := x.route < y.route ∨ (x.route = y.route ∧ x.by_ ≠ y.by_)
/-- How often an id is told in the groups of a route and of these fields. -/
def cntG (r : Nat) (fs : List Fld) (id : Nat) (gs : List Grp) : Nat := (gs.map fun g => if g.route = r ∧ g.by_ = fs then g.ids.count id else 0).sum
theorem cnt_none {r : Nat} {fs : List Fld} {id : Nat} : ∀ {gs : List Grp}, (∀ g ∈ gs, ¬ (g.route = r ∧ g.by_ = fs)) → cntG r fs id gs = 0
  | [], _ => rfl
  | g :: gs, h => by
    have := cnt_none (id := id) (fun x hx => h x (List.mem_cons_of_mem g hx))
    unfold cntG at *
    rw [List.map_cons, List.sum_cons, if_neg (h g List.mem_cons_self), this]
theorem cnt_one {r : Nat} {fs : List Fld} {id : Nat} : ∀ {gs : List Grp}, gs.Pairwise ApartG → (∃ g ∈ gs, g.route = r ∧ g.by_ = fs ∧ id ∈ g.ids) → (∀ g ∈ gs, SortU g.ids) → cntG r fs id gs = 1
  | [], _, ⟨_, h, _⟩, _ => by cases h
  | x :: gs, hp, ⟨g, hg, h1, h2, h3⟩, hs => by
    obtain ⟨hx, hp'⟩ := List.pairwise_cons.1 hp
    have e : cntG r fs id (x :: gs) = (if x.route = r ∧ x.by_ = fs then x.ids.count id else 0) + cntG r fs id gs := rfl
    rw [e]
    rcases List.mem_cons.1 hg with rfl | hg
    · rw [if_pos ⟨h1, h2⟩, cnt_none (fun y hy hyy => ?_)]
      · have hn : g.ids.Nodup := by
          refine List.Pairwise.imp (fun h => ?_) (hs g List.mem_cons_self)
          omega
        have h4 := List.nodup_iff_count.1 hn id
        have h5 := List.count_pos_iff.2 h3
        omega
      · rcases hx y hy with h | ⟨_, h⟩
        · omega
        · exact h (h2.trans hyy.2.symm)
    · have hnx : ¬ (x.route = r ∧ x.by_ = fs) := fun hxx => by
        rcases hx g hg with h | ⟨_, h⟩
        · omega
        · exact h (hxx.2.trans h2.symm)
      rw [if_neg hnx, cnt_one hp' ⟨g, hg, h1, h2, h3⟩ (fun y hy => hs y (List.mem_cons_of_mem _ hy))]
theorem flat_apart {st : GSt} (h : PInv st) (hR : RouteR 0 st.rooms) : st.rooms.flatten.Pairwise ApartG := by
  rw [List.pairwise_flatten]
  refine ⟨fun gs hgs => ?_, ?_⟩
  · obtain ⟨r, hr, rfl⟩ := List.getElem_of_mem hgs
    rw [List.pairwise_iff_getElem]
    intro i j hi hj hij
    have e := List.getElem?_eq_getElem hr
    refine .inr ⟨?_, fun he => ?_⟩
    · rw [hR r _ _ e (List.getElem_mem hi), hR r _ _ e (List.getElem_mem hj)]
    · have h1 := (h.at_ r _ i _ e (List.getElem?_eq_getElem hi)).1
      have h2 := (h.at_ r _ j _ e (List.getElem?_eq_getElem hj)).1
      rw [he, h2] at h1
      injection h1 with h1; omega
  · rw [List.pairwise_iff_getElem]
    intro i j hi hj hij x hx y hy
    have h1 := hR i _ x (List.getElem?_eq_getElem hi) hx
    have h2 := hR j _ y (List.getElem?_eq_getElem hj) hy
    exact .inl (by omega)
/-- THE LAW: the groups of a receiver, in their row, unlike one another, none of them empty, ids rising. -/
theorem groups_parts (fb : Mat → Bool) (ft : List Fld → Mat → Bool) (p : Pol) (rec : List UInt8) (l : List Alr) (now : Int) :
    (groupsL fb ft p rec l now).Pairwise ApartG ∧ ∀ g ∈ groupsL fb ft p rec l now, g.ids ≠ [] ∧ SortU g.ids := by
  unfold groupsL
  split
  · unfold groupsSt
    have hP := (PInv.all (ft := ft) (p := p) (rec := rec) (now := now) l (PInv.start p.routes.length) (by simp)).1
    have hR := RouteR.all (ft := ft) (p := p) (rec := rec) (now := now) l (st := ⟨List.replicate p.routes.length [], []⟩) (RouteR.start _)
    refine ⟨flat_apart hP hR, fun g hg => ?_⟩
    obtain ⟨gs, h1, h2⟩ := List.mem_flatten.1 hg
    obtain ⟨r, hr, rfl⟩ := List.getElem_of_mem h1
    obtain ⟨k, hk, rfl⟩ := List.getElem_of_mem h2
    exact (hP.at_ r _ k _ (List.getElem?_eq_getElem hr) (List.getElem?_eq_getElem hk)).2.2
  · exact ⟨List.Pairwise.nil, fun _ h => by cases h⟩
theorem findL_at {l : List Nam} (hn : (namesOf l).Nodup) {n : Nat} {x : Nam} (hx : l[n]? = some x) : findL l x.n = some x.l := by
  refine find_some (i := n) hx (by simp) ?_
  rw [List.any_eq_false]
  intro y hy
  rw [beq_iff_eq]
  intro he
  obtain ⟨i, hi, rfl⟩ := List.getElem_of_mem hy
  rw [List.length_take] at hi
  rw [List.getElem_take] at he
  have h1 := namesOf_get hx
  have h2 := namesOf_get (List.getElem?_eq_getElem (show i < l.length by omega))
  have hnl : n < (namesOf l).length := (List.getElem?_eq_some_iff.1 h1).1
  have e : (namesOf l)[i]? = (namesOf l)[n]? := by rw [h1, h2, he]
  have hil : i < (namesOf l).length := (List.getElem?_eq_some_iff.1 h2).1
  rw [List.getElem?_eq_getElem hil, List.getElem?_eq_getElem hnl] at e
  injection e with e
  have := List.pairwise_iff_getElem.1 hn i n hil hnl (by omega)
  exact this e
theorem recv_label {fb : Mat → Bool} {p : Pol} (h : checkL fb p = 0) {n : Nat} {x : Nam} (hx : p.receivers[n]? = some x) : findL p.receivers x.n = some x.l := by
  have hn := badB_names (check_ok h).2
  unfold namedB at hn
  simp only [Bool.and_eq_true, decide_eq_true_eq] at hn
  exact findL_at hn.2 hx
/-- THE LAW: an alert that goes by a route is in the one group of its fields, once. -/
theorem groups_in {fb : Mat → Bool} {ft : List Fld → Mat → Bool} {p : Pol} {l : List Alr} {now : Int} {n : Nat} {x : Nam} (hx : p.receivers[n]? = some x) {a : Alr} (ha : a ∈ l) {r : Nat} (hr : r ∈ goesL fb ft p x.n a now) :
    ∃ c, cutA p a x.l = some c ∧ seesA p x.n a now = some c ∧ checkL fb p = 0 ∧ cntG r (pickF c.fs (namesAt p r)) (idA c) (groupsL fb ft p x.n l now) = 1 := by
  unfold goesL at hr
  cases hs : seesA p x.n a now with
  | none => rw [hs] at hr; cases hr
  | some c =>
    rw [hs] at hr
    simp only at hr
    split at hr
    · rename_i hck
      refine ⟨c, ?_, rfl, hck, ?_⟩
      · have hf := recv_label hck hx
        unfold seesA at hs
        rw [hf] at hs
        simp only at hs
        split at hs
        · exact hs
        · cases hs
      · obtain ⟨h1, h2⟩ := groups_parts fb ft p x.n l now
        refine cnt_one h1 ?_ (fun g hg => (h2 g hg).2)
        obtain ⟨gs, k, g, q1, q2, q3, q4⟩ := (PInv.all (ft := ft) (p := p) (rec := x.n) (now := now) l (PInv.start p.routes.length) (by simp)).2.2 a ha c hs r hr
        have hR := RouteR.all (ft := ft) (p := p) (rec := x.n) (now := now) l (st := ⟨List.replicate p.routes.length [], []⟩) (RouteR.start _)
        refine ⟨g, ?_, ?_, q3, q4⟩
        · unfold groupsL groupsSt
          rw [if_pos hck]
          exact List.mem_flatten.2 ⟨gs, List.mem_of_getElem? q1, List.mem_of_getElem? q2⟩
        · have := hR r gs g q1 (List.mem_of_getElem? q2); omega
    · cases hr
end Go.Proofs.YtfoffneipdkdjaaGreatDoor
namespace Go.Proofs.YtfoffneipdkdjaaGreatDoor
open Go.RowKit

/-- A field, with another value if it may not be seen. -/
def lowF (p : Pol) (l to : Lab) (v : List UInt8) (f : Fld) : Fld := if flowsL (raisedL p f.n l) to then f else { f with v := v }
def lowA (p : Pol) (to : Lab) (v : List UInt8) (a : Alr) : Alr := { a with fs := a.fs.map (lowF p a.l to v) }
def lowOk (to : Lab) (a : Alr) : Bool := flowsL a.l to && fieldsB a.fs
def lowL (p : Pol) (to : Lab) (v : List UInt8) (l : List Alr) : List Alr := (l.filter (lowOk to)).map (lowA p to v)
theorem lowF_n (p : Pol) (l to : Lab) (v : List UInt8) (f : Fld) : (lowF p l to v f).n = f.n := by unfold lowF; split <;> rfl
theorem low_visible (p : Pol) (l to : Lab) (v : List UInt8) : ∀ fs : List Fld, visibleL p (fs.map (lowF p l to v)) l to = visibleL p fs l to
  | [] => rfl
  | f :: fs => by
    have ih := low_visible p l to v fs
    unfold visibleL at *
    rw [List.map_cons, List.filter_cons, List.filter_cons, lowF_n, ih]
    unfold lowF
    split <;> rfl
theorem low_asc (p : Pol) (l to : Lab) (v : List UInt8) : ∀ fs : List Fld, ascB (fs.map (lowF p l to v)) = ascB fs
  | [] => rfl
  | [_] => rfl
  | a :: b :: fs => by
    have ih := low_asc p l to v (b :: fs)
    simp only [List.map_cons] at ih ⊢
    unfold ascB
    rw [lowF_n, lowF_n, ih]
theorem low_fields (p : Pol) (l to : Lab) {v : List UInt8} (hv : v.length ≤ 200) {fs : List Fld} (h : fieldsB fs = true) : fieldsB (fs.map (lowF p l to v)) = true := by
  unfold fieldsB at *
  simp only [Bool.and_eq_true, decide_eq_true_eq] at h ⊢
  refine ⟨⟨?_, by rw [low_asc]; exact h.1.2⟩, by rw [List.length_map]; exact h.2⟩
  rw [List.all_eq_true]
  intro f hf
  obtain ⟨g, hg, rfl⟩ := List.mem_map.1 hf
  have := List.all_eq_true.1 h.1.1 g hg
  simp only [Bool.and_eq_true, decide_eq_true_eq] at this ⊢
  refine ⟨by rw [lowF_n]; exact this.1, ?_⟩
  unfold lowF
  split
  · exact this.2
  · exact hv
theorem low_alert (p : Pol) (to : Lab) {v : List UInt8} (hv : v.length ≤ 200) {a : Alr} (h : fieldsB a.fs = true) : alertB (lowA p to v a) = alertB a := by
  unfold alertB lowA
  simp only [List.length_map, h, low_fields p a.l to hv h]
theorem low_cut (p : Pol) (to : Lab) (v : List UInt8) (a : Alr) : cutA p (lowA p to v a) to = cutA p a to := by
  unfold cutA lowA
  simp only [low_visible]
theorem low_sees {p : Pol} {rec : List UInt8} {to : Lab} (hf : findL p.receivers rec = some to) {v : List UInt8} (hv : v.length ≤ 200) (a : Alr) (now : Int) :
    (lowOk to a = false → seesA p rec a now = none) ∧ (lowOk to a = true → seesA p rec (lowA p to v a) now = seesA p rec a now) := by
  unfold lowOk
  constructor
  · intro h
    rw [Bool.and_eq_false_iff] at h
    unfold seesA
    rw [hf]
    simp only
    split
    · rename_i hb
      simp only [Bool.and_eq_true] at hb
      rcases h with h | h
      · unfold cutA; rw [if_pos (.inr h)]
      · have := hb.1
        unfold alertB at this
        simp only [Bool.and_eq_true] at this
        rw [h] at this
        cases this.1.1.1.2
    · rfl
  · intro h
    rw [Bool.and_eq_true] at h
    unfold seesA
    rw [hf]
    simp only
    rw [low_alert p to hv h.2, low_cut]
    rfl
theorem low_fold {ft : List Fld → Mat → Bool} {p : Pol} {rec : List UInt8} {to : Lab} (hf : findL p.receivers rec = some to) {v : List UInt8} (hv : v.length ≤ 200) (now : Int) : ∀ (l : List Alr) (st : GSt), (lowL p to v l).foldl (alertG ft p rec now) st = l.foldl (alertG ft p rec now) st
  | [], _ => rfl
  | a :: l, st => by
    obtain ⟨h1, h2⟩ := low_sees hf hv a now
    have ih := low_fold (ft := ft) hf hv now l
    unfold lowL at *
    rw [List.filter_cons, List.foldl_cons]
    cases hb : lowOk to a with
    | false =>
      have e : alertG ft p rec now st a = st := by unfold alertG; rw [h1 hb]
      rw [if_neg (by simp), e]; exact ih st
    | true =>
      have e : alertG ft p rec now st (lowA p to v a) = alertG ft p rec now st a := by unfold alertG; rw [h2 hb]
      rw [if_pos rfl, List.map_cons, List.foldl_cons, e]; exact ih _
/-- THE LAW. -/
theorem groups_low {fb : Mat → Bool} {ft : List Fld → Mat → Bool} {p : Pol} {n : Nat} {x : Nam} (hx : p.receivers[n]? = some x) {v : List UInt8} (hv : v.length ≤ 200) (l : List Alr) (now : Int) :
    groupsL fb ft p x.n (lowL p x.l v l) now = groupsL fb ft p x.n l now := by
  unfold groupsL
  split
  · rename_i h
    unfold groupsSt
    rw [low_fold (recv_label h hx) hv]
  · rfl
end Go.Proofs.YtfoffneipdkdjaaGreatDoor
namespace Go.Proofs.YtfoffneipdkdjaaGreatDoor
open Go.RowKit

theorem fld_ext {x y : Fld} (h : x.n = y.n) (h' : x.v = y.v) : x = y := by cases x; cases y; simp_all
set_option maxRecDepth 100000 in
set_option maxHeartbeats 1600000 in
theorem rsame_any (A B : Option Addr) (m c m' c' : Nat) (xs ys : List Fld) (w : World) (h : Arr w 2 encF A m xs) (h' : Arr w 2 encF B m' ys) (hm : m ≤ 9223372036854775807) (hm' : m' ≤ 9223372036854775807) :
    Calls Tryz.prog 16 #[.slice A m c, .slice B m' c'] w fun e w' => e = .returned (.bool (decide (xs = ys))) ∧ Grows w w' := by
  have hl := h.1
  have hl' := h'.1
  by_cases hmm : m = m'
  · subst hmm
    have hb : ((m : Int) != (m : Int)) = false := by simp
    replace hl := Lib.hid hl
    replace hl' := Lib.hid hl'
    replace h := Lib.hid h
    replace h' := Lib.hid h'
    go_enter Tryz.func16, Tryz.ntmps16
    go_wp2
    go_loopw [5] (fun i wr => ∃ k : Nat, k ≤ m ∧ i = .int .i64 k ∧ Hid (xs.take k = ys.take k) ∧ Grows w wr) (fun i _ => m - (intOf i).toNat)
    case atStart => exact ⟨0, by omega, rfl, by simp [Hid], Grows.refl _⟩
    case round =>
      obtain ⟨k, hk, rfl, hsame, hg⟩ := hrel
      by_cases hkm : k < m
      · obtain ⟨b1, o1, x, rfl, _, hx, hc1⟩ := ((h.out).keep hg).at_ hkm
        obtain ⟨b2, o2, y, rfl, _, hy, hc2⟩ := ((h'.out).keep hg).at_ hkm
        have c1 : wr.cell? ⟨b1, o1 + k * 2, none⟩ = some (.string ⟨x.n.toArray⟩) := by simpa using hc1 0 _ rfl
        have c2 : wr.cell? ⟨b2, o2 + k * 2, none⟩ = some (.string ⟨y.n.toArray⟩) := by simpa using hc2 0 _ rfl
        have d1 : wr.cell? ⟨b1, o1 + k * 2 + 1, none⟩ = some (.string ⟨x.v.toArray⟩) := hc1 1 _ rfl
        have d2 : wr.cell? ⟨b2, o2 + k * 2 + 1, none⟩ = some (.string ⟨y.v.toArray⟩) := hc2 1 _ rfl
        by_cases hxy : x = y
        · subst hxy
          have hs : xs.take (k + 1) = ys.take (k + 1) := by rw [List.take_add_one, List.take_add_one, hx, hy, hsame.out]
          replace hs := Lib.hid hs
          clear hx hy hc1 hc2 hsame
          go_wp2
          go_quiet (fail)
          go_wp2
          go_roundw
          case rel => exact ⟨k + 1, by omega, by go_num, hs.out, hg.drewN _⟩
          case measure => simp [intOf]; omega
        · have hfin : decide (xs = ys) = false := by
            rw [decide_eq_false_iff_not]; rintro rfl
            rw [hx] at hy; injection hy with hy; exact hxy hy
          replace hfin := Lib.hid hfin
          have hne : Hid (¬ x = y) := Lib.hid hxy
          clear hx hy hc1 hc2 hsame hxy
          go_wp2
          refine wp_region_k (by kernel_rfl) ?_
          refine wpAnyK_run (l' := #[true, true, true, true, true, true, true, true, true]) [0, 1, 2, 3, 4, 5, 6, 7, 8] 0 up_grows (by kernel_rfl) (by intro c a d v w h; first | (cases d <;> exact h) | exact hQ0 _ _ _ _ _ h) rfl (by kernel_rfl) (by kernel_rfl) ?_
          iterate 8 (refine wpMixC_q rfl (fun K hK => ?_); go_simp; (try go_bits); first | (refine hK.out _ ?_; clear hK K) | (apply Exists.intro; refine ⟨fun wq hsq => ?_, hK.out _ ?_⟩; (first | (go_simp; done) | ((try go_simp); (try simp only [↓IntWalk.iteOmega]); (try go_bits); rfl) | (obtain ⟨hcq, hfq⟩ := bcells hsq; go_simp; done) | (obtain ⟨hcq, hfq⟩ := bcells hsq; (try go_simp); (try simp only [↓IntWalk.iteOmega]); (try go_bits); rfl)); clear hK K))
          refine wpMixC_v (.bool true) rfl (by first | rfl | (go_simp; done)) (fun wq hsq => ?_) ?_
          · go_simp
            exact fun h1 h2 => hne.out (fld_ext h1 h2)
          go_simp
          refine wpMixC_nil ?_
          refine wpAnyK_end (by kernel_rfl) (fun wN hN hS => ?_)
          go_wp2
          go_ret
          exact ⟨ret_bool hfin.out.symm, hg.trans hN⟩
      · obtain rfl : k = m := by omega
        have hfin : decide (xs = ys) = true := by
          have := hsame.out
          rw [List.take_of_length_le (Nat.le_of_eq hl.out), List.take_of_length_le (Nat.le_of_eq hl'.out)] at this
          rw [decide_eq_true_eq]; exact this
        replace hfin := Lib.hid hfin
        clear hsame
        go_wp2
        go_ret
        exact ⟨ret_bool hfin.out.symm, hg⟩
  · have hb : ((m : Int) != (m' : Int)) = true := by rw [bne_iff_ne]; omega
    have hfin : decide (xs = ys) = false := by
      rw [decide_eq_false_iff_not]; rintro rfl; exact hmm (hl.symm.trans hl')
    replace hfin := Lib.hid hfin
    clear hl hl' h h' hmm
    go_enter Tryz.func16, Tryz.ntmps16
    go_wp2
    go_ret
    exact ⟨ret_bool hfin.out.symm, Grows.refl _⟩
end Go.Proofs.YtfoffneipdkdjaaGreatDoor
namespace Go.Proofs.YtfoffneipdkdjaaGreatDoor
open Go.RowKit

theorem pickF_take {fs : List Fld} {names : List (List UInt8)} {k : Nat} {f : Fld} (h : fs[k]? = some f) : pickF (fs.take (k + 1)) names = pickF (fs.take k) names ++ (if f.n ∈ names then [f] else []) := by
  unfold pickF
  rw [List.take_add_one, h, List.filter_append]
  by_cases hm : f.n ∈ names <;> simp [hm]
set_option maxRecDepth 100000 in
set_option maxHeartbeats 1600000 in
theorem rpick_any {A : Option Addr} {m c : Nat} {fs : List Fld} {A2 : Option Addr} {m2 c2 : Nat} {names : List (List UInt8)} (w : World) (hA : Arr w 2 encF A m fs) (hm : m ≤ 1000) (hN : Arr w 1 encS A2 m2 names) (hm2 : m2 ≤ 9223372036854775807) :
    Calls Tryz.prog 19 #[.slice A m c, .slice A2 m2 c2] w fun e w' => ∃ v, e = .returned v ∧ Own w' w.heap.size 76 2 encF v (pickF fs names) ∧ Grows w w' := by
  have hml := Lib.hid hA.1
  have hml2 := Lib.hid hN.1
  replace hA := Lib.hid hA
  replace hN := Lib.hid hN
  go_enter Tryz.func19, Tryz.ntmps19
  go_wp2
  go_loopw [5, 6, 7] (fun o i _ wr => ∃ (k : Nat), k ≤ m ∧ i = .int .i64 (k : Int) ∧ Hid (Own wr w.heap.size 76 2 encF o (pickF (fs.take k) names)) ∧ Hid (Grows w wr)) (fun _ i _ _ => m - (intOf i).toNat)
  case atStart => exact ⟨0, by omega, rfl, Own.nil_ _ _ _ _ _, Lib.hid (Grows.refl _)⟩
  case round =>
    obtain ⟨k, hk, rfl, hO, hG⟩ := hrel
    by_cases hkm : k < m
    · obtain ⟨bb, off, f, rfl, hsx, hx, hcell⟩ := hA.out.at_ hkm
      have k0 : w.cell? ⟨bb, off + k * 2, none⟩ = some (.string ⟨f.n.toArray⟩) := by simpa using hcell 0 _ rfl
      have k1 : w.cell? ⟨bb, off + k * 2 + 1, none⟩ = some (.string ⟨f.v.toArray⟩) := by simpa using hcell 1 _ rfl
      have hki : (k : Int) < (m : Int) := by omega
      have hpt := Lib.hid (pickF_take (names := names) hx)
      have hol : Hid ((pickF (fs.take k) names).length ≤ k) := Lib.hid (by
        have h1 : (pickF (fs.take k) names).length ≤ (fs.take k).length := List.length_filter_le _ _
        rw [List.length_take] at h1; omega)
      generalize pickF (fs.take k) names = out at *
      clear hcell hx
      go_wp2
      go_loopw [5, 7] (fun o2 kv wr2 => ∃ (j : Nat), j ≤ m2 ∧ kv = .int .i64 (j : Int) ∧ Hid (¬ f.n ∈ names.take j) ∧ Hid (Own wr2 w.heap.size 76 2 encF o2 out) ∧ Hid (Grows wr wr2)) (fun _ kv _ => m2 - (intOf kv).toNat)
      case atStart => exact ⟨0, by omega, rfl, Lib.hid (by simp), hO, Lib.hid (Grows.refl _)⟩
      case round =>
        clear hO
        obtain ⟨j, hj, rfl, hno, hO, hgw⟩ := hrel
        replace hG := Lib.hid (hG.out.trans hgw.out)
        by_cases hjm : j < m2
        · obtain ⟨b2, o2, n, rfl, hs2, hn, hcell2⟩ := (hN.out.keep hG.out).at_ hjm
          have n0 : wr.cell? ⟨b2, o2 + j, none⟩ = some (.string ⟨n.toArray⟩) := by simpa using hcell2 0 _ rfl
          have c0 := hG.out.cell k0
          have c1 := hG.out.cell k1
          have hbb : bb < wr.heap.size := Nat.lt_of_lt_of_le hsx hG.out.size
          have hjmi : (j : Int) < (m2 : Int) := by omega
          by_cases hen : n = f.n
          · have hbe : (n == f.n) = true := by rw [hen]; simp
            have hin : Hid (out ++ [f] = pickF (fs.take (k + 1)) names) := Lib.hid (by
              rw [hpt.out, if_pos]
              rw [← hen]; exact List.mem_of_getElem? hn)
            clear hen hcell2 hn hpt hno
            go_wp2_with fail
            refine wp_region_mixg [(0, true), (1, true), (2, true), (3, true), (4, true), (5, true), (6, true), (7, true), (8, true), (9, true)] (by kernel_rfl) (by kernel_rfl) rfl (by kernel_rfl) (by intro c a d v w h; first | (cases d <;> exact h) | exact hQ0 _ _ _ _ _ h) ?_
            iterate 10 (refine wpMix_q rfl (fun K hK => ?_); go_simp; (try go_bits); first | (refine hK _ ?_; clear hK K) | (apply Exists.intro; refine ⟨fun wq hsq => ?_, hK _ ?_⟩; (first | (go_simp; done) | ((try go_simp); (try simp only [↓IntWalk.iteOmega]); (try go_bits); rfl) | (obtain ⟨hcq, hfq⟩ := bcells hsq; go_simp; done) | (obtain ⟨hcq, hfq⟩ := bcells hsq; (try go_simp); (try simp only [↓IntWalk.iteOmega]); (try go_bits); rfl)); clear hK K))
            refine wpMix_nil ?_
            replace hG := Lib.hid hG.out.drew
            replace hO := Lib.hid hO.out.drew
            replace c0 := ((Grows.refl wr).drew).cell c0
            replace c1 := ((Grows.refl wr).drew).cell c1
            replace hbb := Nat.lt_of_lt_of_le hbb ((Grows.refl wr).drew).size
            clear hgw n0 hs2 hbe
            generalize wr.drew = w7 at *
            go_wp2_with (at_builtin; (refine wpList_grown (x := f) T_ff rfl (.tmp 30) (.tmp 35) rfl (hO.out.alloc _) rfl ⟨w7.heap.size, 0, none⟩ rfl rfl (news_of (by exact heap_alloc_new w7 _)) (oneF _) (by have := hG.out.size; simp; omega) (by have := hol.out; unfold maxLen; omega) (by have := hol.out; omega) (fun v8 w8 hO8 hgr hat => ?_); (have hGw8 := Lib.hid ((hG.out.alloc _).by_row hgr hO.out.block_ge)); (replace hO8 := Lib.hid hO8); clear hgr hat))
            go_roundw
            case rel => exact ⟨k + 1, by omega, by go_num, Lib.hid (by rw [← hin.out]; exact hO8.out), hGw8⟩
            case measure => simp [intOf]; omega
          · have hbe : (n == f.n) = false := by simp [hen]
            have hno2 : Hid (¬ f.n ∈ names.take (j + 1)) := Lib.hid (by
              rw [List.take_add_one, hn]
              have h1 := hno.out
              simp only [Option.toList, List.mem_append, List.mem_singleton, not_or]
              exact ⟨h1, fun e => hen e.symm⟩)
            clear hen hcell2 hn hno
            go_wp2_with fail
            refine wp_region_mixg [(0, true), (1, true), (2, true), (3, true), (4, true), (5, true), (6, true), (7, true), (8, true), (9, true)] (by kernel_rfl) (by kernel_rfl) rfl (by kernel_rfl) (by intro c a d v w h; first | (cases d <;> exact h) | exact hQ0 _ _ _ _ _ h) ?_
            iterate 10 (refine wpMix_q rfl (fun K hK => ?_); go_simp; (try go_bits); first | (refine hK _ ?_; clear hK K) | (apply Exists.intro; refine ⟨fun wq hsq => ?_, hK _ ?_⟩; (first | (go_simp; done) | ((try go_simp); (try simp only [↓IntWalk.iteOmega]); (try go_bits); rfl) | (obtain ⟨hcq, hfq⟩ := bcells hsq; go_simp; done) | (obtain ⟨hcq, hfq⟩ := bcells hsq; (try go_simp); (try simp only [↓IntWalk.iteOmega]); (try go_bits); rfl)); clear hK K))
            refine wpMix_nil ?_
            go_wp2
            go_roundw
            case rel => exact ⟨j + 1, by omega, by go_num, hno2, Lib.hid hO.out.drew, Lib.hid (by
              have hgw := hgw.out
              repeat (first | assumption | exact Grows.refl _ | apply Grows.drew | apply Grows.drewN | refine Grows.alloc ?_ _ | (refine Grows.setCell ?_ (by first | (simp; done) | (simp; omega) | omega) _) | (refine Grows.trans ?_ (by assumption)))
            )⟩
            case measure => simp [intOf]; omega
        · have hjmi : ¬ (j : Int) < (m2 : Int) := by omega
          have hin : Hid (out = pickF (fs.take (k + 1)) names) := Lib.hid (by
            have h1 := hno.out
            rw [List.take_of_length_le (by rw [hml2.out]; omega)] at h1
            rw [hpt.out, if_neg h1, List.append_nil])
          clear hpt hno
          go_wp2
          go_roundw
          case rel => exact ⟨k + 1, by omega, by go_num, Lib.hid (by rw [← hin.out]; exact hO.out), hG⟩
          case measure => simp [intOf]; omega
    · have hki : ¬ (k : Int) < (m : Int) := by omega
      rw [List.take_of_length_le (by rw [hml.out]; omega)] at hO
      go_wp2
      go_ret
      exact ⟨_, rfl, hO.out, hG.out⟩
end Go.Proofs.YtfoffneipdkdjaaGreatDoor
