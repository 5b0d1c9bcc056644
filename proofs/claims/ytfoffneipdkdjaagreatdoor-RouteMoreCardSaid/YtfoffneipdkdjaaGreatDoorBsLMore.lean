/- The walk of the law RouteMore. -/
import Derived.Test.YtfoffneipdkdjaaGreatDoorBsLMor1
import Derived.Test.YtfoffneipdkdjaaGreatDoorBs20
namespace Go.Proofs.YtfoffneipdkdjaaGreatDoor
open Go.RowKit Go.Maps

set_option maxRecDepth 100000 in
set_option maxHeartbeats 1600000 in
theorem lmore_law {fb : Mat → Bool} {ft : List Fld → Mat → Bool} (hfb : ∀ x : PolX, FinesOK fb x) (hft : ∀ x : PolX, FitssOK ft x) {p : PolX} {A0 : Option Addr} {m0 c0 : Nat} {xs : List AlrX} {now : Int} (w : World) (he : LibEnv w) (hp : p.At w) (hc : p.Caps) (hA : Arr w 6 encA A0 m0 xs) (hm0 : m0 ≤ 9223372036854775807)
    (hk : ∀ x ∈ xs, x.m ≤ x.k ∧ x.k ≤ 9223372036854775807) (hx : ∀ x ∈ xs, Arr w 2 encF x.A x.m x.a.fs ∧ x.a.l.ok) :
    Calls Tryz.prog 5 #[p.val, .slice A0 m0 c0, .int .i64 now] w fun e w' => e = .returned (.bool true) ∧ Grows w w' := by
  have cL := fun W (hW : Grows w W) => rlives_any W (he.grows hW)
  have cC := fun W => cut14_any (p := p) W hc
  have hq := hp.cut 14
  have cF := fun W (hW : Grows w W) => few_any (c := c0) W (hA.keep hW) hm0 hk
  have hat := few_at hx
  have hlen : ((xs.take 12).map AlrX.cut12).length ≤ 12 := by simp; omega
  generalize (xs.take 12).map AlrX.cut12 = own at *
  generalize hQ : p.cut 14 = q at *
  have hpv : p.val = .agg #[.slice p.s.A p.s.m p.s.k, .slice p.r.A p.r.m p.r.k, .slice p.e.A p.e.m p.e.k, .slice p.a.A p.a.m p.a.k, .slice p.oA p.om p.ok, .slice p.iA p.im p.ik] := rfl
  have hqv : q.val = .agg #[.slice q.s.A q.s.m q.s.k, .slice q.r.A q.r.m q.r.k, .slice q.e.A q.e.m q.e.k, .slice q.a.A q.a.m q.a.k, .slice q.oA q.om q.ok, .slice q.iA q.im q.ik] := rfl
  rw [hpv, hqv] at cC
  rw [hpv]
  replace cL := Lib.hid cL
  replace cC := Lib.hid cC
  replace cF := Lib.hid cF
  replace hq := Lib.hid hq
  replace hat := Lib.hid hat
  replace hqv := Lib.hid hqv
  replace he := Lib.hid he
  clear hp hc hQ hpv hA hm0 hk hx
  go_enter Tryz.func5, Tryz.ntmps5
  go_wp2_with fail
  refine (cL.out _ (by
    repeat (first | assumption | exact Grows.refl _ | apply Grows.drew | apply Grows.drewN | refine Grows.alloc ?_ _ | (refine Grows.setCell ?_ (by first | (simp; done) | (simp; omega) | omega) _) | (refine Grows.trans ?_ (by assumption)))
  )).mono ?_
  rintro e w1 ⟨rfl, hb1⟩
  have hP : Blk w1 w.heap.size 32 #[.slice p.s.A p.s.m p.s.k, .slice p.r.A p.r.m p.r.k, .slice p.e.A p.e.m p.e.k, .slice p.a.A p.a.m p.a.k, .slice p.oA p.om p.ok, .slice p.iA p.im p.ik] := (Blk.new w _ _).grows hb1
  have hG : Grows w w1 := ((Grows.refl w).alloc _).trans hb1
  have hGp : Hid (GLe2 w w.heap.size) := Lib.hid (Nat.le_refl _)
  clear hb1
  generalize w.heap.size = gP at *
  have p0 := hP.cell 0
  have p1 := hP.cell 1
  have p2 := hP.cell 2
  have p3 := hP.cell 3
  have p4 := hP.cell 4
  have p5 := hP.cell 5
  have pl := hP.lt
  go_wp2_with fail
  refine (cC.out w1).mono ?_
  rintro e w2 ⟨rfl, hb2⟩
  clear p0 p1 p2 p3 p4 p5 pl cC
  replace hP := hP.grows hb2
  replace hG := hG.trans hb2
  clear hb2
  replace hP := Lib.hid hP
  rename_i hK
  refine hK _ _ ?_
  clear hK
  with_reducible show wpList _ _ _ _ _ _
  refine wpList_store_row rfl 32 (.tmp 3) (.tmp 17) rfl gP #[.slice q.s.A q.s.m q.s.k, .slice q.r.A q.r.m q.r.k, .slice q.e.A q.e.m q.e.k, .slice q.a.A q.a.m q.a.k, .slice q.oA q.om q.ok, .slice q.iA q.im q.ik] rfl rfl 32 _ hP.out (by kernel_rfl) rfl (by simp [Value.oneCell']) ?_
  have g3 := grownBy_setRow w2 gP #[.slice q.s.A q.s.m q.s.k, .slice q.r.A q.r.m q.r.k, .slice q.e.A q.e.m q.e.k, .slice q.a.A q.a.m q.a.k, .slice q.oA q.om q.ok, .slice q.iA q.im q.ik]
  have hQ : Blk (w2.setRow gP #[.slice q.s.A q.s.m q.s.k, .slice q.r.A q.r.m q.r.k, .slice q.e.A q.e.m q.e.k, .slice q.a.A q.a.m q.a.k, .slice q.oA q.om q.ok, .slice q.iA q.im q.ik]) gP 32 #[.slice q.s.A q.s.m q.s.k, .slice q.r.A q.r.m q.r.k, .slice q.e.A q.e.m q.e.k, .slice q.a.A q.a.m q.a.k, .slice q.oA q.om q.ok, .slice q.iA q.im q.ik] := setRow_heap _ _ _ _ _ _ hP.out
  replace hG := hG.by_then g3 hGp.out
  clear hP g3
  generalize w2.setRow gP #[.slice q.s.A q.s.m q.s.k, .slice q.r.A q.r.m q.r.k, .slice q.e.A q.e.m q.e.k, .slice q.a.A q.a.m q.a.k, .slice q.oA q.om q.ok, .slice q.iA q.im q.ik] = w3 at *
  replace hQ := Lib.hid hQ
  replace hG := Lib.hid hG
  go_wp2_with fail
  refine (cF.out _ (hG.out)).mono ?_
  rintro e w4 ⟨v, u, rfl, hO, _, hb4⟩
  obtain ⟨A, c, rfl, hLc, _, hO⟩ := hO.arr hkAl
  replace hQ := Lib.hid (hQ.out.grows hb4)
  replace hG := Lib.hid (hG.out.trans hb4)
  clear hb4
  obtain ⟨L, hL⟩ : ∃ L, L = own.length := ⟨_, rfl⟩
  rw [← hL] at hO hLc ⊢
  rw [← hL] at hlen
  replace hL := Lib.hid hL
  replace hO := Lib.hid hO
  rcases Nat.eq_zero_or_pos L with hL0 | hL0
  · have hz : ((L : Int) == 0) = true := by rw [beq_iff_eq]; omega
    clear hL0
    go_wp2
    go_ret
    exact ⟨rfl, hG.out⟩
  have hz : ((L : Int) == 0) = false := by rw [beq_eq_false_iff_ne]; omega
  have hL1 : (1 : Int) ≤ (L : Int) := by omega
  have hLci : (L : Int) ≤ (c : Int) := by omega
  obtain ⟨K, hKL⟩ : ∃ K, L = K + 1 := ⟨L - 1, by omega⟩
  have hK0 : ((L : Int) - 1).toNat = K := by omega
  have hlast : ∃ z, own = own.take K ++ [z] := by
    have h1 := hL.out
    have h2 : K < own.length := by omega
    refine ⟨own[K], ?_⟩
    conv => lhs; rw [← List.take_append_drop K own, List.drop_eq_getElem_cons h2, List.drop_eq_nil_of_le (by omega)]
  obtain ⟨z, hlast⟩ := hlast
  have hO1 : Hid (Arr w4 6 encA A K (own.take K)) := Lib.hid (hO.out.take (by omega))
  replace hKL := Lib.hid hKL
  replace hlast := Lib.hid hlast
  clear hL0
  go_wp2_with fail
  have hrle := hq.out.r.le
  go_loopw [9, 10, 11, 12, 13] (fun i _ _ _ _ wr => ∃ n : Nat, n ≤ q.r.m ∧ i = .int .i64 (n : Int) ∧ Hid (Blk wr gP 32 #[.slice q.s.A q.s.m q.s.k, .slice q.r.A q.r.m q.r.k, .slice q.e.A q.e.m q.e.k, .slice q.a.A q.a.m q.a.k, .slice q.oA q.om q.ok, .slice q.iA q.im q.ik]) ∧ Hid (Arr wr 6 encA A L own) ∧ Hid (Arr wr 6 encA A K (own.take K)) ∧ Hid (Grows w wr)) (fun i _ _ _ _ _ => q.r.m - (intOf i).toNat)
  case atStart => exact ⟨0, by omega, rfl, hQ, hO, hO1, hG⟩
  case round =>
    clear hQ hO hO1 hG
    obtain ⟨n, hn, rfl, hQ, hO, hO1, hG⟩ := hrel
    have p1 : wr.cell? ⟨gP, 1, none⟩ = some (.slice q.r.A q.r.m q.r.k) := hQ.out.cell 1
    by_cases hlt : n < q.r.m
    · obtain ⟨bN, oN, nm, hrA, hbN, hnm, hcN⟩ := (hq.out.r.arr.keep hG.out).at_ hlt
      have hni : (n : Int) < (q.r.m : Int) := by omega
      have n0 : wr.cell? ⟨bN, oN + n * 3, none⟩ = some (.string ⟨nm.n.toArray⟩) := hcN 0 _ rfl
      have p0 := hQ.out.cell 0
      have p2 := hQ.out.cell 2
      have p3 := hQ.out.cell 3
      have p4 := hQ.out.cell 4
      have p5 := hQ.out.cell 5
      have hbP := hQ.out.lt
      have cG1 := fun W (hW : Grows wr W) => groups_any (p := q) (rec := nm.n) (now := now) (lk := c) W (he.out.grows (hG.out.trans hW)) (hq.out.keep (hG.out.trans hW)) (hfb q) (hft q) (hO1.out.keep hW) (fun y hy => (hat.out y (List.mem_of_mem_take hy)).keep (hG.out.trans hW)) (by have := hKL.out; omega)
      have cG2 := fun W (hW : Grows wr W) => groups_any (p := q) (rec := nm.n) (now := now) (lk := c) W (he.out.grows (hG.out.trans hW)) (hq.out.keep (hG.out.trans hW)) (hfb q) (hft q) (hO.out.keep hW) (fun y hy => (hat.out y hy).keep (hG.out.trans hW)) (by omega)
      have hM := groups_more fb ft q.pol nm.n ((own.take K).map (·.a)) z.a now
      rw [show (own.take K).map (·.a) ++ [z.a] = own.map (·.a) by have e := congrArg (List.map (fun y : AlrX => y.a)) hlast.out; rw [List.map_append] at e; exact e.symm] at hM
      rw [hqv.out] at cG1 cG2
      rw [hrA] at p1 cG1 cG2
      rw [hrA]
      replace cG1 := Lib.hid cG1
      replace cG2 := Lib.hid cG2
      replace hM := Lib.hid hM
      clear hcN
      go_wp2_with fail
      refine wp_region_mixg [(0, true), (1, true), (2, true), (3, true), (4, true), (5, true), (6, true), (7, true), (8, true), (9, true), (10, true), (11, true), (12, true), (14, true), (15, true), (16, true), (17, true), (18, true), (19, true), (20, true), (21, true), (22, true), (13, false), (23, false), (24, true), (25, true)] (by kernel_rfl) (by kernel_rfl) rfl (by kernel_rfl) (by intro c a d v w h; first | (cases d <;> exact h) | exact hQ0 _ _ _ _ _ h) ?_
      iterate 22 (refine wpMix_q rfl (fun K hK => ?_); go_simp; (try go_bits); first | (refine hK _ ?_; clear hK K) | (apply Exists.intro; refine ⟨fun wq hsq => ?_, hK _ ?_⟩; (first | (go_simp; done) | ((try go_simp); (try simp only [↓IntWalk.iteOmega]); (try go_bits); rfl) | (obtain ⟨hcq, hfq⟩ := bcells hsq; go_simp; done) | (obtain ⟨hcq, hfq⟩ := bcells hsq; (try go_simp); (try simp only [↓IntWalk.iteOmega]); (try go_bits); rfl)); clear hK K))
      refine wpMix_m rfl (fun K' hK => ?_)
      go_simp
      refine (cG1.out _ (by
        repeat (first | assumption | exact Grows.refl _ | apply Grows.drew | apply Grows.drewN | refine Grows.alloc ?_ _ | (refine Grows.setCell ?_ (by first | (simp; done) | (simp; omega) | omega) _) | (refine Grows.trans ?_ (by assumption)))
      )).mono ?_
      rintro e w5 ⟨v5, gs1, rfl, hO5, hI5, he5, hb5⟩
      obtain ⟨A5, c5, rfl, hl5, hc5, hX5⟩ := hO5.arr hkG
      clear hO5
      refine hK.out _ _ ?_ (fun hS => ?_)
      · repeat (first | assumption | exact Grows.refl _ | apply Grows.drew | apply Grows.drewN | refine Grows.alloc ?_ _ | (refine Grows.setCell ?_ (by first | (simp; done) | (simp; omega) | omega) _) | (refine Grows.trans ?_ (by assumption)))
      clear hK hS
      refine wpMix_m rfl (fun K' hK => ?_)
      go_simp
      refine (cG2.out _ (by
        repeat (first | assumption | exact Grows.refl _ | apply Grows.drew | apply Grows.drewN | refine Grows.alloc ?_ _ | (refine Grows.setCell ?_ (by first | (simp; done) | (simp; omega) | omega) _) | (refine Grows.trans ?_ (by assumption)))
      )).mono ?_
      rintro e w6 ⟨v6, gs2, rfl, hO6, hI6, he6, hb6⟩
      obtain ⟨A6, c6, rfl, hl6, hc6, hX6⟩ := hO6.arr hkG
      clear hO6
      replace hX5 := hX5.keep hb6
      replace hI5 : GrpsAt w6 _ gs1 := fun x hx => ⟨(hI5 x hx).1.grows hb6, (hI5 x hx).2.grows hb6⟩
      refine hK.out _ _ ?_ (fun hS => ?_)
      · repeat (first | assumption | exact Grows.refl _ | apply Grows.drew | apply Grows.drewN | refine Grows.alloc ?_ _ | (refine Grows.setCell ?_ (by first | (simp; done) | (simp; omega) | omega) _) | (refine Grows.trans ?_ (by assumption)))
      clear hK hS
      iterate 2 (refine wpMix_q rfl (fun K hK => ?_); go_simp; (try go_bits); first | (refine hK _ ?_; clear hK K) | (apply Exists.intro; refine ⟨fun wq hsq => ?_, hK _ ?_⟩; (first | (go_simp; done) | ((try go_simp); (try simp only [↓IntWalk.iteOmega]); (try go_bits); rfl) | (obtain ⟨hcq, hfq⟩ := bcells hsq; go_simp; done) | (obtain ⟨hcq, hfq⟩ := bcells hsq; (try go_simp); (try simp only [↓IntWalk.iteOmega]); (try go_bits); rfl)); clear hK K))
      refine wpMix_nil ?_
      have h86 : Grows wr w6 := by
        repeat (first | assumption | exact Grows.refl _ | apply Grows.drew | apply Grows.drewN | refine Grows.alloc ?_ _ | (refine Grows.setCell ?_ (by first | (simp; done) | (simp; omega) | omega) _) | (refine Grows.trans ?_ (by assumption)))
      rw [← he5, ← he6] at hM
      replace hQ := Lib.hid (hQ.out.grows h86)
      replace hO := Lib.hid (hO.out.keep h86)
      replace hO1 := Lib.hid (hO1.out.keep h86)
      replace hG := Lib.hid (hG.out.trans h86)
      replace hX5 := Lib.hid hX5
      replace hX6 := Lib.hid hX6
      replace hI5 := Lib.hid hI5
      replace hI6 := Lib.hid hI6
      have hl5' : gs1.length ≤ 9223372036854775807 := by unfold maxLen at hc5; omega
      have hl6' : gs2.length ≤ 9223372036854775807 := by unfold maxLen at hc6; omega
      clear hl5 hl6 hc5 hc6
      generalize hm1 : gs1.length = m1 at *
      generalize hm2 : gs2.length = m2 at *
      replace hm1 := Lib.hid hm1
      replace hm2 := Lib.hid hm2
      clear h86 hb5 hb6 cG1 cG2 he5 he6 p0 p1 p2 p3 p4 p5 n0 hbP hbN
      go_wp2_with fail
      refine lmore_l1 hX5 hX6 hI5 hI6 hM hl5' hl6' (by intro c a d v w h; cases d <;> exact h) ?_
      intros
      rename_i wz hz
      obtain ⟨rfl, hgw⟩ := hz
      replace hQ := Lib.hid (hQ.out.grows hgw.out)
      replace hO := Lib.hid (hO.out.keep hgw.out)
      replace hO1 := Lib.hid (hO1.out.keep hgw.out)
      replace hG := Lib.hid (hG.out.trans hgw.out)
      have hbb : ((m1 : Int) != (m1 : Int)) = false := by simp
      clear hX5 hX6 hI5 hI6 hM hgw
      go_wp2
      go_roundw
      case rel => exact ⟨n + 1, by omega, by go_num, by rw [hrA] at hQ; exact hQ, hO, hO1, hG⟩
      case measure => simp [intOf]; omega
    · have hni : ¬ (n : Int) < (q.r.m : Int) := by omega
      go_wp2
      go_ret
      exact ⟨rfl, hG.out⟩
end Go.Proofs.YtfoffneipdkdjaaGreatDoor
