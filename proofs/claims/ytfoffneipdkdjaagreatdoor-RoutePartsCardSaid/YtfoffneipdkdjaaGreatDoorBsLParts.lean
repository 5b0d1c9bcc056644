/- The walk of the law RouteParts. -/
import Derived.Test.YtfoffneipdkdjaaGreatDoorBsLPar1
import Derived.Test.YtfoffneipdkdjaaGreatDoorBsLPar5
import Derived.Test.YtfoffneipdkdjaaGreatDoorBs20
namespace Go.Proofs.YtfoffneipdkdjaaGreatDoor
open Go.RowKit Go.Maps

set_option maxRecDepth 100000 in
set_option maxHeartbeats 1600000 in
theorem lparts_law {fb : Mat → Bool} {ft : List Fld → Mat → Bool} (hfb : ∀ x : PolX, FinesOK fb x) (hft : ∀ x : PolX, FitssOK ft x) {p : PolX} {A0 : Option Addr} {m0 c0 : Nat} {xs : List AlrX} {now : Int} (w : World) (he : LibEnv w) (hp : p.At w) (hc : p.Caps) (hA : Arr w 6 encA A0 m0 xs) (hm0 : m0 ≤ 9223372036854775807)
    (hk : ∀ x ∈ xs, x.m ≤ x.k ∧ x.k ≤ 9223372036854775807) (hx : ∀ x ∈ xs, Arr w 2 encF x.A x.m x.a.fs ∧ x.a.l.ok) :
    Calls Tryz.prog 4 #[p.val, .slice A0 m0 c0, .int .i64 now] w fun e w' => e = .returned (.bool true) ∧ Grows w w' := by
  have cL := fun W (hW : Grows w W) => rlives_any W (he.grows hW)
  have cC := fun W => cut14_any (p := p) W hc
  have hq := hp.cut 14
  have cF := fun W (hW : Grows w W) => few_any (c := c0) W (hA.keep hW) hm0 hk
  have hat := few_at hx
  have hlen : ((xs.take 12).map AlrX.cut12).length ≤ 12 := by simp; omega
  generalize (xs.take 12).map AlrX.cut12 = own at *
  generalize hQ : p.cut 14 = q at *
  have hpv : p.val = .agg #[.slice p.s.A p.s.m p.s.k, .slice p.r.A p.r.m p.r.k, .slice p.e.A p.e.m p.e.k, .slice p.a.A p.a.m p.a.k, .slice p.oA p.om p.ok, .slice p.iA p.im p.ik] := rfl
  have hqv : q.val = .agg #[.slice q.s.A q.s.m q.s.k, .slice q.r.A q.r.m q.r.k, .slice q.e.A q.e.m q.e.k, .slice q.a.A q.a.m q.a.k, .slice q.oA q.om q.ok, .slice q.iA q.im q.ik] := rfl
  rw [hpv, hqv] at cC
  rw [hpv]
  replace cL := Lib.hid cL
  replace cC := Lib.hid cC
  replace cF := Lib.hid cF
  replace hq := Lib.hid hq
  replace hat := Lib.hid hat
  replace hqv := Lib.hid hqv
  replace he := Lib.hid he
  clear hp hc hQ hpv hA hm0 hk hx
  go_enter Tryz.func4, Tryz.ntmps4
  go_wp2_with fail
  refine (cL.out _ (by
    repeat (first | assumption | exact Grows.refl _ | apply Grows.drew | apply Grows.drewN | refine Grows.alloc ?_ _ | (refine Grows.setCell ?_ (by first | (simp; done) | (simp; omega) | omega) _) | (refine Grows.trans ?_ (by assumption)))
  )).mono ?_
  rintro e w1 ⟨rfl, hb1⟩
  have hP : Blk w1 w.heap.size 32 #[.slice p.s.A p.s.m p.s.k, .slice p.r.A p.r.m p.r.k, .slice p.e.A p.e.m p.e.k, .slice p.a.A p.a.m p.a.k, .slice p.oA p.om p.ok, .slice p.iA p.im p.ik] := (Blk.new w _ _).grows hb1
  have hG : Grows w w1 := ((Grows.refl w).alloc _).trans hb1
  have hGp : Hid (GLe2 w w.heap.size) := Lib.hid (Nat.le_refl _)
  clear hb1
  generalize w.heap.size = gP at *
  have p0 := hP.cell 0
  have p1 := hP.cell 1
  have p2 := hP.cell 2
  have p3 := hP.cell 3
  have p4 := hP.cell 4
  have p5 := hP.cell 5
  have pl := hP.lt
  go_wp2_with fail
  refine (cC.out w1).mono ?_
  rintro e w2 ⟨rfl, hb2⟩
  clear p0 p1 p2 p3 p4 p5 pl cC
  replace hP := hP.grows hb2
  replace hG := hG.trans hb2
  clear hb2
  replace hP := Lib.hid hP
  rename_i hK
  refine hK _ _ ?_
  clear hK
  with_reducible show wpList _ _ _ _ _ _
  refine wpList_store_row rfl 32 (.tmp 3) (.tmp 25) rfl gP #[.slice q.s.A q.s.m q.s.k, .slice q.r.A q.r.m q.r.k, .slice q.e.A q.e.m q.e.k, .slice q.a.A q.a.m q.a.k, .slice q.oA q.om q.ok, .slice q.iA q.im q.ik] rfl rfl 32 _ hP.out (by kernel_rfl) rfl (by simp [Value.oneCell']) ?_
  have g3 := grownBy_setRow w2 gP #[.slice q.s.A q.s.m q.s.k, .slice q.r.A q.r.m q.r.k, .slice q.e.A q.e.m q.e.k, .slice q.a.A q.a.m q.a.k, .slice q.oA q.om q.ok, .slice q.iA q.im q.ik]
  have hQ : Blk (w2.setRow gP #[.slice q.s.A q.s.m q.s.k, .slice q.r.A q.r.m q.r.k, .slice q.e.A q.e.m q.e.k, .slice q.a.A q.a.m q.a.k, .slice q.oA q.om q.ok, .slice q.iA q.im q.ik]) gP 32 #[.slice q.s.A q.s.m q.s.k, .slice q.r.A q.r.m q.r.k, .slice q.e.A q.e.m q.e.k, .slice q.a.A q.a.m q.a.k, .slice q.oA q.om q.ok, .slice q.iA q.im q.ik] := setRow_heap _ _ _ _ _ _ hP.out
  replace hG := hG.by_then g3 hGp.out
  clear hP g3
  generalize w2.setRow gP #[.slice q.s.A q.s.m q.s.k, .slice q.r.A q.r.m q.r.k, .slice q.e.A q.e.m q.e.k, .slice q.a.A q.a.m q.a.k, .slice q.oA q.om q.ok, .slice q.iA q.im q.ik] = w3 at *
  replace hQ := Lib.hid hQ
  replace hG := Lib.hid hG
  go_wp2_with fail
  refine (cF.out _ (hG.out)).mono ?_
  rintro e w4 ⟨v, u, rfl, hO, _, hb4⟩
  obtain ⟨A, c, rfl, hLc, _, hO⟩ := hO.arr hkAl
  replace hQ := Lib.hid (hQ.out.grows hb4)
  replace hG := Lib.hid (hG.out.trans hb4)
  clear hb4
  obtain ⟨L, hL⟩ : ∃ L, L = own.length := ⟨_, rfl⟩
  rw [← hL] at hO hLc ⊢
  rw [← hL] at hlen
  replace hL := Lib.hid hL
  replace hO := Lib.hid hO
  have hrle := hq.out.r.le
  go_wp2_with fail
  go_loopw [9, 10, 11, 12, 13, 14, 15, 16, 17, 18, 19, 20, 21] (fun i _ _ _ _ _ _ _ _ _ _ _ _ wr => ∃ n : Nat, n ≤ q.r.m ∧ i = .int .i64 (n : Int) ∧ Hid (Grows w4 wr)) (fun i _ _ _ _ _ _ _ _ _ _ _ _ _ => q.r.m - (intOf i).toNat)
  case atStart => exact ⟨0, by omega, rfl, Lib.hid (Grows.refl _)⟩
  case round =>
    obtain ⟨n, hn, rfl, hgw⟩ := hrel
    have hQw := hQ.out.grows hgw.out
    have p1 : wr.cell? ⟨gP, 1, none⟩ = some (.slice q.r.A q.r.m q.r.k) := hQw.cell 1
    have hbP := hQw.lt
    by_cases hlt : n < q.r.m
    · obtain ⟨bN, oN, nm, hrA, hbN, hnm, hcN⟩ := (hq.out.r.arr.keep (hG.out.trans hgw.out)).at_ hlt
      have hni : (n : Int) < (q.r.m : Int) := by omega
      have n0 : wr.cell? ⟨bN, oN + n * 3, none⟩ = some (.string ⟨nm.n.toArray⟩) := hcN 0 _ rfl
      have p0 := hQw.cell 0
      have p2 := hQw.cell 2
      have p3 := hQw.cell 3
      have p4 := hQw.cell 4
      have p5 := hQw.cell 5
      have cG2 := fun W (hW : Grows wr W) => groups_any (p := q) (rec := nm.n) (now := now) (lk := c) W (he.out.grows ((hG.out.trans hgw.out).trans hW)) (hq.out.keep ((hG.out.trans hgw.out).trans hW)) (hfb q) (hft q) (hO.out.keep (hgw.out.trans hW)) (fun y hy => (hat.out y hy).keep ((hG.out.trans hgw.out).trans hW)) (by omega)
      have hpt := groups_parts fb ft q.pol nm.n (own.map (·.a)) now
      have hgi := fun (y : AlrX) (hy : y ∈ own) r (hr : r ∈ goesL fb ft q.pol nm.n y.a now) => groups_in (fb := fb) (ft := ft) (p := q.pol) (l := own.map (fun x : AlrX => x.a)) (now := now) (n := n) (x := nm) hnm (a := y.a) (show y.a ∈ own.map (fun x : AlrX => x.a) from List.mem_map_of_mem hy) (r := r) hr
      rw [hqv.out] at cG2
      rw [hrA] at p1 cG2
      rw [hrA]
      replace cG2 := Lib.hid cG2
      replace hpt := Lib.hid hpt
      replace hgi := Lib.hid hgi
      replace hnm := Lib.hid hnm
      replace hgw := Lib.hid hgw.out
      clear hcN hQw
      go_wp2_with fail
      refine (cG2.out _ (by
        repeat (first | assumption | exact Grows.refl _ | apply Grows.drew | apply Grows.drewN | refine Grows.alloc ?_ _ | (refine Grows.setCell ?_ (by first | (simp; done) | (simp; omega) | omega) _) | (refine Grows.trans ?_ (by assumption)))
      )).mono ?_
      rintro e w6 ⟨v6, gs, rfl, hO6, hI6, he6, hb6⟩
      obtain ⟨A6, c6, rfl, hl6, hc6, hX6⟩ := hO6.arr hkG
      have hb6w : Grows wr w6 := hb6
      have hg6 := Lib.hid (hgw.out.trans hb6w)
      have hl6' : gs.length ≤ 9223372036854775807 := by unfold maxLen at hc6; omega
      have hAp : Hid ((gs.map GrpX.g).Pairwise ApartG) := Lib.hid (by rw [he6]; exact hpt.out.1)
      have hss : Hid (∀ x ∈ gs, SortU x.ids) := Lib.hid (fun x hx => (hpt.out.2 x.g (by rw [← he6]; exact List.mem_map_of_mem hx)).2)
      have hne : Hid (∀ x ∈ gs, x.ids ≠ []) := Lib.hid (fun x hx => (hpt.out.2 x.g (by rw [← he6]; exact List.mem_map_of_mem hx)).1)
      have hgi2 : Hid (∀ y ∈ own, ∀ r ∈ goesL fb ft q.pol nm.n y.a now, ∃ c, cutA q.pol y.a nm.l = some c ∧ seesA q.pol nm.n y.a now = some c ∧ checkL fb q.pol = 0 ∧ cntG r (pickF c.fs (namesAt q.pol r)) (idA c) (gs.map GrpX.g) = 1) := Lib.hid (by rw [he6]; exact hgi.out)
      replace hX6 := Lib.hid hX6
      replace hI6 := Lib.hid hI6
      clear hO6 hb6 hb6w hl6 hc6 he6 hpt hgi cG2 p0 p1 p2 p3 p4 p5 n0 hbP hbN
      generalize gs.length = m5 at *
      go_wp2_with fail
      refine parts_lA hX6 hI6 hAp hne hl6' (by intro c a d v w h; first | (cases d <;> exact h) | exact hQ0 _ _ _ _ _ h) ?_
      intros
      rename_i wz hz
      have hgz := Lib.hid (hg6.out.trans hz.out)
      have hX7 := Lib.hid (hX6.out.keep hz.out)
      have hI7 := Lib.hid (hI6.out.grows hz.out)
      clear hX6 hI6 hAp hne hg6 hz
      go_wp2_with fail
      refine parts_lC (Lib.hid hfb) (Lib.hid hft) (Lib.hid (hQ.out.grows hgz.out)) (Lib.hid (hq.out.keep (hG.out.trans hgz.out))) (Lib.hid (hO.out.keep hgz.out)) (Lib.hid (fun y hy => (hat.out y hy).keep (hG.out.trans hgz.out))) hX7 hI7 hss hnm hgi2 hl6' (by omega) (by intro c a d v w h; first | (cases d <;> exact h) | exact hQ0 _ _ _ _ _ h) ?_
      intros
      rename_i wy hy
      have hgy := Lib.hid (hgz.out.trans hy.out)
      clear hX7 hI7 hss hgi2 hgz hy hgw
      go_wp2
      go_roundw
      case rel => exact ⟨n + 1, by omega, by go_num, hgy⟩
      case measure => simp [intOf]; omega
    · have hni : ¬ (n : Int) < (q.r.m : Int) := by omega
      go_wp2
      go_ret
      exact ⟨rfl, hG.out.trans hgw.out⟩
end Go.Proofs.YtfoffneipdkdjaaGreatDoor
