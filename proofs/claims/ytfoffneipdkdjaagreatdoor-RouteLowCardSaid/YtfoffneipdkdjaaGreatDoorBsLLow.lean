/- The walk of the law RouteLow. -/
import Derived.Test.YtfoffneipdkdjaaGreatDoorBsLLow2
import Derived.Test.YtfoffneipdkdjaaGreatDoorBs20
namespace Go.Proofs.YtfoffneipdkdjaaGreatDoor
open Go.RowKit Go.Maps

theorem few_txt {xs : List AlrX} (htx : ∀ x ∈ xs, ∀ f ∈ x.a.fs, f.n.length ≤ 9223372036854775807 ∧ f.v.length ≤ 9223372036854775807) : ∀ y ∈ (xs.take 12).map AlrX.cut12, ∀ f ∈ y.a.fs, f.n.length ≤ 9223372036854775807 ∧ f.v.length ≤ 9223372036854775807 := by
  intro y hy f hf
  obtain ⟨x, hx', rfl⟩ := List.mem_map.1 hy
  exact htx x (List.mem_of_mem_take hx') f (List.mem_of_mem_take hf)
theorem low_len (p : Pol) (to : Lab) (v : List UInt8) (l : List Alr) : (lowL p to v l).length ≤ l.length := by
  unfold lowL
  rw [List.length_map]
  exact List.length_filter_le _ _
theorem low_mem {p : Pol} {to : Lab} {v : List UInt8} {l : List Alr} {a : Alr} (h : a ∈ lowL p to v l) : ∃ y ∈ l, a.fs.length = y.fs.length ∧ a.l = y.l := by
  unfold lowL at h
  obtain ⟨y, hy, rfl⟩ := List.mem_map.1 h
  exact ⟨y, (List.mem_filter.1 hy).1, by simp [lowA], rfl⟩
set_option maxRecDepth 100000 in
set_option maxHeartbeats 1600000 in
theorem llow_law {fb : Mat → Bool} {ft : List Fld → Mat → Bool} (hfb : ∀ x : PolX, FinesOK fb x) (hft : ∀ x : PolX, FitssOK ft x) {p : PolX} {A0 : Option Addr} {m0 c0 : Nat} {xs : List AlrX} {val : List UInt8} (w : World) (he : LibEnv w) (hp : p.At w) (hc : p.Caps) (hA : Arr w 6 encA A0 m0 xs) (hm0 : m0 ≤ 9223372036854775807)
    (hk : ∀ x ∈ xs, x.m ≤ x.k ∧ x.k ≤ 9223372036854775807) (hx : ∀ x ∈ xs, Arr w 2 encF x.A x.m x.a.fs ∧ x.a.l.ok) (htx : ∀ x ∈ xs, ∀ f ∈ x.a.fs, f.n.length ≤ 9223372036854775807 ∧ f.v.length ≤ 9223372036854775807) (hvl : val.length ≤ 9223372036854775807) :
    Calls Tryz.prog 8 #[p.val, .slice A0 m0 c0, .string ⟨val.toArray⟩] w fun e w' => e = .returned (.bool true) ∧ Grows w w' := by
  have hcut : (⟨val.toArray⟩ : ByteArray).extract 0 (min (val.length : Int) 30).toNat = ⟨(val.take 30).toArray⟩ := by
    rw [show (min (val.length : Int) 30).toNat = min val.length 30 by omega]
    apply ByteArray.ext
    simp [List.take_eq_take_min, Nat.min_comm]
  have hv2 : (val.take 30).length ≤ 200 := by rw [List.length_take]; omega
  replace hcut := Lib.hid hcut
  replace hv2 := Lib.hid hv2
  have cL := fun W (hW : Grows w W) => rlives_any W (he.grows hW)
  have cC := fun W => cut14_any (p := p) W hc
  have hq := hp.cut 14
  have cF := fun W (hW : Grows w W) => few_any (c := c0) W (hA.keep hW) hm0 hk
  have hat := few_at hx
  have htx2 := few_txt htx
  have hlen : ((xs.take 12).map AlrX.cut12).length ≤ 12 := by simp; omega
  generalize (xs.take 12).map AlrX.cut12 = own at *
  generalize hQ : p.cut 14 = q at *
  have hpv : p.val = .agg #[.slice p.s.A p.s.m p.s.k, .slice p.r.A p.r.m p.r.k, .slice p.e.A p.e.m p.e.k, .slice p.a.A p.a.m p.a.k, .slice p.oA p.om p.ok, .slice p.iA p.im p.ik] := rfl
  have hqv : q.val = .agg #[.slice q.s.A q.s.m q.s.k, .slice q.r.A q.r.m q.r.k, .slice q.e.A q.e.m q.e.k, .slice q.a.A q.a.m q.a.k, .slice q.oA q.om q.ok, .slice q.iA q.im q.ik] := rfl
  rw [hpv, hqv] at cC
  rw [hpv]
  replace cL := Lib.hid cL
  replace cC := Lib.hid cC
  replace cF := Lib.hid cF
  replace hq := Lib.hid hq
  replace hat := Lib.hid hat
  replace htx2 := Lib.hid htx2
  replace hqv := Lib.hid hqv
  replace he := Lib.hid he
  clear hp hc hQ hpv hA hm0 hk hx htx
  go_enter Tryz.func8, Tryz.ntmps8
  go_wp2_with fail
  refine (cL.out _ (by
    repeat (first | assumption | exact Grows.refl _ | apply Grows.drew | apply Grows.drewN | refine Grows.alloc ?_ _ | (refine Grows.setCell ?_ (by first | (simp; done) | (simp; omega) | omega) _) | (refine Grows.trans ?_ (by assumption)))
  )).mono ?_
  rintro e w1 ⟨rfl, hb1⟩
  have hP : Blk w1 w.heap.size 32 #[.slice p.s.A p.s.m p.s.k, .slice p.r.A p.r.m p.r.k, .slice p.e.A p.e.m p.e.k, .slice p.a.A p.a.m p.a.k, .slice p.oA p.om p.ok, .slice p.iA p.im p.ik] := (Blk.new w _ _).grows hb1
  have hG : Grows w w1 := ((Grows.refl w).alloc _).trans hb1
  have hGp : Hid (GLe2 w w.heap.size) := Lib.hid (Nat.le_refl _)
  clear hb1
  generalize w.heap.size = gP at *
  have p0 := hP.cell 0
  have p1 := hP.cell 1
  have p2 := hP.cell 2
  have p3 := hP.cell 3
  have p4 := hP.cell 4
  have p5 := hP.cell 5
  have pl := hP.lt
  go_wp2_with fail
  refine (cC.out w1).mono ?_
  rintro e w2 ⟨rfl, hb2⟩
  clear p0 p1 p2 p3 p4 p5 pl cC
  replace hP := hP.grows hb2
  replace hG := hG.trans hb2
  clear hb2
  replace hP := Lib.hid hP
  rename_i hK
  refine hK _ _ ?_
  clear hK
  with_reducible show wpList _ _ _ _ _ _
  refine wpList_store_row rfl 32 (.tmp 3) (.tmp 22) rfl gP #[.slice q.s.A q.s.m q.s.k, .slice q.r.A q.r.m q.r.k, .slice q.e.A q.e.m q.e.k, .slice q.a.A q.a.m q.a.k, .slice q.oA q.om q.ok, .slice q.iA q.im q.ik] rfl rfl 32 _ hP.out (by kernel_rfl) rfl (by simp [Value.oneCell']) ?_
  have g3 := grownBy_setRow w2 gP #[.slice q.s.A q.s.m q.s.k, .slice q.r.A q.r.m q.r.k, .slice q.e.A q.e.m q.e.k, .slice q.a.A q.a.m q.a.k, .slice q.oA q.om q.ok, .slice q.iA q.im q.ik]
  have hQ : Blk (w2.setRow gP #[.slice q.s.A q.s.m q.s.k, .slice q.r.A q.r.m q.r.k, .slice q.e.A q.e.m q.e.k, .slice q.a.A q.a.m q.a.k, .slice q.oA q.om q.ok, .slice q.iA q.im q.ik]) gP 32 #[.slice q.s.A q.s.m q.s.k, .slice q.r.A q.r.m q.r.k, .slice q.e.A q.e.m q.e.k, .slice q.a.A q.a.m q.a.k, .slice q.oA q.om q.ok, .slice q.iA q.im q.ik] := setRow_heap _ _ _ _ _ _ hP.out
  replace hG := hG.by_then g3 hGp.out
  clear hP g3
  generalize w2.setRow gP #[.slice q.s.A q.s.m q.s.k, .slice q.r.A q.r.m q.r.k, .slice q.e.A q.e.m q.e.k, .slice q.a.A q.a.m q.a.k, .slice q.oA q.om q.ok, .slice q.iA q.im q.ik] = w3 at *
  replace hQ := Lib.hid hQ
  replace hG := Lib.hid hG
  go_wp2_with fail
  rw [hcut.out]
  generalize val.take 30 = val2 at *
  refine (cF.out _ (hG.out)).mono ?_
  rintro e w4 ⟨v, u, rfl, hO, _, hb4⟩
  obtain ⟨A, c, rfl, hLc, _, hO⟩ := hO.arr hkAl
  replace hQ := Lib.hid (hQ.out.grows hb4)
  replace hG := Lib.hid (hG.out.trans hb4)
  clear hb4
  obtain ⟨L, hL⟩ : ∃ L, L = own.length := ⟨_, rfl⟩
  rw [← hL] at hO hLc ⊢
  rw [← hL] at hlen
  replace hL := Lib.hid hL
  replace hO := Lib.hid hO
  have hrle := hq.out.r.le
  clear cL cF hcut
  go_wp2_with fail
  go_loopw [9, 10, 11, 12, 13, 14, 15, 16, 17, 18] (fun i _ _ _ _ _ _ _ _ _ wr => ∃ n : Nat, n ≤ q.r.m ∧ i = .int .i64 (n : Int) ∧ Hid (Grows w4 wr)) (fun i _ _ _ _ _ _ _ _ _ _ => q.r.m - (intOf i).toNat)
  case atStart => exact ⟨0, by omega, rfl, Lib.hid (Grows.refl _)⟩
  case round =>
    obtain ⟨n, hn, rfl, hgw⟩ := hrel
    have hQw := hQ.out.grows hgw.out
    have p1 : wr.cell? ⟨gP, 1, none⟩ = some (.slice q.r.A q.r.m q.r.k) := hQw.cell 1
    have hbP := hQw.lt
    by_cases hlt : n < q.r.m
    · obtain ⟨bN, oN, nm, hrA, hbN, hnm, hcN⟩ := (hq.out.r.arr.keep (hG.out.trans hgw.out)).at_ hlt
      have hni : (n : Int) < (q.r.m : Int) := by omega
      have n0 : wr.cell? ⟨bN, oN + n * 3, none⟩ = some (.string ⟨nm.n.toArray⟩) := hcN 0 _ rfl
      have n1 : wr.cell? ⟨bN, oN + n * 3 + 1, none⟩ = some (.int .i64 nm.l.lv) := hcN 1 _ rfl
      have n2 : wr.cell? ⟨bN, oN + n * 3 + 2, none⟩ = some (.int .u32 (nm.l.c : Int)) := hcN 2 _ rfl
      have hlab := Lib.hid (hq.out.r.lab nm (List.mem_of_getElem? hnm))
      have hlow := Lib.hid (groups_low (fb := fb) (ft := ft) (p := q.pol) hnm hv2.out (own.map (·.a)) 20)
      rw [hrA] at p1
      rw [hrA]
      have hW1 : Hid (Grows w4 (wr.alloc (.cells (labC nm.l) 40))) := Lib.hid (hgw.out.alloc _)
      replace hnm := Lib.hid hnm
      clear hcN hQw
      go_wp2_with fail
      refine low_l1 (q := q) (to := nm.l) (val := val2) (own := own) (Lib.hid (hQ.out.grows hW1.out)) (Lib.hid (Blk.new wr 40 (labC nm.l))) (Lib.hid (hq.out.keep (hG.out.trans hW1.out))) (Lib.hid (hO.out.keep hW1.out)) (Lib.hid (fun y hy => (hat.out y hy).keep (hG.out.trans hW1.out))) htx2 hlab (by omega) (by intro c a d v w h; first | (cases d <;> exact h) | exact hQ0 _ _ _ _ _ h) ?_
      intros
      rename_i wz hz
      obtain ⟨ls, hOl, hxs, hfl, hGz⟩ := hz
      obtain ⟨A7, c7, rfl, hl7, -, hX7⟩ := hOl.out.arr hkAl
      have hgz0 : Hid (Grows wr wz) := Lib.hid (((Grows.refl wr).alloc _).trans hGz.out)
      have hgz := Lib.hid (hW1.out.trans hGz.out)
      have hQz := hQ.out.grows hgz.out
      have hll : ls.length ≤ 12 := by
        have h1 := congrArg List.length hxs.out
        have h2 := low_len q.pol nm.l val2 (own.map (·.a))
        rw [List.length_map] at h1 h2
        have := hL.out
        omega
      have hls : Hid (∀ y ∈ ls, y.At wz) := Lib.hid (fun x hx => by
        obtain ⟨h1, h2, h3, h4⟩ := own_arr (hfl.out x hx) hkF
        have hm : x.a ∈ lowL q.pol nm.l val2 (own.map (·.a)) := by rw [← hxs.out]; exact List.mem_map_of_mem hx
        obtain ⟨y, hy, h5, h6⟩ := low_mem hm
        obtain ⟨z, hz, rfl⟩ := List.mem_map.1 hy
        have hzA := hat.out z hz
        have h7 := hzA.arr.1
        have h8 := hzA.le
        exact ⟨h4, by rw [h1, h5]; omega, by rw [h6]; exact hzA.lab⟩)
      have cG1 := fun W (hW : Grows wz W) => groups_any (p := q) (rec := nm.n) (now := 20) (lk := c) W (he.out.grows ((hG.out.trans hgz.out).trans hW)) (hq.out.keep ((hG.out.trans hgz.out).trans hW)) (hfb q) (hft q) (hO.out.keep (hgz.out.trans hW)) (fun y hy => (hat.out y hy).keep ((hG.out.trans hgz.out).trans hW)) (by omega)
      have cG2 := fun W (hW : Grows wz W) => groups_any (p := q) (rec := nm.n) (now := 20) (lk := c7) W (he.out.grows ((hG.out.trans hgz.out).trans hW)) (hq.out.keep ((hG.out.trans hgz.out).trans hW)) (hfb q) (hft q) (hX7.keep hW) (fun y hy => (hls.out y hy).keep hW) (by omega)
      rw [hxs.out] at cG2
      have hlow2 := hlow.out
      rw [hlow2] at cG2
      rw [hqv.out] at cG1 cG2
      rw [hrA] at cG1 cG2
      replace p1 := hgz0.out.cell p1
      replace n0 := hgz0.out.cell n0
      have p0 := hQz.cell 0
      have p2 := hQz.cell 2
      have p3 := hQz.cell 3
      have p4 := hQz.cell 4
      have p5 := hQz.cell 5
      have pl := hQz.lt
      have hbN2 := Nat.lt_of_lt_of_le hbN hgz0.out.size
      generalize groupsL fb ft q.pol nm.n (own.map (·.a)) 20 = GL at *
      generalize hlsl : ls.length = m7 at *
      replace cG1 := Lib.hid cG1
      replace cG2 := Lib.hid cG2
      clear hQz hOl hxs hfl hGz hX7 hls hlow hlow2 hlsl n1 n2 hW1 hbP hgw hl7 hbN hgz0
      go_wp2_with fail
      refine wp_region_mixg [(0, true), (1, true), (2, true), (3, true), (4, true), (5, true), (6, true), (7, true), (9, true), (10, true), (11, true), (12, true), (13, true), (14, true), (15, true), (16, true), (8, false), (17, false), (18, true), (19, true)] (by kernel_rfl) (by kernel_rfl) rfl (by kernel_rfl) (by intro c a d v w h; first | (cases d <;> exact h) | exact hQ0 _ _ _ _ _ h) ?_
      iterate 16 (refine wpMix_s rfl (fun K hK => ?_); go_simp; (try go_bits); first | (refine hK.out _ ?_; clear hK K) | (apply Exists.intro; refine ⟨fun wq hsq => ?_, hK.out _ ?_⟩; (first | (go_simp; done) | ((try go_simp); (try simp only [↓IntWalk.iteOmega]); (try go_bits); rfl) | (obtain ⟨hcq, hfq⟩ := bcells hsq; go_simp; done) | (obtain ⟨hcq, hfq⟩ := bcells hsq; (try go_simp); (try simp only [↓IntWalk.iteOmega]); (try go_bits); rfl)); clear hK K))
      refine wpMix_m rfl (fun K' hK => ?_)
      go_simp
      refine (cG1.out _ (by
        repeat (first | assumption | exact Grows.refl _ | apply Grows.drew | apply Grows.drewN | refine Grows.alloc ?_ _ | (refine Grows.setCell ?_ (by first | (simp; done) | (simp; omega) | omega) _) | (refine Grows.trans ?_ (by assumption)))
      )).mono ?_
      rintro e w5 ⟨v5, gs1, rfl, hO5, hI5, he5, hb5⟩
      obtain ⟨A5, c5, rfl, hl5, hc5, hX5⟩ := hO5.arr hkG
      clear hO5
      refine hK.out _ _ ?_ (fun hS => ?_)
      · repeat (first | assumption | exact Grows.refl _ | apply Grows.drew | apply Grows.drewN | refine Grows.alloc ?_ _ | (refine Grows.setCell ?_ (by first | (simp; done) | (simp; omega) | omega) _) | (refine Grows.trans ?_ (by assumption)))
      clear hK hS
      refine wpMix_m rfl (fun K' hK => ?_)
      go_simp
      refine (cG2.out _ (by
        repeat (first | assumption | exact Grows.refl _ | apply Grows.drew | apply Grows.drewN | refine Grows.alloc ?_ _ | (refine Grows.setCell ?_ (by first | (simp; done) | (simp; omega) | omega) _) | (refine Grows.trans ?_ (by assumption)))
      )).mono ?_
      rintro e w6 ⟨v6, gs2, rfl, hO6, hI6, he6, hb6⟩
      obtain ⟨A6, c6, rfl, hl6, hc6, hX6⟩ := hO6.arr hkG
      clear hO6
      replace hX5 := hX5.keep hb6
      replace hI5 : GrpsAt w6 _ gs1 := hI5.grows hb6
      refine hK.out _ _ ?_ (fun hS => ?_)
      · repeat (first | assumption | exact Grows.refl _ | apply Grows.drew | apply Grows.drewN | refine Grows.alloc ?_ _ | (refine Grows.setCell ?_ (by first | (simp; done) | (simp; omega) | omega) _) | (refine Grows.trans ?_ (by assumption)))
      clear hK hS
      iterate 2 (refine wpMix_s rfl (fun K hK => ?_); go_simp; (try go_bits); first | (refine hK.out _ ?_; clear hK K) | (apply Exists.intro; refine ⟨fun wq hsq => ?_, hK.out _ ?_⟩; (first | (go_simp; done) | ((try go_simp); (try simp only [↓IntWalk.iteOmega]); (try go_bits); rfl) | (obtain ⟨hcq, hfq⟩ := bcells hsq; go_simp; done) | (obtain ⟨hcq, hfq⟩ := bcells hsq; (try go_simp); (try simp only [↓IntWalk.iteOmega]); (try go_bits); rfl)); clear hK K))
      refine wpMix_nil ?_
      have h6 : Grows wz w6 := (((Grows.refl wz).drew).trans hb5).trans hb6
      have hgz6 := Lib.hid (hgz.out.trans h6)
      have heq : Hid (gs1.map GrpX.g = gs2.map GrpX.g) := Lib.hid (by rw [he5, he6])
      have hle : gs2.length = gs1.length := by
        have := congrArg List.length heq.out
        rw [List.length_map, List.length_map] at this
        exact this.symm
      have hl5' : gs1.length ≤ 9223372036854775807 := by unfold maxLen at hc5; omega
      rw [hle] at hX6 ⊢
      replace hX5 := Lib.hid hX5
      replace hX6 := Lib.hid hX6
      replace hI5 := Lib.hid hI5
      replace hI6 := Lib.hid hI6
      clear hl5 hl6 hc5 hc6 hle he5 he6 cG1 cG2 p0 p1 p2 p3 p4 p5 pl n0 hbN2 hb5 hb6 h6
      generalize gs1.length = m5 at *
      have hbb : ((m5 : Int) != (m5 : Int)) = false := by simp
      go_wp2_with fail
      refine low_l3 hX5 hX6 hI5 hI6 heq hl5' (by intro c a d v w h; first | (cases d <;> exact h) | exact hQ0 _ _ _ _ _ h) ?_
      intros
      rename_i wy hy
      have hgy := Lib.hid (hgz6.out.trans hy.out)
      clear hX5 hX6 hI5 hI6 heq hgz6 hy hgz
      go_wp2
      go_roundw
      case rel => exact ⟨n + 1, by omega, by go_num, hgy⟩
      case measure => simp [intOf]; omega
    · have hni : ¬ (n : Int) < (q.r.m : Int) := by omega
      go_wp2
      go_ret
      exact ⟨rfl, hG.out.trans hgw.out⟩
end Go.Proofs.YtfoffneipdkdjaaGreatDoor
