/- The walk of the law RouteTimes. -/
import Derived.Test.YtfoffneipdkdjaaGreatDoorBs12
import Derived.Test.YtfoffneipdkdjaaGreatDoorBs13
import Derived.Test.YtfoffneipdkdjaaGreatDoorBs20
import Derived.Test.YtfoffneipdkdjaaGreatDoorBs14
import Derived.Test.YtfoffneipdkdjaaGreatDoorBsLTim1
namespace Go.Proofs.YtfoffneipdkdjaaGreatDoor
open Go.RowKit Go.Maps

theorem arr_one {α : Type} {enc : α → List Value} {y : α} {w : World} {g : Nat} {t : TypeId} (h : Blk w g t (enc y).toArray) : Arr w (enc y).length enc (some ⟨g, 0, none⟩) 1 [y] :=
  ⟨rfl, fun _ => ⟨g, 0, rfl, h.lt, fun i hi j u hu => by
    obtain rfl : i = 0 := by simp at hi; omega
    have hc := h.cell j
    simp only [List.getElem_cons_zero] at hu
    simp only [Nat.zero_mul, Nat.zero_add]
    rw [hc]
    simpa using hu⟩⟩
set_option maxRecDepth 100000 in
set_option maxHeartbeats 1000000 in
theorem ltimes_law {fb : Mat → Bool} {ft : List Fld → Mat → Bool} (hfb : ∀ x : PolX, FinesOK fb x) (hft : ∀ x : PolX, FitssOK ft x) {p : PolX} {x : AlrX} {a b : Int} (w : World) (he : LibEnv w) (hp : p.At w) (hc : p.Caps) (hx : Arr w 2 encF x.A x.m x.a.fs) (hxl : x.a.l.ok) (hk : x.m ≤ x.k) (hm : x.k ≤ 9223372036854775807) :
    Calls Tryz.prog 6 #[p.val, valA x, .agg #[.int .i64 a, .int .i64 b]] w fun e w' => e = .returned (.bool true) ∧ Grows w w' := by
  have cL := fun W (hW : Grows w W) => rlives_any W (he.grows hW)
  have cC := fun W => cut14_any (p := p) W hc
  have hq := hp.cut 14
  have hcells : p.cells = [.slice p.s.A p.s.m p.s.k, .slice p.r.A p.r.m p.r.k, .slice p.e.A p.e.m p.e.k, .slice p.a.A p.a.m p.a.k, .slice p.oA p.om p.ok, .slice p.iA p.im p.ik] := rfl
  have hxA := fun W (hW : Grows w W) => cut12_at (hx.keep hW) hxl
  generalize hQ : p.cut 14 = q at *
  have hpv : p.val = .agg #[.slice p.s.A p.s.m p.s.k, .slice p.r.A p.r.m p.r.k, .slice p.e.A p.e.m p.e.k, .slice p.a.A p.a.m p.a.k, .slice p.oA p.om p.ok, .slice p.iA p.im p.ik] := rfl
  have hqv : q.val = .agg #[.slice q.s.A q.s.m q.s.k, .slice q.r.A q.r.m q.r.k, .slice q.e.A q.e.m q.e.k, .slice q.a.A q.a.m q.a.k, .slice q.oA q.om q.ok, .slice q.iA q.im q.ik] := rfl
  have hxv : valA x = .agg #[.string ⟨x.a.src.toArray⟩, .slice x.A x.m x.k, .int .i64 x.a.l.lv, .int .u32 (x.a.l.c : Int), .int .i64 x.a.f, .int .i64 x.a.t] := rfl
  rw [hpv, hqv] at cC
  rw [hpv, hxv]
  replace cL := Lib.hid cL
  replace cC := Lib.hid cC
  replace hq := Lib.hid hq
  replace hxA := Lib.hid hxA
  replace hqv := Lib.hid hqv
  replace hxv := Lib.hid hxv
  clear he hc hp hQ hcells hpv
  go_enter Tryz.func6, Tryz.ntmps6
  go_wp2_with fail
  refine (cL.out _ (by
    repeat (first | assumption | exact Grows.refl _ | apply Grows.drew | apply Grows.drewN | refine Grows.alloc ?_ _ | (refine Grows.setCell ?_ (by first | (simp; done) | (simp; omega) | omega) _) | (refine Grows.trans ?_ (by assumption)))
  )).mono ?_
  rintro e w1 ⟨rfl, hb1⟩
  have hP : Blk w1 w.heap.size 32 #[.slice p.s.A p.s.m p.s.k, .slice p.r.A p.r.m p.r.k, .slice p.e.A p.e.m p.e.k, .slice p.a.A p.a.m p.a.k, .slice p.oA p.om p.ok, .slice p.iA p.im p.ik] := (((Blk.new w _ _).alloc _).alloc _).grows hb1
  have hA : Blk w1 (w.heap.size + 1) 62 #[.string ⟨x.a.src.toArray⟩, .slice x.A x.m x.k, .int .i64 x.a.l.lv, .int .u32 (x.a.l.c : Int), .int .i64 x.a.f, .int .i64 x.a.t] := ((Blk.new1 w _ _ _).alloc _).grows hb1
  have hT : Blk w1 (w.heap.size + 1 + 1) 63 #[.int .i64 a, .int .i64 b] := by
    have h := Blk.new (((w.alloc (.cells #[.slice p.s.A p.s.m p.s.k, .slice p.r.A p.r.m p.r.k, .slice p.e.A p.e.m p.e.k, .slice p.a.A p.a.m p.a.k, .slice p.oA p.om p.ok, .slice p.iA p.im p.ik] 32)).alloc (.cells #[.string ⟨x.a.src.toArray⟩, .slice x.A x.m x.k, .int .i64 x.a.l.lv, .int .u32 (x.a.l.c : Int), .int .i64 x.a.f, .int .i64 x.a.t] 62))) 63 #[.int .i64 a, .int .i64 b]
    rw [show (((w.alloc (.cells #[.slice p.s.A p.s.m p.s.k, .slice p.r.A p.r.m p.r.k, .slice p.e.A p.e.m p.e.k, .slice p.a.A p.a.m p.a.k, .slice p.oA p.om p.ok, .slice p.iA p.im p.ik] 32)).alloc (.cells #[.string ⟨x.a.src.toArray⟩, .slice x.A x.m x.k, .int .i64 x.a.l.lv, .int .u32 (x.a.l.c : Int), .int .i64 x.a.f, .int .i64 x.a.t] 62))).heap.size = w.heap.size + 1 + 1 by simp] at h
    exact h.grows hb1
  have hG : Grows w w1 := ((((Grows.refl w).alloc _).alloc _).alloc _).trans hb1
  have hGp : Hid (GLe2 w w.heap.size) := Lib.hid (Nat.le_refl _)
  clear hb1
  have hgA : Hid (w.heap.size < w.heap.size + 1) := Lib.hid (Nat.lt_succ_self _)
  have hgT : Hid (w.heap.size < w.heap.size + 1 + 1) := Lib.hid (by omega)
  generalize w.heap.size + 1 + 1 = gT at *
  generalize w.heap.size + 1 = gA at *
  generalize w.heap.size = gP at *
  have p0 := hP.cell 0
  have p1 := hP.cell 1
  have p2 := hP.cell 2
  have p3 := hP.cell 3
  have p4 := hP.cell 4
  have p5 := hP.cell 5
  have pl := hP.lt
  go_wp2_with fail
  refine (cC.out w1).mono ?_
  rintro e w2 ⟨rfl, hb2⟩
  clear p0 p1 p2 p3 p4 p5 pl cC
  replace hP := hP.grows hb2
  replace hA := hA.grows hb2
  replace hT := hT.grows hb2
  replace hG := hG.trans hb2
  clear hb2
  replace hP := Lib.hid hP
  rename_i hK
  refine hK _ _ ?_
  clear hK
  with_reducible show wpList _ _ _ _ _ _
  refine wpList_store_row rfl 32 (.tmp 3) (.tmp 18) rfl gP #[.slice q.s.A q.s.m q.s.k, .slice q.r.A q.r.m q.r.k, .slice q.e.A q.e.m q.e.k, .slice q.a.A q.a.m q.a.k, .slice q.oA q.om q.ok, .slice q.iA q.im q.ik] rfl rfl 32 _ hP.out (by kernel_rfl) rfl (by simp [Value.oneCell']) ?_
  have g3 := grownBy_setRow w2 gP #[.slice q.s.A q.s.m q.s.k, .slice q.r.A q.r.m q.r.k, .slice q.e.A q.e.m q.e.k, .slice q.a.A q.a.m q.a.k, .slice q.oA q.om q.ok, .slice q.iA q.im q.ik]
  have hQ : Blk (w2.setRow gP #[.slice q.s.A q.s.m q.s.k, .slice q.r.A q.r.m q.r.k, .slice q.e.A q.e.m q.e.k, .slice q.a.A q.a.m q.a.k, .slice q.oA q.om q.ok, .slice q.iA q.im q.ik]) gP 32 #[.slice q.s.A q.s.m q.s.k, .slice q.r.A q.r.m q.r.k, .slice q.e.A q.e.m q.e.k, .slice q.a.A q.a.m q.a.k, .slice q.oA q.om q.ok, .slice q.iA q.im q.ik] := setRow_heap _ _ _ _ _ _ hP.out
  replace hA := hA.by_ g3 (by have := hgA.out; omega)
  replace hT := hT.by_ g3 (by have := hgT.out; omega)
  replace hG := hG.by_then g3 hGp.out
  clear hP g3
  generalize w2.setRow gP #[.slice q.s.A q.s.m q.s.k, .slice q.r.A q.r.m q.r.k, .slice q.e.A q.e.m q.e.k, .slice q.a.A q.a.m q.a.k, .slice q.oA q.om q.ok, .slice q.iA q.im q.ik] = w3 at *
  have a0 := hA.cell 0
  have a1 := hA.cell 1
  have a2 := hA.cell 2
  have a3 := hA.cell 3
  have a4 := hA.cell 4
  have a5 := hA.cell 5
  have al := hA.lt
  replace hQ := Lib.hid hQ
  replace hT := Lib.hid hT
  replace hA := Lib.hid hA
  replace hG := Lib.hid hG
  go_wp2_with fail
  have hxs : Arr (w3.alloc (.cells #[.string ⟨x.a.src.toArray⟩, .slice x.A x.m x.k, .int .i64 x.a.l.lv, .int .u32 (x.a.l.c : Int), .int .i64 x.a.f, .int .i64 x.a.t] 62)) 6 encA (some ⟨w3.heap.size, 0, none⟩) 1 [x] := arr_one (Blk.new w3 62 (encA x).toArray)
  refine (few_any _ hxs (by omega) (by intro y hy; obtain rfl := List.mem_singleton.1 hy; exact ⟨hk, hm⟩)).mono ?_
  rintro e w4 ⟨v, u, rfl, hO, _, hb4⟩
  have hg4 : Grows w3 w4 := ((Grows.refl _).alloc _).trans hb4
  obtain ⟨A, c, rfl, _, _, hO⟩ := hO.arr hkAl
  replace hQ := Lib.hid (hQ.out.grows hg4)
  replace hT := Lib.hid (hT.out.grows hg4)
  replace hG := Lib.hid (hG.out.trans hg4)
  have hO1 : Arr w4 6 encA A 1 [x.cut12] := hO
  replace hO1 := Lib.hid hO1
  have hlen : Hid ((List.map AlrX.cut12 (List.take 12 [x])).length = 1) := Lib.hid rfl
  rw [hlen.out]
  clear hO hb4 hg4 hxs hA a0 a1 a2 a3 a4 a5 al hlen hk hm
  go_wp2_with fail
  generalize x.cut12 = y at *
  have hrle := hq.out.r.le
  go_loopw [9, 10, 11, 12, 13, 14] (fun i _ _ _ _ _ wr => ∃ n : Nat, n ≤ q.r.m ∧ i = .int .i64 (n : Int) ∧ Hid (Blk wr gP 32 #[.slice q.s.A q.s.m q.s.k, .slice q.r.A q.r.m q.r.k, .slice q.e.A q.e.m q.e.k, .slice q.a.A q.a.m q.a.k, .slice q.oA q.om q.ok, .slice q.iA q.im q.ik]) ∧ Hid (Blk wr gT 63 #[.int .i64 a, .int .i64 b]) ∧ Hid (Arr wr 6 encA A 1 [y]) ∧ Hid (Grows w wr)) (fun i _ _ _ _ _ _ => q.r.m - (intOf i).toNat)
  case atStart => exact ⟨0, by omega, rfl, hQ, hT, hO1, hG⟩
  case round =>
    clear hQ hT hO1 hG
    obtain ⟨n, hn, rfl, hQ, hT, hO1, hG⟩ := hrel
    have p1 : wr.cell? ⟨gP, 1, none⟩ = some (.slice q.r.A q.r.m q.r.k) := hQ.out.cell 1
    by_cases hlt : n < q.r.m
    · obtain ⟨bN, oN, nm, hrA, hbN, hnm, hcN⟩ := (hq.out.r.arr.keep hG.out).at_ hlt
      obtain ⟨bO, oO, y', rfl, hbO, hy, hcO⟩ := hO1.out.at_ (i := 0) (by omega)
      obtain rfl : y = y' := by simpa using hy
      have hni : (n : Int) < (q.r.m : Int) := by omega
      have n0 : wr.cell? ⟨bN, oN + n * 3, none⟩ = some (.string ⟨nm.n.toArray⟩) := hcN 0 _ rfl
      have p0 := hQ.out.cell 0
      have p2 := hQ.out.cell 2
      have p3 := hQ.out.cell 3
      have p4 := hQ.out.cell 4
      have p5 := hQ.out.cell 5
      have hbP := hQ.out.lt
      have hbT := hT.out.lt
      have t0 := hT.out.cell 0
      have t1 := hT.out.cell 1
      have y0 : wr.cell? ⟨bO, oO, none⟩ = some (.string ⟨y.a.src.toArray⟩) := by simpa using hcO 0 _ rfl
      have y1 : wr.cell? ⟨bO, oO + 1, none⟩ = some (.slice y.A y.m y.k) := by simpa using hcO 1 _ rfl
      have y2 : wr.cell? ⟨bO, oO + 2, none⟩ = some (.int .i64 y.a.l.lv) := by simpa using hcO 2 _ rfl
      have y3 : wr.cell? ⟨bO, oO + 3, none⟩ = some (.int .u32 (y.a.l.c : Int)) := by simpa using hcO 3 _ rfl
      have y4 : wr.cell? ⟨bO, oO + 4, none⟩ = some (.int .i64 y.a.f) := by simpa using hcO 4 _ rfl
      have y5 : wr.cell? ⟨bO, oO + 5, none⟩ = some (.int .i64 y.a.t) := by simpa using hcO 5 _ rfl
      have cG := fun now W (hW : Grows wr W) => goes_any (p := q) (rec := nm.n) (a := y) (now := now) W (hq.out.keep (hG.out.trans hW)) (hfb q) (hft q) (hxA.out W (hG.out.trans hW))
      rw [hqv.out, show valA y = .agg #[.string ⟨y.a.src.toArray⟩, .slice y.A y.m y.k, .int .i64 y.a.l.lv, .int .u32 (y.a.l.c : Int), .int .i64 y.a.f, .int .i64 y.a.t] from rfl] at cG
      rw [hrA] at p1 cG
      rw [hrA]
      replace cG := Lib.hid cG
      clear hcN hcO hy
      replace hnm := Lib.hid hnm
      go_wp2_with fail
      refine wp_region_mixg [(0, true), (1, true), (2, true), (3, true), (4, true), (5, true), (6, true), (7, true), (8, true), (9, true), (10, true), (11, true), (13, true), (14, true), (15, true), (16, true), (17, true), (18, true), (19, true), (20, true), (21, true), (22, true), (23, true), (24, true), (12, false), (25, false), (26, true), (27, true)] (by kernel_rfl) (by kernel_rfl) rfl (by kernel_rfl) (by intro c a d v w h; first | (cases d <;> exact h) | exact hQ0 _ _ _ _ _ h) ?_
      iterate 24 (refine wpMix_q rfl (fun K hK => ?_); go_simp; (try go_bits); first | (refine hK _ ?_; clear hK K) | (apply Exists.intro; refine ⟨fun wq hsq => ?_, hK _ ?_⟩; (first | (go_simp; done) | ((try go_simp); (try simp only [↓IntWalk.iteOmega]); (try go_bits); rfl) | (obtain ⟨hcq, hfq⟩ := bcells hsq; go_simp; done) | (obtain ⟨hcq, hfq⟩ := bcells hsq; (try go_simp); (try simp only [↓IntWalk.iteOmega]); (try go_bits); rfl)); clear hK K))
      refine wpMix_m rfl (fun K' hK => ?_)
      go_simp
      refine (cG.out _ _ (by
        repeat (first | assumption | exact Grows.refl _ | apply Grows.drew | apply Grows.drewN | refine Grows.alloc ?_ _ | (refine Grows.setCell ?_ (by first | (simp; done) | (simp; omega) | omega) _) | (refine Grows.trans ?_ (by assumption)))
      )).mono ?_
      rintro e w5 ⟨v5, rfl, hO5, hb5⟩
      obtain ⟨A5, c5, rfl, hl5, hc5, hX5⟩ := hO5.arr hkI
      clear hO5
      refine hK.out _ _ ?_ (fun hS => ?_)
      · repeat (first | assumption | exact Grows.refl _ | apply Grows.drew | apply Grows.drewN | refine Grows.alloc ?_ _ | (refine Grows.setCell ?_ (by first | (simp; done) | (simp; omega) | omega) _) | (refine Grows.trans ?_ (by assumption)))
      clear hK hS
      refine wpMix_m rfl (fun K' hK => ?_)
      go_simp
      refine (cG.out _ _ (by
        repeat (first | assumption | exact Grows.refl _ | apply Grows.drew | apply Grows.drewN | refine Grows.alloc ?_ _ | (refine Grows.setCell ?_ (by first | (simp; done) | (simp; omega) | omega) _) | (refine Grows.trans ?_ (by assumption)))
      )).mono ?_
      rintro e w6 ⟨v6, rfl, hO6, hb6⟩
      obtain ⟨A6, c6, rfl, _, hc6, hX6⟩ := hO6.arr hkI
      clear hO6
      replace hX5 := hX5.keep hb6
      refine hK.out _ _ ?_ (fun hS => ?_)
      · repeat (first | assumption | exact Grows.refl _ | apply Grows.drew | apply Grows.drewN | refine Grows.alloc ?_ _ | (refine Grows.setCell ?_ (by first | (simp; done) | (simp; omega) | omega) _) | (refine Grows.trans ?_ (by assumption)))
      clear hK hS
      iterate 2 (refine wpMix_q rfl (fun K hK => ?_); go_simp; (try go_bits); first | (refine hK _ ?_; clear hK K) | (apply Exists.intro; refine ⟨fun wq hsq => ?_, hK _ ?_⟩; (first | (go_simp; done) | ((try go_simp); (try simp only [↓IntWalk.iteOmega]); (try go_bits); rfl) | (obtain ⟨hcq, hfq⟩ := bcells hsq; go_simp; done) | (obtain ⟨hcq, hfq⟩ := bcells hsq; (try go_simp); (try simp only [↓IntWalk.iteOmega]); (try go_bits); rfl)); clear hK K))
      refine wpMix_nil ?_
      have h86 : Grows wr w6 := by
        repeat (first | assumption | exact Grows.refl _ | apply Grows.drew | apply Grows.drewN | refine Grows.alloc ?_ _ | (refine Grows.setCell ?_ (by first | (simp; done) | (simp; omega) | omega) _) | (refine Grows.trans ?_ (by assumption)))
      replace hQ := Lib.hid (hQ.out.grows h86)
      replace hT := Lib.hid (hT.out.grows h86)
      replace hO1 := Lib.hid (hO1.out.keep h86)
      replace hG := Lib.hid (hG.out.trans h86)
      replace t0 := h86.cell t0
      replace t1 := h86.cell t1
      replace y0 := h86.cell y0
      replace y1 := h86.cell y1
      replace y2 := h86.cell y2
      replace y3 := h86.cell y3
      replace y4 := h86.cell y4
      replace y5 := h86.cell y5
      replace n0 := h86.cell n0
      replace p1 := h86.cell p1
      replace p4 := h86.cell p4
      have z86 := h86.size
      replace hbN := Nat.lt_of_lt_of_le hbN z86
      replace hbO := Nat.lt_of_lt_of_le hbO z86
      replace hbP := Nat.lt_of_lt_of_le hbP z86
      replace hbT := Nat.lt_of_lt_of_le hbT z86
      have cF := fun now W => fires_any y now W
      rw [show valA y = .agg #[.string ⟨y.a.src.toArray⟩, .slice y.A y.m y.k, .int .i64 y.a.l.lv, .int .u32 (y.a.l.c : Int), .int .i64 y.a.f, .int .i64 y.a.t] from rfl] at cF
      replace cF := Lib.hid cF
      clear h86 z86 hb5 hb6 cG p0 p2 p3 p5
      go_wp2_with fail
      refine wp_region_mixg [(0, true), (1, true), (2, true), (3, true), (4, true), (6, true), (7, true), (8, true), (9, true), (10, true), (5, false), (11, false), (12, true), (13, true)] (by kernel_rfl) (by kernel_rfl) rfl (by kernel_rfl) (by intro c a d v w h; first | (cases d <;> exact h) | exact hQ0 _ _ _ _ _ h) ?_
      iterate 10 (refine wpMix_q rfl (fun K hK => ?_); go_simp; (try go_bits); first | (refine hK _ ?_; clear hK K) | (apply Exists.intro; refine ⟨fun wq hsq => ?_, hK _ ?_⟩; (first | (go_simp; done) | ((try go_simp); (try simp only [↓IntWalk.iteOmega]); (try go_bits); rfl) | (obtain ⟨hcq, hfq⟩ := bcells hsq; go_simp; done) | (obtain ⟨hcq, hfq⟩ := bcells hsq; (try go_simp); (try simp only [↓IntWalk.iteOmega]); (try go_bits); rfl)); clear hK K))
      refine wpMix_m rfl (fun K' hK => ?_)
      go_simp
      refine (cF.out _ _).mono ?_
      rintro e w7 ⟨rfl, hb7⟩
      refine hK.out _ _ ?_ (fun hS => ?_)
      · repeat (first | assumption | exact Grows.refl _ | apply Grows.drew | apply Grows.drewN | refine Grows.alloc ?_ _ | (refine Grows.setCell ?_ (by first | (simp; done) | (simp; omega) | omega) _) | (refine Grows.trans ?_ (by assumption)))
      clear hK hS
      refine wpMix_m rfl (fun K' hK => ?_)
      go_simp
      refine (cF.out _ _).mono ?_
      rintro e w8 ⟨rfl, hb8⟩
      refine hK.out _ _ ?_ (fun hS => ?_)
      · repeat (first | assumption | exact Grows.refl _ | apply Grows.drew | apply Grows.drewN | refine Grows.alloc ?_ _ | (refine Grows.setCell ?_ (by first | (simp; done) | (simp; omega) | omega) _) | (refine Grows.trans ?_ (by assumption)))
      clear hK hS
      iterate 2 (refine wpMix_q rfl (fun K hK => ?_); go_simp; (try go_bits); first | (refine hK _ ?_; clear hK K) | (apply Exists.intro; refine ⟨fun wq hsq => ?_, hK _ ?_⟩; (first | (go_simp; done) | ((try go_simp); (try simp only [↓IntWalk.iteOmega]); (try go_bits); rfl) | (obtain ⟨hcq, hfq⟩ := bcells hsq; go_simp; done) | (obtain ⟨hcq, hfq⟩ := bcells hsq; (try go_simp); (try simp only [↓IntWalk.iteOmega]); (try go_bits); rfl)); clear hK K))
      refine wpMix_nil ?_
      have h98 : Grows w6 w8 := by
        repeat (first | assumption | exact Grows.refl _ | apply Grows.drew | apply Grows.drewN | refine Grows.alloc ?_ _ | (refine Grows.setCell ?_ (by first | (simp; done) | (simp; omega) | omega) _) | (refine Grows.trans ?_ (by assumption)))
      replace hX5 := Lib.hid (hX5.keep h98)
      replace hX6 := Lib.hid (hX6.keep h98)
      replace hQ := Lib.hid (hQ.out.grows h98)
      replace hT := Lib.hid (hT.out.grows h98)
      replace hO1 := Lib.hid (hO1.out.keep h98)
      replace hG := Lib.hid (hG.out.trans h98)
      replace n0 := h98.cell n0
      replace p1 := h98.cell p1
      replace p4 := h98.cell p4
      have cS := fun W (hW : Grows w8 W) (h : goesL fb ft q.pol nm.n y.a a = goesL fb ft q.pol nm.n y.a b) => sameInts_any A5 A6 (goesL fb ft q.pol nm.n y.a a).length c5 (goesL fb ft q.pol nm.n y.a b).length c6 _ _ W (hX5.out.keep hW) (hX6.out.keep hW) (by omega) (by omega)
      have hF0 := fun h => goesL_quiet (fb := fb) (ft := ft) (p := q.pol) (rec := nm.n) (a := y.a) (now := a) h
      have hG0 := fun h => goesL_quiet (fb := fb) (ft := ft) (p := q.pol) (rec := nm.n) (a := y.a) (now := b) h
      have hFG := fun h h' => goesL_same (fb := fb) (ft := ft) (p := q.pol) (rec := nm.n) (a := y.a) (n := a) (m := b) h h'
      have hin := fun r (h : r ∈ goesL fb ft q.pol nm.n y.a a) => goesL_at h
      generalize firesB y.a a = F at *
      generalize firesB y.a b = G at *
      generalize goesL fb ft q.pol nm.n y.a a = X at *
      generalize goesL fb ft q.pol nm.n y.a b = Y at *
      replace hin := Lib.hid hin
      replace cS := Lib.hid cS
      clear h98 hb7 hb8 cF t0 t1 y0 y1 y2 y3 y4 y5
      have hcase : (F = false ∧ X = [] ∧ G = false ∧ Y = []) ∨ (F = false ∧ X = [] ∧ G = true) ∨ (F = true ∧ G = false ∧ Y = []) ∨ (F = true ∧ G = true ∧ X = Y) := by
        cases F <;> cases G <;> simp_all
      clear hF0 hG0 hFG
      rcases hcase with ⟨rfl, rfl, rfl, rfl⟩ | ⟨rfl, rfl, rfl⟩ | ⟨rfl, rfl, rfl⟩ | ⟨rfl, rfl, rfl⟩
      · clear cS
        simp only [List.length_nil]
        go_wp2_with fail
        go_loopw [14] (fun i wr2 => i = .int .i64 0 ∧ Hid (Blk wr2 gP 32 #[.slice q.s.A q.s.m q.s.k, .slice q.r.A q.r.m q.r.k, .slice q.e.A q.e.m q.e.k, .slice q.a.A q.a.m q.a.k, .slice q.oA q.om q.ok, .slice q.iA q.im q.ik]) ∧ Hid (Blk wr2 gT 63 #[.int .i64 a, .int .i64 b]) ∧ Hid (Arr wr2 6 encA (some ⟨bO, oO, none⟩) 1 [y]) ∧ Hid (Grows w wr2)) (fun _ _ => 0)
        case atStart => exact ⟨rfl, hQ, hT, hO1, hG⟩
        case round =>
          clear hQ hT hO1 hG
          obtain ⟨rfl, hQ, hT, hO1, hG⟩ := hrel
          go_wp2
          go_roundw
          case rel => exact ⟨n + 1, by omega, by go_num, by rw [hrA] at hQ; exact hQ, hT, hO1, hG⟩
          case measure => simp [intOf]; omega
      · clear cS
        simp only [List.length_nil]
        go_wp2_with fail
        go_loopw [14] (fun i wr2 => i = .int .i64 0 ∧ Hid (Blk wr2 gP 32 #[.slice q.s.A q.s.m q.s.k, .slice q.r.A q.r.m q.r.k, .slice q.e.A q.e.m q.e.k, .slice q.a.A q.a.m q.a.k, .slice q.oA q.om q.ok, .slice q.iA q.im q.ik]) ∧ Hid (Blk wr2 gT 63 #[.int .i64 a, .int .i64 b]) ∧ Hid (Arr wr2 6 encA (some ⟨bO, oO, none⟩) 1 [y]) ∧ Hid (Grows w wr2)) (fun _ _ => 0)
        case atStart => exact ⟨rfl, hQ, hT, hO1, hG⟩
        case round =>
          clear hQ hT hO1 hG
          obtain ⟨rfl, hQ, hT, hO1, hG⟩ := hrel
          go_wp2
          go_roundw
          case rel => exact ⟨n + 1, by omega, by go_num, by rw [hrA] at hQ; exact hQ, hT, hO1, hG⟩
          case measure => simp [intOf]; omega
      · clear cS
        simp only [List.length_nil]
        go_wp2_with fail
        refine ltimes_l1 hQ (Lib.hid (hX5.out)) (Lib.hid (hq.out.o.keep hG.out)) (Lib.hid (hq.out.r.arr.keep hG.out)) hnm hin (by unfold maxLen at hc5; omega) (by intro c a d v w h; cases d <;> exact h) ?_
        iterate 41 intro _
        intro wz hgw
        replace hQ := Lib.hid (hQ.out.grows hgw.out)
        replace hT := Lib.hid (hT.out.grows hgw.out)
        replace hO1 := Lib.hid (hO1.out.keep hgw.out)
        replace hG := Lib.hid (hG.out.trans hgw.out)
        clear hX5 hX6 hin hgw
        go_wp2
        go_roundw
        case rel => exact ⟨n + 1, by omega, by go_num, by rw [hrA] at hQ; exact hQ, hT, hO1, hG⟩
        case measure => simp [intOf]; omega
      · go_wp2_with fail
        refine (cS.out _ (by
          repeat (first | assumption | exact Grows.refl _ | apply Grows.drew | apply Grows.drewN | refine Grows.alloc ?_ _ | (refine Grows.setCell ?_ (by first | (simp; done) | (simp; omega) | omega) _) | (refine Grows.trans ?_ (by assumption)))
        ) trivial).mono ?_
        rintro e w9 ⟨rfl, hb9⟩
        replace hX5 := Lib.hid (hX5.out.keep hb9)
        replace hQ := Lib.hid (hQ.out.grows hb9)
        replace hT := Lib.hid (hT.out.grows hb9)
        replace hO1 := Lib.hid (hO1.out.keep hb9)
        replace hG := Lib.hid (hG.out.trans hb9)
        replace n0 := hb9.cell n0
        replace p1 := hb9.cell p1
        replace p4 := hb9.cell p4
        clear cS hb9 n0 p1 p4
        go_wp2_with fail
        refine ltimes_l1 hQ (Lib.hid (hX5.out)) (Lib.hid (hq.out.o.keep hG.out)) (Lib.hid (hq.out.r.arr.keep hG.out)) hnm hin (by unfold maxLen at hc5; omega) (by intro c a d v w h; cases d <;> exact h) ?_
        iterate 41 intro _
        intro wz hgw
        replace hQ := Lib.hid (hQ.out.grows hgw.out)
        replace hT := Lib.hid (hT.out.grows hgw.out)
        replace hO1 := Lib.hid (hO1.out.keep hgw.out)
        replace hG := Lib.hid (hG.out.trans hgw.out)
        clear hX5 hX6 hin hgw
        go_wp2
        go_roundw
        case rel => exact ⟨n + 1, by omega, by go_num, by rw [hrA] at hQ; exact hQ, hT, hO1, hG⟩
        case measure => simp [intOf]; omega
    · have hni : ¬ (n : Int) < (q.r.m : Int) := by omega
      go_wp2
      go_ret
      exact ⟨rfl, hG.out⟩
end Go.Proofs.YtfoffneipdkdjaaGreatDoor
