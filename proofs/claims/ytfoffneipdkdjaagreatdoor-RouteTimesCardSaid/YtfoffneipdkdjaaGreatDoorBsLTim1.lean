/- The walk of the law RouteTimes: the rounds over the routes by which an alert goes. -/
import Derived.Test.YtfoffneipdkdjaaGreatDoorBs14
import Derived.Test.YtfoffneipdkdjaaGreatDoorBs13
namespace Go.Proofs.YtfoffneipdkdjaaGreatDoor
open Go.RowKit Go.Maps

set_option maxRecDepth 100000 in
set_option maxHeartbeats 600000 in
theorem ltimes_l1 {q : PolX} {gP n Xm c5 : Nat} {A5 : Option Addr} {X : List Nat} {nm : Nam} {wS : World} {Q0 : Exit → Act → World → Prop} {x0 x1 x2 x4 x5 x6 x7 x8 x11 x12 x13 x15 x16 x17 x18 x19 x20 x21 x22 x23 x24 x25 x26 x27 x28 x29 x30 x31 x32 x33 x34 x35 x36 x37 x38 x39 x40 x41 x42 x43 x44 x45 x46 x47 x48 x49 x50 x51 x52 x53 x54 x55 x56 x57 x58 x59 x60 x61 x62 x63 x64 x65 x66 x67 x68 x69 x70 x71 x72 x73 x74 x75 x76 x77 x78 x79 x80 x81 x82 x83 x84 x85 x86 x87 x88 x89 x90 x91 x92 x93 x94 x95 x96 x97 x98 x99 x100 x101 x102 x103 x104 x105 x106 x107 x108 x109 x110 x111 x112 x113 x114 x115 x116 x117 x118 x119 x120 x121 x122 x123 x124 x125 x126 x127 x128 x129 x130 x131 x132 x133 x134 x135 x136 : Value}
    (hP : Hid (Blk wS gP 32 (polC q))) (hX : Hid (Arr wS 1 encI A5 Xm X)) (hqo : Hid (Arr wS 6 encR q.oA q.om q.o)) (hqr : Hid (Arr wS 3 encN q.r.A q.r.m q.r.l)) (hnm : Hid (q.r.l[n]? = some nm)) (hin : Hid (∀ r ∈ X, ∃ t, q.pol.routes[r]? = some t ∧ t.r = nm.n)) (hle : Xm ≤ 9223372036854775807)
    (hQ0 : ∀ c a d v w, Q0 (.panic c) (Act.put a d v) w → Q0 (.panic c) a w)
    (hexit : ∀ (u6 u14 u98 u99 u100 u101 u102 u103 u104 u105 u106 u107 u108 u109 u110 u111 u112 u113 u114 u115 u116 u117 u118 u119 u120 u121 u122 u123 u124 u125 u126 u127 u128 u129 u130 u131 u132 u133 u134 u135 u136 : Value) (wr : World), (Hid (Grows wS wr)) → Q0 (.exit 2) ⟨(x0 :: x1 :: x2 :: (.pointer (some ⟨gP, 0, none⟩)) :: x4 :: x5 :: u6 :: x7 :: x8 :: (.int .i64 (n : Int)) :: (.slice A5 Xm c5) :: x11 :: x12 :: x13 :: u14 :: x15 :: x16 :: x17 :: x18 :: x19 :: x20 :: x21 :: x22 :: x23 :: x24 :: x25 :: x26 :: x27 :: x28 :: x29 :: x30 :: x31 :: x32 :: x33 :: x34 :: x35 :: x36 :: x37 :: x38 :: x39 :: x40 :: x41 :: x42 :: x43 :: x44 :: x45 :: x46 :: x47 :: x48 :: x49 :: x50 :: x51 :: x52 :: x53 :: x54 :: x55 :: x56 :: x57 :: x58 :: x59 :: x60 :: x61 :: x62 :: x63 :: x64 :: x65 :: x66 :: x67 :: x68 :: x69 :: x70 :: x71 :: x72 :: x73 :: x74 :: x75 :: x76 :: x77 :: x78 :: x79 :: x80 :: x81 :: x82 :: x83 :: x84 :: x85 :: x86 :: x87 :: x88 :: x89 :: x90 :: x91 :: x92 :: x93 :: x94 :: x95 :: x96 :: x97 :: u98 :: u99 :: u100 :: u101 :: u102 :: u103 :: u104 :: u105 :: u106 :: u107 :: u108 :: u109 :: u110 :: u111 :: u112 :: u113 :: u114 :: u115 :: u116 :: u117 :: u118 :: u119 :: u120 :: u121 :: u122 :: u123 :: u124 :: u125 :: u126 :: u127 :: u128 :: u129 :: u130 :: u131 :: u132 :: u133 :: u134 :: u135 :: u136 :: []).toArray, []⟩ wr) :
    Code.wp Tryz.prog (loopIn Tryz.f6 1) Q0 ⟨(x0 :: x1 :: x2 :: (.pointer (some ⟨gP, 0, none⟩)) :: x4 :: x5 :: x6 :: x7 :: x8 :: (.int .i64 (n : Int)) :: (.slice A5 Xm c5) :: x11 :: x12 :: x13 :: (.int .i64 0) :: x15 :: x16 :: x17 :: x18 :: x19 :: x20 :: x21 :: x22 :: x23 :: x24 :: x25 :: x26 :: x27 :: x28 :: x29 :: x30 :: x31 :: x32 :: x33 :: x34 :: x35 :: x36 :: x37 :: x38 :: x39 :: x40 :: x41 :: x42 :: x43 :: x44 :: x45 :: x46 :: x47 :: x48 :: x49 :: x50 :: x51 :: x52 :: x53 :: x54 :: x55 :: x56 :: x57 :: x58 :: x59 :: x60 :: x61 :: x62 :: x63 :: x64 :: x65 :: x66 :: x67 :: x68 :: x69 :: x70 :: x71 :: x72 :: x73 :: x74 :: x75 :: x76 :: x77 :: x78 :: x79 :: x80 :: x81 :: x82 :: x83 :: x84 :: x85 :: x86 :: x87 :: x88 :: x89 :: x90 :: x91 :: x92 :: x93 :: x94 :: x95 :: x96 :: x97 :: x98 :: x99 :: x100 :: x101 :: x102 :: x103 :: x104 :: x105 :: x106 :: x107 :: x108 :: x109 :: x110 :: x111 :: x112 :: x113 :: x114 :: x115 :: x116 :: x117 :: x118 :: x119 :: x120 :: x121 :: x122 :: x123 :: x124 :: x125 :: x126 :: x127 :: x128 :: x129 :: x130 :: x131 :: x132 :: x133 :: x134 :: x135 :: x136 :: []).toArray, []⟩ wS := by
  conv => arg 2; whnf
  go_loopw [14] (fun i wr => ∃ j : Nat, j ≤ Xm ∧ i = .int .i64 (j : Int) ∧ Hid (Grows wS wr)) (fun i _ => Xm - (intOf i).toNat)
  case atStart => exact ⟨0, by omega, rfl, Lib.hid (Grows.refl _)⟩
  case round =>
    obtain ⟨j, hj, rfl, hgw⟩ := hrel
    have hQ := hP.out.grows hgw.out
    by_cases hjl : j < Xm
    · obtain ⟨b5, o5, r, rfl, hb5, hr, hc5⟩ := (hX.out.keep hgw.out).at_ hjl
      obtain ⟨t, ht, htr⟩ := hin.out r (List.mem_of_getElem? hr)
      have hro : q.pol.routes = q.o.map (·.r) := rfl
      rw [hro, List.getElem?_map] at ht
      have hrm : r < q.om := by
        rw [← hqo.out.1]
        rcases Nat.lt_or_ge r q.o.length with h | h
        · exact h
        · rw [List.getElem?_eq_none h] at ht; cases ht
      have hnr : n < q.r.m := by
        rw [← hqr.out.1]
        exact (List.getElem?_eq_some_iff.1 hnm.out).1
      obtain ⟨bR, oR, rx, hoA, hbR, hrx, hcR⟩ := (hqo.out.keep hgw.out).at_ hrm
      obtain ⟨bN, oN, nm', hrA, hbN, hnm', hcN⟩ := (hqr.out.keep hgw.out).at_ hnr
      have := hnm.out
      rw [this] at hnm'
      injection hnm' with hnm'
      subst hnm'
      rw [hrx] at ht
      have hrr : rx.r.r = nm.n := by simp at ht; rw [ht]; exact htr
      have r0 : wr.cell? ⟨bR, oR + r * 6, none⟩ = some (.string ⟨rx.r.r.toArray⟩) := hcR 0 _ rfl
      rw [hrr] at r0
      have n0 : wr.cell? ⟨bN, oN + n * 3, none⟩ = some (.string ⟨nm.n.toArray⟩) := hcN 0 _ rfl
      have i0 : wr.cell? ⟨b5, o5 + j, none⟩ = some (.int .i64 (r : Int)) := by simpa using hc5 0 _ rfl
      have p1 : wr.cell? ⟨gP, 1, none⟩ = some (.slice q.r.A q.r.m q.r.k) := hQ.cell 1
      have p4 : wr.cell? ⟨gP, 4, none⟩ = some (.slice q.oA q.om q.ok) := hQ.cell 4
      have hbP := hQ.lt
      rw [hoA] at p4
      rw [hrA] at p1
      have hjli : (j : Int) < (Xm : Int) := by omega
      have hrmi : (r : Int) < (q.om : Int) := by omega
      have hnri : (n : Int) < (q.r.m : Int) := by omega
      clear hcR hc5 hcN ht htr this hQ hrx hnm hin hro hrr hr hX hqo hqr hP hoA hrA
      go_wp2_with fail
      refine wp_region_mixg [(0, true), (1, true), (2, true), (3, true), (4, true), (5, true), (6, true), (7, true), (8, true), (9, true), (10, true), (11, true), (12, true), (13, true), (14, true), (15, true), (16, true), (17, true), (18, true), (19, true), (20, true), (21, true), (22, true), (23, true), (24, true), (25, true), (26, true), (27, true), (28, true), (29, true), (30, true), (31, true), (32, true)] (by kernel_rfl) (by kernel_rfl) rfl (by kernel_rfl) (by intro c a d v w h; first | (cases d <;> exact h) | exact hQ0 _ _ _ _ _ h) ?_
      iterate 33 (refine wpMix_q rfl (fun K hK => ?_); go_simp; (try go_bits); first | (refine hK _ ?_; clear hK K) | (apply Exists.intro; refine ⟨fun wq hsq => ?_, hK _ ?_⟩; (first | (go_simp; done) | ((try go_simp); (try simp only [↓IntWalk.iteOmega]); (try go_bits); rfl) | (obtain ⟨hcq, hfq⟩ := bcells hsq; go_simp; done) | (obtain ⟨hcq, hfq⟩ := bcells hsq; (try go_simp); (try simp only [↓IntWalk.iteOmega]); (try go_bits); rfl)); clear hK K))
      refine wpMix_nil ?_
      go_wp2
      go_roundw
      case rel => exact ⟨j + 1, by omega, by go_num, Lib.hid (by
        have hgw := hgw.out
        repeat (first | assumption | exact Grows.refl _ | apply Grows.drew | apply Grows.drewN | refine Grows.alloc ?_ _ | (refine Grows.setCell ?_ (by first | (simp; done) | (simp; omega) | omega) _) | (refine Grows.trans ?_ (by assumption)))
      )⟩
      case measure => simp [intOf]; omega
    · have hjli : ¬ (j : Int) < (Xm : Int) := by omega
      go_wp2
end Go.Proofs.YtfoffneipdkdjaaGreatDoor
