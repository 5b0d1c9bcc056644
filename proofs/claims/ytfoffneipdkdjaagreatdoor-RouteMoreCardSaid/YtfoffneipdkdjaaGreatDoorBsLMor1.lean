/- The walk of the law RouteMore: group by group. -/
import Derived.Test.YtfoffneipdkdjaaGreatDoorBs14
import Derived.Test.YtfoffneipdkdjaaGreatDoorBs13
namespace Go.Proofs.YtfoffneipdkdjaaGreatDoor
open Go.RowKit Go.Maps

theorem moreR_at {l bs : List Grp} {y : Grp} (h : MoreR l (y :: bs)) : (∃ x l', l = x :: l' ∧ SameG x y ∧ MoreR l' bs) ∨ (y.ids.length = 1 ∧ (∀ x, l.head? = some x → x.route ≠ y.route) ∧ (∀ x, bs.head? = some x → x.route ≠ y.route) ∧ MoreR l bs) := h
theorem drop_g {gs : List GrpX} {i : Nat} {y : GrpX} (h : gs[i]? = some y) : (gs.map GrpX.g).drop i = y.g :: (gs.map GrpX.g).drop (i + 1) := by
  obtain ⟨hl, rfl⟩ := List.getElem?_eq_some_iff.1 h
  rw [List.drop_eq_getElem_cons (by simpa using hl)]
  simp
theorem drop_head {gs : List GrpX} {i : Nat} {y : GrpX} (h : gs[i]? = some y) : ((gs.map GrpX.g).drop i).head? = some y.g := by rw [drop_g h]; rfl
set_option maxRecDepth 100000 in
set_option maxHeartbeats 3200000 in
theorem lmore_l1 {m1 m2 c5 c6 b5 b6 : Nat} {A5 A6 : Option Addr} {gs1 gs2 : List GrpX} {wS : World} {Q0 : Exit → Act → World → Prop} {x0 x1 x2 x3 x4 x5 x6 x7 x8 x9 x14 x15 x16 x17 x18 x19 x20 x21 x22 x23 x24 x25 x26 x27 x28 x29 x30 x31 x32 x33 x34 x35 x36 x37 x38 x39 x40 x41 x42 x43 x44 x45 x46 x47 x48 x49 x50 x51 x52 x53 x54 x55 x56 x57 x58 x59 x60 x61 x62 x63 x64 x65 x66 x67 x68 x69 x70 x71 x72 x73 x74 x75 x76 x77 x78 x79 x80 x81 x82 x83 x84 x85 x86 x87 x88 x89 x90 x91 x92 x93 x94 x95 x96 x97 x98 x99 x100 x101 x102 x103 x104 x105 x106 x107 x108 x109 x110 x111 x112 x113 x114 x115 x116 x117 x118 x119 x120 x121 x122 x123 x124 x125 x126 x127 x128 x129 x130 x131 x132 x133 x134 x135 x136 x137 x138 x139 x140 x141 x142 x143 x144 x145 x146 x147 x148 x149 x150 x151 x152 x153 x154 x155 : Value}
    (hX5 : Hid (Arr wS 4 encG A5 m1 gs1)) (hX6 : Hid (Arr wS 4 encG A6 m2 gs2)) (hI5 : Hid (GrpsAt wS b5 gs1)) (hI6 : Hid (GrpsAt wS b6 gs2)) (hM : Hid (MoreR (gs1.map GrpX.g) (gs2.map GrpX.g))) (hm1 : m1 ≤ 9223372036854775807) (hm2 : m2 ≤ 9223372036854775807)
    (hQ0 : ∀ c a d v w, Q0 (.panic c) (Act.put a d v) w → Q0 (.panic c) a w)
    (hexit : ∀ (u6 u12 u13 u57 u58 u59 u60 u61 u62 u63 u64 u65 u66 u67 u68 u69 u70 u71 u72 u73 u74 u75 u76 u77 u78 u79 u80 u81 u82 u83 u84 u85 u86 u87 u88 u89 u90 u91 u92 u93 u94 u95 u96 u97 u98 u99 u100 u101 u102 u103 u104 u105 u106 u107 u108 u109 u110 u111 u112 u113 u114 u115 u116 u117 u118 u119 u120 u121 u122 u123 u124 u125 u126 u127 u128 u129 u130 u131 u132 u133 u134 u135 u136 u137 u138 u139 u140 u141 u142 u143 u144 u145 u146 u147 u148 u149 u150 u151 : Value) (wr : World), (u12 = .int .i64 (m1 : Int) ∧ Hid (Grows wS wr)) → Q0 (.exit 2) ⟨(x0 :: x1 :: x2 :: x3 :: x4 :: x5 :: u6 :: x7 :: x8 :: x9 :: (.slice A5 m1 c5) :: (.slice A6 m2 c6) :: u12 :: u13 :: x14 :: x15 :: x16 :: x17 :: x18 :: x19 :: x20 :: x21 :: x22 :: x23 :: x24 :: x25 :: x26 :: x27 :: x28 :: x29 :: x30 :: x31 :: x32 :: x33 :: x34 :: x35 :: x36 :: x37 :: x38 :: x39 :: x40 :: x41 :: x42 :: x43 :: x44 :: x45 :: x46 :: x47 :: x48 :: x49 :: x50 :: x51 :: x52 :: x53 :: x54 :: x55 :: x56 :: u57 :: u58 :: u59 :: u60 :: u61 :: u62 :: u63 :: u64 :: u65 :: u66 :: u67 :: u68 :: u69 :: u70 :: u71 :: u72 :: u73 :: u74 :: u75 :: u76 :: u77 :: u78 :: u79 :: u80 :: u81 :: u82 :: u83 :: u84 :: u85 :: u86 :: u87 :: u88 :: u89 :: u90 :: u91 :: u92 :: u93 :: u94 :: u95 :: u96 :: u97 :: u98 :: u99 :: u100 :: u101 :: u102 :: u103 :: u104 :: u105 :: u106 :: u107 :: u108 :: u109 :: u110 :: u111 :: u112 :: u113 :: u114 :: u115 :: u116 :: u117 :: u118 :: u119 :: u120 :: u121 :: u122 :: u123 :: u124 :: u125 :: u126 :: u127 :: u128 :: u129 :: u130 :: u131 :: u132 :: u133 :: u134 :: u135 :: u136 :: u137 :: u138 :: u139 :: u140 :: u141 :: u142 :: u143 :: u144 :: u145 :: u146 :: u147 :: u148 :: u149 :: u150 :: u151 :: x152 :: x153 :: x154 :: x155 :: []).toArray, []⟩ wr) :
    Code.wp Tryz.prog (loopIn Tryz.f5 1) Q0 ⟨(x0 :: x1 :: x2 :: x3 :: x4 :: x5 :: x6 :: x7 :: x8 :: x9 :: (.slice A5 m1 c5) :: (.slice A6 m2 c6) :: (.int .i64 0) :: (.int .i64 0) :: x14 :: x15 :: x16 :: x17 :: x18 :: x19 :: x20 :: x21 :: x22 :: x23 :: x24 :: x25 :: x26 :: x27 :: x28 :: x29 :: x30 :: x31 :: x32 :: x33 :: x34 :: x35 :: x36 :: x37 :: x38 :: x39 :: x40 :: x41 :: x42 :: x43 :: x44 :: x45 :: x46 :: x47 :: x48 :: x49 :: x50 :: x51 :: x52 :: x53 :: x54 :: x55 :: x56 :: x57 :: x58 :: x59 :: x60 :: x61 :: x62 :: x63 :: x64 :: x65 :: x66 :: x67 :: x68 :: x69 :: x70 :: x71 :: x72 :: x73 :: x74 :: x75 :: x76 :: x77 :: x78 :: x79 :: x80 :: x81 :: x82 :: x83 :: x84 :: x85 :: x86 :: x87 :: x88 :: x89 :: x90 :: x91 :: x92 :: x93 :: x94 :: x95 :: x96 :: x97 :: x98 :: x99 :: x100 :: x101 :: x102 :: x103 :: x104 :: x105 :: x106 :: x107 :: x108 :: x109 :: x110 :: x111 :: x112 :: x113 :: x114 :: x115 :: x116 :: x117 :: x118 :: x119 :: x120 :: x121 :: x122 :: x123 :: x124 :: x125 :: x126 :: x127 :: x128 :: x129 :: x130 :: x131 :: x132 :: x133 :: x134 :: x135 :: x136 :: x137 :: x138 :: x139 :: x140 :: x141 :: x142 :: x143 :: x144 :: x145 :: x146 :: x147 :: x148 :: x149 :: x150 :: x151 :: x152 :: x153 :: x154 :: x155 :: []).toArray, []⟩ wS := by
  conv => arg 2; whnf
  have hl1 : Hid (gs1.length = m1) := Lib.hid hX5.out.1
  have hl2 : Hid (gs2.length = m2) := Lib.hid hX6.out.1
  go_loopw [12, 13] (fun kv iv wr2 => ∃ k i : Nat, k ≤ m1 ∧ i ≤ m2 ∧ kv = .int .i64 (k : Int) ∧ iv = .int .i64 (i : Int) ∧ Hid (MoreR ((gs1.map GrpX.g).drop k) ((gs2.map GrpX.g).drop i)) ∧ Hid (Grows wS wr2)) (fun _ i _ => m2 - (intOf i).toNat)
  case atStart => exact ⟨0, 0, by omega, by omega, rfl, rfl, by simpa using hM, Lib.hid (Grows.refl _)⟩
  case round =>
    obtain ⟨k, i, hk, hi, rfl, rfl, hMR, hgw⟩ := hrel
    clear hM
    by_cases hil : i < m2
    · obtain ⟨b6, o6, y, rfl, hb6, hy, hc6⟩ := (hX6.out.keep hgw.out).at_ hil
      have y0 : wr.cell? ⟨b6, o6 + i * 4, none⟩ = some (.int .i64 (y.r : Int)) := by simpa using hc6 0 _ rfl
      have y1 : wr.cell? ⟨b6, o6 + i * 4 + 1, none⟩ = some (.slice y.bA y.bm y.bk) := hc6 1 _ rfl
      have y3 : wr.cell? ⟨b6, o6 + i * 4 + 3, none⟩ = some (.slice y.iA y.im y.ik) := hc6 3 _ rfl
      obtain ⟨hyi, hyf⟩ := hI6.out y (List.mem_of_getElem? hy)
      obtain ⟨hyl, hyk, hym, -⟩ := own_arr hyi hkU
      obtain ⟨-, hyb, hyc, hyA⟩ := own_arr hyf hkF
      unfold maxLen at hyc hym
      have hMR2 := hMR.out
      rw [drop_g hy] at hMR2
      have hii : (i : Int) < (m2 : Int) := by omega
      rcases moreR_at hMR2 with ⟨xg, l', hl', hS, hM2⟩ | ⟨h1, hAn, hBn, hM2⟩
      · have hkl : k < m1 := by
          rcases Nat.lt_or_ge k m1 with h | h
          · exact h
          · rw [List.drop_eq_nil_of_le (by rw [List.length_map, hl1.out]; exact h)] at hl'; cases hl'
        obtain ⟨b5, o5, x, rfl, hb5, hx, hc5⟩ := (hX5.out.keep hgw.out).at_ hkl
        rw [drop_g hx] at hl'
        injection hl' with hl1' hl2'
        subst hl1' hl2'
        obtain ⟨s1, s2, s3, s4⟩ := hS
        have s1' : x.r = y.r := s1
        have s2' : x.by_ = y.by_ := s2
        have s3' : x.ids.length ≤ y.ids.length := s3
        have s4' : y.ids.length ≤ x.ids.length + 1 := s4
        obtain ⟨hxi, hxf⟩ := hI5.out x (List.mem_of_getElem? hx)
        obtain ⟨hxl, hxk, hxm, -⟩ := own_arr hxi hkU
        obtain ⟨-, hxb, hxc, hxA⟩ := own_arr hxf hkF
        unfold maxLen at hxc hxm
        have x0 : wr.cell? ⟨b5, o5 + k * 4, none⟩ = some (.int .i64 (x.r : Int)) := by simpa using hc5 0 _ rfl
        have x1 : wr.cell? ⟨b5, o5 + k * 4 + 1, none⟩ = some (.slice x.bA x.bm x.bk) := hc5 1 _ rfl
        have x3 : wr.cell? ⟨b5, o5 + k * 4 + 3, none⟩ = some (.slice x.iA x.im x.ik) := hc5 3 _ rfl
        have hrr : ((x.r : Int) == (y.r : Int)) = true := by rw [beq_iff_eq, s1']
        have cS := fun W (hW : Grows wr W) => rsame_any x.bA y.bA x.bm x.bk y.bm y.bk x.by_ y.by_ W (hxA.keep (hgw.out.trans hW)) (hyA.keep (hgw.out.trans hW)) (by omega) (by omega)
        rw [decide_eq_true s2'] at cS
        have hkki : (k : Int) < (m1 : Int) := by omega
        have hd1 : ¬ (1 : Int) < (y.im : Int) - (x.im : Int) := by omega
        have hd2 : ¬ (y.im : Int) < (x.im : Int) := by omega
        have hd3 : (y.im : Int) ≤ (x.im : Int) + 1 := by omega
        have hd4 : (x.im : Int) ≤ 9223372036854775807 := by omega
        have hd5 : (y.im : Int) ≤ 9223372036854775807 := by omega
        replace cS := Lib.hid cS
        replace hM2 := Lib.hid hM2
        clear s1 s2 s3 s4 s1' s2' s3' s4' hyl hxl hyk hym hxk hxm hyi hyf hxi hxf hyA hxA hyb hyc hxb hxc hMR hMR2 hc5 hc6 hx hy
        go_wp2_with fail
        refine wp_region_mixg [(0, true), (1, true), (2, true), (3, true), (4, true), (5, true), (6, true), (7, true), (8, true), (9, true), (10, true), (11, true), (12, true), (13, true), (14, true), (15, true), (16, true), (17, true), (18, true), (19, true), (20, true), (21, true), (22, true), (23, true), (24, true), (25, true), (26, true), (27, true), (28, false), (29, true)] (by kernel_rfl) (by kernel_rfl) rfl (by kernel_rfl) (by intro c a d v w h; first | (cases d <;> exact h) | exact hQ0 _ _ _ _ _ h) ?_
        iterate 28 (refine wpMix_s rfl (fun K hK => ?_); go_simp; (try go_bits); first | (refine hK.out _ ?_; clear hK K) | (apply Exists.intro; refine ⟨fun wq hsq => ?_, hK.out _ ?_⟩; (first | (go_simp; done) | ((try go_simp); (try simp only [↓IntWalk.iteOmega]); (try go_bits); rfl) | (obtain ⟨hcq, hfq⟩ := bcells hsq; go_simp; done) | (obtain ⟨hcq, hfq⟩ := bcells hsq; (try go_simp); (try simp only [↓IntWalk.iteOmega]); (try go_bits); rfl)); clear hK K))
        refine wpMix_m rfl (fun K' hK => ?_)
        go_simp
        refine (cS.out _ (by
          repeat (first | assumption | exact Grows.refl _ | apply Grows.drew | apply Grows.drewN | refine Grows.alloc ?_ _ | (refine Grows.setCell ?_ (by first | (simp; done) | (simp; omega) | omega) _) | (refine Grows.trans ?_ (by assumption)))
        )).mono ?_
        rintro e w7 ⟨rfl, hb7⟩
        refine hK.out _ _ ?_ (fun hS => ?_)
        · repeat (first | assumption | exact Grows.refl _ | apply Grows.drew | apply Grows.drewN | refine Grows.alloc ?_ _ | (refine Grows.setCell ?_ (by first | (simp; done) | (simp; omega) | omega) _) | (refine Grows.trans ?_ (by assumption)))
        clear hK hS
        iterate 1 (refine wpMix_s rfl (fun K hK => ?_); go_simp; (try go_bits); first | (refine hK.out _ ?_; clear hK K) | (apply Exists.intro; refine ⟨fun wq hsq => ?_, hK.out _ ?_⟩; (first | (go_simp; done) | ((try go_simp); (try simp only [↓IntWalk.iteOmega]); (try go_bits); rfl) | (obtain ⟨hcq, hfq⟩ := bcells hsq; go_simp; done) | (obtain ⟨hcq, hfq⟩ := bcells hsq; (try go_simp); (try simp only [↓IntWalk.iteOmega]); (try go_bits); rfl)); clear hK K))
        refine wpMix_nil ?_
        have h7 : Grows wr w7 := by
          repeat (first | assumption | exact Grows.refl _ | apply Grows.drew | apply Grows.drewN | refine Grows.alloc ?_ _ | (refine Grows.setCell ?_ (by first | (simp; done) | (simp; omega) | omega) _) | (refine Grows.trans ?_ (by assumption)))
        replace x3 := h7.cell x3
        replace y3 := h7.cell y3
        have zz5 := Nat.lt_of_lt_of_le hb5 h7.size
        have zz6 := Nat.lt_of_lt_of_le hb6 h7.size
        replace hgw := Lib.hid (hgw.out.trans h7)
        clear x0 x1 y0 y1 hb5 hb6 hb7 h7 cS hrr
        go_wp2_with fail
        refine wp_region_mixg [(0, true), (1, true), (2, true), (3, true), (4, true), (5, true), (6, true), (7, true), (8, true), (9, true), (10, true), (11, true), (12, true), (13, true), (14, true), (15, true), (16, true), (17, true), (18, true), (19, true), (20, true), (21, true), (22, true), (23, true), (24, true), (25, true), (26, true), (27, true), (28, true)] (by kernel_rfl) (by kernel_rfl) rfl (by kernel_rfl) (by intro c a d v w h; first | (cases d <;> exact h) | exact hQ0 _ _ _ _ _ h) ?_
        iterate 29 (refine wpMix_s rfl (fun K hK => ?_); go_simp; (try go_bits); first | (refine hK.out _ ?_; clear hK K) | (apply Exists.intro; refine ⟨fun wq hsq => ?_, hK.out _ ?_⟩; (first | (go_simp; done) | ((try go_simp); (try simp only [↓IntWalk.iteOmega]); (try go_bits); rfl) | (obtain ⟨hcq, hfq⟩ := bcells hsq; go_simp; done) | (obtain ⟨hcq, hfq⟩ := bcells hsq; (try go_simp); (try simp only [↓IntWalk.iteOmega]); (try go_bits); rfl)); clear hK K))
        refine wpMix_nil ?_
        go_wp2
        go_roundw
        case rel => exact ⟨k + 1, i + 1, by omega, by omega, by go_num, by go_num, hM2, Lib.hid (by
          have hgw := hgw.out
          repeat (first | assumption | exact Grows.refl _ | apply Grows.drew | apply Grows.drewN | refine Grows.alloc ?_ _ | (refine Grows.setCell ?_ (by first | (simp; done) | (simp; omega) | omega) _) | (refine Grows.trans ?_ (by assumption)))
        )⟩
        case measure => simp [intOf]; omega
      · have hy1 : ((y.im : Int) != 1) = false := by
          have h : y.ids.length = 1 := h1
          rw [bne_eq_false_iff_eq]; omega
        replace hBn := Lib.hid hBn
        replace hM2 := Lib.hid hM2
        clear hyl hyk hym hyi hyf hyA hyb hyc hMR hMR2 hc6 hy h1
        by_cases hkl : k < m1
        · obtain ⟨b5, o5, x, rfl, hb5, hx, hc5⟩ := (hX5.out.keep hgw.out).at_ hkl
          have hrr : ((x.r : Int) == (y.r : Int)) = false := by
            rw [beq_eq_false_iff_ne]
            have h := hAn x.g (drop_head hx)
            have h2 : x.r ≠ y.r := h
            omega
          have x0 : wr.cell? ⟨b5, o5 + k * 4, none⟩ = some (.int .i64 (x.r : Int)) := by simpa using hc5 0 _ rfl
          have hkki : (k : Int) < (m1 : Int) := by omega
          clear hc5 hx hAn
          go_wp2_with fail
          refine wp_region_mixg [(0, true), (1, true), (2, true), (3, true), (4, true), (5, true), (6, true), (7, true), (8, true), (9, true), (10, true), (11, true), (12, true), (13, true), (14, true), (15, true), (16, true), (17, true), (18, true), (19, true), (20, true), (21, true), (22, true), (23, true), (24, true), (25, true), (26, true), (27, true), (28, false), (29, true)] (by kernel_rfl) (by kernel_rfl) rfl (by kernel_rfl) (by intro c a d v w h; first | (cases d <;> exact h) | exact hQ0 _ _ _ _ _ h) ?_
          iterate 28 (refine wpMix_s rfl (fun K hK => ?_); go_simp; (try go_bits); first | (refine hK.out _ ?_; clear hK K) | (apply Exists.intro; refine ⟨fun wq hsq => ?_, hK.out _ ?_⟩; (first | (go_simp; done) | ((try go_simp); (try simp only [↓IntWalk.iteOmega]); (try go_bits); rfl) | (obtain ⟨hcq, hfq⟩ := bcells hsq; go_simp; done) | (obtain ⟨hcq, hfq⟩ := bcells hsq; (try go_simp); (try simp only [↓IntWalk.iteOmega]); (try go_bits); rfl)); clear hK K))
          refine wpMix_m rfl (fun K' hK => ?_)
          go_simp
          refine hK.out _ _ ?_ (fun hS => ?_)
          · repeat (first | assumption | exact Grows.refl _ | apply Grows.drew | apply Grows.drewN | refine Grows.alloc ?_ _ | (refine Grows.setCell ?_ (by first | (simp; done) | (simp; omega) | omega) _) | (refine Grows.trans ?_ (by assumption)))
          clear hK hS
          iterate 1 (refine wpMix_s rfl (fun K hK => ?_); go_simp; (try go_bits); first | (refine hK.out _ ?_; clear hK K) | (apply Exists.intro; refine ⟨fun wq hsq => ?_, hK.out _ ?_⟩; (first | (go_simp; done) | ((try go_simp); (try simp only [↓IntWalk.iteOmega]); (try go_bits); rfl) | (obtain ⟨hcq, hfq⟩ := bcells hsq; go_simp; done) | (obtain ⟨hcq, hfq⟩ := bcells hsq; (try go_simp); (try simp only [↓IntWalk.iteOmega]); (try go_bits); rfl)); clear hK K))
          refine wpMix_nil ?_
          clear x0 hrr hb5
          have h7 : Grows wr wr.drew := (Grows.refl wr).drew
          replace y0 := h7.cell y0
          replace y3 := h7.cell y3
          have zz6 := Nat.lt_of_lt_of_le hb6 h7.size
          replace hgw := Lib.hid (hgw.out.trans h7)
          clear hb6 y1 h7
          generalize wr.drew = w7 at *
          by_cases hi2 : i + 1 < m2
          · obtain ⟨bz, oz, z', hz0, _, hz, hcz⟩ := (hX6.out.keep hgw.out).at_ hi2
            injection hz0 with hz0
            injection hz0 with hz1 hz2
            subst hz1 hz2
            have hzr : ((z'.r : Int) == (y.r : Int)) = false := by
              rw [beq_eq_false_iff_ne]
              have h := hBn.out z'.g (drop_head hz)
              have h2 : z'.r ≠ y.r := h
              omega
            have z0 : w7.cell? ⟨b6, o6 + (i + 1) * 4, none⟩ = some (.int .i64 (z'.r : Int)) := by simpa using hcz 0 _ rfl
            have hi2i : (i : Int) + 1 < (m2 : Int) := by omega
            clear hcz hz
            go_wp2_with fail
            refine wp_region_mixg [(0, true), (1, true), (2, true), (3, true), (4, true), (5, true), (6, true), (7, true), (8, true), (9, true), (10, true), (11, true), (12, true), (13, true), (14, true), (15, true), (16, true), (17, true), (18, true), (19, true), (20, true), (21, true), (22, true), (23, true), (24, true), (25, true), (26, true), (27, true)] (by kernel_rfl) (by kernel_rfl) rfl (by kernel_rfl) (by intro c a d v w h; first | (cases d <;> exact h) | exact hQ0 _ _ _ _ _ h) ?_
            iterate 28 (refine wpMix_s rfl (fun K hK => ?_); go_simp; (try go_bits); first | (refine hK.out _ ?_; clear hK K) | (apply Exists.intro; refine ⟨fun wq hsq => ?_, hK.out _ ?_⟩; (first | (go_simp; done) | ((try go_simp); (try simp only [↓IntWalk.iteOmega]); (try go_bits); rfl) | (obtain ⟨hcq, hfq⟩ := bcells hsq; go_simp; done) | (obtain ⟨hcq, hfq⟩ := bcells hsq; (try go_simp); (try simp only [↓IntWalk.iteOmega]); (try go_bits); rfl)); clear hK K))
            refine wpMix_nil ?_
            go_wp2
            go_roundw
            case rel => exact ⟨k, i + 1, by omega, by omega, by go_num, by go_num, hM2, Lib.hid (by
              have hgw := hgw.out
              repeat (first | assumption | exact Grows.refl _ | apply Grows.drew | apply Grows.drewN | refine Grows.alloc ?_ _ | (refine Grows.setCell ?_ (by first | (simp; done) | (simp; omega) | omega) _) | (refine Grows.trans ?_ (by assumption)))
            )⟩
            case measure => simp [intOf]; omega
          · obtain rfl : m2 = i + 1 := by omega
            go_wp2_with fail
            refine wp_region_mixg [(0, true), (1, true), (2, true), (3, true), (4, true), (5, true), (6, true), (7, true), (8, true), (9, true), (10, true), (11, true), (12, true), (13, true), (14, true), (15, true), (16, true), (17, true), (18, true), (19, true), (20, true), (21, true), (22, true), (23, true), (24, true), (25, true), (26, true), (27, true)] (by kernel_rfl) (by kernel_rfl) rfl (by kernel_rfl) (by intro c a d v w h; first | (cases d <;> exact h) | exact hQ0 _ _ _ _ _ h) ?_
            iterate 28 (refine wpMix_s rfl (fun K hK => ?_); go_simp; (try go_bits); first | (refine hK.out _ ?_; clear hK K) | (apply Exists.intro; refine ⟨fun wq hsq => ?_, hK.out _ ?_⟩; (first | (go_simp; done) | ((try go_simp); (try simp only [↓IntWalk.iteOmega]); (try go_bits); rfl) | (obtain ⟨hcq, hfq⟩ := bcells hsq; go_simp; done) | (obtain ⟨hcq, hfq⟩ := bcells hsq; (try go_simp); (try simp only [↓IntWalk.iteOmega]); (try go_bits); rfl)); clear hK K))
            refine wpMix_nil ?_
            go_wp2
            go_roundw
            case rel => exact ⟨k, i + 1, by omega, by omega, by go_num, by go_num, hM2, Lib.hid (by
              have hgw := hgw.out
              repeat (first | assumption | exact Grows.refl _ | apply Grows.drew | apply Grows.drewN | refine Grows.alloc ?_ _ | (refine Grows.setCell ?_ (by first | (simp; done) | (simp; omega) | omega) _) | (refine Grows.trans ?_ (by assumption)))
            )⟩
            case measure => first | (simp [intOf]; done) | (simp [intOf]; omega)
        · have hkki : ¬ (k : Int) < (m1 : Int) := by omega
          clear hAn
          go_wp2_with fail
          refine wp_region_mixg [(0, true), (1, true), (2, true), (3, true), (4, true), (5, true), (6, true), (7, true), (8, true), (9, true), (10, true), (11, true), (12, true), (13, true), (14, true), (15, true), (16, true), (17, true), (18, true), (19, true), (20, true), (21, true), (22, true), (23, true), (24, true), (25, true), (26, true), (27, true), (28, false), (29, true)] (by kernel_rfl) (by kernel_rfl) rfl (by kernel_rfl) (by intro c a d v w h; first | (cases d <;> exact h) | exact hQ0 _ _ _ _ _ h) ?_
          iterate 28 (refine wpMix_s rfl (fun K hK => ?_); go_simp; (try go_bits); first | (refine hK.out _ ?_; clear hK K) | (apply Exists.intro; refine ⟨fun wq hsq => ?_, hK.out _ ?_⟩; (first | (go_simp; done) | ((try go_simp); (try simp only [↓IntWalk.iteOmega]); (try go_bits); rfl) | (obtain ⟨hcq, hfq⟩ := bcells hsq; go_simp; done) | (obtain ⟨hcq, hfq⟩ := bcells hsq; (try go_simp); (try simp only [↓IntWalk.iteOmega]); (try go_bits); rfl)); clear hK K))
          refine wpMix_m rfl (fun K' hK => ?_)
          go_simp
          refine hK.out _ _ ?_ (fun hS => ?_)
          · repeat (first | assumption | exact Grows.refl _ | apply Grows.drew | apply Grows.drewN | refine Grows.alloc ?_ _ | (refine Grows.setCell ?_ (by first | (simp; done) | (simp; omega) | omega) _) | (refine Grows.trans ?_ (by assumption)))
          clear hK hS
          iterate 1 (refine wpMix_s rfl (fun K hK => ?_); go_simp; (try go_bits); first | (refine hK.out _ ?_; clear hK K) | (apply Exists.intro; refine ⟨fun wq hsq => ?_, hK.out _ ?_⟩; (first | (go_simp; done) | ((try go_simp); (try simp only [↓IntWalk.iteOmega]); (try go_bits); rfl) | (obtain ⟨hcq, hfq⟩ := bcells hsq; go_simp; done) | (obtain ⟨hcq, hfq⟩ := bcells hsq; (try go_simp); (try simp only [↓IntWalk.iteOmega]); (try go_bits); rfl)); clear hK K))
          refine wpMix_nil ?_
          have h7 : Grows wr wr.drew := (Grows.refl wr).drew
          replace y0 := h7.cell y0
          replace y3 := h7.cell y3
          have zz6 := Nat.lt_of_lt_of_le hb6 h7.size
          replace hgw := Lib.hid (hgw.out.trans h7)
          clear hb6 y1 h7
          generalize wr.drew = w7 at *
          by_cases hi2 : i + 1 < m2
          · obtain ⟨bz, oz, z', hz0, _, hz, hcz⟩ := (hX6.out.keep hgw.out).at_ hi2
            injection hz0 with hz0
            injection hz0 with hz1 hz2
            subst hz1 hz2
            have hzr : ((z'.r : Int) == (y.r : Int)) = false := by
              rw [beq_eq_false_iff_ne]
              have h := hBn.out z'.g (drop_head hz)
              have h2 : z'.r ≠ y.r := h
              omega
            have z0 : w7.cell? ⟨b6, o6 + (i + 1) * 4, none⟩ = some (.int .i64 (z'.r : Int)) := by simpa using hcz 0 _ rfl
            have hi2i : (i : Int) + 1 < (m2 : Int) := by omega
            clear hcz hz
            go_wp2_with fail
            refine wp_region_mixg [(0, true), (1, true), (2, true), (3, true), (4, true), (5, true), (6, true), (7, true), (8, true), (9, true), (10, true), (11, true), (12, true), (13, true), (14, true), (15, true), (16, true), (17, true), (18, true), (19, true), (20, true), (21, true), (22, true), (23, true), (24, true), (25, true), (26, true), (27, true)] (by kernel_rfl) (by kernel_rfl) rfl (by kernel_rfl) (by intro c a d v w h; first | (cases d <;> exact h) | exact hQ0 _ _ _ _ _ h) ?_
            iterate 28 (refine wpMix_s rfl (fun K hK => ?_); go_simp; (try go_bits); first | (refine hK.out _ ?_; clear hK K) | (apply Exists.intro; refine ⟨fun wq hsq => ?_, hK.out _ ?_⟩; (first | (go_simp; done) | ((try go_simp); (try simp only [↓IntWalk.iteOmega]); (try go_bits); rfl) | (obtain ⟨hcq, hfq⟩ := bcells hsq; go_simp; done) | (obtain ⟨hcq, hfq⟩ := bcells hsq; (try go_simp); (try simp only [↓IntWalk.iteOmega]); (try go_bits); rfl)); clear hK K))
            refine wpMix_nil ?_
            go_wp2
            go_roundw
            case rel => exact ⟨k, i + 1, by omega, by omega, by go_num, by go_num, hM2, Lib.hid (by
              have hgw := hgw.out
              repeat (first | assumption | exact Grows.refl _ | apply Grows.drew | apply Grows.drewN | refine Grows.alloc ?_ _ | (refine Grows.setCell ?_ (by first | (simp; done) | (simp; omega) | omega) _) | (refine Grows.trans ?_ (by assumption)))
            )⟩
            case measure => simp [intOf]; omega
          · obtain rfl : m2 = i + 1 := by omega
            go_wp2_with fail
            refine wp_region_mixg [(0, true), (1, true), (2, true), (3, true), (4, true), (5, true), (6, true), (7, true), (8, true), (9, true), (10, true), (11, true), (12, true), (13, true), (14, true), (15, true), (16, true), (17, true), (18, true), (19, true), (20, true), (21, true), (22, true), (23, true), (24, true), (25, true), (26, true), (27, true)] (by kernel_rfl) (by kernel_rfl) rfl (by kernel_rfl) (by intro c a d v w h; first | (cases d <;> exact h) | exact hQ0 _ _ _ _ _ h) ?_
            iterate 28 (refine wpMix_s rfl (fun K hK => ?_); go_simp; (try go_bits); first | (refine hK.out _ ?_; clear hK K) | (apply Exists.intro; refine ⟨fun wq hsq => ?_, hK.out _ ?_⟩; (first | (go_simp; done) | ((try go_simp); (try simp only [↓IntWalk.iteOmega]); (try go_bits); rfl) | (obtain ⟨hcq, hfq⟩ := bcells hsq; go_simp; done) | (obtain ⟨hcq, hfq⟩ := bcells hsq; (try go_simp); (try simp only [↓IntWalk.iteOmega]); (try go_bits); rfl)); clear hK K))
            refine wpMix_nil ?_
            go_wp2
            go_roundw
            case rel => exact ⟨k, i + 1, by omega, by omega, by go_num, by go_num, hM2, Lib.hid (by
              have hgw := hgw.out
              repeat (first | assumption | exact Grows.refl _ | apply Grows.drew | apply Grows.drewN | refine Grows.alloc ?_ _ | (refine Grows.setCell ?_ (by first | (simp; done) | (simp; omega) | omega) _) | (refine Grows.trans ?_ (by assumption)))
            )⟩
            case measure => first | (simp [intOf]; done) | (simp [intOf]; omega)
    · have hil' : i = m2 := by omega
      have hii : ¬ (i : Int) < (m2 : Int) := by omega
      have hMR2 := hMR.out
      have hd0 : (gs2.map GrpX.g).drop i = [] := List.drop_eq_nil_of_le (by rw [List.length_map, hl2.out]; omega)
      rw [hd0] at hMR2
      have hkm : (k : Int) = (m1 : Int) := by
        have h : (gs1.map GrpX.g).drop k = [] := hMR2
        have h2 := List.drop_eq_nil_iff.1 h
        rw [List.length_map, hl1.out] at h2
        omega
      replace hkm := Lib.hid hkm
      clear hMR2 hMR hil' hd0
      go_wp2
      exact hkm.out
end Go.Proofs.YtfoffneipdkdjaaGreatDoor
