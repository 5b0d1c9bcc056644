/- The walk of the law RouteParts: a group that is not an alert's. -/
import Derived.Test.YtfoffneipdkdjaaGreatDoorBsLPar2
namespace Go.Proofs.YtfoffneipdkdjaaGreatDoor
open Go.RowKit Go.Maps

set_option maxRecDepth 100000 in
set_option maxHeartbeats 6400000 in
theorem parts_lF0 {q : PolX} {c : AlrX} {gP gc m5 c5 b5 m7 c7 j k r N : Nat} {A5 A7 : Option Addr} {gs : List GrpX} {F : List Nat} {x : GrpX} {rx : RteX} {wS : World} {Q0 : Exit → Act → World → Prop} {x0 x1 x2 x4 x5 x6 x7 x8 x9 x10 x12 x13 x14 x16 x22 x23 x24 x25 x26 x27 x28 x29 x30 x31 x32 x33 x34 x35 x36 x37 x38 x39 x40 x41 x42 x43 x44 x45 x46 x47 x48 x49 x50 x51 x52 x53 x54 x55 x56 x57 x58 x59 x60 x61 x62 x63 x64 x65 x66 x67 x68 x69 x70 x71 x72 x73 x74 x75 x76 x77 x78 x79 x80 x81 x82 x83 x84 x85 x86 x87 x88 x89 x90 x91 x92 x93 x94 x95 x96 x97 x98 x99 x100 x101 x102 x103 x104 x105 x106 x107 x108 x109 x110 x111 x112 x113 x114 x115 x116 x117 x118 x119 x120 x121 x122 x123 x124 x125 x126 x127 x128 x129 x130 x131 x132 x133 x134 x135 x136 x137 x138 x139 x140 x141 x142 x143 x144 x145 x146 x147 x148 x149 x150 x151 x152 x153 x154 x155 x156 x157 x158 x159 x160 x161 x162 x163 x164 x165 x166 x167 x168 x169 x170 x171 x172 x173 x174 x175 x176 x177 x178 x179 x180 x181 x182 x183 x184 x185 x186 x187 x188 x189 x190 x191 x192 x193 x194 x195 x196 x197 x198 x199 x200 x201 x202 x203 x204 x205 : Value}
    (hP : Hid (Blk wS gP 32 (polC q))) (hC : Hid (Blk wS gc 50 (alrC c))) (hX : Hid (Arr wS 4 encG A5 m5 gs)) (hI : Hid (GrpsAt wS b5 gs)) (hR : Hid (Arr wS 1 encI A7 m7 F)) (hqo : Hid (Arr wS 6 encR q.oA q.om q.o)) (hrx : Hid (q.o[r]? = some rx)) (hrA : Hid (rx.At wS)) (hcA : Hid (Arr wS 2 encF c.A c.m c.a.fs)) (hcm : c.m ≤ 1000) (hx : Hid (gs[j]? = some x)) (hk : Hid (F[k]? = some r)) (hno : Hid (¬ (x.r = r ∧ x.by_ = pickF c.a.fs rx.r.by_))) (_ : m5 ≤ 9223372036854775807)
    (hQ0 : ∀ c a d v w, Q0 (.panic c) (Act.put a d v) w → Q0 (.panic c) a w)
    (hexit : ∀ (u19 u21 u145 u146 u147 u148 u149 u150 u151 u152 u153 u154 u155 u156 u157 u158 u159 u160 u161 u162 u163 u164 u165 u166 u167 u168 u169 u170 u171 u172 u173 u174 u175 u176 u177 u178 u179 u180 u181 u182 u183 u184 u185 u186 u187 u188 u189 u190 u191 u192 u193 u194 u195 u196 u197 u198 u199 : Value) (wr : World), (u19 = .int .i64 (N : Int) ∧ Hid (Grows wS wr)) → Q0 (.exit 12) ⟨(x0 :: x1 :: x2 :: (.pointer (some ⟨gP, 0, none⟩)) :: x4 :: x5 :: x6 :: x7 :: x8 :: x9 :: x10 :: (.slice A5 m5 c5) :: x12 :: x13 :: x14 :: (.pointer (some ⟨gc, 0, none⟩)) :: x16 :: (.slice A7 m7 c7) :: (.int .i64 (k : Int)) :: u19 :: (.int .i64 (j : Int)) :: u21 :: x22 :: x23 :: x24 :: x25 :: x26 :: x27 :: x28 :: x29 :: x30 :: x31 :: x32 :: x33 :: x34 :: x35 :: x36 :: x37 :: x38 :: x39 :: x40 :: x41 :: x42 :: x43 :: x44 :: x45 :: x46 :: x47 :: x48 :: x49 :: x50 :: x51 :: x52 :: x53 :: x54 :: x55 :: x56 :: x57 :: x58 :: x59 :: x60 :: x61 :: x62 :: x63 :: x64 :: x65 :: x66 :: x67 :: x68 :: x69 :: x70 :: x71 :: x72 :: x73 :: x74 :: x75 :: x76 :: x77 :: x78 :: x79 :: x80 :: x81 :: x82 :: x83 :: x84 :: x85 :: x86 :: x87 :: x88 :: x89 :: x90 :: x91 :: x92 :: x93 :: x94 :: x95 :: x96 :: x97 :: x98 :: x99 :: x100 :: x101 :: x102 :: x103 :: x104 :: x105 :: x106 :: x107 :: x108 :: x109 :: x110 :: x111 :: x112 :: x113 :: x114 :: x115 :: x116 :: x117 :: x118 :: x119 :: x120 :: x121 :: x122 :: x123 :: x124 :: x125 :: x126 :: x127 :: x128 :: x129 :: x130 :: x131 :: x132 :: x133 :: x134 :: x135 :: x136 :: x137 :: x138 :: x139 :: x140 :: x141 :: x142 :: x143 :: x144 :: u145 :: u146 :: u147 :: u148 :: u149 :: u150 :: u151 :: u152 :: u153 :: u154 :: u155 :: u156 :: u157 :: u158 :: u159 :: u160 :: u161 :: u162 :: u163 :: u164 :: u165 :: u166 :: u167 :: u168 :: u169 :: u170 :: u171 :: u172 :: u173 :: u174 :: u175 :: u176 :: u177 :: u178 :: u179 :: u180 :: u181 :: u182 :: u183 :: u184 :: u185 :: u186 :: u187 :: u188 :: u189 :: u190 :: u191 :: u192 :: u193 :: u194 :: u195 :: u196 :: u197 :: u198 :: u199 :: x200 :: x201 :: x202 :: x203 :: x204 :: x205 :: []).toArray, []⟩ wr) :
    Code.wp Tryz.prog (loopIn Tryz.f4 6) Q0 ⟨(x0 :: x1 :: x2 :: (.pointer (some ⟨gP, 0, none⟩)) :: x4 :: x5 :: x6 :: x7 :: x8 :: x9 :: x10 :: (.slice A5 m5 c5) :: x12 :: x13 :: x14 :: (.pointer (some ⟨gc, 0, none⟩)) :: x16 :: (.slice A7 m7 c7) :: (.int .i64 (k : Int)) :: (.int .i64 (N : Int)) :: (.int .i64 (j : Int)) :: (.int .i64 0) :: x22 :: x23 :: x24 :: x25 :: x26 :: x27 :: x28 :: x29 :: x30 :: x31 :: x32 :: x33 :: x34 :: x35 :: x36 :: x37 :: x38 :: x39 :: x40 :: x41 :: x42 :: x43 :: x44 :: x45 :: x46 :: x47 :: x48 :: x49 :: x50 :: x51 :: x52 :: x53 :: x54 :: x55 :: x56 :: x57 :: x58 :: x59 :: x60 :: x61 :: x62 :: x63 :: x64 :: x65 :: x66 :: x67 :: x68 :: x69 :: x70 :: x71 :: x72 :: x73 :: x74 :: x75 :: x76 :: x77 :: x78 :: x79 :: x80 :: x81 :: x82 :: x83 :: x84 :: x85 :: x86 :: x87 :: x88 :: x89 :: x90 :: x91 :: x92 :: x93 :: x94 :: x95 :: x96 :: x97 :: x98 :: x99 :: x100 :: x101 :: x102 :: x103 :: x104 :: x105 :: x106 :: x107 :: x108 :: x109 :: x110 :: x111 :: x112 :: x113 :: x114 :: x115 :: x116 :: x117 :: x118 :: x119 :: x120 :: x121 :: x122 :: x123 :: x124 :: x125 :: x126 :: x127 :: x128 :: x129 :: x130 :: x131 :: x132 :: x133 :: x134 :: x135 :: x136 :: x137 :: x138 :: x139 :: x140 :: x141 :: x142 :: x143 :: x144 :: x145 :: x146 :: x147 :: x148 :: x149 :: x150 :: x151 :: x152 :: x153 :: x154 :: x155 :: x156 :: x157 :: x158 :: x159 :: x160 :: x161 :: x162 :: x163 :: x164 :: x165 :: x166 :: x167 :: x168 :: x169 :: x170 :: x171 :: x172 :: x173 :: x174 :: x175 :: x176 :: x177 :: x178 :: x179 :: x180 :: x181 :: x182 :: x183 :: x184 :: x185 :: x186 :: x187 :: x188 :: x189 :: x190 :: x191 :: x192 :: x193 :: x194 :: x195 :: x196 :: x197 :: x198 :: x199 :: x200 :: x201 :: x202 :: x203 :: x204 :: x205 :: []).toArray, []⟩ wS := by
  conv => arg 2; whnf
  have hjm : j < m5 := by rw [← hX.out.1]; exact (List.getElem?_eq_some_iff.1 hx.out).1
  have hkm : k < m7 := by rw [← hR.out.1]; exact (List.getElem?_eq_some_iff.1 hk.out).1
  have hrm : r < q.om := by rw [← hqo.out.1]; exact (List.getElem?_eq_some_iff.1 hrx.out).1
  obtain ⟨hxi, hxf⟩ := hI.out x (List.mem_of_getElem? hx.out)
  obtain ⟨-, -, hxm, -⟩ := own_arr hxi hkU
  obtain ⟨-, hfb, hfc, hxfA⟩ := own_arr hxf hkF
  have cP := fun W (hW : Grows wS W) => rpick_any (c := c.k) (c2 := rx.bk) W (hcA.out.keep hW) hcm (hrA.out.by_.keep hW) hrA.out.byle
  have cS := fun A8 m8 c8 W (hW : Grows wS W) (h8 : Arr W 2 encF A8 m8 (pickF c.a.fs rx.r.by_)) (hm8 : m8 ≤ 9223372036854775807) => rsame_any x.bA A8 x.bm x.bk m8 c8 x.by_ (pickF c.a.fs rx.r.by_) W (hxfA.keep hW) h8 (by unfold maxLen at hfc; omega) hm8
  have hno' := hno.out
  generalize pickF c.a.fs rx.r.by_ = pk at *
  replace cP := Lib.hid cP
  replace cS := Lib.hid cS
  unfold maxLen at hxm
  clear hxi hxf hfb hfc hxfA hI hcA hrA hno
  go_loopw [19, 21] (fun nv hv wr2 => hv = .int .i64 0 ∧ nv = .int .i64 (N : Int) ∧ Hid (Grows wS wr2)) (fun _ _ _ => 0)
  case atStart => exact ⟨rfl, rfl, Lib.hid (Grows.refl _)⟩
  case round =>
    obtain ⟨rfl, rfl, hgw⟩ := hrel
    have hQ := hP.out.grows hgw.out
    have hCc := hC.out.grows hgw.out
    obtain ⟨bb, oo, y, rfl, hbb, hy, hcy⟩ := (hX.out.keep hgw.out).at_ hjm
    rw [hx.out] at hy
    injection hy with hy
    subst hy
    obtain ⟨b7, o7, r', rfl, hb7, hr', hc7⟩ := (hR.out.keep hgw.out).at_ hkm
    rw [hk.out] at hr'
    injection hr' with hr'
    subst hr'
    obtain ⟨bR, oR, rx', hoA, hbR, hrx', hcR⟩ := (hqo.out.keep hgw.out).at_ hrm
    rw [hrx.out] at hrx'
    injection hrx' with hrx'
    subst hrx'
    have x0 : wr.cell? ⟨bb, oo + j * 4, none⟩ = some (.int .i64 (x.r : Int)) := by simpa using hcy 0 _ rfl
    have x1 : wr.cell? ⟨bb, oo + j * 4 + 1, none⟩ = some (.slice x.bA x.bm x.bk) := hcy 1 _ rfl
    have x3 : wr.cell? ⟨bb, oo + j * 4 + 3, none⟩ = some (.slice x.iA x.im x.ik) := hcy 3 _ rfl
    have i0 : wr.cell? ⟨b7, o7 + k, none⟩ = some (.int .i64 (r : Int)) := by simpa using hc7 0 _ rfl
    have r1 : wr.cell? ⟨bR, oR + r * 6 + 1, none⟩ = some (.slice rx.bA rx.bm rx.bk) := hcR 1 _ rfl
    have p4 : wr.cell? ⟨gP, 4, none⟩ = some (.slice q.oA q.om q.ok) := hQ.cell 4
    rw [hoA] at p4
    have pl := hQ.lt
    have a1 : wr.cell? ⟨gc, 1, none⟩ = some (.slice c.A c.m c.k) := hCc.cell 1
    have al := hCc.lt
    have hjmi : (j : Int) < (m5 : Int) := by omega
    have hkmi : (k : Int) < (m7 : Int) := by omega
    have hrmi : (r : Int) < (q.om : Int) := by omega
    clear hQ hCc hcy hc7 hcR hoA
    by_cases him : 0 < x.im
    · have himi : (0 : Int) < (x.im : Int) := by omega
      by_cases hxr : x.r = r
      · have hrr : ((x.r : Int) == (r : Int)) = true := by rw [beq_iff_eq, hxr]
        have hne : ¬ x.by_ = pk := fun e => hno' ⟨hxr, e⟩
        have cS2 := cS.out
        rw [decide_eq_false hne] at cS2
        replace cS2 := Lib.hid cS2
        clear hne hno' cS
        go_wp2_with fail
        refine wp_region_mixg [(0, true), (1, true), (2, true), (3, true), (4, true), (5, true), (6, true), (7, true), (8, true), (9, true), (10, true), (11, true), (12, true), (13, true), (14, true), (15, true), (16, true), (17, true), (18, true), (19, true), (20, true), (21, true), (22, true), (23, true), (24, true), (25, true), (26, true), (27, true), (28, true), (29, true), (30, true), (31, true), (32, true), (33, true), (34, true), (35, true), (36, true), (37, false), (38, false), (39, true)] (by kernel_rfl) (by kernel_rfl) rfl (by kernel_rfl) (by intro c a d v w h; first | (cases d <;> exact h) | exact hQ0 _ _ _ _ _ h) ?_
        iterate 37 (refine wpMix_s rfl (fun K hK => ?_); go_simp; (try go_bits); first | (refine hK.out _ ?_; clear hK K) | (apply Exists.intro; refine ⟨fun wq hsq => ?_, hK.out _ ?_⟩; (first | (go_simp; done) | ((try go_simp); (try simp only [↓IntWalk.iteOmega]); (try go_bits); rfl) | (obtain ⟨hcq, hfq⟩ := bcells hsq; go_simp; done) | (obtain ⟨hcq, hfq⟩ := bcells hsq; (try go_simp); (try simp only [↓IntWalk.iteOmega]); (try go_bits); rfl)); clear hK K))
        refine wpMix_m rfl (fun K' hK => ?_)
        go_simp
        refine (cP.out _ (by
          have hgw := hgw.out
          repeat (first | assumption | exact Grows.refl _ | apply Grows.drew | apply Grows.drewN | refine Grows.alloc ?_ _ | (refine Grows.setCell ?_ (by first | (simp; done) | (simp; omega) | omega) _) | (refine Grows.trans ?_ (by assumption)))
        )).mono ?_
        rintro e w7 ⟨v7, rfl, hO7, hb7⟩
        obtain ⟨A8, c8, rfl, hl8, hc8, hX8⟩ := hO7.arr hkF
        have hw7 : Grows wr w7 := by
          repeat (first | assumption | exact Grows.refl _ | apply Grows.drew | apply Grows.drewN | refine Grows.alloc ?_ _ | (refine Grows.setCell ?_ (by first | (simp; done) | (simp; omega) | omega) _) | (refine Grows.trans ?_ (by assumption)))
        generalize pk.length = m8 at *
        unfold maxLen at hc8
        refine hK.out _ _ ?_ (fun hS => ?_)
        · repeat (first | assumption | exact Grows.refl _ | apply Grows.drew | apply Grows.drewN | refine Grows.alloc ?_ _ | (refine Grows.setCell ?_ (by first | (simp; done) | (simp; omega) | omega) _) | (refine Grows.trans ?_ (by assumption)))
        clear hK hS
        refine wpMix_m rfl (fun K' hK => ?_)
        go_simp
        refine (cS2.out A8 m8 c8 _ (by
          have hgw := hgw.out
          repeat (first | assumption | exact Grows.refl _ | apply Grows.drew | apply Grows.drewN | refine Grows.alloc ?_ _ | (refine Grows.setCell ?_ (by first | (simp; done) | (simp; omega) | omega) _) | (refine Grows.trans ?_ (by assumption)))
        ) hX8 (by omega)).mono ?_
        rintro e w8 ⟨rfl, hb8⟩
        have hw8 : Grows wr w8 := hw7.trans hb8
        refine hK.out _ _ ?_ (fun hS => ?_)
        · repeat (first | assumption | exact Grows.refl _ | apply Grows.drew | apply Grows.drewN | refine Grows.alloc ?_ _ | (refine Grows.setCell ?_ (by first | (simp; done) | (simp; omega) | omega) _) | (refine Grows.trans ?_ (by assumption)))
        clear hK hS
        iterate 1 (refine wpMix_s rfl (fun K hK => ?_); go_simp; (try go_bits); first | (refine hK.out _ ?_; clear hK K) | (apply Exists.intro; refine ⟨fun wq hsq => ?_, hK.out _ ?_⟩; (first | (go_simp; done) | ((try go_simp); (try simp only [↓IntWalk.iteOmega]); (try go_bits); rfl) | (obtain ⟨hcq, hfq⟩ := bcells hsq; go_simp; done) | (obtain ⟨hcq, hfq⟩ := bcells hsq; (try go_simp); (try simp only [↓IntWalk.iteOmega]); (try go_bits); rfl)); clear hK K))
        refine wpMix_nil ?_
        have hg8 : Hid (Grows wS w8) := Lib.hid (hgw.out.trans hw8)
        clear hX8 hw7 hO7 hw8
        go_wp2
      · have hrr : ((x.r : Int) == (r : Int)) = false := by rw [beq_eq_false_iff_ne]; omega
        clear hxr hno'
        go_wp2_with fail
        refine wp_region_mixg [(0, true), (1, true), (2, true), (3, true), (4, true), (5, true), (6, true), (7, true), (8, true), (9, true), (10, true), (11, true), (12, true), (13, true), (14, true), (15, true), (16, true), (17, true), (18, true), (19, true), (20, true), (21, true), (22, true), (23, true), (24, true), (25, true), (26, true), (27, true), (28, true), (29, true), (30, true), (31, true), (32, true), (33, true), (34, true), (35, true), (36, true), (37, false), (38, false), (39, true)] (by kernel_rfl) (by kernel_rfl) rfl (by kernel_rfl) (by intro c a d v w h; first | (cases d <;> exact h) | exact hQ0 _ _ _ _ _ h) ?_
        iterate 37 (refine wpMix_s rfl (fun K hK => ?_); go_simp; (try go_bits); first | (refine hK.out _ ?_; clear hK K) | (apply Exists.intro; refine ⟨fun wq hsq => ?_, hK.out _ ?_⟩; (first | (go_simp; done) | ((try go_simp); (try simp only [↓IntWalk.iteOmega]); (try go_bits); rfl) | (obtain ⟨hcq, hfq⟩ := bcells hsq; go_simp; done) | (obtain ⟨hcq, hfq⟩ := bcells hsq; (try go_simp); (try simp only [↓IntWalk.iteOmega]); (try go_bits); rfl)); clear hK K))
        refine wpMix_m rfl (fun K' hK => ?_)
        go_simp
        refine hK.out _ _ ?_ (fun hS => ?_)
        · repeat (first | assumption | exact Grows.refl _ | apply Grows.drew | apply Grows.drewN | refine Grows.alloc ?_ _ | (refine Grows.setCell ?_ (by first | (simp; done) | (simp; omega) | omega) _) | (refine Grows.trans ?_ (by assumption)))
        clear hK hS
        refine wpMix_m rfl (fun K' hK => ?_)
        go_simp
        refine hK.out _ _ ?_ (fun hS => ?_)
        · repeat (first | assumption | exact Grows.refl _ | apply Grows.drew | apply Grows.drewN | refine Grows.alloc ?_ _ | (refine Grows.setCell ?_ (by first | (simp; done) | (simp; omega) | omega) _) | (refine Grows.trans ?_ (by assumption)))
        clear hK hS
        iterate 1 (refine wpMix_s rfl (fun K hK => ?_); go_simp; (try go_bits); first | (refine hK.out _ ?_; clear hK K) | (apply Exists.intro; refine ⟨fun wq hsq => ?_, hK.out _ ?_⟩; (first | (go_simp; done) | ((try go_simp); (try simp only [↓IntWalk.iteOmega]); (try go_bits); rfl) | (obtain ⟨hcq, hfq⟩ := bcells hsq; go_simp; done) | (obtain ⟨hcq, hfq⟩ := bcells hsq; (try go_simp); (try simp only [↓IntWalk.iteOmega]); (try go_bits); rfl)); clear hK K))
        refine wpMix_nil ?_
        have hg8 : Hid (Grows wS wr.drew) := Lib.hid hgw.out.drew
        go_wp2
    · have himi : ¬ (0 : Int) < (x.im : Int) := by omega
      clear hno'
      go_wp2_with fail
      refine wp_region_mixg [(0, true), (1, true), (2, true), (3, true), (4, true), (5, true), (6, true), (7, true), (8, true), (9, true), (10, true), (11, true), (12, true), (13, true), (14, true), (15, true), (16, true), (17, true), (18, true), (19, true), (20, true), (21, true), (22, true), (23, true), (24, true), (25, true), (26, true), (27, true), (28, true), (29, true), (30, true), (31, true), (32, true), (33, true), (34, true), (35, true), (36, true), (37, false), (38, false), (39, true)] (by kernel_rfl) (by kernel_rfl) rfl (by kernel_rfl) (by intro c a d v w h; first | (cases d <;> exact h) | exact hQ0 _ _ _ _ _ h) ?_
      iterate 37 (refine wpMix_s rfl (fun K hK => ?_); go_simp; (try go_bits); first | (refine hK.out _ ?_; clear hK K) | (apply Exists.intro; refine ⟨fun wq hsq => ?_, hK.out _ ?_⟩; (first | (go_simp; done) | ((try go_simp); (try simp only [↓IntWalk.iteOmega]); (try go_bits); rfl) | (obtain ⟨hcq, hfq⟩ := bcells hsq; go_simp; done) | (obtain ⟨hcq, hfq⟩ := bcells hsq; (try go_simp); (try simp only [↓IntWalk.iteOmega]); (try go_bits); rfl)); clear hK K))
      refine wpMix_m rfl (fun K' hK => ?_)
      go_simp
      refine hK.out _ _ ?_ (fun hS => ?_)
      · repeat (first | assumption | exact Grows.refl _ | apply Grows.drew | apply Grows.drewN | refine Grows.alloc ?_ _ | (refine Grows.setCell ?_ (by first | (simp; done) | (simp; omega) | omega) _) | (refine Grows.trans ?_ (by assumption)))
      clear hK hS
      refine wpMix_m rfl (fun K' hK => ?_)
      go_simp
      refine hK.out _ _ ?_ (fun hS => ?_)
      · repeat (first | assumption | exact Grows.refl _ | apply Grows.drew | apply Grows.drewN | refine Grows.alloc ?_ _ | (refine Grows.setCell ?_ (by first | (simp; done) | (simp; omega) | omega) _) | (refine Grows.trans ?_ (by assumption)))
      clear hK hS
      iterate 1 (refine wpMix_s rfl (fun K hK => ?_); go_simp; (try go_bits); first | (refine hK.out _ ?_; clear hK K) | (apply Exists.intro; refine ⟨fun wq hsq => ?_, hK.out _ ?_⟩; (first | (go_simp; done) | ((try go_simp); (try simp only [↓IntWalk.iteOmega]); (try go_bits); rfl) | (obtain ⟨hcq, hfq⟩ := bcells hsq; go_simp; done) | (obtain ⟨hcq, hfq⟩ := bcells hsq; (try go_simp); (try simp only [↓IntWalk.iteOmega]); (try go_bits); rfl)); clear hK K))
      refine wpMix_nil ?_
      have hg8 : Hid (Grows wS wr.drew) := Lib.hid hgw.out.drew
      go_wp2
/-- What the rounds over groups and ids know of a route by which an alert goes. -/
theorem cnt_snoc {r : Nat} {fs : List Fld} {id : Nat} {gs : List Grp} {j : Nat} {g : Grp} (h : gs[j]? = some g) : cntG r fs id (gs.take (j + 1)) = cntG r fs id (gs.take j) + (if g.route = r ∧ g.by_ = fs then g.ids.count id else 0) := by
  unfold cntG
  rw [List.take_add_one, h]
  simp [List.sum_append]
theorem cnt_le {r : Nat} {fs : List Fld} {id : Nat} : ∀ {gs : List Grp}, (∀ g ∈ gs, SortU g.ids) → cntG r fs id gs ≤ gs.length
  | [], _ => Nat.le_refl _
  | g :: gs, h => by
    have ih := cnt_le (r := r) (fs := fs) (id := id) (fun x hx => h x (List.mem_cons_of_mem g hx))
    have h1 := count_sort (t := id) (h g List.mem_cons_self)
    have e : cntG r fs id (g :: gs) = (if g.route = r ∧ g.by_ = fs then g.ids.count id else 0) + cntG r fs id gs := rfl
    rw [e, List.length_cons]
    split <;> omega
set_option maxRecDepth 100000 in
set_option maxHeartbeats 3200000 in
theorem parts_lE {q : PolX} {c : AlrX} {gP gc m5 c5 b5 m7 c7 k r : Nat} {A5 A7 : Option Addr} {gs : List GrpX} {F : List Nat} {rx : RteX} {wS : World} {Q0 : Exit → Act → World → Prop} {x0 x1 x2 x4 x5 x6 x7 x8 x9 x10 x12 x13 x14 x16 x21 x22 x23 x24 x25 x26 x27 x28 x29 x30 x31 x32 x33 x34 x35 x36 x37 x38 x39 x40 x41 x42 x43 x44 x45 x46 x47 x48 x49 x50 x51 x52 x53 x54 x55 x56 x57 x58 x59 x60 x61 x62 x63 x64 x65 x66 x67 x68 x69 x70 x71 x72 x73 x74 x75 x76 x77 x78 x79 x80 x81 x82 x83 x84 x85 x86 x87 x88 x89 x90 x91 x92 x93 x94 x95 x96 x97 x98 x99 x100 x101 x102 x103 x104 x105 x106 x107 x108 x109 x110 x111 x112 x113 x114 x115 x116 x117 x118 x119 x120 x121 x122 x123 x124 x125 x126 x127 x128 x129 x130 x131 x132 x133 x134 x135 x136 x137 x138 x139 x140 x141 x142 x143 x144 x145 x146 x147 x148 x149 x150 x151 x152 x153 x154 x155 x156 x157 x158 x159 x160 x161 x162 x163 x164 x165 x166 x167 x168 x169 x170 x171 x172 x173 x174 x175 x176 x177 x178 x179 x180 x181 x182 x183 x184 x185 x186 x187 x188 x189 x190 x191 x192 x193 x194 x195 x196 x197 x198 x199 x200 x201 x202 x203 x204 x205 : Value}
    (hP : Hid (Blk wS gP 32 (polC q))) (hC : Hid (Blk wS gc 50 (alrC c))) (hX : Hid (Arr wS 4 encG A5 m5 gs)) (hI : Hid (GrpsAt wS b5 gs)) (hR : Hid (Arr wS 1 encI A7 m7 F)) (hqo : Hid (Arr wS 6 encR q.oA q.om q.o)) (hrx : Hid (q.o[r]? = some rx)) (hrA : Hid (rx.At wS)) (hcA : Hid (Arr wS 2 encF c.A c.m c.a.fs)) (hcI : Hid (IdOK c)) (hk : Hid (F[k]? = some r)) (hss : Hid (∀ x ∈ gs, SortU x.ids)) (hm5 : m5 ≤ 9223372036854775807)
    (hQ0 : ∀ c a d v w, Q0 (.panic c) (Act.put a d v) w → Q0 (.panic c) a w)
    (hexit : ∀ (u19 u20 u21 u139 u140 u141 u142 u143 u144 u145 u146 u147 u148 u149 u150 u151 u152 u153 u154 u155 u156 u157 u158 u159 u160 u161 u162 u163 u164 u165 u166 u167 u168 u169 u170 u171 u172 u173 u174 u175 u176 u177 u178 u179 u180 u181 u182 u183 u184 u185 u186 u187 u188 u189 u190 u191 u192 u193 u194 u195 u196 u197 u198 u199 : Value) (wr : World), (u19 = .int .i64 (cntG r (pickF c.a.fs rx.r.by_) (idA c.a) (gs.map GrpX.g) : Nat) ∧ Hid (Grows wS wr)) → Q0 (.exit 10) ⟨(x0 :: x1 :: x2 :: (.pointer (some ⟨gP, 0, none⟩)) :: x4 :: x5 :: x6 :: x7 :: x8 :: x9 :: x10 :: (.slice A5 m5 c5) :: x12 :: x13 :: x14 :: (.pointer (some ⟨gc, 0, none⟩)) :: x16 :: (.slice A7 m7 c7) :: (.int .i64 (k : Int)) :: u19 :: u20 :: u21 :: x22 :: x23 :: x24 :: x25 :: x26 :: x27 :: x28 :: x29 :: x30 :: x31 :: x32 :: x33 :: x34 :: x35 :: x36 :: x37 :: x38 :: x39 :: x40 :: x41 :: x42 :: x43 :: x44 :: x45 :: x46 :: x47 :: x48 :: x49 :: x50 :: x51 :: x52 :: x53 :: x54 :: x55 :: x56 :: x57 :: x58 :: x59 :: x60 :: x61 :: x62 :: x63 :: x64 :: x65 :: x66 :: x67 :: x68 :: x69 :: x70 :: x71 :: x72 :: x73 :: x74 :: x75 :: x76 :: x77 :: x78 :: x79 :: x80 :: x81 :: x82 :: x83 :: x84 :: x85 :: x86 :: x87 :: x88 :: x89 :: x90 :: x91 :: x92 :: x93 :: x94 :: x95 :: x96 :: x97 :: x98 :: x99 :: x100 :: x101 :: x102 :: x103 :: x104 :: x105 :: x106 :: x107 :: x108 :: x109 :: x110 :: x111 :: x112 :: x113 :: x114 :: x115 :: x116 :: x117 :: x118 :: x119 :: x120 :: x121 :: x122 :: x123 :: x124 :: x125 :: x126 :: x127 :: x128 :: x129 :: x130 :: x131 :: x132 :: x133 :: x134 :: x135 :: x136 :: x137 :: x138 :: u139 :: u140 :: u141 :: u142 :: u143 :: u144 :: u145 :: u146 :: u147 :: u148 :: u149 :: u150 :: u151 :: u152 :: u153 :: u154 :: u155 :: u156 :: u157 :: u158 :: u159 :: u160 :: u161 :: u162 :: u163 :: u164 :: u165 :: u166 :: u167 :: u168 :: u169 :: u170 :: u171 :: u172 :: u173 :: u174 :: u175 :: u176 :: u177 :: u178 :: u179 :: u180 :: u181 :: u182 :: u183 :: u184 :: u185 :: u186 :: u187 :: u188 :: u189 :: u190 :: u191 :: u192 :: u193 :: u194 :: u195 :: u196 :: u197 :: u198 :: u199 :: x200 :: x201 :: x202 :: x203 :: x204 :: x205 :: []).toArray, []⟩ wr) :
    Code.wp Tryz.prog (loopIn Tryz.f4 5) Q0 ⟨(x0 :: x1 :: x2 :: (.pointer (some ⟨gP, 0, none⟩)) :: x4 :: x5 :: x6 :: x7 :: x8 :: x9 :: x10 :: (.slice A5 m5 c5) :: x12 :: x13 :: x14 :: (.pointer (some ⟨gc, 0, none⟩)) :: x16 :: (.slice A7 m7 c7) :: (.int .i64 (k : Int)) :: (.int .i64 0) :: (.int .i64 0) :: x21 :: x22 :: x23 :: x24 :: x25 :: x26 :: x27 :: x28 :: x29 :: x30 :: x31 :: x32 :: x33 :: x34 :: x35 :: x36 :: x37 :: x38 :: x39 :: x40 :: x41 :: x42 :: x43 :: x44 :: x45 :: x46 :: x47 :: x48 :: x49 :: x50 :: x51 :: x52 :: x53 :: x54 :: x55 :: x56 :: x57 :: x58 :: x59 :: x60 :: x61 :: x62 :: x63 :: x64 :: x65 :: x66 :: x67 :: x68 :: x69 :: x70 :: x71 :: x72 :: x73 :: x74 :: x75 :: x76 :: x77 :: x78 :: x79 :: x80 :: x81 :: x82 :: x83 :: x84 :: x85 :: x86 :: x87 :: x88 :: x89 :: x90 :: x91 :: x92 :: x93 :: x94 :: x95 :: x96 :: x97 :: x98 :: x99 :: x100 :: x101 :: x102 :: x103 :: x104 :: x105 :: x106 :: x107 :: x108 :: x109 :: x110 :: x111 :: x112 :: x113 :: x114 :: x115 :: x116 :: x117 :: x118 :: x119 :: x120 :: x121 :: x122 :: x123 :: x124 :: x125 :: x126 :: x127 :: x128 :: x129 :: x130 :: x131 :: x132 :: x133 :: x134 :: x135 :: x136 :: x137 :: x138 :: x139 :: x140 :: x141 :: x142 :: x143 :: x144 :: x145 :: x146 :: x147 :: x148 :: x149 :: x150 :: x151 :: x152 :: x153 :: x154 :: x155 :: x156 :: x157 :: x158 :: x159 :: x160 :: x161 :: x162 :: x163 :: x164 :: x165 :: x166 :: x167 :: x168 :: x169 :: x170 :: x171 :: x172 :: x173 :: x174 :: x175 :: x176 :: x177 :: x178 :: x179 :: x180 :: x181 :: x182 :: x183 :: x184 :: x185 :: x186 :: x187 :: x188 :: x189 :: x190 :: x191 :: x192 :: x193 :: x194 :: x195 :: x196 :: x197 :: x198 :: x199 :: x200 :: x201 :: x202 :: x203 :: x204 :: x205 :: []).toArray, []⟩ wS := by
  conv => arg 2; whnf
  have hml := Lib.hid hX.out.1
  go_loopw [19, 20, 21] (fun nv jv _ wr2 => ∃ j N : Nat, j ≤ m5 ∧ jv = .int .i64 (j : Int) ∧ nv = .int .i64 (N : Int) ∧ N ≤ j ∧ Hid (N = cntG r (pickF c.a.fs rx.r.by_) (idA c.a) ((gs.map GrpX.g).take j)) ∧ Hid (Grows wS wr2)) (fun _ jv _ _ => m5 - (intOf jv).toNat)
  case atStart => exact ⟨0, 0, by omega, rfl, rfl, by omega, Lib.hid rfl, Lib.hid (Grows.refl _)⟩
  case round =>
    obtain ⟨j, N, hj, rfl, rfl, hNj, hN, hgw⟩ := hrel
    by_cases hjm : j < m5
    · have hjmi : (j : Int) < (m5 : Int) := by omega
      have hjl : j < gs.length := by rw [hml.out]; exact hjm
      obtain ⟨x, hx⟩ : ∃ x, gs[j]? = some x := ⟨_, List.getElem?_eq_getElem hjl⟩
      have hxg : (gs.map GrpX.g)[j]? = some x.g := by rw [List.getElem?_map, hx]; rfl
      have hsn := cnt_snoc (r := r) (fs := pickF c.a.fs rx.r.by_) (id := idA c.a) hxg
      have hxs := hss.out x (List.mem_of_getElem? hx)
      rw [← hN.out] at hsn
      have hcs := count_sort (t := idA c.a) hxs
      by_cases hM : x.r = r ∧ x.by_ = pickF c.a.fs rx.r.by_
      · have hsn2 : Hid (N + x.ids.count (idA c.a) = cntG r (pickF c.a.fs rx.r.by_) (idA c.a) ((gs.map GrpX.g).take (j + 1))) := Lib.hid (by
          rw [hsn, if_pos (show x.g.route = r ∧ x.g.by_ = pickF c.a.fs rx.r.by_ from hM)]; rfl)
        obtain ⟨hM1, hM2⟩ := hM
        replace hM2 := Lib.hid hM2
        replace hx := Lib.hid hx
        replace hxs := Lib.hid hxs
        clear hsn hxg hN
        go_wp2_with fail
        refine parts_lF1 (Lib.hid (hP.out.grows hgw.out)) (Lib.hid (hC.out.grows hgw.out)) (Lib.hid (hX.out.keep hgw.out)) (Lib.hid (hI.out.grows hgw.out)) (Lib.hid (hR.out.keep hgw.out)) (Lib.hid (hqo.out.keep hgw.out)) hrx (Lib.hid (hrA.out.keep hgw.out)) (Lib.hid (hcA.out.keep hgw.out)) hcI hx hk hM1 hM2 hxs hNj hm5 (by intro c a d v w h; first | (cases d <;> exact h) | exact hQ0 _ _ _ _ _ h) ?_
        intros
        rename_i wz hz
        obtain ⟨rfl, hz⟩ := hz
        have hg9 := Lib.hid (hgw.out.trans hz.out)
        generalize x.ids.count (idA c.a) = T at *
        clear hgw hz hM1
        go_wp2
        go_roundw
        case rel => exact ⟨j + 1, N + T, by omega, by go_num, rfl, by omega, hsn2, hg9⟩
        case measure => simp [intOf]; omega
      · have hsn2 : Hid (N = cntG r (pickF c.a.fs rx.r.by_) (idA c.a) ((gs.map GrpX.g).take (j + 1))) := Lib.hid (by
          rw [hsn, if_neg (show ¬ (x.g.route = r ∧ x.g.by_ = pickF c.a.fs rx.r.by_) from hM)]; rfl)
        replace hM := Lib.hid hM
        replace hx := Lib.hid hx
        clear hsn hxg hN hxs
        go_wp2_with fail
        refine parts_lF0 (Lib.hid (hP.out.grows hgw.out)) (Lib.hid (hC.out.grows hgw.out)) (Lib.hid (hX.out.keep hgw.out)) (Lib.hid (hI.out.grows hgw.out)) (Lib.hid (hR.out.keep hgw.out)) (Lib.hid (hqo.out.keep hgw.out)) hrx (Lib.hid (hrA.out.keep hgw.out)) (Lib.hid (hcA.out.keep hgw.out)) (by have := hcI.out.m; omega) hx hk hM hm5 (by intro c a d v w h; first | (cases d <;> exact h) | exact hQ0 _ _ _ _ _ h) ?_
        intros
        rename_i wz hz
        obtain ⟨rfl, hz⟩ := hz
        have hg9 := Lib.hid (hgw.out.trans hz.out)
        clear hgw hz
        go_wp2
        go_roundw
        case rel => exact ⟨j + 1, N, by omega, by go_num, rfl, by omega, hsn2, hg9⟩
        case measure => simp [intOf]; omega
    · have hjmi : ¬ (j : Int) < (m5 : Int) := by omega
      have hfin : Hid (N = cntG r (pickF c.a.fs rx.r.by_) (idA c.a) (gs.map GrpX.g)) := Lib.hid (by
        rw [hN.out, List.take_of_length_le (by rw [List.length_map, hml.out]; omega)])
      go_wp2
      first | exact ⟨by rw [hfin.out], hgw⟩ | rw [hfin.out]
end Go.Proofs.YtfoffneipdkdjaaGreatDoor
