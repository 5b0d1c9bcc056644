/- The walk of the law RouteParts: an id among a group's ids. -/
import Derived.Test.YtfoffneipdkdjaaGreatDoorBs14
import Derived.Test.YtfoffneipdkdjaaGreatDoorBs13
namespace Go.Proofs.YtfoffneipdkdjaaGreatDoor
open Go.RowKit Go.Maps

theorem count_take {l : List Nat} {h d t : Nat} (hd : l[h]? = some d) : (l.take (h + 1)).count t = (l.take h).count t + (if d = t then 1 else 0) := by
  rw [List.take_add_one, hd, List.count_append]
  simp [List.count_cons, beq_iff_eq]
theorem count_sort {l : List Nat} {t : Nat} (h : SortU l) : l.count t ≤ 1 := by
  have hn : l.Nodup := List.Pairwise.imp (fun h => by omega) h
  exact List.nodup_iff_count.1 hn t
theorem count_le_take (l : List Nat) (h t : Nat) : (l.take h).count t ≤ l.count t := (List.take_sublist h l).count_le t
/-- What of an alert its id wants. -/
structure IdOK (c : AlrX) : Prop where
  src : c.a.src.length ≤ 1000
  m : c.m ≤ 100
  fs : ∀ f ∈ c.a.fs, f.n.length + f.v.length ≤ 1000
set_option maxRecDepth 100000 in
set_option maxHeartbeats 6400000 in
theorem parts_lF1 {q : PolX} {c : AlrX} {gP gc m5 c5 b5 m7 c7 j k r N : Nat} {A5 A7 : Option Addr} {gs : List GrpX} {F : List Nat} {x : GrpX} {rx : RteX} {wS : World} {Q0 : Exit → Act → World → Prop} {x0 x1 x2 x4 x5 x6 x7 x8 x9 x10 x12 x13 x14 x16 x22 x23 x24 x25 x26 x27 x28 x29 x30 x31 x32 x33 x34 x35 x36 x37 x38 x39 x40 x41 x42 x43 x44 x45 x46 x47 x48 x49 x50 x51 x52 x53 x54 x55 x56 x57 x58 x59 x60 x61 x62 x63 x64 x65 x66 x67 x68 x69 x70 x71 x72 x73 x74 x75 x76 x77 x78 x79 x80 x81 x82 x83 x84 x85 x86 x87 x88 x89 x90 x91 x92 x93 x94 x95 x96 x97 x98 x99 x100 x101 x102 x103 x104 x105 x106 x107 x108 x109 x110 x111 x112 x113 x114 x115 x116 x117 x118 x119 x120 x121 x122 x123 x124 x125 x126 x127 x128 x129 x130 x131 x132 x133 x134 x135 x136 x137 x138 x139 x140 x141 x142 x143 x144 x145 x146 x147 x148 x149 x150 x151 x152 x153 x154 x155 x156 x157 x158 x159 x160 x161 x162 x163 x164 x165 x166 x167 x168 x169 x170 x171 x172 x173 x174 x175 x176 x177 x178 x179 x180 x181 x182 x183 x184 x185 x186 x187 x188 x189 x190 x191 x192 x193 x194 x195 x196 x197 x198 x199 x200 x201 x202 x203 x204 x205 : Value}
    (hP : Hid (Blk wS gP 32 (polC q))) (hC : Hid (Blk wS gc 50 (alrC c))) (hX : Hid (Arr wS 4 encG A5 m5 gs)) (hI : Hid (GrpsAt wS b5 gs)) (hR : Hid (Arr wS 1 encI A7 m7 F)) (hqo : Hid (Arr wS 6 encR q.oA q.om q.o)) (hrx : Hid (q.o[r]? = some rx)) (hrA : Hid (rx.At wS)) (hcA : Hid (Arr wS 2 encF c.A c.m c.a.fs)) (hcI : Hid (IdOK c)) (hx : Hid (gs[j]? = some x)) (hk : Hid (F[k]? = some r)) (hxr : x.r = r) (hxb : Hid (x.by_ = pickF c.a.fs rx.r.by_)) (hxs : Hid (SortU x.ids)) (hN : N ≤ j) (hm5 : m5 ≤ 9223372036854775807)
    (hQ0 : ∀ c a d v w, Q0 (.panic c) (Act.put a d v) w → Q0 (.panic c) a w)
    (hexit : ∀ (u19 u21 u145 u146 u147 u148 u149 u150 u151 u152 u153 u154 u155 u156 u157 u158 u159 u160 u161 u162 u163 u164 u165 u166 u167 u168 u169 u170 u171 u172 u173 u174 u175 u176 u177 u178 u179 u180 u181 u182 u183 u184 u185 u186 u187 u188 u189 u190 u191 u192 u193 u194 u195 u196 u197 u198 u199 : Value) (wr : World), (u19 = .int .i64 ((N + x.ids.count (idA c.a) : Nat) : Int) ∧ Hid (Grows wS wr)) → Q0 (.exit 12) ⟨(x0 :: x1 :: x2 :: (.pointer (some ⟨gP, 0, none⟩)) :: x4 :: x5 :: x6 :: x7 :: x8 :: x9 :: x10 :: (.slice A5 m5 c5) :: x12 :: x13 :: x14 :: (.pointer (some ⟨gc, 0, none⟩)) :: x16 :: (.slice A7 m7 c7) :: (.int .i64 (k : Int)) :: u19 :: (.int .i64 (j : Int)) :: u21 :: x22 :: x23 :: x24 :: x25 :: x26 :: x27 :: x28 :: x29 :: x30 :: x31 :: x32 :: x33 :: x34 :: x35 :: x36 :: x37 :: x38 :: x39 :: x40 :: x41 :: x42 :: x43 :: x44 :: x45 :: x46 :: x47 :: x48 :: x49 :: x50 :: x51 :: x52 :: x53 :: x54 :: x55 :: x56 :: x57 :: x58 :: x59 :: x60 :: x61 :: x62 :: x63 :: x64 :: x65 :: x66 :: x67 :: x68 :: x69 :: x70 :: x71 :: x72 :: x73 :: x74 :: x75 :: x76 :: x77 :: x78 :: x79 :: x80 :: x81 :: x82 :: x83 :: x84 :: x85 :: x86 :: x87 :: x88 :: x89 :: x90 :: x91 :: x92 :: x93 :: x94 :: x95 :: x96 :: x97 :: x98 :: x99 :: x100 :: x101 :: x102 :: x103 :: x104 :: x105 :: x106 :: x107 :: x108 :: x109 :: x110 :: x111 :: x112 :: x113 :: x114 :: x115 :: x116 :: x117 :: x118 :: x119 :: x120 :: x121 :: x122 :: x123 :: x124 :: x125 :: x126 :: x127 :: x128 :: x129 :: x130 :: x131 :: x132 :: x133 :: x134 :: x135 :: x136 :: x137 :: x138 :: x139 :: x140 :: x141 :: x142 :: x143 :: x144 :: u145 :: u146 :: u147 :: u148 :: u149 :: u150 :: u151 :: u152 :: u153 :: u154 :: u155 :: u156 :: u157 :: u158 :: u159 :: u160 :: u161 :: u162 :: u163 :: u164 :: u165 :: u166 :: u167 :: u168 :: u169 :: u170 :: u171 :: u172 :: u173 :: u174 :: u175 :: u176 :: u177 :: u178 :: u179 :: u180 :: u181 :: u182 :: u183 :: u184 :: u185 :: u186 :: u187 :: u188 :: u189 :: u190 :: u191 :: u192 :: u193 :: u194 :: u195 :: u196 :: u197 :: u198 :: u199 :: x200 :: x201 :: x202 :: x203 :: x204 :: x205 :: []).toArray, []⟩ wr) :
    Code.wp Tryz.prog (loopIn Tryz.f4 6) Q0 ⟨(x0 :: x1 :: x2 :: (.pointer (some ⟨gP, 0, none⟩)) :: x4 :: x5 :: x6 :: x7 :: x8 :: x9 :: x10 :: (.slice A5 m5 c5) :: x12 :: x13 :: x14 :: (.pointer (some ⟨gc, 0, none⟩)) :: x16 :: (.slice A7 m7 c7) :: (.int .i64 (k : Int)) :: (.int .i64 (N : Int)) :: (.int .i64 (j : Int)) :: (.int .i64 0) :: x22 :: x23 :: x24 :: x25 :: x26 :: x27 :: x28 :: x29 :: x30 :: x31 :: x32 :: x33 :: x34 :: x35 :: x36 :: x37 :: x38 :: x39 :: x40 :: x41 :: x42 :: x43 :: x44 :: x45 :: x46 :: x47 :: x48 :: x49 :: x50 :: x51 :: x52 :: x53 :: x54 :: x55 :: x56 :: x57 :: x58 :: x59 :: x60 :: x61 :: x62 :: x63 :: x64 :: x65 :: x66 :: x67 :: x68 :: x69 :: x70 :: x71 :: x72 :: x73 :: x74 :: x75 :: x76 :: x77 :: x78 :: x79 :: x80 :: x81 :: x82 :: x83 :: x84 :: x85 :: x86 :: x87 :: x88 :: x89 :: x90 :: x91 :: x92 :: x93 :: x94 :: x95 :: x96 :: x97 :: x98 :: x99 :: x100 :: x101 :: x102 :: x103 :: x104 :: x105 :: x106 :: x107 :: x108 :: x109 :: x110 :: x111 :: x112 :: x113 :: x114 :: x115 :: x116 :: x117 :: x118 :: x119 :: x120 :: x121 :: x122 :: x123 :: x124 :: x125 :: x126 :: x127 :: x128 :: x129 :: x130 :: x131 :: x132 :: x133 :: x134 :: x135 :: x136 :: x137 :: x138 :: x139 :: x140 :: x141 :: x142 :: x143 :: x144 :: x145 :: x146 :: x147 :: x148 :: x149 :: x150 :: x151 :: x152 :: x153 :: x154 :: x155 :: x156 :: x157 :: x158 :: x159 :: x160 :: x161 :: x162 :: x163 :: x164 :: x165 :: x166 :: x167 :: x168 :: x169 :: x170 :: x171 :: x172 :: x173 :: x174 :: x175 :: x176 :: x177 :: x178 :: x179 :: x180 :: x181 :: x182 :: x183 :: x184 :: x185 :: x186 :: x187 :: x188 :: x189 :: x190 :: x191 :: x192 :: x193 :: x194 :: x195 :: x196 :: x197 :: x198 :: x199 :: x200 :: x201 :: x202 :: x203 :: x204 :: x205 :: []).toArray, []⟩ wS := by
  conv => arg 2; whnf
  have hjm : j < m5 := by rw [← hX.out.1]; exact (List.getElem?_eq_some_iff.1 hx.out).1
  have hkm : k < m7 := by rw [← hR.out.1]; exact (List.getElem?_eq_some_iff.1 hk.out).1
  have hrm : r < q.om := by rw [← hqo.out.1]; exact (List.getElem?_eq_some_iff.1 hrx.out).1
  obtain ⟨hxi, hxf⟩ := hI.out x (List.mem_of_getElem? hx.out)
  obtain ⟨hxl, hxk, hxm, hxiA⟩ := own_arr hxi hkU
  obtain ⟨hfl, hfb, hfc, hxfA⟩ := own_arr hxf hkF
  have cI := fun W (hW : Grows wS W) => id_any (a := c) W (hcA.out.keep hW) hcI.out.src hcI.out.m hcI.out.fs
  have cP := fun W (hW : Grows wS W) => rpick_any (c := c.k) (c2 := rx.bk) W (hcA.out.keep hW) (by have := hcI.out.m; omega) (hrA.out.by_.keep hW) hrA.out.byle
  rw [← hxb.out] at cP
  have cS := fun A8 m8 c8 W (hW : Grows wS W) (h8 : Arr W 2 encF A8 m8 x.by_) (hm8 : m8 ≤ 9223372036854775807) => rsame_any x.bA A8 x.bm x.bk m8 c8 x.by_ x.by_ W (hxfA.keep hW) h8 (by unfold maxLen at hfc; omega) hm8
  rw [decide_eq_true rfl] at cS
  have hcv : valA c = .agg #[.string ⟨c.a.src.toArray⟩, .slice c.A c.m c.k, .int .i64 c.a.l.lv, .int .u32 (c.a.l.c : Int), .int .i64 c.a.f, .int .i64 c.a.t] := rfl
  rw [hcv] at cI
  have hct := count_sort (t := idA c.a) hxs.out
  have hcs := fun h d (hd : x.ids[h]? = some d) => count_take (t := idA c.a) hd
  have hcl := fun h => count_le_take x.ids h (idA c.a)
  unfold maxLen at hxm
  generalize idA c.a = id at *
  obtain ⟨T, hT⟩ : ∃ T, T = x.ids.count id := ⟨_, rfl⟩
  rw [← hT] at hct hcl
  simp only [← hT] at hexit
  replace cI := Lib.hid cI
  replace cP := Lib.hid cP
  replace cS := Lib.hid cS
  replace hcs := Lib.hid hcs
  replace hcl := Lib.hid hcl
  replace hT := Lib.hid hT
  replace hxiA := Lib.hid hxiA
  replace hxl := Lib.hid hxl
  have hNi : (N : Int) ≤ 9223372036854775806 := by omega
  clear hcv hxi hxf hfl hfb hfc hxfA hI hcI hcA hrA hxb hxs hN
  go_loopw [19, 21] (fun nv hv wr2 => ∃ h n : Nat, h ≤ x.im ∧ n ≤ 1 ∧ hv = .int .i64 (h : Int) ∧ nv = .int .i64 ((N + n : Nat) : Int) ∧ Hid (n = (x.ids.take h).count id) ∧ Hid (Grows wS wr2)) (fun _ hv _ => x.im - (intOf hv).toNat)
  case atStart => exact ⟨0, 0, by omega, by omega, rfl, rfl, Lib.hid (by simp), Lib.hid (Grows.refl _)⟩
  case round =>
    obtain ⟨h, n, hh, hn1, rfl, rfl, hn, hgw⟩ := hrel
    have hQ := hP.out.grows hgw.out
    have hCc := hC.out.grows hgw.out
    obtain ⟨bb, oo, y, rfl, hbb, hy, hcy⟩ := (hX.out.keep hgw.out).at_ hjm
    rw [hx.out] at hy
    injection hy with hy
    subst hy
    obtain ⟨b7, o7, r', rfl, hb7, hr', hc7⟩ := (hR.out.keep hgw.out).at_ hkm
    rw [hk.out] at hr'
    injection hr' with hr'
    subst hr'
    obtain ⟨bR, oR, rx', hoA, hbR, hrx', hcR⟩ := (hqo.out.keep hgw.out).at_ hrm
    rw [hrx.out] at hrx'
    injection hrx' with hrx'
    subst hrx'
    have x0 : wr.cell? ⟨bb, oo + j * 4, none⟩ = some (.int .i64 (x.r : Int)) := by simpa using hcy 0 _ rfl
    have x1 : wr.cell? ⟨bb, oo + j * 4 + 1, none⟩ = some (.slice x.bA x.bm x.bk) := hcy 1 _ rfl
    have x3 : wr.cell? ⟨bb, oo + j * 4 + 3, none⟩ = some (.slice x.iA x.im x.ik) := hcy 3 _ rfl
    have i0 : wr.cell? ⟨b7, o7 + k, none⟩ = some (.int .i64 (r : Int)) := by simpa using hc7 0 _ rfl
    have r1 : wr.cell? ⟨bR, oR + r * 6 + 1, none⟩ = some (.slice rx.bA rx.bm rx.bk) := hcR 1 _ rfl
    have p4 : wr.cell? ⟨gP, 4, none⟩ = some (.slice q.oA q.om q.ok) := hQ.cell 4
    rw [hoA] at p4
    have pl := hQ.lt
    have a0 : wr.cell? ⟨gc, 0, none⟩ = some (.string ⟨c.a.src.toArray⟩) := hCc.cell 0
    have a1 : wr.cell? ⟨gc, 1, none⟩ = some (.slice c.A c.m c.k) := hCc.cell 1
    have a2 : wr.cell? ⟨gc, 2, none⟩ = some (.int .i64 c.a.l.lv) := hCc.cell 2
    have a3 : wr.cell? ⟨gc, 3, none⟩ = some (.int .u32 (c.a.l.c : Int)) := hCc.cell 3
    have a4 : wr.cell? ⟨gc, 4, none⟩ = some (.int .i64 c.a.f) := hCc.cell 4
    have a5 : wr.cell? ⟨gc, 5, none⟩ = some (.int .i64 c.a.t) := hCc.cell 5
    have al := hCc.lt
    have hjmi : (j : Int) < (m5 : Int) := by omega
    have hkmi : (k : Int) < (m7 : Int) := by omega
    have hrmi : (r : Int) < (q.om : Int) := by omega
    have hrr : ((x.r : Int) == (r : Int)) = true := by rw [beq_iff_eq, hxr]
    clear hQ hCc hcy hc7 hcR hoA
    by_cases him : h < x.im
    · have himi : (h : Int) < (x.im : Int) := by omega
      obtain ⟨bi, oi, d, hiA, hbi, hd, hcd⟩ := (hxiA.out.keep hgw.out).at_ him
      have d0 : wr.cell? ⟨bi, oi + h, none⟩ = some (.int .u64 (d : Int)) := by simpa using hcd 0 _ rfl
      rw [hiA] at x3
      have hcn := hcs.out h d hd
      rw [← hn.out] at hcn
      have hcn2 := hcl.out (h + 1)
      rw [hcn] at hcn2
      clear hcd hd
      go_wp2_with fail
      refine wp_region_mixg [(0, true), (1, true), (2, true), (3, true), (4, true), (5, true), (6, true), (7, true), (8, true), (9, true), (10, true), (11, true), (12, true), (13, true), (14, true), (15, true), (16, true), (17, true), (18, true), (19, true), (20, true), (21, true), (22, true), (23, true), (24, true), (25, true), (26, true), (27, true), (28, true), (29, true), (30, true), (31, true), (32, true), (33, true), (34, true), (35, true), (36, true), (37, false), (38, false), (39, true)] (by kernel_rfl) (by kernel_rfl) rfl (by kernel_rfl) (by intro c a d v w h; first | (cases d <;> exact h) | exact hQ0 _ _ _ _ _ h) ?_
      iterate 37 (refine wpMix_s rfl (fun K hK => ?_); go_simp; (try go_bits); first | (refine hK.out _ ?_; clear hK K) | (apply Exists.intro; refine ⟨fun wq hsq => ?_, hK.out _ ?_⟩; (first | (go_simp; done) | ((try go_simp); (try simp only [↓IntWalk.iteOmega]); (try go_bits); rfl) | (obtain ⟨hcq, hfq⟩ := bcells hsq; go_simp; done) | (obtain ⟨hcq, hfq⟩ := bcells hsq; (try go_simp); (try simp only [↓IntWalk.iteOmega]); (try go_bits); rfl)); clear hK K))
      refine wpMix_m rfl (fun K' hK => ?_)
      go_simp
      refine (cP.out _ (by
        have hgw := hgw.out
        repeat (first | assumption | exact Grows.refl _ | apply Grows.drew | apply Grows.drewN | refine Grows.alloc ?_ _ | (refine Grows.setCell ?_ (by first | (simp; done) | (simp; omega) | omega) _) | (refine Grows.trans ?_ (by assumption)))
      )).mono ?_
      rintro e w7 ⟨v7, rfl, hO7, hb7⟩
      obtain ⟨A8, c8, rfl, hl8, hc8, hX8⟩ := hO7.arr hkF
      have hw7 : Grows wr w7 := by
        repeat (first | assumption | exact Grows.refl _ | apply Grows.drew | apply Grows.drewN | refine Grows.alloc ?_ _ | (refine Grows.setCell ?_ (by first | (simp; done) | (simp; omega) | omega) _) | (refine Grows.trans ?_ (by assumption)))
      generalize x.by_.length = m8 at *
      unfold maxLen at hc8
      refine hK.out _ _ ?_ (fun hS => ?_)
      · repeat (first | assumption | exact Grows.refl _ | apply Grows.drew | apply Grows.drewN | refine Grows.alloc ?_ _ | (refine Grows.setCell ?_ (by first | (simp; done) | (simp; omega) | omega) _) | (refine Grows.trans ?_ (by assumption)))
      clear hK hS
      refine wpMix_m rfl (fun K' hK => ?_)
      go_simp
      refine (cS.out A8 m8 c8 _ (by
        have hgw := hgw.out
        repeat (first | assumption | exact Grows.refl _ | apply Grows.drew | apply Grows.drewN | refine Grows.alloc ?_ _ | (refine Grows.setCell ?_ (by first | (simp; done) | (simp; omega) | omega) _) | (refine Grows.trans ?_ (by assumption)))
      ) hX8 (by omega)).mono ?_
      rintro e w8 ⟨rfl, hb8⟩
      have hw8 : Grows wr w8 := hw7.trans hb8
      refine hK.out _ _ ?_ (fun hS => ?_)
      · repeat (first | assumption | exact Grows.refl _ | apply Grows.drew | apply Grows.drewN | refine Grows.alloc ?_ _ | (refine Grows.setCell ?_ (by first | (simp; done) | (simp; omega) | omega) _) | (refine Grows.trans ?_ (by assumption)))
      clear hK hS
      iterate 1 (refine wpMix_s rfl (fun K hK => ?_); go_simp; (try go_bits); first | (refine hK.out _ ?_; clear hK K) | (apply Exists.intro; refine ⟨fun wq hsq => ?_, hK.out _ ?_⟩; (first | (go_simp; done) | ((try go_simp); (try simp only [↓IntWalk.iteOmega]); (try go_bits); rfl) | (obtain ⟨hcq, hfq⟩ := bcells hsq; go_simp; done) | (obtain ⟨hcq, hfq⟩ := bcells hsq; (try go_simp); (try simp only [↓IntWalk.iteOmega]); (try go_bits); rfl)); clear hK K))
      refine wpMix_nil ?_
      have hg8 : Hid (Grows wS w8) := Lib.hid (hgw.out.trans hw8)
      replace x3 := hw8.cell x3
      replace d0 := hw8.cell d0
      replace a0 := hw8.cell a0
      replace a1 := hw8.cell a1
      replace a2 := hw8.cell a2
      replace a3 := hw8.cell a3
      replace a4 := hw8.cell a4
      replace a5 := hw8.cell a5
      have al2 := Nat.lt_of_lt_of_le al hw8.size
      have hbb2 := Nat.lt_of_lt_of_le hbb hw8.size
      have hbi2 := Nat.lt_of_lt_of_le hbi hw8.size
      clear x0 x1 i0 r1 p4 pl cP cS hX8 hO7 hb7 hb8 hw7 hw8 al hbb hbi hrr hgw hl8 hc8 hbR
      clear hb7
      by_cases hdi : d = id
      · have hde : ((d : Int) == (id : Int)) = true := by rw [beq_iff_eq, hdi]
        rw [if_pos hdi] at hcn hcn2
        have hn0 : n = 0 := by omega
        subst hn0
        have hcn' := Lib.hid hcn.symm
        clear hdi hcn hcn2 hn
        go_wp2_with fail
        refine wp_region_mixg [(0, true), (1, true), (2, true), (3, true), (4, true), (5, true), (6, true), (7, true), (8, true), (9, false), (10, true)] (by kernel_rfl) (by kernel_rfl) rfl (by kernel_rfl) (by intro c a d v w h; first | (cases d <;> exact h) | exact hQ0 _ _ _ _ _ h) ?_
        iterate 9 (refine wpMix_s rfl (fun K hK => ?_); go_simp; (try go_bits); first | (refine hK.out _ ?_; clear hK K) | (apply Exists.intro; refine ⟨fun wq hsq => ?_, hK.out _ ?_⟩; (first | (go_simp; done) | ((try go_simp); (try simp only [↓IntWalk.iteOmega]); (try go_bits); rfl) | (obtain ⟨hcq, hfq⟩ := bcells hsq; go_simp; done) | (obtain ⟨hcq, hfq⟩ := bcells hsq; (try go_simp); (try simp only [↓IntWalk.iteOmega]); (try go_bits); rfl)); clear hK K))
        refine wpMix_m rfl (fun K' hK => ?_)
        go_simp
        refine (cI.out _ (by
          have hgw := hg8.out
          repeat (first | assumption | exact Grows.refl _ | apply Grows.drew | apply Grows.drewN | refine Grows.alloc ?_ _ | (refine Grows.setCell ?_ (by first | (simp; done) | (simp; omega) | omega) _) | (refine Grows.trans ?_ (by assumption)))
        )).mono ?_
        rintro e w9 ⟨rfl, hb9⟩
        refine hK.out _ _ ?_ (fun hS => ?_)
        · repeat (first | assumption | exact Grows.refl _ | apply Grows.drew | apply Grows.drewN | refine Grows.alloc ?_ _ | (refine Grows.setCell ?_ (by first | (simp; done) | (simp; omega) | omega) _) | (refine Grows.trans ?_ (by assumption)))
        clear hK hS
        iterate 1 (refine wpMix_s rfl (fun K hK => ?_); go_simp; (try go_bits); first | (refine hK.out _ ?_; clear hK K) | (apply Exists.intro; refine ⟨fun wq hsq => ?_, hK.out _ ?_⟩; (first | (go_simp; done) | ((try go_simp); (try simp only [↓IntWalk.iteOmega]); (try go_bits); rfl) | (obtain ⟨hcq, hfq⟩ := bcells hsq; go_simp; done) | (obtain ⟨hcq, hfq⟩ := bcells hsq; (try go_simp); (try simp only [↓IntWalk.iteOmega]); (try go_bits); rfl)); clear hK K))
        refine wpMix_nil ?_
        have hg9 : Hid (Grows wS w9) := Lib.hid (by
          have hgw := hg8.out
          repeat (first | assumption | exact Grows.refl _ | apply Grows.drew | apply Grows.drewN | refine Grows.alloc ?_ _ | (refine Grows.setCell ?_ (by first | (simp; done) | (simp; omega) | omega) _) | (refine Grows.trans ?_ (by assumption)))
        )
        go_wp2
        go_roundw
        case rel => exact ⟨h + 1, 1, by omega, by omega, by go_num, by go_num, Lib.hid hcn'.out, hg9⟩
        case measure => simp [intOf]; omega
      · have hde : ((d : Int) == (id : Int)) = false := by rw [beq_eq_false_iff_ne]; omega
        rw [if_neg hdi] at hcn
        have hcn' := Lib.hid hcn.symm
        clear hdi hcn hcn2 hn
        go_wp2_with fail
        refine wp_region_mixg [(0, true), (1, true), (2, true), (3, true), (4, true), (5, true), (6, true), (7, true), (8, true), (9, false), (10, true)] (by kernel_rfl) (by kernel_rfl) rfl (by kernel_rfl) (by intro c a d v w h; first | (cases d <;> exact h) | exact hQ0 _ _ _ _ _ h) ?_
        iterate 9 (refine wpMix_s rfl (fun K hK => ?_); go_simp; (try go_bits); first | (refine hK.out _ ?_; clear hK K) | (apply Exists.intro; refine ⟨fun wq hsq => ?_, hK.out _ ?_⟩; (first | (go_simp; done) | ((try go_simp); (try simp only [↓IntWalk.iteOmega]); (try go_bits); rfl) | (obtain ⟨hcq, hfq⟩ := bcells hsq; go_simp; done) | (obtain ⟨hcq, hfq⟩ := bcells hsq; (try go_simp); (try simp only [↓IntWalk.iteOmega]); (try go_bits); rfl)); clear hK K))
        refine wpMix_m rfl (fun K' hK => ?_)
        go_simp
        refine (cI.out _ (by
          have hgw := hg8.out
          repeat (first | assumption | exact Grows.refl _ | apply Grows.drew | apply Grows.drewN | refine Grows.alloc ?_ _ | (refine Grows.setCell ?_ (by first | (simp; done) | (simp; omega) | omega) _) | (refine Grows.trans ?_ (by assumption)))
        )).mono ?_
        rintro e w9 ⟨rfl, hb9⟩
        refine hK.out _ _ ?_ (fun hS => ?_)
        · repeat (first | assumption | exact Grows.refl _ | apply Grows.drew | apply Grows.drewN | refine Grows.alloc ?_ _ | (refine Grows.setCell ?_ (by first | (simp; done) | (simp; omega) | omega) _) | (refine Grows.trans ?_ (by assumption)))
        clear hK hS
        iterate 1 (refine wpMix_s rfl (fun K hK => ?_); go_simp; (try go_bits); first | (refine hK.out _ ?_; clear hK K) | (apply Exists.intro; refine ⟨fun wq hsq => ?_, hK.out _ ?_⟩; (first | (go_simp; done) | ((try go_simp); (try simp only [↓IntWalk.iteOmega]); (try go_bits); rfl) | (obtain ⟨hcq, hfq⟩ := bcells hsq; go_simp; done) | (obtain ⟨hcq, hfq⟩ := bcells hsq; (try go_simp); (try simp only [↓IntWalk.iteOmega]); (try go_bits); rfl)); clear hK K))
        refine wpMix_nil ?_
        have hg9 : Hid (Grows wS w9) := Lib.hid (by
          have hgw := hg8.out
          repeat (first | assumption | exact Grows.refl _ | apply Grows.drew | apply Grows.drewN | refine Grows.alloc ?_ _ | (refine Grows.setCell ?_ (by first | (simp; done) | (simp; omega) | omega) _) | (refine Grows.trans ?_ (by assumption)))
        )
        go_wp2
        go_roundw
        case rel => exact ⟨h + 1, n, by omega, by omega, by go_num, rfl, Lib.hid hcn'.out, hg9⟩
        case measure => simp [intOf]; omega
    · have himi : ¬ (h : Int) < (x.im : Int) := by omega
      have hfin : Hid (n = T) := Lib.hid (by
        rw [hn.out, hT.out, List.take_of_length_le (by have := hxl.out; omega)])
      go_wp2_with fail
      refine wp_region_mixg [(0, true), (1, true), (2, true), (3, true), (4, true), (5, true), (6, true), (7, true), (8, true), (9, true), (10, true), (11, true), (12, true), (13, true), (14, true), (15, true), (16, true), (17, true), (18, true), (19, true), (20, true), (21, true), (22, true), (23, true), (24, true), (25, true), (26, true), (27, true), (28, true), (29, true), (30, true), (31, true), (32, true), (33, true), (34, true), (35, true), (36, true), (37, false), (38, false), (39, true)] (by kernel_rfl) (by kernel_rfl) rfl (by kernel_rfl) (by intro c a d v w h; first | (cases d <;> exact h) | exact hQ0 _ _ _ _ _ h) ?_
      iterate 37 (refine wpMix_s rfl (fun K hK => ?_); go_simp; (try go_bits); first | (refine hK.out _ ?_; clear hK K) | (apply Exists.intro; refine ⟨fun wq hsq => ?_, hK.out _ ?_⟩; (first | (go_simp; done) | ((try go_simp); (try simp only [↓IntWalk.iteOmega]); (try go_bits); rfl) | (obtain ⟨hcq, hfq⟩ := bcells hsq; go_simp; done) | (obtain ⟨hcq, hfq⟩ := bcells hsq; (try go_simp); (try simp only [↓IntWalk.iteOmega]); (try go_bits); rfl)); clear hK K))
      refine wpMix_m rfl (fun K' hK => ?_)
      go_simp
      refine hK.out _ _ ?_ (fun hS => ?_)
      · repeat (first | assumption | exact Grows.refl _ | apply Grows.drew | apply Grows.drewN | refine Grows.alloc ?_ _ | (refine Grows.setCell ?_ (by first | (simp; done) | (simp; omega) | omega) _) | (refine Grows.trans ?_ (by assumption)))
      clear hK hS
      refine wpMix_m rfl (fun K' hK => ?_)
      go_simp
      refine hK.out _ _ ?_ (fun hS => ?_)
      · repeat (first | assumption | exact Grows.refl _ | apply Grows.drew | apply Grows.drewN | refine Grows.alloc ?_ _ | (refine Grows.setCell ?_ (by first | (simp; done) | (simp; omega) | omega) _) | (refine Grows.trans ?_ (by assumption)))
      clear hK hS
      iterate 1 (refine wpMix_s rfl (fun K hK => ?_); go_simp; (try go_bits); first | (refine hK.out _ ?_; clear hK K) | (apply Exists.intro; refine ⟨fun wq hsq => ?_, hK.out _ ?_⟩; (first | (go_simp; done) | ((try go_simp); (try simp only [↓IntWalk.iteOmega]); (try go_bits); rfl) | (obtain ⟨hcq, hfq⟩ := bcells hsq; go_simp; done) | (obtain ⟨hcq, hfq⟩ := bcells hsq; (try go_simp); (try simp only [↓IntWalk.iteOmega]); (try go_bits); rfl)); clear hK K))
      refine wpMix_nil ?_
      go_wp2
      exact ⟨by rw [hfin.out, hT.out]; go_num, Lib.hid hgw.out.drew⟩
end Go.Proofs.YtfoffneipdkdjaaGreatDoor
