/- The walk of the law RouteLow: the alerts that are left; groups compared. -/
import Derived.Test.YtfoffneipdkdjaaGreatDoorBsLLow1
import Derived.Test.YtfoffneipdkdjaaGreatDoorBsSamB
import Derived.Test.YtfoffneipdkdjaaGreatDoorBs12
import Derived.Test.YtfoffneipdkdjaaGreatDoorBs5
namespace Go.Proofs.YtfoffneipdkdjaaGreatDoor
open Go.RowKit Go.Maps

set_option maxRecDepth 100000 in
set_option maxHeartbeats 1600000 in
theorem low_l3 {m5 c5 c6 b5 b6 : Nat} {A5 A6 : Option Addr} {gs1 gs2 : List GrpX} {wS : World} {Q0 : Exit → Act → World → Prop} {x0 x1 x2 x3 x4 x5 x6 x7 x8 x9 x10 x11 x12 x13 x14 x15 x19 x20 x21 x22 x23 x24 x25 x26 x27 x28 x29 x30 x31 x32 x33 x34 x35 x36 x37 x38 x39 x40 x41 x42 x43 x44 x45 x46 x47 x48 x49 x50 x51 x52 x53 x54 x55 x56 x57 x58 x59 x60 x61 x62 x63 x64 x65 x66 x67 x68 x69 x70 x71 x72 x73 x74 x75 x76 x77 x78 x79 x80 x81 x82 x83 x84 x85 x86 x87 x88 x89 x90 x91 x92 x93 x94 x95 x96 x97 x98 x99 x100 x101 x102 x103 x104 x105 x106 x107 x108 x109 x110 x111 x112 x113 x114 x115 x116 x117 x118 x119 x120 x121 x122 x123 x124 x125 x126 x127 x128 x129 x130 x131 x132 x133 x134 x135 x136 x137 x138 x139 x140 x141 x142 x143 x144 x145 x146 x147 x148 x149 x150 x151 : Value}
    (hX5 : Hid (Arr wS 4 encG A5 m5 gs1)) (hX6 : Hid (Arr wS 4 encG A6 m5 gs2)) (hI5 : Hid (GrpsAt wS b5 gs1)) (hI6 : Hid (GrpsAt wS b6 gs2)) (heq : Hid (gs1.map GrpX.g = gs2.map GrpX.g)) (hm5 : m5 ≤ 9223372036854775807)
    (hQ0 : ∀ c a d v w, Q0 (.panic c) (Act.put a d v) w → Q0 (.panic c) a w)
    (hexit : ∀ (u6 u18 u136 u137 u138 u139 u140 u141 u142 u143 u144 u145 u146 u147 u148 u149 u150 u151 : Value) (wr : World), (Hid (Grows wS wr)) → Q0 (.exit 6) ⟨(x0 :: x1 :: x2 :: x3 :: x4 :: x5 :: u6 :: x7 :: x8 :: x9 :: x10 :: x11 :: x12 :: x13 :: x14 :: x15 :: (.slice A5 m5 c5) :: (.slice A6 m5 c6) :: u18 :: x19 :: x20 :: x21 :: x22 :: x23 :: x24 :: x25 :: x26 :: x27 :: x28 :: x29 :: x30 :: x31 :: x32 :: x33 :: x34 :: x35 :: x36 :: x37 :: x38 :: x39 :: x40 :: x41 :: x42 :: x43 :: x44 :: x45 :: x46 :: x47 :: x48 :: x49 :: x50 :: x51 :: x52 :: x53 :: x54 :: x55 :: x56 :: x57 :: x58 :: x59 :: x60 :: x61 :: x62 :: x63 :: x64 :: x65 :: x66 :: x67 :: x68 :: x69 :: x70 :: x71 :: x72 :: x73 :: x74 :: x75 :: x76 :: x77 :: x78 :: x79 :: x80 :: x81 :: x82 :: x83 :: x84 :: x85 :: x86 :: x87 :: x88 :: x89 :: x90 :: x91 :: x92 :: x93 :: x94 :: x95 :: x96 :: x97 :: x98 :: x99 :: x100 :: x101 :: x102 :: x103 :: x104 :: x105 :: x106 :: x107 :: x108 :: x109 :: x110 :: x111 :: x112 :: x113 :: x114 :: x115 :: x116 :: x117 :: x118 :: x119 :: x120 :: x121 :: x122 :: x123 :: x124 :: x125 :: x126 :: x127 :: x128 :: x129 :: x130 :: x131 :: x132 :: x133 :: x134 :: x135 :: u136 :: u137 :: u138 :: u139 :: u140 :: u141 :: u142 :: u143 :: u144 :: u145 :: u146 :: u147 :: u148 :: u149 :: u150 :: u151 :: []).toArray, []⟩ wr) :
    Code.wp Tryz.prog (loopIn Tryz.f8 3) Q0 ⟨(x0 :: x1 :: x2 :: x3 :: x4 :: x5 :: x6 :: x7 :: x8 :: x9 :: x10 :: x11 :: x12 :: x13 :: x14 :: x15 :: (.slice A5 m5 c5) :: (.slice A6 m5 c6) :: (.int .i64 0) :: x19 :: x20 :: x21 :: x22 :: x23 :: x24 :: x25 :: x26 :: x27 :: x28 :: x29 :: x30 :: x31 :: x32 :: x33 :: x34 :: x35 :: x36 :: x37 :: x38 :: x39 :: x40 :: x41 :: x42 :: x43 :: x44 :: x45 :: x46 :: x47 :: x48 :: x49 :: x50 :: x51 :: x52 :: x53 :: x54 :: x55 :: x56 :: x57 :: x58 :: x59 :: x60 :: x61 :: x62 :: x63 :: x64 :: x65 :: x66 :: x67 :: x68 :: x69 :: x70 :: x71 :: x72 :: x73 :: x74 :: x75 :: x76 :: x77 :: x78 :: x79 :: x80 :: x81 :: x82 :: x83 :: x84 :: x85 :: x86 :: x87 :: x88 :: x89 :: x90 :: x91 :: x92 :: x93 :: x94 :: x95 :: x96 :: x97 :: x98 :: x99 :: x100 :: x101 :: x102 :: x103 :: x104 :: x105 :: x106 :: x107 :: x108 :: x109 :: x110 :: x111 :: x112 :: x113 :: x114 :: x115 :: x116 :: x117 :: x118 :: x119 :: x120 :: x121 :: x122 :: x123 :: x124 :: x125 :: x126 :: x127 :: x128 :: x129 :: x130 :: x131 :: x132 :: x133 :: x134 :: x135 :: x136 :: x137 :: x138 :: x139 :: x140 :: x141 :: x142 :: x143 :: x144 :: x145 :: x146 :: x147 :: x148 :: x149 :: x150 :: x151 :: []).toArray, []⟩ wS := by
  conv => arg 2; whnf
  go_loopw [18] (fun iv wr2 => ∃ i : Nat, i ≤ m5 ∧ iv = .int .i64 (i : Int) ∧ Hid (Grows wS wr2)) (fun iv _ => m5 - (intOf iv).toNat)
  case atStart => exact ⟨0, by omega, rfl, Lib.hid (Grows.refl _)⟩
  case round =>
    obtain ⟨i, hi, rfl, hgw⟩ := hrel
    by_cases him : i < m5
    · have himi : (i : Int) < (m5 : Int) := by omega
      obtain ⟨bb, oo, y, rfl, hbb, hy, hcy⟩ := (hX6.out.keep hgw.out).at_ him
      obtain ⟨b', o', x, rfl, hbb', hx, hcx⟩ := (hX5.out.keep hgw.out).at_ him
      have hg : x.g = y.g := by
        have h1 : (gs1.map GrpX.g)[i]? = some x.g := by rw [List.getElem?_map, hx]; rfl
        have h2 : (gs2.map GrpX.g)[i]? = some y.g := by rw [List.getElem?_map, hy]; rfl
        rw [heq.out, h2] at h1
        injection h1 with h1; exact h1.symm
      obtain ⟨hyi, hyf⟩ := hI6.out y (List.mem_of_getElem? hy)
      obtain ⟨hxi, hxf⟩ := hI5.out x (List.mem_of_getElem? hx)
      obtain ⟨-, -, -, hyiA⟩ := own_arr hyi hkU
      obtain ⟨-, -, -, hyfA⟩ := own_arr hyf hkF
      obtain ⟨-, i1, i2, hxiA⟩ := own_arr hxi hkU
      obtain ⟨-, f1, f2, hxfA⟩ := own_arr hxf hkF
      have x0 : wr.cell? ⟨b', o' + i * 4, none⟩ = some (.int .i64 (x.r : Int)) := by simpa using hcx 0 _ rfl
      have x1 : wr.cell? ⟨b', o' + i * 4 + 1, none⟩ = some (.slice x.bA x.bm x.bk) := hcx 1 _ rfl
      have x2 : wr.cell? ⟨b', o' + i * 4 + 2, none⟩ = some (.int .u64 (x.key : Int)) := hcx 2 _ rfl
      have x3 : wr.cell? ⟨b', o' + i * 4 + 3, none⟩ = some (.slice x.iA x.im x.ik) := hcx 3 _ rfl
      have y0 : wr.cell? ⟨bb, oo + i * 4, none⟩ = some (.int .i64 (y.r : Int)) := by simpa using hcy 0 _ rfl
      have y1 : wr.cell? ⟨bb, oo + i * 4 + 1, none⟩ = some (.slice y.bA y.bm y.bk) := hcy 1 _ rfl
      have y2 : wr.cell? ⟨bb, oo + i * 4 + 2, none⟩ = some (.int .u64 (y.key : Int)) := hcy 2 _ rfl
      have y3 : wr.cell? ⟨bb, oo + i * 4 + 3, none⟩ = some (.slice y.iA y.im y.ik) := hcy 3 _ rfl
      have cS := fun W (hW : Grows wr W) => gsame_any x y W hg (hxfA.keep (hgw.out.trans hW)) (hyfA.keep (hgw.out.trans hW)) (hxiA.keep (hgw.out.trans hW)) (hyiA.keep (hgw.out.trans hW)) (by unfold maxLen at f2; omega) (by unfold maxLen at i2; omega)
      replace cS := Lib.hid cS
      clear hcx hcy hx hy hg hyi hyf hxi hxf hyiA hyfA hxiA hxfA i1 i2 f1 f2
      go_wp2_with fail
      refine wp_region_mixg [(0, true), (1, true), (2, true), (3, true), (4, true), (5, true), (6, true), (7, true), (8, false), (9, true)] (by kernel_rfl) (by kernel_rfl) rfl (by kernel_rfl) (by intro c a d v w h; first | (cases d <;> exact h) | exact hQ0 _ _ _ _ _ h) ?_
      iterate 8 (refine wpMix_s rfl (fun K hK => ?_); go_simp; (try go_bits); first | (refine hK.out _ ?_; clear hK K) | (apply Exists.intro; refine ⟨fun wq hsq => ?_, hK.out _ ?_⟩; (first | (go_simp; done) | ((try go_simp); (try simp only [↓IntWalk.iteOmega]); (try go_bits); rfl) | (obtain ⟨hcq, hfq⟩ := bcells hsq; go_simp; done) | (obtain ⟨hcq, hfq⟩ := bcells hsq; (try go_simp); (try simp only [↓IntWalk.iteOmega]); (try go_bits); rfl)); clear hK K))
      refine wpMix_m rfl (fun K' hK => ?_)
      go_simp
      refine (cS.out _ (by
        repeat (first | assumption | exact Grows.refl _ | apply Grows.drew | apply Grows.drewN | refine Grows.alloc ?_ _ | (refine Grows.setCell ?_ (by first | (simp; done) | (simp; omega) | omega) _) | (refine Grows.trans ?_ (by assumption)))
      )).mono ?_
      rintro e w7 ⟨rfl, hb7⟩
      refine hK.out _ _ ?_ (fun hS => ?_)
      · repeat (first | assumption | exact Grows.refl _ | apply Grows.drew | apply Grows.drewN | refine Grows.alloc ?_ _ | (refine Grows.setCell ?_ (by first | (simp; done) | (simp; omega) | omega) _) | (refine Grows.trans ?_ (by assumption)))
      clear hK hS
      iterate 1 (refine wpMix_s rfl (fun K hK => ?_); go_simp; (try go_bits); first | (refine hK.out _ ?_; clear hK K) | (apply Exists.intro; refine ⟨fun wq hsq => ?_, hK.out _ ?_⟩; (first | (go_simp; done) | ((try go_simp); (try simp only [↓IntWalk.iteOmega]); (try go_bits); rfl) | (obtain ⟨hcq, hfq⟩ := bcells hsq; go_simp; done) | (obtain ⟨hcq, hfq⟩ := bcells hsq; (try go_simp); (try simp only [↓IntWalk.iteOmega]); (try go_bits); rfl)); clear hK K))
      refine wpMix_nil ?_
      have h7 : Grows wr w7 := ((Grows.refl wr).drew).trans hb7
      have hg9 := Lib.hid (hgw.out.trans h7)
      go_wp2
      go_roundw
      case rel => exact ⟨i + 1, by omega, by go_num, hg9⟩
      case measure => simp [intOf]; omega
    · have himi : ¬ (i : Int) < (m5 : Int) := by omega
      go_wp2
theorem lowL_snoc (p : Pol) (to : Lab) (v : List UInt8) {l : List Alr} {i : Nat} {a : Alr} (h : l[i]? = some a) : lowL p to v (l.take (i + 1)) = lowL p to v (l.take i) ++ (if lowOk to a then [lowA p to v a] else []) := by
  unfold lowL
  rw [List.take_add_one, h, List.filter_append, List.map_append]
  cases hb : lowOk to a <;> simp [hb]
set_option maxRecDepth 100000 in
set_option maxHeartbeats 3200000 in
theorem low_l1 {q : PolX} {to : Lab} {val : List UInt8} {own : List AlrX} {gP gt L c4 : Nat} {A4 : Option Addr} {wS : World} {Q0 : Exit → Act → World → Prop} {x0 x1 x4 x5 x6 x8 x9 x13 x14 x15 x16 x17 x18 x19 x20 x21 x22 x23 x24 x25 x26 x27 x28 x29 x30 x31 x32 x33 x34 x35 x36 x37 x38 x39 x40 x41 x42 x43 x44 x45 x46 x47 x48 x49 x50 x51 x52 x53 x54 x55 x56 x57 x58 x59 x60 x61 x62 x63 x64 x65 x66 x67 x68 x69 x70 x71 x72 x73 x74 x75 x76 x77 x78 x79 x80 x81 x82 x83 x84 x85 x86 x87 x88 x89 x90 x91 x92 x93 x94 x95 x96 x97 x98 x99 x100 x101 x102 x103 x104 x105 x106 x107 x108 x109 x110 x111 x112 x113 x114 x115 x116 x117 x118 x119 x120 x121 x122 x123 x124 x125 x126 x127 x128 x129 x130 x131 x132 x133 x134 x135 x136 x137 x138 x139 x140 x141 x142 x143 x144 x145 x146 x147 x148 x149 x150 x151 : Value}
    (hP : Hid (Blk wS gP 32 (polC q))) (hT : Hid (Blk wS gt 40 (labC to))) (hq : Hid (q.At wS)) (hO : Hid (Arr wS 6 encA A4 L own)) (hat : Hid (∀ y ∈ own, y.At wS)) (htx : Hid (∀ y ∈ own, ∀ f ∈ y.a.fs, f.n.length ≤ 9223372036854775807 ∧ f.v.length ≤ 9223372036854775807)) (hto : Hid to.ok) (hL : L ≤ 12)
    (hQ0 : ∀ c a d v w, Q0 (.panic c) (Act.put a d v) w → Q0 (.panic c) a w)
    (hexit : ∀ (u11 u12 u13 u14 u15 u46 u47 u48 u49 u50 u51 u52 u53 u54 u55 u56 u57 u58 u59 u60 u61 u62 u63 u64 u65 u66 u67 u68 u69 u70 u71 u72 u73 u74 u75 u76 u77 u78 u79 u80 u81 u82 u83 u84 u85 u86 u87 u88 u89 u90 u91 u92 u93 u94 u95 u96 u97 u98 u99 u100 u101 u102 u103 u104 u105 u106 u107 u108 u109 u110 u111 u112 : Value) (wr : World), (∃ xs : List AlrX, Hid (Own wr wS.heap.size 50 6 encA u11 xs) ∧ Hid (xs.map (·.a) = lowL q.pol to val (own.map (·.a))) ∧ Hid (∀ x ∈ xs, Own wr wS.heap.size 76 2 encF (.slice x.A x.m x.k) x.a.fs) ∧ Hid (Grows wS wr)) → Q0 (.exit 2) ⟨(x0 :: x1 :: (.string ⟨val.toArray⟩) :: (.pointer (some ⟨gP, 0, none⟩)) :: x4 :: x5 :: x6 :: (.slice A4 L c4) :: x8 :: x9 :: (.pointer (some ⟨gt, 0, none⟩)) :: u11 :: u12 :: u13 :: u14 :: u15 :: x16 :: x17 :: x18 :: x19 :: x20 :: x21 :: x22 :: x23 :: x24 :: x25 :: x26 :: x27 :: x28 :: x29 :: x30 :: x31 :: x32 :: x33 :: x34 :: x35 :: x36 :: x37 :: x38 :: x39 :: x40 :: x41 :: x42 :: x43 :: x44 :: x45 :: u46 :: u47 :: u48 :: u49 :: u50 :: u51 :: u52 :: u53 :: u54 :: u55 :: u56 :: u57 :: u58 :: u59 :: u60 :: u61 :: u62 :: u63 :: u64 :: u65 :: u66 :: u67 :: u68 :: u69 :: u70 :: u71 :: u72 :: u73 :: u74 :: u75 :: u76 :: u77 :: u78 :: u79 :: u80 :: u81 :: u82 :: u83 :: u84 :: u85 :: u86 :: u87 :: u88 :: u89 :: u90 :: u91 :: u92 :: u93 :: u94 :: u95 :: u96 :: u97 :: u98 :: u99 :: u100 :: u101 :: u102 :: u103 :: u104 :: u105 :: u106 :: u107 :: u108 :: u109 :: u110 :: u111 :: u112 :: x113 :: x114 :: x115 :: x116 :: x117 :: x118 :: x119 :: x120 :: x121 :: x122 :: x123 :: x124 :: x125 :: x126 :: x127 :: x128 :: x129 :: x130 :: x131 :: x132 :: x133 :: x134 :: x135 :: x136 :: x137 :: x138 :: x139 :: x140 :: x141 :: x142 :: x143 :: x144 :: x145 :: x146 :: x147 :: x148 :: x149 :: x150 :: x151 :: []).toArray, []⟩ wr) :
    Code.wp Tryz.prog (loopIn Tryz.f8 1) Q0 ⟨(x0 :: x1 :: (.string ⟨val.toArray⟩) :: (.pointer (some ⟨gP, 0, none⟩)) :: x4 :: x5 :: x6 :: (.slice A4 L c4) :: x8 :: x9 :: (.pointer (some ⟨gt, 0, none⟩)) :: (.slice none 0 0) :: (.int .i64 0) :: x13 :: x14 :: x15 :: x16 :: x17 :: x18 :: x19 :: x20 :: x21 :: x22 :: x23 :: x24 :: x25 :: x26 :: x27 :: x28 :: x29 :: x30 :: x31 :: x32 :: x33 :: x34 :: x35 :: x36 :: x37 :: x38 :: x39 :: x40 :: x41 :: x42 :: x43 :: x44 :: x45 :: x46 :: x47 :: x48 :: x49 :: x50 :: x51 :: x52 :: x53 :: x54 :: x55 :: x56 :: x57 :: x58 :: x59 :: x60 :: x61 :: x62 :: x63 :: x64 :: x65 :: x66 :: x67 :: x68 :: x69 :: x70 :: x71 :: x72 :: x73 :: x74 :: x75 :: x76 :: x77 :: x78 :: x79 :: x80 :: x81 :: x82 :: x83 :: x84 :: x85 :: x86 :: x87 :: x88 :: x89 :: x90 :: x91 :: x92 :: x93 :: x94 :: x95 :: x96 :: x97 :: x98 :: x99 :: x100 :: x101 :: x102 :: x103 :: x104 :: x105 :: x106 :: x107 :: x108 :: x109 :: x110 :: x111 :: x112 :: x113 :: x114 :: x115 :: x116 :: x117 :: x118 :: x119 :: x120 :: x121 :: x122 :: x123 :: x124 :: x125 :: x126 :: x127 :: x128 :: x129 :: x130 :: x131 :: x132 :: x133 :: x134 :: x135 :: x136 :: x137 :: x138 :: x139 :: x140 :: x141 :: x142 :: x143 :: x144 :: x145 :: x146 :: x147 :: x148 :: x149 :: x150 :: x151 :: []).toArray, []⟩ wS := by
  conv => arg 2; whnf
  have hml := Lib.hid hO.out.1
  go_loopw [11, 12, 13, 14, 15] (fun vl iv _ _ _ wr2 => ∃ (i : Nat) (xs : List AlrX), i ≤ L ∧ iv = .int .i64 (i : Int) ∧ xs.length ≤ i ∧ Hid (Own wr2 wS.heap.size 50 6 encA vl xs) ∧ Hid (xs.map (·.a) = lowL q.pol to val ((own.map (·.a)).take i)) ∧ Hid (∀ x ∈ xs, Own wr2 wS.heap.size 76 2 encF (.slice x.A x.m x.k) x.a.fs) ∧ Hid (Grows wS wr2)) (fun _ iv _ _ _ _ => L - (intOf iv).toNat)
  case atStart => exact ⟨0, [], by omega, rfl, by simp, Lib.hid (Own.nil_ _ _ _ _ _), Lib.hid rfl, Lib.hid (fun x hx => by cases hx), Lib.hid (Grows.refl _)⟩
  case round =>
    obtain ⟨i, xs, hi, rfl, hxl, hOl, hxs, hfl, hgw⟩ := hrel
    by_cases hil : i < L
    · have hili : (i : Int) < (L : Int) := by omega
      obtain ⟨bO, oO, y, rfl, hbO, hy, hcO⟩ := (hO.out.keep hgw.out).at_ hil
      have hyin := List.mem_of_getElem? hy
      have hyA := hat.out y hyin
      have hye : (own.map (·.a))[i]? = some y.a := by rw [List.getElem?_map, hy]; rfl
      have hsn := lowL_snoc q.pol to val hye
      rw [← hxs.out] at hsn
      have hTc := hT.out.grows hgw.out
      have t0 : wr.cell? ⟨gt, 0, none⟩ = some (.int .i64 to.lv) := hTc.cell 0
      have t1 : wr.cell? ⟨gt, 1, none⟩ = some (.int .u32 (to.c : Int)) := hTc.cell 1
      have tl := hTc.lt
      have y0 : wr.cell? ⟨bO, oO + i * 6, none⟩ = some (.string ⟨y.a.src.toArray⟩) := by simpa using hcO 0 _ rfl
      have y1 : wr.cell? ⟨bO, oO + i * 6 + 1, none⟩ = some (.slice y.A y.m y.k) := hcO 1 _ rfl
      have y2 : wr.cell? ⟨bO, oO + i * 6 + 2, none⟩ = some (.int .i64 y.a.l.lv) := hcO 2 _ rfl
      have y3 : wr.cell? ⟨bO, oO + i * 6 + 3, none⟩ = some (.int .u32 (y.a.l.c : Int)) := hcO 3 _ rfl
      have y4 : wr.cell? ⟨bO, oO + i * 6 + 4, none⟩ = some (.int .i64 y.a.f) := hcO 4 _ rfl
      have y5 : wr.cell? ⟨bO, oO + i * 6 + 5, none⟩ = some (.int .i64 y.a.t) := hcO 5 _ rfl
      have cF := fun W => refFlows_any y.a.l to W hyA.lab hto.out
      have cR := fun W (hW : Grows wr W) => rright_any (c := y.k) W (hyA.arr.keep (hgw.out.trans hW)) (by have := hyA.le; omega) (htx.out y hyin)
      have hok : lowOk to y.a = (flowsL y.a.l to && fieldsB y.a.fs) := rfl
      generalize flowsL y.a.l to = FL at *
      generalize fieldsB y.a.fs = FB at *
      replace cF := Lib.hid cF
      replace cR := Lib.hid cR
      clear hcO hTc hye hyin
      replace hy := Lib.hid hy
      replace hyA := Lib.hid hyA
      cases FL with
      | false =>
        rw [hok, Bool.false_and, if_neg (by decide), List.append_nil] at hsn
        replace hsn := Lib.hid hsn.symm
        clear hok cR
        go_wp2_with fail
        refine wp_region_mixg [(0, true), (1, true), (2, true), (3, true), (4, true), (5, true), (6, false), (7, true), (8, true), (9, true), (10, true), (11, true), (12, true), (13, true), (14, false), (15, true), (16, true)] (by kernel_rfl) (by kernel_rfl) rfl (by kernel_rfl) (by intro c a d v w h; first | (cases d <;> exact h) | exact hQ0 _ _ _ _ _ h) ?_
        iterate 6 (refine wpMix_s rfl (fun K hK => ?_); go_simp; (try go_bits); first | (refine hK.out _ ?_; clear hK K) | (apply Exists.intro; refine ⟨fun wq hsq => ?_, hK.out _ ?_⟩; (first | (go_simp; done) | ((try go_simp); (try simp only [↓IntWalk.iteOmega]); (try go_bits); rfl) | (obtain ⟨hcq, hfq⟩ := bcells hsq; go_simp; done) | (obtain ⟨hcq, hfq⟩ := bcells hsq; (try go_simp); (try simp only [↓IntWalk.iteOmega]); (try go_bits); rfl)); clear hK K))
        refine wpMix_m rfl (fun K' hK => ?_)
        go_simp
        refine (cF.out _).mono ?_
        rintro e w6 ⟨rfl, hbw6⟩
        refine hK.out _ _ ?_ (fun hS => ?_)
        · repeat (first | assumption | exact Grows.refl _ | apply Grows.drew | apply Grows.drewN | refine Grows.alloc ?_ _ | (refine Grows.setCell ?_ (by first | (simp; done) | (simp; omega) | omega) _) | (refine Grows.trans ?_ (by assumption)))
        clear hK hS
        iterate 7 (refine wpMix_s rfl (fun K hK => ?_); go_simp; (try go_bits); first | (refine hK.out _ ?_; clear hK K) | (apply Exists.intro; refine ⟨fun wq hsq => ?_, hK.out _ ?_⟩; (first | (go_simp; done) | ((try go_simp); (try simp only [↓IntWalk.iteOmega]); (try go_bits); rfl) | (obtain ⟨hcq, hfq⟩ := bcells hsq; go_simp; done) | (obtain ⟨hcq, hfq⟩ := bcells hsq; (try go_simp); (try simp only [↓IntWalk.iteOmega]); (try go_bits); rfl)); clear hK K))
        refine wpMix_m rfl (fun K' hK => ?_)
        go_simp
        refine hK.out _ _ ?_ (fun hS => ?_)
        · repeat (first | assumption | exact Grows.refl _ | apply Grows.drew | apply Grows.drewN | refine Grows.alloc ?_ _ | (refine Grows.setCell ?_ (by first | (simp; done) | (simp; omega) | omega) _) | (refine Grows.trans ?_ (by assumption)))
        clear hK hS
        iterate 2 (refine wpMix_s rfl (fun K hK => ?_); go_simp; (try go_bits); first | (refine hK.out _ ?_; clear hK K) | (apply Exists.intro; refine ⟨fun wq hsq => ?_, hK.out _ ?_⟩; (first | (go_simp; done) | ((try go_simp); (try simp only [↓IntWalk.iteOmega]); (try go_bits); rfl) | (obtain ⟨hcq, hfq⟩ := bcells hsq; go_simp; done) | (obtain ⟨hcq, hfq⟩ := bcells hsq; (try go_simp); (try simp only [↓IntWalk.iteOmega]); (try go_bits); rfl)); clear hK K))
        refine wpMix_nil ?_
        have h6 : Grows wr w6 := ((Grows.refl wr).drew).trans hbw6
        have hO6 := Lib.hid (hOl.out.grows h6)
        have hfl6 : Hid (∀ x ∈ xs, Own w6 wS.heap.size 76 2 encF (.slice x.A x.m x.k) x.a.fs) := Lib.hid (fun x hx => (hfl.out x hx).grows h6)
        have hg6 := Lib.hid (hgw.out.trans h6)
        clear y0 y1 y2 y3 y4 y5 t0 t1 tl hOl hfl hgw hbw6 h6 cF
        go_wp2
        go_roundw
        case rel => exact ⟨i + 1, xs, by omega, by go_num, by omega, hO6, hsn, hfl6, hg6⟩
        case measure => simp [intOf]; omega
      | true =>
        cases FB with
        | false =>
          rw [hok, Bool.true_and, if_neg (by decide), List.append_nil] at hsn
          replace hsn := Lib.hid hsn.symm
          clear hok
          go_wp2_with fail
          refine wp_region_mixg [(0, true), (1, true), (2, true), (3, true), (4, true), (5, true), (6, false), (7, true), (8, true), (9, true), (10, true), (11, true), (12, true), (13, true), (14, false), (15, true), (16, true)] (by kernel_rfl) (by kernel_rfl) rfl (by kernel_rfl) (by intro c a d v w h; first | (cases d <;> exact h) | exact hQ0 _ _ _ _ _ h) ?_
          iterate 6 (refine wpMix_s rfl (fun K hK => ?_); go_simp; (try go_bits); first | (refine hK.out _ ?_; clear hK K) | (apply Exists.intro; refine ⟨fun wq hsq => ?_, hK.out _ ?_⟩; (first | (go_simp; done) | ((try go_simp); (try simp only [↓IntWalk.iteOmega]); (try go_bits); rfl) | (obtain ⟨hcq, hfq⟩ := bcells hsq; go_simp; done) | (obtain ⟨hcq, hfq⟩ := bcells hsq; (try go_simp); (try simp only [↓IntWalk.iteOmega]); (try go_bits); rfl)); clear hK K))
          refine wpMix_m rfl (fun K' hK => ?_)
          go_simp
          refine (cF.out _).mono ?_
          rintro e w6 ⟨rfl, hbw6⟩
          refine hK.out _ _ ?_ (fun hS => ?_)
          · repeat (first | assumption | exact Grows.refl _ | apply Grows.drew | apply Grows.drewN | refine Grows.alloc ?_ _ | (refine Grows.setCell ?_ (by first | (simp; done) | (simp; omega) | omega) _) | (refine Grows.trans ?_ (by assumption)))
          clear hK hS
          iterate 7 (refine wpMix_s rfl (fun K hK => ?_); go_simp; (try go_bits); first | (refine hK.out _ ?_; clear hK K) | (apply Exists.intro; refine ⟨fun wq hsq => ?_, hK.out _ ?_⟩; (first | (go_simp; done) | ((try go_simp); (try simp only [↓IntWalk.iteOmega]); (try go_bits); rfl) | (obtain ⟨hcq, hfq⟩ := bcells hsq; go_simp; done) | (obtain ⟨hcq, hfq⟩ := bcells hsq; (try go_simp); (try simp only [↓IntWalk.iteOmega]); (try go_bits); rfl)); clear hK K))
          refine wpMix_m rfl (fun K' hK => ?_)
          go_simp
          refine (cR.out _ (by
            repeat (first | assumption | exact Grows.refl _ | apply Grows.drew | apply Grows.drewN | refine Grows.alloc ?_ _ | (refine Grows.setCell ?_ (by first | (simp; done) | (simp; omega) | omega) _) | (refine Grows.trans ?_ (by assumption)))
          )).mono ?_
          rintro e w7 ⟨rfl, hb7⟩
          refine hK.out _ _ ?_ (fun hS => ?_)
          · repeat (first | assumption | exact Grows.refl _ | apply Grows.drew | apply Grows.drewN | refine Grows.alloc ?_ _ | (refine Grows.setCell ?_ (by first | (simp; done) | (simp; omega) | omega) _) | (refine Grows.trans ?_ (by assumption)))
          clear hK hS
          iterate 2 (refine wpMix_s rfl (fun K hK => ?_); go_simp; (try go_bits); first | (refine hK.out _ ?_; clear hK K) | (apply Exists.intro; refine ⟨fun wq hsq => ?_, hK.out _ ?_⟩; (first | (go_simp; done) | ((try go_simp); (try simp only [↓IntWalk.iteOmega]); (try go_bits); rfl) | (obtain ⟨hcq, hfq⟩ := bcells hsq; go_simp; done) | (obtain ⟨hcq, hfq⟩ := bcells hsq; (try go_simp); (try simp only [↓IntWalk.iteOmega]); (try go_bits); rfl)); clear hK K))
          refine wpMix_nil ?_
          have h6 : Grows wr w7 := (((Grows.refl wr).drew).trans hbw6).trans hb7
          have hO6 := Lib.hid (hOl.out.grows h6)
          have hfl6 : Hid (∀ x ∈ xs, Own w7 wS.heap.size 76 2 encF (.slice x.A x.m x.k) x.a.fs) := Lib.hid (fun x hx => (hfl.out x hx).grows h6)
          have hg6 := Lib.hid (hgw.out.trans h6)
          clear y0 y1 y2 y3 y4 y5 t0 t1 tl hOl hfl hgw hbw6 hb7 h6 cF cR
          go_wp2
          go_roundw
          case rel => exact ⟨i + 1, xs, by omega, by go_num, by omega, hO6, hsn, hfl6, hg6⟩
          case measure => simp [intOf]; omega
        | true =>
          rw [hok, Bool.true_and, if_pos rfl] at hsn
          replace hsn := Lib.hid hsn.symm
          clear hok
          go_wp2_with fail
          refine wp_region_mixg [(0, true), (1, true), (2, true), (3, true), (4, true), (5, true), (6, false), (7, true), (8, true), (9, true), (10, true), (11, true), (12, true), (13, true), (14, false), (15, true), (16, true)] (by kernel_rfl) (by kernel_rfl) rfl (by kernel_rfl) (by intro c a d v w h; first | (cases d <;> exact h) | exact hQ0 _ _ _ _ _ h) ?_
          iterate 6 (refine wpMix_s rfl (fun K hK => ?_); go_simp; (try go_bits); first | (refine hK.out _ ?_; clear hK K) | (apply Exists.intro; refine ⟨fun wq hsq => ?_, hK.out _ ?_⟩; (first | (go_simp; done) | ((try go_simp); (try simp only [↓IntWalk.iteOmega]); (try go_bits); rfl) | (obtain ⟨hcq, hfq⟩ := bcells hsq; go_simp; done) | (obtain ⟨hcq, hfq⟩ := bcells hsq; (try go_simp); (try simp only [↓IntWalk.iteOmega]); (try go_bits); rfl)); clear hK K))
          refine wpMix_m rfl (fun K' hK => ?_)
          go_simp
          refine (cF.out _).mono ?_
          rintro e w6 ⟨rfl, hbw6⟩
          refine hK.out _ _ ?_ (fun hS => ?_)
          · repeat (first | assumption | exact Grows.refl _ | apply Grows.drew | apply Grows.drewN | refine Grows.alloc ?_ _ | (refine Grows.setCell ?_ (by first | (simp; done) | (simp; omega) | omega) _) | (refine Grows.trans ?_ (by assumption)))
          clear hK hS
          iterate 7 (refine wpMix_s rfl (fun K hK => ?_); go_simp; (try go_bits); first | (refine hK.out _ ?_; clear hK K) | (apply Exists.intro; refine ⟨fun wq hsq => ?_, hK.out _ ?_⟩; (first | (go_simp; done) | ((try go_simp); (try simp only [↓IntWalk.iteOmega]); (try go_bits); rfl) | (obtain ⟨hcq, hfq⟩ := bcells hsq; go_simp; done) | (obtain ⟨hcq, hfq⟩ := bcells hsq; (try go_simp); (try simp only [↓IntWalk.iteOmega]); (try go_bits); rfl)); clear hK K))
          refine wpMix_m rfl (fun K' hK => ?_)
          go_simp
          refine (cR.out _ (by
            repeat (first | assumption | exact Grows.refl _ | apply Grows.drew | apply Grows.drewN | refine Grows.alloc ?_ _ | (refine Grows.setCell ?_ (by first | (simp; done) | (simp; omega) | omega) _) | (refine Grows.trans ?_ (by assumption)))
          )).mono ?_
          rintro e w7 ⟨rfl, hb7⟩
          refine hK.out _ _ ?_ (fun hS => ?_)
          · repeat (first | assumption | exact Grows.refl _ | apply Grows.drew | apply Grows.drewN | refine Grows.alloc ?_ _ | (refine Grows.setCell ?_ (by first | (simp; done) | (simp; omega) | omega) _) | (refine Grows.trans ?_ (by assumption)))
          clear hK hS
          iterate 2 (refine wpMix_s rfl (fun K hK => ?_); go_simp; (try go_bits); first | (refine hK.out _ ?_; clear hK K) | (apply Exists.intro; refine ⟨fun wq hsq => ?_, hK.out _ ?_⟩; (first | (go_simp; done) | ((try go_simp); (try simp only [↓IntWalk.iteOmega]); (try go_bits); rfl) | (obtain ⟨hcq, hfq⟩ := bcells hsq; go_simp; done) | (obtain ⟨hcq, hfq⟩ := bcells hsq; (try go_simp); (try simp only [↓IntWalk.iteOmega]); (try go_bits); rfl)); clear hK K))
          refine wpMix_nil ?_
          have h7 : Grows wr w7 := (((Grows.refl wr).drew).trans hbw6).trans hb7
          replace y0 := h7.cell y0
          replace y1 := h7.cell y1
          replace y2 := h7.cell y2
          replace y3 := h7.cell y3
          replace y4 := h7.cell y4
          replace y5 := h7.cell y5
          replace hbO := Nat.lt_of_lt_of_le hbO h7.size
          have hg7 := Lib.hid (hgw.out.trans h7)
          replace hOl := Lib.hid (hOl.out.grows h7)
          replace hfl : Hid (∀ x ∈ xs, Own w7 wS.heap.size 76 2 encF (.slice x.A x.m x.k) x.a.fs) := Lib.hid (fun x hx => (hfl.out x hx).grows h7)
          clear t0 t1 tl hgw hbw6 hb7 h7 cF cR
          go_wp2_with fail
          refine low_l2 (q := q) (to := to) (val := val) (own := own) (y := y) (w1 := w7) (Lib.hid (hP.out.grows hg7.out)) (Lib.hid (hT.out.grows hg7.out)) (Lib.hid (hq.out.keep hg7.out)) (Lib.hid (hO.out.keep hg7.out)) hy (Lib.hid (hyA.out.keep hg7.out)) hto (Lib.hid ((Grows.refl w7).alloc _)) (Lib.hid (Nat.le_refl _)) (Lib.hid (Blk.new w7 50 (alrV y (.slice none 0 0)))) (by intro c a d v w h; first | (cases d <;> exact h) | exact hQ0 _ _ _ _ _ h) ?_
          intros
          rename_i wz hz
          obtain ⟨v, hA, hV, hGz⟩ := hz
          obtain ⟨A', k', rfl, -, -, -⟩ := hV.out.arr hkF
          have hOz := Lib.hid (hOl.out.grows hGz.out)
          have hgz := Lib.hid (hg7.out.trans hGz.out)
          have hflz : Hid (∀ x ∈ xs, Own wz wS.heap.size 76 2 encF (.slice x.A x.m x.k) x.a.fs) := Lib.hid (fun x hx => (hfl.out x hx).grows hGz.out)
          have hVz := Lib.hid (hV.out.base_le hg7.out.size)
          have a0 : wz.cell? ⟨w7.heap.size, 0, none⟩ = some (.string ⟨y.a.src.toArray⟩) := hA.out.cell 0
          have a1 : wz.cell? ⟨w7.heap.size, 1, none⟩ = some (.slice A' (y.a.fs.map (lowF q.pol y.a.l to val)).length k') := hA.out.cell 1
          have a2 : wz.cell? ⟨w7.heap.size, 2, none⟩ = some (.int .i64 y.a.l.lv) := hA.out.cell 2
          have a3 : wz.cell? ⟨w7.heap.size, 3, none⟩ = some (.int .u32 (y.a.l.c : Int)) := hA.out.cell 3
          have a4 : wz.cell? ⟨w7.heap.size, 4, none⟩ = some (.int .i64 y.a.f) := hA.out.cell 4
          have a5 : wz.cell? ⟨w7.heap.size, 5, none⟩ = some (.int .i64 y.a.t) := hA.out.cell 5
          have al := hA.out.lt
          clear y0 y1 y2 y3 y4 y5 hOl hfl hg7 hV hA hGz hbO
          generalize w7.heap.size = ga at *
          generalize hmm : (y.a.fs.map (lowF q.pol y.a.l to val)).length = m' at *
          replace hmm := Lib.hid hmm
          go_wp2_with (at_builtin; (refine wpList_grown (x := (⟨lowA q.pol to val y.a, A', m', k'⟩ : AlrX)) T_al rfl (.tmp 109) (.tmp 111) rfl (hOz.out.alloc _) rfl ⟨wz.heap.size, 0, none⟩ rfl rfl (news_of (by exact heap_alloc_new wz _)) (oneA _) (by have := hgz.out.size; simp; omega) (by unfold maxLen; omega) (by omega) (fun v8 w8 hO8 hgr hat8 => ?_)); (have hf8 : Hid (∀ x ∈ xs ++ [(⟨lowA q.pol to val y.a, A', m', k'⟩ : AlrX)], Own w8 wS.heap.size 76 2 encF (.slice x.A x.m x.k) x.a.fs) := Lib.hid (by
            intro x hx
            have key : Own wz wS.heap.size 76 2 encF (.slice x.A x.m x.k) x.a.fs := by
              rcases List.mem_append.1 hx with h | h
              · exact hflz.out x h
              · rw [List.mem_singleton.1 h]; exact hVz.out
            exact (key.alloc (.cells #[.string ⟨y.a.src.toArray⟩, .slice A' m' k', .int .i64 y.a.l.lv, .int .u32 (y.a.l.c : Int), .int .i64 y.a.f, .int .i64 y.a.t] 50)).keptT hgr (fun m hm => by obtain ⟨_, cs, hB⟩ := (hOz.out.alloc (.cells #[.string ⟨y.a.src.toArray⟩, .slice A' m' k', .int .i64 y.a.l.lv, .int .u32 (y.a.l.c : Int), .int .i64 y.a.f, .int .i64 y.a.t] 50)).blk_ m hm; exact ⟨_, cs, by decide, hB⟩))); (have hG8 := Lib.hid ((hgz.out.alloc (.cells #[.string ⟨y.a.src.toArray⟩, .slice A' m' k', .int .i64 y.a.l.lv, .int .u32 (y.a.l.c : Int), .int .i64 y.a.f, .int .i64 y.a.t] 50)).by_row hgr (fun g hg => (hOz.out.blk_ g hg).1))); (replace hO8 := Lib.hid hO8); clear hgr hat8)
          go_roundw
          case rel => exact ⟨i + 1, xs ++ [(⟨lowA q.pol to val y.a, A', m', k'⟩ : AlrX)], by omega, by go_num, by rw [List.length_append, List.length_singleton]; omega, hO8, Lib.hid (by rw [List.map_append]; exact hsn.out), hf8, hG8⟩
          case measure => simp [intOf]; omega
    · have hili : ¬ (i : Int) < (L : Int) := by omega
      rw [List.take_of_length_le (by rw [List.length_map, hml.out]; omega)] at hxs
      go_wp2
      first | exact ⟨xs, hOl, hxs, hfl⟩ | exact ⟨xs, hOl, hxs, hfl, hgw⟩
end Go.Proofs.YtfoffneipdkdjaaGreatDoor
