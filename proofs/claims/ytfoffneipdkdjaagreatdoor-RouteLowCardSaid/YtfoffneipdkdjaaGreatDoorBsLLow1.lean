/- The walk of the law RouteLow: an alert's fields, those that may not be seen with another value. -/
import Derived.Test.YtfoffneipdkdjaaGreatDoorBs14
import Derived.Test.YtfoffneipdkdjaaGreatDoorBsLwE
import Derived.Test.YtfoffneipdkdjaaGreatDoorBs13
import Derived.Test.YtfoffneipdkdjaaGreatDoorBs11
namespace Go.Proofs.YtfoffneipdkdjaaGreatDoor
open Go.RowKit Go.Maps

def alrV (y : AlrX) (v : Value) : Array Value := #[.string ⟨y.a.src.toArray⟩, v, .int .i64 y.a.l.lv, .int .u32 (y.a.l.c : Int), .int .i64 y.a.f, .int .i64 y.a.t]
theorem low_take {fs : List Fld} {k : Nat} {f : Fld} (g : Fld → Fld) (h : fs[k]? = some f) : (fs.take (k + 1)).map g = (fs.take k).map g ++ [g f] := by
  rw [List.take_add_one, h]; simp
theorem Own.setNe' {α : Type} {w : World} {b0 k gc : Nat} {e t : TypeId} {enc : α → List Value} {v : Value} {xs : List α} {cs : Array Value} (h : Own w b0 e k enc v xs) (hB : Blk w gc t cs) (hne : e ≠ t) (i : Nat) (u : Value) : Own (w.setCell ⟨gc, i, none⟩ u) b0 e k enc v xs :=
  h.kept' (grownBy_cell w ⟨gc, i, none⟩ u) (fun g hg hv => by injection hg with hg; subst hg; exact own_ne h hB hne hv)
set_option maxRecDepth 100000 in
set_option maxHeartbeats 3200000 in
theorem low_l2 {q : PolX} {to : Lab} {val : List UInt8} {own : List AlrX} {y : AlrX} {gP gt ga i L c4 : Nat} {A4 : Option Addr} {w1 wS : World} {Q0 : Exit → Act → World → Prop} {x0 x1 x4 x5 x6 x8 x9 x11 x15 x16 x17 x18 x19 x20 x21 x22 x23 x24 x25 x26 x27 x28 x29 x30 x31 x32 x33 x34 x35 x36 x37 x38 x39 x40 x41 x42 x43 x44 x45 x46 x47 x48 x49 x50 x51 x52 x53 x54 x55 x56 x57 x58 x59 x60 x61 x62 x63 x64 x65 x66 x67 x68 x69 x70 x71 x72 x73 x74 x75 x76 x77 x78 x79 x80 x81 x82 x83 x84 x85 x86 x87 x88 x89 x90 x91 x92 x93 x94 x95 x96 x97 x98 x99 x100 x101 x102 x103 x104 x105 x106 x107 x108 x109 x110 x111 x112 x113 x114 x115 x116 x117 x118 x119 x120 x121 x122 x123 x124 x125 x126 x127 x128 x129 x130 x131 x132 x133 x134 x135 x136 x137 x138 x139 x140 x141 x142 x143 x144 x145 x146 x147 x148 x149 x150 x151 : Value}
    (hP : Hid (Blk w1 gP 32 (polC q))) (hT : Hid (Blk w1 gt 40 (labC to))) (hq : Hid (q.At w1)) (hO : Hid (Arr w1 6 encA A4 L own)) (hy : Hid (own[i]? = some y)) (hyA : Hid (y.At w1)) (hto : Hid to.ok) (hG1 : Hid (Grows w1 wS)) (hga : Hid (w1.heap.size ≤ ga)) (hA : Hid (Blk wS ga 50 (alrV y (.slice none 0 0))))
    (hQ0 : ∀ c a d v w, Q0 (.panic c) (Act.put a d v) w → Q0 (.panic c) a w)
    (hexit : ∀ (u14 u15 u74 u75 u76 u77 u78 u79 u80 u81 u82 u83 u84 u85 u86 u87 u88 u89 u90 u91 u92 u93 u94 u95 u96 u97 u98 u99 u100 u101 u102 u103 u104 u105 u106 u107 u108 : Value) (wr : World), (∃ v, Hid (Blk wr ga 50 (alrV y v)) ∧ Hid (Own wr w1.heap.size 76 2 encF v (y.a.fs.map (lowF q.pol y.a.l to val))) ∧ Hid (Grows w1 wr)) → Q0 (.exit 4) ⟨(x0 :: x1 :: (.string ⟨val.toArray⟩) :: (.pointer (some ⟨gP, 0, none⟩)) :: x4 :: x5 :: x6 :: (.slice A4 L c4) :: x8 :: x9 :: (.pointer (some ⟨gt, 0, none⟩)) :: x11 :: (.int .i64 (i : Int)) :: (.pointer (some ⟨ga, 0, none⟩)) :: u14 :: u15 :: x16 :: x17 :: x18 :: x19 :: x20 :: x21 :: x22 :: x23 :: x24 :: x25 :: x26 :: x27 :: x28 :: x29 :: x30 :: x31 :: x32 :: x33 :: x34 :: x35 :: x36 :: x37 :: x38 :: x39 :: x40 :: x41 :: x42 :: x43 :: x44 :: x45 :: x46 :: x47 :: x48 :: x49 :: x50 :: x51 :: x52 :: x53 :: x54 :: x55 :: x56 :: x57 :: x58 :: x59 :: x60 :: x61 :: x62 :: x63 :: x64 :: x65 :: x66 :: x67 :: x68 :: x69 :: x70 :: x71 :: x72 :: x73 :: u74 :: u75 :: u76 :: u77 :: u78 :: u79 :: u80 :: u81 :: u82 :: u83 :: u84 :: u85 :: u86 :: u87 :: u88 :: u89 :: u90 :: u91 :: u92 :: u93 :: u94 :: u95 :: u96 :: u97 :: u98 :: u99 :: u100 :: u101 :: u102 :: u103 :: u104 :: u105 :: u106 :: u107 :: u108 :: x109 :: x110 :: x111 :: x112 :: x113 :: x114 :: x115 :: x116 :: x117 :: x118 :: x119 :: x120 :: x121 :: x122 :: x123 :: x124 :: x125 :: x126 :: x127 :: x128 :: x129 :: x130 :: x131 :: x132 :: x133 :: x134 :: x135 :: x136 :: x137 :: x138 :: x139 :: x140 :: x141 :: x142 :: x143 :: x144 :: x145 :: x146 :: x147 :: x148 :: x149 :: x150 :: x151 :: []).toArray, []⟩ wr) :
    Code.wp Tryz.prog (loopIn Tryz.f8 2) Q0 ⟨(x0 :: x1 :: (.string ⟨val.toArray⟩) :: (.pointer (some ⟨gP, 0, none⟩)) :: x4 :: x5 :: x6 :: (.slice A4 L c4) :: x8 :: x9 :: (.pointer (some ⟨gt, 0, none⟩)) :: x11 :: (.int .i64 (i : Int)) :: (.pointer (some ⟨ga, 0, none⟩)) :: (.int .i64 0) :: x15 :: x16 :: x17 :: x18 :: x19 :: x20 :: x21 :: x22 :: x23 :: x24 :: x25 :: x26 :: x27 :: x28 :: x29 :: x30 :: x31 :: x32 :: x33 :: x34 :: x35 :: x36 :: x37 :: x38 :: x39 :: x40 :: x41 :: x42 :: x43 :: x44 :: x45 :: x46 :: x47 :: x48 :: x49 :: x50 :: x51 :: x52 :: x53 :: x54 :: x55 :: x56 :: x57 :: x58 :: x59 :: x60 :: x61 :: x62 :: x63 :: x64 :: x65 :: x66 :: x67 :: x68 :: x69 :: x70 :: x71 :: x72 :: x73 :: x74 :: x75 :: x76 :: x77 :: x78 :: x79 :: x80 :: x81 :: x82 :: x83 :: x84 :: x85 :: x86 :: x87 :: x88 :: x89 :: x90 :: x91 :: x92 :: x93 :: x94 :: x95 :: x96 :: x97 :: x98 :: x99 :: x100 :: x101 :: x102 :: x103 :: x104 :: x105 :: x106 :: x107 :: x108 :: x109 :: x110 :: x111 :: x112 :: x113 :: x114 :: x115 :: x116 :: x117 :: x118 :: x119 :: x120 :: x121 :: x122 :: x123 :: x124 :: x125 :: x126 :: x127 :: x128 :: x129 :: x130 :: x131 :: x132 :: x133 :: x134 :: x135 :: x136 :: x137 :: x138 :: x139 :: x140 :: x141 :: x142 :: x143 :: x144 :: x145 :: x146 :: x147 :: x148 :: x149 :: x150 :: x151 :: []).toArray, []⟩ wS := by
  conv => arg 2; whnf
  have hiL : i < L := by rw [← hO.out.1]; exact (List.getElem?_eq_some_iff.1 hy.out).1
  have hym := hyA.out.le
  have hml := Lib.hid hyA.out.arr.1
  go_loopw [14, 15] (fun kv _ wr2 => ∃ (k : Nat) (v : Value), k ≤ y.m ∧ kv = .int .i64 (k : Int) ∧ Hid (Blk wr2 ga 50 (alrV y v)) ∧ Hid (Own wr2 w1.heap.size 76 2 encF v ((y.a.fs.take k).map (lowF q.pol y.a.l to val))) ∧ Hid (Grows w1 wr2)) (fun kv _ _ => y.m - (intOf kv).toNat)
  case atStart => exact ⟨0, _, by omega, rfl, hA, Lib.hid (Own.nil_ _ _ _ _ _), hG1⟩
  case round =>
    clear hA hG1
    obtain ⟨k, v, hk, rfl, hA, hV, hG⟩ := hrel
    obtain ⟨bO, oO, y', rfl, hbO, hy', hcO⟩ := (hO.out.keep hG.out).at_ hiL
    rw [hy.out] at hy'
    injection hy' with hy'
    subst hy'
    have hili : (i : Int) < (L : Int) := by omega
    have y1 : wr.cell? ⟨bO, oO + i * 6 + 1, none⟩ = some (.slice y.A y.m y.k) := hcO 1 _ rfl
    by_cases hkm : k < y.m
    · obtain ⟨bF, oF, f, hyAe, hbF, hf, hcF⟩ := (hyA.out.arr.keep hG.out).at_ hkm
      have hkmi : (k : Int) < (y.m : Int) := by omega
      have f0 : wr.cell? ⟨bF, oF + k * 2, none⟩ = some (.string ⟨f.n.toArray⟩) := by simpa using hcF 0 _ rfl
      have f1 : wr.cell? ⟨bF, oF + k * 2 + 1, none⟩ = some (.string ⟨f.v.toArray⟩) := hcF 1 _ rfl
      have hsn := low_take (lowF q.pol y.a.l to val) hf
      rw [hyAe] at y1
      have hol : Hid (((y.a.fs.take k).map (lowF q.pol y.a.l to val)).length ≤ 1000) := Lib.hid (by rw [List.length_map, List.length_take]; omega)
      generalize (y.a.fs.take k).map (lowF q.pol y.a.l to val) = acc at *
      replace hsn := Lib.hid hsn
      clear hcF hcO hf
      have hRo : (raisedL q.pol f.n y.a.l).ok := raisedL_ok (fun x hx => hq.out.a.lab x hx) hyA.out.lab
      have hfF : Hid (lowF q.pol y.a.l to val f = if flowsL (raisedL q.pol f.n y.a.l) to then f else { f with v := val }) := Lib.hid rfl
      go_wp2_with fail
      have hg20 : Hid (Grows wr (wr.alloc (.cells #[.string ⟨f.n.toArray⟩, .string ⟨f.v.toArray⟩] 76))) := Lib.hid ((Grows.refl wr).alloc _)
      have hF := Lib.hid (Blk.new wr 76 #[.string ⟨f.n.toArray⟩, .string ⟨f.v.toArray⟩])
      have hgf : Hid (GLe2 wr wr.heap.size) := Lib.hid (Nat.le_refl _)
      generalize wr.alloc (.cells #[.string ⟨f.n.toArray⟩, .string ⟨f.v.toArray⟩] 76) = w20 at *
      generalize wr.heap.size = gf at hF hgf ⊢
      have hG20 := Lib.hid (hG.out.trans hg20.out)
      have hPc := hP.out.grows hG20.out
      have p0 : w20.cell? ⟨gP, 0, none⟩ = some (.slice q.s.A q.s.m q.s.k) := hPc.cell 0
      have p1 : w20.cell? ⟨gP, 1, none⟩ = some (.slice q.r.A q.r.m q.r.k) := hPc.cell 1
      have p2 : w20.cell? ⟨gP, 2, none⟩ = some (.slice q.e.A q.e.m q.e.k) := hPc.cell 2
      have p3 : w20.cell? ⟨gP, 3, none⟩ = some (.slice q.a.A q.a.m q.a.k) := hPc.cell 3
      have p4 : w20.cell? ⟨gP, 4, none⟩ = some (.slice q.oA q.om q.ok) := hPc.cell 4
      have p5 : w20.cell? ⟨gP, 5, none⟩ = some (.slice q.iA q.im q.ik) := hPc.cell 5
      have pl := hPc.lt
      have hTc := hT.out.grows hG20.out
      have t0 : w20.cell? ⟨gt, 0, none⟩ = some (.int .i64 to.lv) := hTc.cell 0
      have t1 : w20.cell? ⟨gt, 1, none⟩ = some (.int .u32 (to.c : Int)) := hTc.cell 1
      have tl := hTc.lt
      have hAc := hA.out.grows hg20.out
      have a2 : w20.cell? ⟨ga, 2, none⟩ = some (.int .i64 y.a.l.lv) := hAc.cell 2
      have a3 : w20.cell? ⟨ga, 3, none⟩ = some (.int .u32 (y.a.l.c : Int)) := hAc.cell 3
      have al := hAc.lt
      have e0 : w20.cell? ⟨gf, 0, none⟩ = some (.string ⟨f.n.toArray⟩) := hF.out.cell 0
      have el := hF.out.lt
      have cR := fun W (hW : Grows w20 W) => rraised_any (p := q) (n := f.n) (l := y.a.l) W (hq.out.keep (hG20.out.trans hW)) hyA.out.lab
      have cFl := fun W => refFlows_any (raisedL q.pol f.n y.a.l) to W hRo hto.out
      rw [show q.val = .agg #[.slice q.s.A q.s.m q.s.k, .slice q.r.A q.r.m q.r.k, .slice q.e.A q.e.m q.e.k, .slice q.a.A q.a.m q.a.k, .slice q.oA q.om q.ok, .slice q.iA q.im q.ik] from rfl] at cR
      generalize raisedL q.pol f.n y.a.l = R at *
      generalize flowsL R to = FL at *
      replace cR := Lib.hid cR
      replace cFl := Lib.hid cFl
      clear hPc hTc hAc hRo f0 f1 y1 hyAe hbF hbO
      refine wp_region_mixg [(0, true), (1, true), (2, true), (3, true), (4, true), (6, true), (5, false), (7, false), (8, true)] (by kernel_rfl) (by kernel_rfl) rfl (by kernel_rfl) (by intro c a d v w h; first | (cases d <;> exact h) | exact hQ0 _ _ _ _ _ h) ?_
      iterate 6 (refine wpMix_s rfl (fun K hK => ?_); go_simp; (try go_bits); first | (refine hK.out _ ?_; clear hK K) | (apply Exists.intro; refine ⟨fun wq hsq => ?_, hK.out _ ?_⟩; (first | (go_simp; done) | ((try go_simp); (try simp only [↓IntWalk.iteOmega]); (try go_bits); rfl) | (obtain ⟨hcq, hfq⟩ := bcells hsq; go_simp; done) | (obtain ⟨hcq, hfq⟩ := bcells hsq; (try go_simp); (try simp only [↓IntWalk.iteOmega]); (try go_bits); rfl)); clear hK K))
      refine wpMix_m rfl (fun K' hK => ?_)
      go_simp
      refine (cR.out _ (by
        repeat (first | assumption | exact Grows.refl _ | apply Grows.drew | apply Grows.drewN | refine Grows.alloc ?_ _ | (refine Grows.setCell ?_ (by first | (simp; done) | (simp; omega) | omega) _) | (refine Grows.trans ?_ (by assumption)))
      )).mono ?_
      rintro e w5 ⟨rfl, hb5⟩
      refine hK.out _ _ ?_ (fun hS => ?_)
      · repeat (first | assumption | exact Grows.refl _ | apply Grows.drew | apply Grows.drewN | refine Grows.alloc ?_ _ | (refine Grows.setCell ?_ (by first | (simp; done) | (simp; omega) | omega) _) | (refine Grows.trans ?_ (by assumption)))
      clear hK hS
      refine wpMix_m rfl (fun K' hK => ?_)
      go_simp
      refine (cFl.out _).mono ?_
      rintro e w6 ⟨rfl, hb6⟩
      refine hK.out _ _ ?_ (fun hS => ?_)
      · repeat (first | assumption | exact Grows.refl _ | apply Grows.drew | apply Grows.drewN | refine Grows.alloc ?_ _ | (refine Grows.setCell ?_ (by first | (simp; done) | (simp; omega) | omega) _) | (refine Grows.trans ?_ (by assumption)))
      clear hK hS
      iterate 1 (refine wpMix_s rfl (fun K hK => ?_); go_simp; (try go_bits); first | (refine hK.out _ ?_; clear hK K) | (apply Exists.intro; refine ⟨fun wq hsq => ?_, hK.out _ ?_⟩; (first | (go_simp; done) | ((try go_simp); (try simp only [↓IntWalk.iteOmega]); (try go_bits); rfl) | (obtain ⟨hcq, hfq⟩ := bcells hsq; go_simp; done) | (obtain ⟨hcq, hfq⟩ := bcells hsq; (try go_simp); (try simp only [↓IntWalk.iteOmega]); (try go_bits); rfl)); clear hK K))
      refine wpMix_nil ?_
      have h206 : Grows w20 w6 := (((Grows.refl w20).drew).trans hb5).trans hb6
      have hg6 : Hid (Grows wr w6) := Lib.hid (hg20.out.trans h206)
      have hF6 := Lib.hid (hF.out.grows h206)
      clear p0 p1 p2 p3 p4 p5 pl t0 t1 tl a2 a3 al e0 el cR cFl hb5 hb6 h206 hF hG20
      cases FL with
      | true =>
        have hfe : lowF q.pol y.a.l to val f = f := hfF.out
        rw [hfe] at hsn
        have hA6 := Lib.hid (hA.out.grows hg6.out)
        have hV6 := Lib.hid (hV.out.grows hg6.out)
        have hG6 := Lib.hid (hG.out.trans hg6.out)
        have e0 : w6.cell? ⟨gf, 0, none⟩ = some (.string ⟨f.n.toArray⟩) := hF6.out.cell 0
        have e1 : w6.cell? ⟨gf, 1, none⟩ = some (.string ⟨f.v.toArray⟩) := hF6.out.cell 1
        have el := hF6.out.lt
        have a1 : w6.cell? ⟨ga, 1, none⟩ = some v := hA6.out.cell 1
        have al := hA6.out.lt
        clear hA hV hG hg6 hF6 hfe hfF hg20
        go_wp2_with (at_builtin; (refine wpList_grown (x := f) T_ff rfl (.tmp 104) (.tmp 106) rfl (hV6.out.alloc _) rfl ⟨w6.heap.size, 0, none⟩ rfl rfl (news_of (by exact heap_alloc_new w6 _)) (oneF _) (by have := hG6.out.size; simp; omega) (by have := hol.out; unfold maxLen; omega) (by have := hol.out; omega) (fun v8 w8 hV8 hgr hat => ?_); (have hG8 := Lib.hid ((hG6.out.alloc (.cells #[.string ⟨f.n.toArray⟩, .string ⟨f.v.toArray⟩] 76)).by_row hgr hV6.out.block_ge)); (have hA8 : Hid (Blk w8 ga 50 (alrV y v)) := Lib.hid ((hgr.block ga (by have := hA6.out.lt; simp; omega) (fun e => own_ne hV6.out hA6.out (by decide) e.symm)).trans (hA6.out.alloc _))); (have q0 := hA8.out.cell 0); (have q1 := hA8.out.cell 1); (have q2 := hA8.out.cell 2); (have q3 := hA8.out.cell 3); (have q4 := hA8.out.cell 4); (have q5 := hA8.out.cell 5); (have qf := hA8.out.frozen 1); (have ql := hA8.out.lt); (obtain ⟨gb, cap, hv8⟩ := own_form hV8 (by simp)); (simp only [List.length_append, List.length_cons, List.length_nil, Nat.zero_add] at hv8); subst hv8; (replace hV8 := Lib.hid hV8); clear hgr hat))
        go_roundw
        case rel => exact ⟨k + 1, _, by omega, by go_num, Lib.hid (hA8.out.set_ 1 _), Lib.hid (by rw [hsn.out]; exact hV8.out.setNe' hA8.out (by decide) 1 _), Lib.hid (hG8.out.setCell (p := ⟨ga, 1, none⟩) hga.out _)⟩
        case measure => simp [intOf]; omega
      | false =>
        have hfe : lowF q.pol y.a.l to val f = { f with v := val } := hfF.out
        rw [hfe] at hsn
        have f0 := hF6.out.frozen 1
        have e0 : w6.cell? ⟨gf, 0, none⟩ = some (.string ⟨f.n.toArray⟩) := hF6.out.cell 0
        have e1 : w6.cell? ⟨gf, 1, none⟩ = some (.string ⟨f.v.toArray⟩) := hF6.out.cell 1
        have el := hF6.out.lt
        have hg7 : Hid (Grows wr (w6.setCell ⟨gf, 1, none⟩ (.string ⟨val.toArray⟩))) := Lib.hid (hg6.out.setCell (p := ⟨gf, 1, none⟩) hgf.out _)
        have hF7 : Hid (Blk (w6.setCell ⟨gf, 1, none⟩ (.string ⟨val.toArray⟩)) gf 76 #[.string ⟨f.n.toArray⟩, .string ⟨val.toArray⟩]) := Lib.hid (hF6.out.set_ 1 _)
        have hV6 := Lib.hid (hV.out.grows hg7.out)
        have hA6 := Lib.hid (hA.out.grows hg7.out)
        have hG6 := Lib.hid (hG.out.trans hg7.out)
        have a1 : _ = some v := hA6.out.cell 1
        have al := hA6.out.lt
        have e2 := hF7.out.cell 0
        have e3 := hF7.out.cell 1
        have el7 := hF7.out.lt
        iterate 12 go_step
        generalize w6.setCell ⟨gf, 1, none⟩ (.string ⟨val.toArray⟩) = w7 at *
        clear hA hV hG hg6 hF6 hfe hfF hg20 hg7 e0 e1 f0 el
        obtain ⟨f', hf'⟩ : ∃ f' : Fld, f' = { f with v := val } := ⟨_, rfl⟩
        have hfn : f.n = f'.n := by rw [hf']
        have hfv : val = f'.v := by rw [hf']
        rw [← hf'] at hsn
        rw [hfn] at e2
        rw [hfv] at e3
        clear hF7 hf' hfn hfv
        go_wp2_with (at_builtin; (refine wpList_grown (x := f') T_ff rfl (.tmp 104) (.tmp 106) rfl (hV6.out.alloc _) rfl ⟨w7.heap.size, 0, none⟩ rfl rfl (news_of (by exact heap_alloc_new w7 _)) (oneF _) (by have := hG6.out.size; simp; omega) (by have := hol.out; unfold maxLen; omega) (by have := hol.out; omega) (fun v8 w8 hV8 hgr hat => ?_); (have hG8 := Lib.hid ((hG6.out.alloc (.cells #[.string ⟨f'.n.toArray⟩, .string ⟨f'.v.toArray⟩] 76)).by_row hgr hV6.out.block_ge)); (have hA8 : Hid (Blk w8 ga 50 (alrV y v)) := Lib.hid ((hgr.block ga (by have := hA6.out.lt; simp; omega) (fun e => own_ne hV6.out hA6.out (by decide) e.symm)).trans (hA6.out.alloc _))); (have q0 := hA8.out.cell 0); (have q1 := hA8.out.cell 1); (have q2 := hA8.out.cell 2); (have q3 := hA8.out.cell 3); (have q4 := hA8.out.cell 4); (have q5 := hA8.out.cell 5); (have qf := hA8.out.frozen 1); (have ql := hA8.out.lt); (obtain ⟨gb, cap, hv8⟩ := own_form hV8 (by simp)); (simp only [List.length_append, List.length_cons, List.length_nil, Nat.zero_add] at hv8); subst hv8; (replace hV8 := Lib.hid hV8); clear hgr hat))
        go_roundw
        case rel => exact ⟨k + 1, _, by omega, by go_num, Lib.hid (hA8.out.set_ 1 _), Lib.hid (by rw [hsn.out]; exact hV8.out.setNe' hA8.out (by decide) 1 _), Lib.hid (hG8.out.setCell (p := ⟨ga, 1, none⟩) hga.out _)⟩
        case measure => simp [intOf]; omega
    · have hkmi : ¬ (k : Int) < (y.m : Int) := by omega
      rw [List.take_of_length_le (by rw [hml.out]; omega)] at hV
      go_wp2
      first | exact ⟨v, hA, hV⟩ | exact ⟨v, hA, hV, hG⟩
end Go.Proofs.YtfoffneipdkdjaaGreatDoor
