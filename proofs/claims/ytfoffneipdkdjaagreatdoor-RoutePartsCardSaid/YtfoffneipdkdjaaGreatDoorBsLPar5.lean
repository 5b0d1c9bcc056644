/- The walk of the law RouteParts: alert by alert. -/
import Derived.Test.YtfoffneipdkdjaaGreatDoorBsLPar4
namespace Go.Proofs.YtfoffneipdkdjaaGreatDoor
open Go.RowKit Go.Maps

theorem goes_id {fb : Mat → Bool} {p : Pol} {rec : List UInt8} {a c : Alr} {now : Int} {A : Option Addr} {k : Nat} (hck : checkL fb p = 0) (h : seesA p rec a now = some c) : IdOK ⟨c, A, c.fs.length, k⟩ := by
  obtain ⟨_, h1, h2, h3⟩ := sees_info hck h
  exact ⟨by show c.src.length ≤ 1000; omega, by show c.fs.length ≤ 100; omega, h3⟩
theorem Own.setNe {α : Type} {w : World} {b0 k gc : Nat} {e t : TypeId} {enc : α → List Value} {v : Value} {xs : List α} {cs : Array Value} (h : Own w b0 e k enc v xs) (hB : Blk w gc t cs) (hne : e ≠ t) (i : Nat) (u : Value) : Own (w.setCell ⟨gc, i, none⟩ u) b0 e k enc v xs :=
  h.kept' (grownBy_cell w ⟨gc, i, none⟩ u) (fun g hg hv => by injection hg with hg; subst hg; exact own_ne h hB hne hv)
set_option maxRecDepth 100000 in
set_option maxHeartbeats 6400000 in
theorem parts_lC {fb : Mat → Bool} {ft : List Fld → Mat → Bool} {q : PolX} {nm : Nam} {own : List AlrX} {now : Int} {gP n m5 c5 b5 L c4 : Nat} {A4 A5 : Option Addr} {gs : List GrpX} {wS : World} {Q0 : Exit → Act → World → Prop} {x0 x1 x4 x5 x6 x8 x12 x13 x15 x16 x17 x18 x19 x20 x21 x22 x23 x24 x25 x26 x27 x28 x29 x30 x31 x32 x33 x34 x35 x36 x37 x38 x39 x40 x41 x42 x43 x44 x45 x46 x47 x48 x49 x50 x51 x52 x53 x54 x55 x56 x57 x58 x59 x60 x61 x62 x63 x64 x65 x66 x67 x68 x69 x70 x71 x72 x73 x74 x75 x76 x77 x78 x79 x80 x81 x82 x83 x84 x85 x86 x87 x88 x89 x90 x91 x92 x93 x94 x95 x96 x97 x98 x99 x100 x101 x102 x103 x104 x105 x106 x107 x108 x109 x110 x111 x112 x113 x114 x115 x116 x117 x118 x119 x120 x121 x122 x123 x124 x125 x126 x127 x128 x129 x130 x131 x132 x133 x134 x135 x136 x137 x138 x139 x140 x141 x142 x143 x144 x145 x146 x147 x148 x149 x150 x151 x152 x153 x154 x155 x156 x157 x158 x159 x160 x161 x162 x163 x164 x165 x166 x167 x168 x169 x170 x171 x172 x173 x174 x175 x176 x177 x178 x179 x180 x181 x182 x183 x184 x185 x186 x187 x188 x189 x190 x191 x192 x193 x194 x195 x196 x197 x198 x199 x200 x201 x202 x203 x204 x205 : Value}
    (hfb : Hid (∀ x : PolX, FinesOK fb x)) (hft : Hid (∀ x : PolX, FitssOK ft x)) (hP : Hid (Blk wS gP 32 (polC q))) (hq : Hid (q.At wS)) (hO : Hid (Arr wS 6 encA A4 L own)) (hat : Hid (∀ y ∈ own, y.At wS)) (hX : Hid (Arr wS 4 encG A5 m5 gs)) (hI : Hid (GrpsAt wS b5 gs)) (hss : Hid (∀ x ∈ gs, SortU x.ids)) (hnm : Hid (q.r.l[n]? = some nm)) (hin : Hid (∀ y ∈ own, ∀ r ∈ goesL fb ft q.pol nm.n y.a now, ∃ c, cutA q.pol y.a nm.l = some c ∧ seesA q.pol nm.n y.a now = some c ∧ checkL fb q.pol = 0 ∧ cntG r (pickF c.fs (namesAt q.pol r)) (idA c) (gs.map GrpX.g) = 1)) (hm5 : m5 ≤ 9223372036854775807) (hL : L ≤ 12)
    (hQ0 : ∀ c a d v w, Q0 (.panic c) (Act.put a d v) w → Q0 (.panic c) a w)
    (hexit : ∀ (u6 u14 u15 u16 u17 u18 u19 u20 u21 u104 u105 u106 u107 u108 u109 u110 u111 u112 u113 u114 u115 u116 u117 u118 u119 u120 u121 u122 u123 u124 u125 u126 u127 u128 u129 u130 u131 u132 u133 u134 u135 u136 u137 u138 u139 u140 u141 u142 u143 u144 u145 u146 u147 u148 u149 u150 u151 u152 u153 u154 u155 u156 u157 u158 u159 u160 u161 u162 u163 u164 u165 u166 u167 u168 u169 u170 u171 u172 u173 u174 u175 u176 u177 u178 u179 u180 u181 u182 u183 u184 u185 u186 u187 u188 u189 u190 u191 u192 u193 u194 u195 u196 u197 u198 u199 u200 u201 u202 u203 u204 u205 : Value) (wr : World), (Hid (Grows wS wr)) → Q0 (.exit 6) ⟨(x0 :: x1 :: (.int .i64 now) :: (.pointer (some ⟨gP, 0, none⟩)) :: x4 :: x5 :: u6 :: (.slice A4 L c4) :: x8 :: (.int .i64 (n : Int)) :: (.string ⟨nm.n.toArray⟩) :: (.slice A5 m5 c5) :: x12 :: x13 :: u14 :: u15 :: u16 :: u17 :: u18 :: u19 :: u20 :: u21 :: x22 :: x23 :: x24 :: x25 :: x26 :: x27 :: x28 :: x29 :: x30 :: x31 :: x32 :: x33 :: x34 :: x35 :: x36 :: x37 :: x38 :: x39 :: x40 :: x41 :: x42 :: x43 :: x44 :: x45 :: x46 :: x47 :: x48 :: x49 :: x50 :: x51 :: x52 :: x53 :: x54 :: x55 :: x56 :: x57 :: x58 :: x59 :: x60 :: x61 :: x62 :: x63 :: x64 :: x65 :: x66 :: x67 :: x68 :: x69 :: x70 :: x71 :: x72 :: x73 :: x74 :: x75 :: x76 :: x77 :: x78 :: x79 :: x80 :: x81 :: x82 :: x83 :: x84 :: x85 :: x86 :: x87 :: x88 :: x89 :: x90 :: x91 :: x92 :: x93 :: x94 :: x95 :: x96 :: x97 :: x98 :: x99 :: x100 :: x101 :: x102 :: x103 :: u104 :: u105 :: u106 :: u107 :: u108 :: u109 :: u110 :: u111 :: u112 :: u113 :: u114 :: u115 :: u116 :: u117 :: u118 :: u119 :: u120 :: u121 :: u122 :: u123 :: u124 :: u125 :: u126 :: u127 :: u128 :: u129 :: u130 :: u131 :: u132 :: u133 :: u134 :: u135 :: u136 :: u137 :: u138 :: u139 :: u140 :: u141 :: u142 :: u143 :: u144 :: u145 :: u146 :: u147 :: u148 :: u149 :: u150 :: u151 :: u152 :: u153 :: u154 :: u155 :: u156 :: u157 :: u158 :: u159 :: u160 :: u161 :: u162 :: u163 :: u164 :: u165 :: u166 :: u167 :: u168 :: u169 :: u170 :: u171 :: u172 :: u173 :: u174 :: u175 :: u176 :: u177 :: u178 :: u179 :: u180 :: u181 :: u182 :: u183 :: u184 :: u185 :: u186 :: u187 :: u188 :: u189 :: u190 :: u191 :: u192 :: u193 :: u194 :: u195 :: u196 :: u197 :: u198 :: u199 :: u200 :: u201 :: u202 :: u203 :: u204 :: u205 :: []).toArray, []⟩ wr) :
    Code.wp Tryz.prog (loopIn Tryz.f4 3) Q0 ⟨(x0 :: x1 :: (.int .i64 now) :: (.pointer (some ⟨gP, 0, none⟩)) :: x4 :: x5 :: x6 :: (.slice A4 L c4) :: x8 :: (.int .i64 (n : Int)) :: (.string ⟨nm.n.toArray⟩) :: (.slice A5 m5 c5) :: x12 :: x13 :: (.int .i64 0) :: x15 :: x16 :: x17 :: x18 :: x19 :: x20 :: x21 :: x22 :: x23 :: x24 :: x25 :: x26 :: x27 :: x28 :: x29 :: x30 :: x31 :: x32 :: x33 :: x34 :: x35 :: x36 :: x37 :: x38 :: x39 :: x40 :: x41 :: x42 :: x43 :: x44 :: x45 :: x46 :: x47 :: x48 :: x49 :: x50 :: x51 :: x52 :: x53 :: x54 :: x55 :: x56 :: x57 :: x58 :: x59 :: x60 :: x61 :: x62 :: x63 :: x64 :: x65 :: x66 :: x67 :: x68 :: x69 :: x70 :: x71 :: x72 :: x73 :: x74 :: x75 :: x76 :: x77 :: x78 :: x79 :: x80 :: x81 :: x82 :: x83 :: x84 :: x85 :: x86 :: x87 :: x88 :: x89 :: x90 :: x91 :: x92 :: x93 :: x94 :: x95 :: x96 :: x97 :: x98 :: x99 :: x100 :: x101 :: x102 :: x103 :: x104 :: x105 :: x106 :: x107 :: x108 :: x109 :: x110 :: x111 :: x112 :: x113 :: x114 :: x115 :: x116 :: x117 :: x118 :: x119 :: x120 :: x121 :: x122 :: x123 :: x124 :: x125 :: x126 :: x127 :: x128 :: x129 :: x130 :: x131 :: x132 :: x133 :: x134 :: x135 :: x136 :: x137 :: x138 :: x139 :: x140 :: x141 :: x142 :: x143 :: x144 :: x145 :: x146 :: x147 :: x148 :: x149 :: x150 :: x151 :: x152 :: x153 :: x154 :: x155 :: x156 :: x157 :: x158 :: x159 :: x160 :: x161 :: x162 :: x163 :: x164 :: x165 :: x166 :: x167 :: x168 :: x169 :: x170 :: x171 :: x172 :: x173 :: x174 :: x175 :: x176 :: x177 :: x178 :: x179 :: x180 :: x181 :: x182 :: x183 :: x184 :: x185 :: x186 :: x187 :: x188 :: x189 :: x190 :: x191 :: x192 :: x193 :: x194 :: x195 :: x196 :: x197 :: x198 :: x199 :: x200 :: x201 :: x202 :: x203 :: x204 :: x205 :: []).toArray, []⟩ wS := by
  conv => arg 2; whnf
  go_loopw [14, 15, 16, 17, 18, 19, 20, 21] (fun iv _ _ _ _ _ _ _ wr2 => ∃ i : Nat, i ≤ L ∧ iv = .int .i64 (i : Int) ∧ Hid (Grows wS wr2)) (fun iv _ _ _ _ _ _ _ _ => L - (intOf iv).toNat)
  case atStart => exact ⟨0, by omega, rfl, Lib.hid (Grows.refl _)⟩
  case round =>
    obtain ⟨i, hi, rfl, hgw⟩ := hrel
    by_cases hil : i < L
    · have hili : (i : Int) < (L : Int) := by omega
      have hQ := hP.out.grows hgw.out
      obtain ⟨bO, oO, y, rfl, hbO, hy, hcO⟩ := (hO.out.keep hgw.out).at_ hil
      have hyin := List.mem_of_getElem? hy
      have hnr : n < q.r.m := by rw [← hq.out.r.arr.1]; exact (List.getElem?_eq_some_iff.1 hnm.out).1
      obtain ⟨bN, oN, nm', hrA, hbN, hnm', hcN⟩ := (hq.out.r.arr.keep hgw.out).at_ hnr
      have hnm2 := hnm.out
      rw [hnm'] at hnm2
      injection hnm2 with hnm2
      subst hnm2
      have hlab := hq.out.r.lab nm' (List.mem_of_getElem? hnm')
      have hnri : (n : Int) < (q.r.m : Int) := by omega
      have n1 : wr.cell? ⟨bN, oN + n * 3 + 1, none⟩ = some (.int .i64 nm'.l.lv) := hcN 1 _ rfl
      have n2 : wr.cell? ⟨bN, oN + n * 3 + 2, none⟩ = some (.int .u32 (nm'.l.c : Int)) := hcN 2 _ rfl
      have p0 : wr.cell? ⟨gP, 0, none⟩ = some (.slice q.s.A q.s.m q.s.k) := hQ.cell 0
      have p1 : wr.cell? ⟨gP, 1, none⟩ = some (.slice q.r.A q.r.m q.r.k) := hQ.cell 1
      have p2 : wr.cell? ⟨gP, 2, none⟩ = some (.slice q.e.A q.e.m q.e.k) := hQ.cell 2
      have p3 : wr.cell? ⟨gP, 3, none⟩ = some (.slice q.a.A q.a.m q.a.k) := hQ.cell 3
      have p4 : wr.cell? ⟨gP, 4, none⟩ = some (.slice q.oA q.om q.ok) := hQ.cell 4
      have p5 : wr.cell? ⟨gP, 5, none⟩ = some (.slice q.iA q.im q.ik) := hQ.cell 5
      have pl := hQ.lt
      have y0 : wr.cell? ⟨bO, oO + i * 6, none⟩ = some (.string ⟨y.a.src.toArray⟩) := by simpa using hcO 0 _ rfl
      have y1 : wr.cell? ⟨bO, oO + i * 6 + 1, none⟩ = some (.slice y.A y.m y.k) := hcO 1 _ rfl
      have y2 : wr.cell? ⟨bO, oO + i * 6 + 2, none⟩ = some (.int .i64 y.a.l.lv) := hcO 2 _ rfl
      have y3 : wr.cell? ⟨bO, oO + i * 6 + 3, none⟩ = some (.int .u32 (y.a.l.c : Int)) := hcO 3 _ rfl
      have y4 : wr.cell? ⟨bO, oO + i * 6 + 4, none⟩ = some (.int .i64 y.a.f) := hcO 4 _ rfl
      have y5 : wr.cell? ⟨bO, oO + i * 6 + 5, none⟩ = some (.int .i64 y.a.t) := hcO 5 _ rfl
      have cC := fun W (hW : Grows wr W) => cut_any (p := q) (a := y) (to := nm'.l) W (hq.out.keep (hgw.out.trans hW)) ((hat.out y hyin).keep (hgw.out.trans hW)) hlab
      have cG := fun W (hW : Grows wr W) => goes_any (p := q) (rec := nm'.n) (a := y) (now := now) W (hq.out.keep (hgw.out.trans hW)) (hfb.out q) (hft.out q) ((hat.out y hyin).keep (hgw.out.trans hW))
      have hF : ∀ r ∈ goesL fb ft q.pol nm'.n y.a now, ∃ c rx, cutA q.pol y.a nm'.l = some c ∧ (∀ A k, IdOK ⟨c, A, c.fs.length, k⟩) ∧ q.o[r]? = some rx ∧ cntG r (pickF c.fs rx.r.by_) (idA c) (gs.map GrpX.g) = 1 := by
        intro r hr
        obtain ⟨c, h1, h2, h3, h4⟩ := hin.out y hyin r hr
        obtain ⟨t, ht, _⟩ := goesL_at hr
        rw [show q.pol.routes = q.o.map (·.r) from rfl, List.getElem?_map] at ht
        cases hrx : q.o[r]? with
        | none => rw [hrx] at ht; cases ht
        | some rx =>
          rw [namesAt_of hrx] at h4
          exact ⟨c, rx, h1, fun A k => goes_id h3 h2, rfl, h4⟩
      rw [show q.val = .agg #[.slice q.s.A q.s.m q.s.k, .slice q.r.A q.r.m q.r.k, .slice q.e.A q.e.m q.e.k, .slice q.a.A q.a.m q.a.k, .slice q.oA q.om q.ok, .slice q.iA q.im q.ik] from rfl, show valA y = .agg #[.string ⟨y.a.src.toArray⟩, .slice y.A y.m y.k, .int .i64 y.a.l.lv, .int .u32 (y.a.l.c : Int), .int .i64 y.a.f, .int .i64 y.a.t] from rfl] at cC cG
      rw [hrA] at p1 cC cG
      generalize goesL fb ft q.pol nm'.n y.a now = F at *
      generalize cutA q.pol y.a nm'.l = S at *
      replace cC := Lib.hid cC
      replace cG := Lib.hid cG
      replace hF := Lib.hid hF
      have hgL := Lib.hid (Grows.refl wr)
      clear hcO hcN hQ hy hnm' hlab hyin
      cases S with
      | none =>
        simp only [Option.isSome_none] at cC
        have hF0 : F = [] := parts_none (fun r hr => by obtain ⟨c, rx, h, _⟩ := hF.out r hr; cases h)
        subst hF0
        go_wp2_with fail
        refine wp_region_k (by kernel_rfl) ?_
        refine wpAnyK_run (l' := #[true, true, true, true, true, true, true, true, true, true, true, false, false, false, false, false, false, false]) [0, 1, 2, 3, 4, 5, 6, 7, 8, 9, 10] 7 up_grows (by kernel_rfl) (by intro c a d v w h; first | (cases d <;> exact h) | exact hQ0 _ _ _ _ _ h) rfl (by kernel_rfl) (by kernel_rfl) ?_
        iterate 11 (refine wpMixC_q rfl (fun K hK => ?_); go_simp; (try go_bits); first | (refine hK.out _ ?_; clear hK K) | (apply Exists.intro; refine ⟨fun wq hsq => ?_, hK.out _ ?_⟩; (first | (go_simp; done) | ((try go_simp); (try simp only [↓IntWalk.iteOmega]); (try go_bits); rfl) | (obtain ⟨hcq, hfq⟩ := bcells hsq; go_simp; done) | (obtain ⟨hcq, hfq⟩ := bcells hsq; (try go_simp); (try simp only [↓IntWalk.iteOmega]); (try go_bits); rfl)); clear hK K))
        refine wpMixC_nil ?_
        refine wpAnyK_alt [11, 15] (by kernel_rfl) (by simp) (fun wN hN hS => (AllReadyK.cons rfl (fun K' hK => ?_) (AllReadyK.cons rfl (fun K' hK => ?_) AllReadyK.nil)))
        · skip
          try replace hBk := Lib.hid (hBk.out.grows hN)
          try replace hO5 := Lib.hid (hO5.out.grows hN)
          try replace hE := Lib.hid (hE.out.grows hN)
          try replace hO9 := Lib.hid (hO9.out.grows hN)
          try replace hG9 := Lib.hid (hG9.out.trans hN)
          try replace hgL := Lib.hid (hgL.out.trans hN)
          clear hN
          go_simp
          refine (cC.out _ hgL.out).mono ?_
          rintro e w5 ⟨v5, rfl, hv5, hb5⟩
          obtain rfl : v5 = noneA := hv5
          unfold noneA
          try replace hBk := Lib.hid (hBk.out.grows hb5)
          replace hgL := Lib.hid (hgL.out.trans hb5)
          refine hK.out _ _ ?_ (fun hS => ?_)
          · exact hgL.out
          clear hb5
          clear hK hS
          refine wpAnyK_run (l' := #[true, true, true, true, true, true, true, true, true, true, true, true, true, true, true, false, false, false]) [12, 13, 14] 3 up_grows (by kernel_rfl) (by intro c a d v w h; first | (cases d <;> exact h) | exact hQ0 _ _ _ _ _ h) rfl (by kernel_rfl) (by kernel_rfl) ?_
          iterate 3 (refine wpMixC_q rfl (fun K hK => ?_); go_simp; (try go_bits); first | (refine hK.out _ ?_; clear hK K) | (apply Exists.intro; refine ⟨fun wq hsq => ?_, hK.out _ ?_⟩; (first | (go_simp; done) | ((try go_simp); (try simp only [↓IntWalk.iteOmega]); (try go_bits); rfl) | (obtain ⟨hcq, hfq⟩ := bcells hsq; go_simp; done) | (obtain ⟨hcq, hfq⟩ := bcells hsq; (try go_simp); (try simp only [↓IntWalk.iteOmega]); (try go_bits); rfl)); clear hK K))
          refine wpMixC_nil ?_
          refine wpAnyK_alt [15] (by kernel_rfl) (by simp) (fun wN hN hS => (AllReadyK.cons rfl (fun K' hK => ?_) AllReadyK.nil))
          try replace hBk := Lib.hid (hBk.out.grows hN)
          try replace hO5 := Lib.hid (hO5.out.grows hN)
          try replace hE := Lib.hid (hE.out.grows hN)
          try replace hO9 := Lib.hid (hO9.out.grows hN)
          try replace hG9 := Lib.hid (hG9.out.trans hN)
          try replace hgL := Lib.hid (hgL.out.trans hN)
          clear hN
          go_simp
          have hBk := Lib.hid (Blk.new wN 50 zeroC)
          have hgc : Hid (wr.heap.size ≤ wN.heap.size) := Lib.hid hgL.out.size
          replace hgL := Lib.hid (hgL.out.alloc (.cells zeroC 50))
          try replace hO5 := Lib.hid (hO5.out.alloc (.cells zeroC 50))
          refine hK.out _ _ ?_ (fun hS => ?_)
          · exact hgL.out
          generalize wN.heap.size = gc at *
          clear hK hS
          refine wpAnyK_alt [16] (by kernel_rfl) (by simp) (fun wN hN hS => (AllReadyK.cons rfl (fun K' hK => ?_) AllReadyK.nil))
          try replace hBk := Lib.hid (hBk.out.grows hN)
          try replace hO5 := Lib.hid (hO5.out.grows hN)
          try replace hE := Lib.hid (hE.out.grows hN)
          try replace hO9 := Lib.hid (hO9.out.grows hN)
          try replace hG9 := Lib.hid (hG9.out.trans hN)
          try replace hgL := Lib.hid (hgL.out.trans hN)
          clear hN
          have b0 := hBk.out
          have g0 := hgL.out
          have b1 := b0.set_ 0 (.string ⟨#[]⟩)
          have g1 := g0.setCell (p := ⟨gc, 0, none⟩) hgc.out (.string ⟨#[]⟩)
          have b2 := b1.set_ 1 (.slice none 0 0)
          have g2 := g1.setCell (p := ⟨gc, 1, none⟩) hgc.out (.slice none 0 0)
          have b3 := b2.set_ 2 (.int .i64 0)
          have g3 := g2.setCell (p := ⟨gc, 2, none⟩) hgc.out (.int .i64 0)
          have b4 := b3.set_ 3 (.int .u32 0)
          have g4 := g3.setCell (p := ⟨gc, 3, none⟩) hgc.out (.int .u32 0)
          have b5 := b4.set_ 4 (.int .i64 0)
          have g5 := g4.setCell (p := ⟨gc, 4, none⟩) hgc.out (.int .i64 0)
          have b6 := b5.set_ 5 (.int .i64 0)
          have g6 := g5.setCell (p := ⟨gc, 5, none⟩) hgc.out (.int .i64 0)
          obtain ⟨z0, z1, z2, z3, z4, z5, zf, zl⟩ := zero_cells hBk.out
          have hE := Lib.hid b6
          have hG9 := Lib.hid g6
          clear b0 g0 b1 g1 b2 g2 b3 g3 b4 g4 b5 g5 b6 g6
          go_simp
          refine hK.out _ _ ?_ (fun hS => ?_)
          · exact hG9.out
          clear z0 z1 z2 z3 z4 z5 zf zl hBk hgL
          generalize ((((((wN.setCell ⟨gc, 0, none⟩ (.string ⟨#[]⟩)).setCell ⟨gc, 1, none⟩ (.slice none 0 0)).setCell ⟨gc, 2, none⟩ (.int .i64 0)).setCell ⟨gc, 3, none⟩ (.int .u32 0)).setCell ⟨gc, 4, none⟩ (.int .i64 0)).setCell ⟨gc, 5, none⟩ (.int .i64 0)) = w9 at *
          clear hK hS
          refine wpAnyK_run (l' := #[true, true, true, true, true, true, true, true, true, true, true, true, true, true, true, true, true, true]) [17] 0 up_grows (by kernel_rfl) (by intro c a d v w h; first | (cases d <;> exact h) | exact hQ0 _ _ _ _ _ h) rfl (by kernel_rfl) (by kernel_rfl) ?_
          iterate 1 (refine wpMixC_q rfl (fun K hK => ?_); go_simp; (try go_bits); first | (refine hK.out _ ?_; clear hK K) | (apply Exists.intro; refine ⟨fun wq hsq => ?_, hK.out _ ?_⟩; (first | (go_simp; done) | ((try go_simp); (try simp only [↓IntWalk.iteOmega]); (try go_bits); rfl) | (obtain ⟨hcq, hfq⟩ := bcells hsq; go_simp; done) | (obtain ⟨hcq, hfq⟩ := bcells hsq; (try go_simp); (try simp only [↓IntWalk.iteOmega]); (try go_bits); rfl)); clear hK K))
          refine wpMixC_nil ?_
          refine wpAnyK_end (by kernel_rfl) (fun wN hN hS => ?_)
          try replace hBk := Lib.hid (hBk.out.grows hN)
          try replace hO5 := Lib.hid (hO5.out.grows hN)
          try replace hE := Lib.hid (hE.out.grows hN)
          try replace hO9 := Lib.hid (hO9.out.grows hN)
          try replace hG9 := Lib.hid (hG9.out.trans hN)
          try replace hgL := Lib.hid (hgL.out.trans hN)
          have hbO9 := Nat.lt_of_lt_of_le hbO hG9.out.size
          have pl9 := Nat.lt_of_lt_of_le pl hG9.out.size
          have hbN9 := Nat.lt_of_lt_of_le hbN hG9.out.size
          replace p0 := hG9.out.cell p0
          replace p1 := hG9.out.cell p1
          replace p2 := hG9.out.cell p2
          replace p3 := hG9.out.cell p3
          replace p4 := hG9.out.cell p4
          replace p5 := hG9.out.cell p5
          replace y0 := hG9.out.cell y0
          replace y1 := hG9.out.cell y1
          replace y2 := hG9.out.cell y2
          replace y3 := hG9.out.cell y3
          replace y4 := hG9.out.cell y4
          replace y5 := hG9.out.cell y5
          have cG9 := Lib.hid (fun W (hW : Grows wN W) => cG.out W (hG9.out.trans hW))
          have hgw9 := Lib.hid (hgw.out.trans hG9.out)
          clear cC cG hgw hG9 hN hS hbO pl n1 n2 hbN
          go_wp2_with fail
          refine wp_region_mixg [(0, true), (1, true), (2, true), (3, true), (4, true), (5, true), (6, true), (7, false), (8, true)] (by kernel_rfl) (by kernel_rfl) rfl (by kernel_rfl) (by intro c a d v w h; first | (cases d <;> exact h) | exact hQ0 _ _ _ _ _ h) ?_
          iterate 7 (refine wpMix_s rfl (fun K hK => ?_); go_simp; (try go_bits); first | (refine hK.out _ ?_; clear hK K) | (apply Exists.intro; refine ⟨fun wq hsq => ?_, hK.out _ ?_⟩; (first | (go_simp; done) | ((try go_simp); (try simp only [↓IntWalk.iteOmega]); (try go_bits); rfl) | (obtain ⟨hcq, hfq⟩ := bcells hsq; go_simp; done) | (obtain ⟨hcq, hfq⟩ := bcells hsq; (try go_simp); (try simp only [↓IntWalk.iteOmega]); (try go_bits); rfl)); clear hK K))
          refine wpMix_m rfl (fun K' hK => ?_)
          go_simp
          refine (cG9.out _ (by
            repeat (first | assumption | exact Grows.refl _ | apply Grows.drew | apply Grows.drewN | refine Grows.alloc ?_ _ | (refine Grows.setCell ?_ (by first | (simp; done) | (simp; omega) | omega) _) | (refine Grows.trans ?_ (by assumption)))
          )).mono ?_
          rintro e w7 ⟨v7, rfl, hO7, hb7⟩
          obtain ⟨A7, c7, rfl, hl7, hc7, hX7⟩ := hO7.arr hkI
          clear hO7
          refine hK.out _ _ ?_ (fun hS => ?_)
          · repeat (first | assumption | exact Grows.refl _ | apply Grows.drew | apply Grows.drewN | refine Grows.alloc ?_ _ | (refine Grows.setCell ?_ (by first | (simp; done) | (simp; omega) | omega) _) | (refine Grows.trans ?_ (by assumption)))
          clear hK hS
          iterate 1 (refine wpMix_s rfl (fun K hK => ?_); go_simp; (try go_bits); first | (refine hK.out _ ?_; clear hK K) | (apply Exists.intro; refine ⟨fun wq hsq => ?_, hK.out _ ?_⟩; (first | (go_simp; done) | ((try go_simp); (try simp only [↓IntWalk.iteOmega]); (try go_bits); rfl) | (obtain ⟨hcq, hfq⟩ := bcells hsq; go_simp; done) | (obtain ⟨hcq, hfq⟩ := bcells hsq; (try go_simp); (try simp only [↓IntWalk.iteOmega]); (try go_bits); rfl)); clear hK K))
          refine wpMix_nil ?_
          have hb9 : Grows wN w7 := by
            repeat (first | assumption | exact Grows.refl _ | apply Grows.drew | apply Grows.drewN | refine Grows.alloc ?_ _ | (refine Grows.setCell ?_ (by first | (simp; done) | (simp; omega) | omega) _) | (refine Grows.trans ?_ (by assumption)))
          have hgz := Lib.hid (hgw9.out.trans hb9)
          clear p0 p1 p2 p3 p4 p5 y0 y1 y2 y3 y4 y5 cG9 hgw9 hX7
          (try simp only [List.length_nil])
          go_wp2_with fail
          refine parts_lD0 (by intro c a d v w h; first | (cases d <;> exact h) | exact hQ0 _ _ _ _ _ h) ?_
          intros
          rename_i wz hz
          have hgz2 := Lib.hid (hgz.out.trans hz.out)
          clear hgz hz
          go_wp2
          go_roundw
          case rel => exact ⟨i + 1, by omega, by go_num, hgz2⟩
          case measure => simp [intOf]; omega
        · skip
          try replace hBk := Lib.hid (hBk.out.grows hN)
          try replace hO5 := Lib.hid (hO5.out.grows hN)
          try replace hE := Lib.hid (hE.out.grows hN)
          try replace hO9 := Lib.hid (hO9.out.grows hN)
          try replace hG9 := Lib.hid (hG9.out.trans hN)
          try replace hgL := Lib.hid (hgL.out.trans hN)
          clear hN
          go_simp
          have hBk := Lib.hid (Blk.new wN 50 zeroC)
          have hgc : Hid (wr.heap.size ≤ wN.heap.size) := Lib.hid hgL.out.size
          replace hgL := Lib.hid (hgL.out.alloc (.cells zeroC 50))
          try replace hO5 := Lib.hid (hO5.out.alloc (.cells zeroC 50))
          refine hK.out _ _ ?_ (fun hS => ?_)
          · exact hgL.out
          generalize wN.heap.size = gc at *
          clear hK hS
          refine wpAnyK_alt [11] (by kernel_rfl) (by simp) (fun wN hN hS => (AllReadyK.cons rfl (fun K' hK => ?_) AllReadyK.nil))
          try replace hBk := Lib.hid (hBk.out.grows hN)
          try replace hO5 := Lib.hid (hO5.out.grows hN)
          try replace hE := Lib.hid (hE.out.grows hN)
          try replace hO9 := Lib.hid (hO9.out.grows hN)
          try replace hG9 := Lib.hid (hG9.out.trans hN)
          try replace hgL := Lib.hid (hgL.out.trans hN)
          clear hN
          go_simp
          refine (cC.out _ hgL.out).mono ?_
          rintro e w5 ⟨v5, rfl, hv5, hb5⟩
          obtain rfl : v5 = noneA := hv5
          unfold noneA
          try replace hBk := Lib.hid (hBk.out.grows hb5)
          replace hgL := Lib.hid (hgL.out.trans hb5)
          refine hK.out _ _ ?_ (fun hS => ?_)
          · exact hgL.out
          clear hb5
          clear hK hS
          refine wpAnyK_run (l' := #[true, true, true, true, true, true, true, true, true, true, true, true, true, true, true, true, false, false]) [12, 13, 14] 2 up_grows (by kernel_rfl) (by intro c a d v w h; first | (cases d <;> exact h) | exact hQ0 _ _ _ _ _ h) rfl (by kernel_rfl) (by kernel_rfl) ?_
          iterate 3 (refine wpMixC_q rfl (fun K hK => ?_); go_simp; (try go_bits); first | (refine hK.out _ ?_; clear hK K) | (apply Exists.intro; refine ⟨fun wq hsq => ?_, hK.out _ ?_⟩; (first | (go_simp; done) | ((try go_simp); (try simp only [↓IntWalk.iteOmega]); (try go_bits); rfl) | (obtain ⟨hcq, hfq⟩ := bcells hsq; go_simp; done) | (obtain ⟨hcq, hfq⟩ := bcells hsq; (try go_simp); (try simp only [↓IntWalk.iteOmega]); (try go_bits); rfl)); clear hK K))
          refine wpMixC_nil ?_
          refine wpAnyK_alt [16] (by kernel_rfl) (by simp) (fun wN hN hS => (AllReadyK.cons rfl (fun K' hK => ?_) AllReadyK.nil))
          try replace hBk := Lib.hid (hBk.out.grows hN)
          try replace hO5 := Lib.hid (hO5.out.grows hN)
          try replace hE := Lib.hid (hE.out.grows hN)
          try replace hO9 := Lib.hid (hO9.out.grows hN)
          try replace hG9 := Lib.hid (hG9.out.trans hN)
          try replace hgL := Lib.hid (hgL.out.trans hN)
          clear hN
          have b0 := hBk.out
          have g0 := hgL.out
          have b1 := b0.set_ 0 (.string ⟨#[]⟩)
          have g1 := g0.setCell (p := ⟨gc, 0, none⟩) hgc.out (.string ⟨#[]⟩)
          have b2 := b1.set_ 1 (.slice none 0 0)
          have g2 := g1.setCell (p := ⟨gc, 1, none⟩) hgc.out (.slice none 0 0)
          have b3 := b2.set_ 2 (.int .i64 0)
          have g3 := g2.setCell (p := ⟨gc, 2, none⟩) hgc.out (.int .i64 0)
          have b4 := b3.set_ 3 (.int .u32 0)
          have g4 := g3.setCell (p := ⟨gc, 3, none⟩) hgc.out (.int .u32 0)
          have b5 := b4.set_ 4 (.int .i64 0)
          have g5 := g4.setCell (p := ⟨gc, 4, none⟩) hgc.out (.int .i64 0)
          have b6 := b5.set_ 5 (.int .i64 0)
          have g6 := g5.setCell (p := ⟨gc, 5, none⟩) hgc.out (.int .i64 0)
          obtain ⟨z0, z1, z2, z3, z4, z5, zf, zl⟩ := zero_cells hBk.out
          have hE := Lib.hid b6
          have hG9 := Lib.hid g6
          clear b0 g0 b1 g1 b2 g2 b3 g3 b4 g4 b5 g5 b6 g6
          go_simp
          refine hK.out _ _ ?_ (fun hS => ?_)
          · exact hG9.out
          clear z0 z1 z2 z3 z4 z5 zf zl hBk hgL
          generalize ((((((wN.setCell ⟨gc, 0, none⟩ (.string ⟨#[]⟩)).setCell ⟨gc, 1, none⟩ (.slice none 0 0)).setCell ⟨gc, 2, none⟩ (.int .i64 0)).setCell ⟨gc, 3, none⟩ (.int .u32 0)).setCell ⟨gc, 4, none⟩ (.int .i64 0)).setCell ⟨gc, 5, none⟩ (.int .i64 0)) = w9 at *
          clear hK hS
          refine wpAnyK_run (l' := #[true, true, true, true, true, true, true, true, true, true, true, true, true, true, true, true, true, true]) [17] 0 up_grows (by kernel_rfl) (by intro c a d v w h; first | (cases d <;> exact h) | exact hQ0 _ _ _ _ _ h) rfl (by kernel_rfl) (by kernel_rfl) ?_
          iterate 1 (refine wpMixC_q rfl (fun K hK => ?_); go_simp; (try go_bits); first | (refine hK.out _ ?_; clear hK K) | (apply Exists.intro; refine ⟨fun wq hsq => ?_, hK.out _ ?_⟩; (first | (go_simp; done) | ((try go_simp); (try simp only [↓IntWalk.iteOmega]); (try go_bits); rfl) | (obtain ⟨hcq, hfq⟩ := bcells hsq; go_simp; done) | (obtain ⟨hcq, hfq⟩ := bcells hsq; (try go_simp); (try simp only [↓IntWalk.iteOmega]); (try go_bits); rfl)); clear hK K))
          refine wpMixC_nil ?_
          refine wpAnyK_end (by kernel_rfl) (fun wN hN hS => ?_)
          try replace hBk := Lib.hid (hBk.out.grows hN)
          try replace hO5 := Lib.hid (hO5.out.grows hN)
          try replace hE := Lib.hid (hE.out.grows hN)
          try replace hO9 := Lib.hid (hO9.out.grows hN)
          try replace hG9 := Lib.hid (hG9.out.trans hN)
          try replace hgL := Lib.hid (hgL.out.trans hN)
          have hbO9 := Nat.lt_of_lt_of_le hbO hG9.out.size
          have pl9 := Nat.lt_of_lt_of_le pl hG9.out.size
          have hbN9 := Nat.lt_of_lt_of_le hbN hG9.out.size
          replace p0 := hG9.out.cell p0
          replace p1 := hG9.out.cell p1
          replace p2 := hG9.out.cell p2
          replace p3 := hG9.out.cell p3
          replace p4 := hG9.out.cell p4
          replace p5 := hG9.out.cell p5
          replace y0 := hG9.out.cell y0
          replace y1 := hG9.out.cell y1
          replace y2 := hG9.out.cell y2
          replace y3 := hG9.out.cell y3
          replace y4 := hG9.out.cell y4
          replace y5 := hG9.out.cell y5
          have cG9 := Lib.hid (fun W (hW : Grows wN W) => cG.out W (hG9.out.trans hW))
          have hgw9 := Lib.hid (hgw.out.trans hG9.out)
          clear cC cG hgw hG9 hN hS hbO pl n1 n2 hbN
          go_wp2_with fail
          refine wp_region_mixg [(0, true), (1, true), (2, true), (3, true), (4, true), (5, true), (6, true), (7, false), (8, true)] (by kernel_rfl) (by kernel_rfl) rfl (by kernel_rfl) (by intro c a d v w h; first | (cases d <;> exact h) | exact hQ0 _ _ _ _ _ h) ?_
          iterate 7 (refine wpMix_s rfl (fun K hK => ?_); go_simp; (try go_bits); first | (refine hK.out _ ?_; clear hK K) | (apply Exists.intro; refine ⟨fun wq hsq => ?_, hK.out _ ?_⟩; (first | (go_simp; done) | ((try go_simp); (try simp only [↓IntWalk.iteOmega]); (try go_bits); rfl) | (obtain ⟨hcq, hfq⟩ := bcells hsq; go_simp; done) | (obtain ⟨hcq, hfq⟩ := bcells hsq; (try go_simp); (try simp only [↓IntWalk.iteOmega]); (try go_bits); rfl)); clear hK K))
          refine wpMix_m rfl (fun K' hK => ?_)
          go_simp
          refine (cG9.out _ (by
            repeat (first | assumption | exact Grows.refl _ | apply Grows.drew | apply Grows.drewN | refine Grows.alloc ?_ _ | (refine Grows.setCell ?_ (by first | (simp; done) | (simp; omega) | omega) _) | (refine Grows.trans ?_ (by assumption)))
          )).mono ?_
          rintro e w7 ⟨v7, rfl, hO7, hb7⟩
          obtain ⟨A7, c7, rfl, hl7, hc7, hX7⟩ := hO7.arr hkI
          clear hO7
          refine hK.out _ _ ?_ (fun hS => ?_)
          · repeat (first | assumption | exact Grows.refl _ | apply Grows.drew | apply Grows.drewN | refine Grows.alloc ?_ _ | (refine Grows.setCell ?_ (by first | (simp; done) | (simp; omega) | omega) _) | (refine Grows.trans ?_ (by assumption)))
          clear hK hS
          iterate 1 (refine wpMix_s rfl (fun K hK => ?_); go_simp; (try go_bits); first | (refine hK.out _ ?_; clear hK K) | (apply Exists.intro; refine ⟨fun wq hsq => ?_, hK.out _ ?_⟩; (first | (go_simp; done) | ((try go_simp); (try simp only [↓IntWalk.iteOmega]); (try go_bits); rfl) | (obtain ⟨hcq, hfq⟩ := bcells hsq; go_simp; done) | (obtain ⟨hcq, hfq⟩ := bcells hsq; (try go_simp); (try simp only [↓IntWalk.iteOmega]); (try go_bits); rfl)); clear hK K))
          refine wpMix_nil ?_
          have hb9 : Grows wN w7 := by
            repeat (first | assumption | exact Grows.refl _ | apply Grows.drew | apply Grows.drewN | refine Grows.alloc ?_ _ | (refine Grows.setCell ?_ (by first | (simp; done) | (simp; omega) | omega) _) | (refine Grows.trans ?_ (by assumption)))
          have hgz := Lib.hid (hgw9.out.trans hb9)
          clear p0 p1 p2 p3 p4 p5 y0 y1 y2 y3 y4 y5 cG9 hgw9 hX7
          (try simp only [List.length_nil])
          go_wp2_with fail
          refine parts_lD0 (by intro c a d v w h; first | (cases d <;> exact h) | exact hQ0 _ _ _ _ _ h) ?_
          intros
          rename_i wz hz
          have hgz2 := Lib.hid (hgz.out.trans hz.out)
          clear hgz hz
          go_wp2
          go_roundw
          case rel => exact ⟨i + 1, by omega, by go_num, hgz2⟩
          case measure => simp [intOf]; omega
      | some c =>
        simp only [Option.isSome_some] at cC
        obtain ⟨csrc, cfs, ⟨clv, clc⟩, cf0, ct0⟩ := c
        go_wp2_with fail
        refine wp_region_k (by kernel_rfl) ?_
        refine wpAnyK_run (l' := #[true, true, true, true, true, true, true, true, true, true, true, false, false, false, false, false, false, false]) [0, 1, 2, 3, 4, 5, 6, 7, 8, 9, 10] 7 up_grows (by kernel_rfl) (by intro c a d v w h; first | (cases d <;> exact h) | exact hQ0 _ _ _ _ _ h) rfl (by kernel_rfl) (by kernel_rfl) ?_
        iterate 11 (refine wpMixC_q rfl (fun K hK => ?_); go_simp; (try go_bits); first | (refine hK.out _ ?_; clear hK K) | (apply Exists.intro; refine ⟨fun wq hsq => ?_, hK.out _ ?_⟩; (first | (go_simp; done) | ((try go_simp); (try simp only [↓IntWalk.iteOmega]); (try go_bits); rfl) | (obtain ⟨hcq, hfq⟩ := bcells hsq; go_simp; done) | (obtain ⟨hcq, hfq⟩ := bcells hsq; (try go_simp); (try simp only [↓IntWalk.iteOmega]); (try go_bits); rfl)); clear hK K))
        refine wpMixC_nil ?_
        refine wpAnyK_alt [11, 15] (by kernel_rfl) (by simp) (fun wN hN hS => (AllReadyK.cons rfl (fun K' hK => ?_) (AllReadyK.cons rfl (fun K' hK => ?_) AllReadyK.nil)))
        · skip
          try replace hBk := Lib.hid (hBk.out.grows hN)
          try replace hO5 := Lib.hid (hO5.out.grows hN)
          try replace hE := Lib.hid (hE.out.grows hN)
          try replace hO9 := Lib.hid (hO9.out.grows hN)
          try replace hG9 := Lib.hid (hG9.out.trans hN)
          try replace hgL := Lib.hid (hgL.out.trans hN)
          clear hN
          go_simp
          refine (cC.out _ hgL.out).mono ?_
          rintro e w5 ⟨v5, rfl, hv5, hb5⟩
          obtain ⟨A', k', rfl, hO5⟩ := hv5
          replace hO5 := Lib.hid (hO5.base_le (Nat.zero_le _))
          unfold valA
          simp only at hO5 ⊢
          try replace hBk := Lib.hid (hBk.out.grows hb5)
          replace hgL := Lib.hid (hgL.out.trans hb5)
          refine hK.out _ _ ?_ (fun hS => ?_)
          · exact hgL.out
          clear hb5
          clear hK hS
          refine wpAnyK_run (l' := #[true, true, true, true, true, true, true, true, true, true, true, true, true, true, true, false, false, false]) [12, 13, 14] 3 up_grows (by kernel_rfl) (by intro c a d v w h; first | (cases d <;> exact h) | exact hQ0 _ _ _ _ _ h) rfl (by kernel_rfl) (by kernel_rfl) ?_
          iterate 3 (refine wpMixC_q rfl (fun K hK => ?_); go_simp; (try go_bits); first | (refine hK.out _ ?_; clear hK K) | (apply Exists.intro; refine ⟨fun wq hsq => ?_, hK.out _ ?_⟩; (first | (go_simp; done) | ((try go_simp); (try simp only [↓IntWalk.iteOmega]); (try go_bits); rfl) | (obtain ⟨hcq, hfq⟩ := bcells hsq; go_simp; done) | (obtain ⟨hcq, hfq⟩ := bcells hsq; (try go_simp); (try simp only [↓IntWalk.iteOmega]); (try go_bits); rfl)); clear hK K))
          refine wpMixC_nil ?_
          refine wpAnyK_alt [15] (by kernel_rfl) (by simp) (fun wN hN hS => (AllReadyK.cons rfl (fun K' hK => ?_) AllReadyK.nil))
          try replace hBk := Lib.hid (hBk.out.grows hN)
          try replace hO5 := Lib.hid (hO5.out.grows hN)
          try replace hE := Lib.hid (hE.out.grows hN)
          try replace hO9 := Lib.hid (hO9.out.grows hN)
          try replace hG9 := Lib.hid (hG9.out.trans hN)
          try replace hgL := Lib.hid (hgL.out.trans hN)
          clear hN
          go_simp
          have hBk := Lib.hid (Blk.new wN 50 zeroC)
          have hgc : Hid (wr.heap.size ≤ wN.heap.size) := Lib.hid hgL.out.size
          replace hgL := Lib.hid (hgL.out.alloc (.cells zeroC 50))
          try replace hO5 := Lib.hid (hO5.out.alloc (.cells zeroC 50))
          refine hK.out _ _ ?_ (fun hS => ?_)
          · exact hgL.out
          generalize wN.heap.size = gc at *
          clear hK hS
          refine wpAnyK_alt [16] (by kernel_rfl) (by simp) (fun wN hN hS => (AllReadyK.cons rfl (fun K' hK => ?_) AllReadyK.nil))
          try replace hBk := Lib.hid (hBk.out.grows hN)
          try replace hO5 := Lib.hid (hO5.out.grows hN)
          try replace hE := Lib.hid (hE.out.grows hN)
          try replace hO9 := Lib.hid (hO9.out.grows hN)
          try replace hG9 := Lib.hid (hG9.out.trans hN)
          try replace hgL := Lib.hid (hgL.out.trans hN)
          clear hN
          have b0 := hBk.out
          have g0 := hgL.out
          have o0 := hO5.out
          have b1 := b0.set_ 0 (.string ⟨csrc.toArray⟩)
          have g1 := g0.setCell (p := ⟨gc, 0, none⟩) hgc.out (.string ⟨csrc.toArray⟩)
          have o1 := o0.setNe b0 (by decide) 0 (.string ⟨csrc.toArray⟩)
          have b2 := b1.set_ 1 (.slice A' cfs.length k')
          have g2 := g1.setCell (p := ⟨gc, 1, none⟩) hgc.out (.slice A' cfs.length k')
          have o2 := o1.setNe b1 (by decide) 1 (.slice A' cfs.length k')
          have b3 := b2.set_ 2 (.int .i64 clv)
          have g3 := g2.setCell (p := ⟨gc, 2, none⟩) hgc.out (.int .i64 clv)
          have o3 := o2.setNe b2 (by decide) 2 (.int .i64 clv)
          have b4 := b3.set_ 3 (.int .u32 (clc : Int))
          have g4 := g3.setCell (p := ⟨gc, 3, none⟩) hgc.out (.int .u32 (clc : Int))
          have o4 := o3.setNe b3 (by decide) 3 (.int .u32 (clc : Int))
          have b5 := b4.set_ 4 (.int .i64 cf0)
          have g5 := g4.setCell (p := ⟨gc, 4, none⟩) hgc.out (.int .i64 cf0)
          have o5 := o4.setNe b4 (by decide) 4 (.int .i64 cf0)
          have b6 := b5.set_ 5 (.int .i64 ct0)
          have g6 := g5.setCell (p := ⟨gc, 5, none⟩) hgc.out (.int .i64 ct0)
          have o6 := o5.setNe b5 (by decide) 5 (.int .i64 ct0)
          obtain ⟨z0, z1, z2, z3, z4, z5, zf, zl⟩ := zero_cells hBk.out
          have hE := Lib.hid b6
          have hG9 := Lib.hid g6
          have hO9 := Lib.hid o6
          clear b0 g0 b1 g1 b2 g2 b3 g3 b4 g4 b5 g5 b6 g6 o0 o1 o2 o3 o4 o5 o6
          go_simp
          refine hK.out _ _ ?_ (fun hS => ?_)
          · exact hG9.out
          clear z0 z1 z2 z3 z4 z5 zf zl hBk hgL
          generalize ((((((wN.setCell ⟨gc, 0, none⟩ (.string ⟨csrc.toArray⟩)).setCell ⟨gc, 1, none⟩ (.slice A' cfs.length k')).setCell ⟨gc, 2, none⟩ (.int .i64 clv)).setCell ⟨gc, 3, none⟩ (.int .u32 (clc : Int))).setCell ⟨gc, 4, none⟩ (.int .i64 cf0)).setCell ⟨gc, 5, none⟩ (.int .i64 ct0)) = w9 at *
          clear hK hS
          refine wpAnyK_run (l' := #[true, true, true, true, true, true, true, true, true, true, true, true, true, true, true, true, true, true]) [17] 0 up_grows (by kernel_rfl) (by intro c a d v w h; first | (cases d <;> exact h) | exact hQ0 _ _ _ _ _ h) rfl (by kernel_rfl) (by kernel_rfl) ?_
          iterate 1 (refine wpMixC_q rfl (fun K hK => ?_); go_simp; (try go_bits); first | (refine hK.out _ ?_; clear hK K) | (apply Exists.intro; refine ⟨fun wq hsq => ?_, hK.out _ ?_⟩; (first | (go_simp; done) | ((try go_simp); (try simp only [↓IntWalk.iteOmega]); (try go_bits); rfl) | (obtain ⟨hcq, hfq⟩ := bcells hsq; go_simp; done) | (obtain ⟨hcq, hfq⟩ := bcells hsq; (try go_simp); (try simp only [↓IntWalk.iteOmega]); (try go_bits); rfl)); clear hK K))
          refine wpMixC_nil ?_
          refine wpAnyK_end (by kernel_rfl) (fun wN hN hS => ?_)
          try replace hBk := Lib.hid (hBk.out.grows hN)
          try replace hO5 := Lib.hid (hO5.out.grows hN)
          try replace hE := Lib.hid (hE.out.grows hN)
          try replace hO9 := Lib.hid (hO9.out.grows hN)
          try replace hG9 := Lib.hid (hG9.out.trans hN)
          try replace hgL := Lib.hid (hgL.out.trans hN)
          have hbO9 := Nat.lt_of_lt_of_le hbO hG9.out.size
          have pl9 := Nat.lt_of_lt_of_le pl hG9.out.size
          have hbN9 := Nat.lt_of_lt_of_le hbN hG9.out.size
          replace p0 := hG9.out.cell p0
          replace p1 := hG9.out.cell p1
          replace p2 := hG9.out.cell p2
          replace p3 := hG9.out.cell p3
          replace p4 := hG9.out.cell p4
          replace p5 := hG9.out.cell p5
          replace y0 := hG9.out.cell y0
          replace y1 := hG9.out.cell y1
          replace y2 := hG9.out.cell y2
          replace y3 := hG9.out.cell y3
          replace y4 := hG9.out.cell y4
          replace y5 := hG9.out.cell y5
          have cG9 := Lib.hid (fun W (hW : Grows wN W) => cG.out W (hG9.out.trans hW))
          have hgw9 := Lib.hid (hgw.out.trans hG9.out)
          clear cC cG hgw hG9 hN hS hbO pl n1 n2 hbN
          go_wp2_with fail
          refine wp_region_mixg [(0, true), (1, true), (2, true), (3, true), (4, true), (5, true), (6, true), (7, false), (8, true)] (by kernel_rfl) (by kernel_rfl) rfl (by kernel_rfl) (by intro c a d v w h; first | (cases d <;> exact h) | exact hQ0 _ _ _ _ _ h) ?_
          iterate 7 (refine wpMix_s rfl (fun K hK => ?_); go_simp; (try go_bits); first | (refine hK.out _ ?_; clear hK K) | (apply Exists.intro; refine ⟨fun wq hsq => ?_, hK.out _ ?_⟩; (first | (go_simp; done) | ((try go_simp); (try simp only [↓IntWalk.iteOmega]); (try go_bits); rfl) | (obtain ⟨hcq, hfq⟩ := bcells hsq; go_simp; done) | (obtain ⟨hcq, hfq⟩ := bcells hsq; (try go_simp); (try simp only [↓IntWalk.iteOmega]); (try go_bits); rfl)); clear hK K))
          refine wpMix_m rfl (fun K' hK => ?_)
          go_simp
          refine (cG9.out _ (by
            repeat (first | assumption | exact Grows.refl _ | apply Grows.drew | apply Grows.drewN | refine Grows.alloc ?_ _ | (refine Grows.setCell ?_ (by first | (simp; done) | (simp; omega) | omega) _) | (refine Grows.trans ?_ (by assumption)))
          )).mono ?_
          rintro e w7 ⟨v7, rfl, hO7, hb7⟩
          obtain ⟨A7, c7, rfl, hl7, hc7, hX7⟩ := hO7.arr hkI
          clear hO7
          refine hK.out _ _ ?_ (fun hS => ?_)
          · repeat (first | assumption | exact Grows.refl _ | apply Grows.drew | apply Grows.drewN | refine Grows.alloc ?_ _ | (refine Grows.setCell ?_ (by first | (simp; done) | (simp; omega) | omega) _) | (refine Grows.trans ?_ (by assumption)))
          clear hK hS
          iterate 1 (refine wpMix_s rfl (fun K hK => ?_); go_simp; (try go_bits); first | (refine hK.out _ ?_; clear hK K) | (apply Exists.intro; refine ⟨fun wq hsq => ?_, hK.out _ ?_⟩; (first | (go_simp; done) | ((try go_simp); (try simp only [↓IntWalk.iteOmega]); (try go_bits); rfl) | (obtain ⟨hcq, hfq⟩ := bcells hsq; go_simp; done) | (obtain ⟨hcq, hfq⟩ := bcells hsq; (try go_simp); (try simp only [↓IntWalk.iteOmega]); (try go_bits); rfl)); clear hK K))
          refine wpMix_nil ?_
          have hb9 : Grows wN w7 := by
            repeat (first | assumption | exact Grows.refl _ | apply Grows.drew | apply Grows.drewN | refine Grows.alloc ?_ _ | (refine Grows.setCell ?_ (by first | (simp; done) | (simp; omega) | omega) _) | (refine Grows.trans ?_ (by assumption)))
          have hgz := Lib.hid (hgw9.out.trans hb9)
          by_cases hF0 : F = []
          · subst hF0
            clear hE hO9 p0 p1 p2 p3 p4 p5 y0 y1 y2 y3 y4 y5 cG9 hgw9 hX7
            (try simp only [List.length_nil])
            go_wp2_with fail
            refine parts_lD0 (by intro c a d v w h; first | (cases d <;> exact h) | exact hQ0 _ _ _ _ _ h) ?_
            intros
            rename_i wz hz
            have hgz2 := Lib.hid (hgz.out.trans hz.out)
            clear hgz hz
            go_wp2
            go_roundw
            case rel => exact ⟨i + 1, by omega, by go_num, hgz2⟩
            case measure => simp [intOf]; omega
          · skip
            unfold maxLen at hc7
            obtain ⟨r0, hr0⟩ : ∃ r0, r0 ∈ F := List.exists_mem_of_ne_nil F hF0
            obtain ⟨c', rx', e1, hcI, -, -⟩ := hF.out r0 hr0
            injection e1 with e1
            subst e1
            have hcI' := Lib.hid (hcI A' k')
            have hD : Hid (∀ r ∈ F, ∃ rx, q.o[r]? = some rx ∧ cntG r (pickF cfs rx.r.by_) (idA ⟨csrc, cfs, ⟨clv, clc⟩, cf0, ct0⟩) (gs.map GrpX.g) = 1) := Lib.hid (by
              intro r hr
              obtain ⟨c', rx', e1, -, e2, e3⟩ := hF.out r hr
              injection e1 with e1
              subst e1
              exact ⟨rx', e2, e3⟩)
            have hE9 : Hid (Blk w7 gc 50 (alrC ⟨⟨csrc, cfs, ⟨clv, clc⟩, cf0, ct0⟩, A', cfs.length, k'⟩)) := Lib.hid (hE.out.grows hb9)
            have hcA9 := Lib.hid ((own_arr hO9.out hkF).2.2.2.keep hb9)
            replace hX7 := Lib.hid hX7
            clear p0 p1 p2 p3 p4 p5 y0 y1 y2 y3 y4 y5 cG9 hgw9 hcI hr0 hF0 hE hO9
            go_wp2_with fail
            refine parts_lD (q := q) (c := ⟨⟨csrc, cfs, ⟨clv, clc⟩, cf0, ct0⟩, A', cfs.length, k'⟩) (F := F) (Lib.hid (hP.out.grows hgz.out)) hE9 (Lib.hid (hX.out.keep hgz.out)) (Lib.hid (hI.out.grows hgz.out)) hX7 (Lib.hid (hq.out.keep hgz.out)) hcA9 hcI' hss hD hm5 (by omega) (by intro c a d v w h; first | (cases d <;> exact h) | exact hQ0 _ _ _ _ _ h) ?_
            intros
            rename_i wz hz
            have hgz2 := Lib.hid (hgz.out.trans hz.out)
            clear hgz hz
            go_wp2
            go_roundw
            case rel => exact ⟨i + 1, by omega, by go_num, hgz2⟩
            case measure => simp [intOf]; omega
        · skip
          try replace hBk := Lib.hid (hBk.out.grows hN)
          try replace hO5 := Lib.hid (hO5.out.grows hN)
          try replace hE := Lib.hid (hE.out.grows hN)
          try replace hO9 := Lib.hid (hO9.out.grows hN)
          try replace hG9 := Lib.hid (hG9.out.trans hN)
          try replace hgL := Lib.hid (hgL.out.trans hN)
          clear hN
          go_simp
          have hBk := Lib.hid (Blk.new wN 50 zeroC)
          have hgc : Hid (wr.heap.size ≤ wN.heap.size) := Lib.hid hgL.out.size
          replace hgL := Lib.hid (hgL.out.alloc (.cells zeroC 50))
          try replace hO5 := Lib.hid (hO5.out.alloc (.cells zeroC 50))
          refine hK.out _ _ ?_ (fun hS => ?_)
          · exact hgL.out
          generalize wN.heap.size = gc at *
          clear hK hS
          refine wpAnyK_alt [11] (by kernel_rfl) (by simp) (fun wN hN hS => (AllReadyK.cons rfl (fun K' hK => ?_) AllReadyK.nil))
          try replace hBk := Lib.hid (hBk.out.grows hN)
          try replace hO5 := Lib.hid (hO5.out.grows hN)
          try replace hE := Lib.hid (hE.out.grows hN)
          try replace hO9 := Lib.hid (hO9.out.grows hN)
          try replace hG9 := Lib.hid (hG9.out.trans hN)
          try replace hgL := Lib.hid (hgL.out.trans hN)
          clear hN
          go_simp
          refine (cC.out _ hgL.out).mono ?_
          rintro e w5 ⟨v5, rfl, hv5, hb5⟩
          obtain ⟨A', k', rfl, hO5⟩ := hv5
          replace hO5 := Lib.hid (hO5.base_le (Nat.zero_le _))
          unfold valA
          simp only at hO5 ⊢
          try replace hBk := Lib.hid (hBk.out.grows hb5)
          replace hgL := Lib.hid (hgL.out.trans hb5)
          refine hK.out _ _ ?_ (fun hS => ?_)
          · exact hgL.out
          clear hb5
          clear hK hS
          refine wpAnyK_run (l' := #[true, true, true, true, true, true, true, true, true, true, true, true, true, true, true, true, false, false]) [12, 13, 14] 2 up_grows (by kernel_rfl) (by intro c a d v w h; first | (cases d <;> exact h) | exact hQ0 _ _ _ _ _ h) rfl (by kernel_rfl) (by kernel_rfl) ?_
          iterate 3 (refine wpMixC_q rfl (fun K hK => ?_); go_simp; (try go_bits); first | (refine hK.out _ ?_; clear hK K) | (apply Exists.intro; refine ⟨fun wq hsq => ?_, hK.out _ ?_⟩; (first | (go_simp; done) | ((try go_simp); (try simp only [↓IntWalk.iteOmega]); (try go_bits); rfl) | (obtain ⟨hcq, hfq⟩ := bcells hsq; go_simp; done) | (obtain ⟨hcq, hfq⟩ := bcells hsq; (try go_simp); (try simp only [↓IntWalk.iteOmega]); (try go_bits); rfl)); clear hK K))
          refine wpMixC_nil ?_
          refine wpAnyK_alt [16] (by kernel_rfl) (by simp) (fun wN hN hS => (AllReadyK.cons rfl (fun K' hK => ?_) AllReadyK.nil))
          try replace hBk := Lib.hid (hBk.out.grows hN)
          try replace hO5 := Lib.hid (hO5.out.grows hN)
          try replace hE := Lib.hid (hE.out.grows hN)
          try replace hO9 := Lib.hid (hO9.out.grows hN)
          try replace hG9 := Lib.hid (hG9.out.trans hN)
          try replace hgL := Lib.hid (hgL.out.trans hN)
          clear hN
          have b0 := hBk.out
          have g0 := hgL.out
          have o0 := hO5.out
          have b1 := b0.set_ 0 (.string ⟨csrc.toArray⟩)
          have g1 := g0.setCell (p := ⟨gc, 0, none⟩) hgc.out (.string ⟨csrc.toArray⟩)
          have o1 := o0.setNe b0 (by decide) 0 (.string ⟨csrc.toArray⟩)
          have b2 := b1.set_ 1 (.slice A' cfs.length k')
          have g2 := g1.setCell (p := ⟨gc, 1, none⟩) hgc.out (.slice A' cfs.length k')
          have o2 := o1.setNe b1 (by decide) 1 (.slice A' cfs.length k')
          have b3 := b2.set_ 2 (.int .i64 clv)
          have g3 := g2.setCell (p := ⟨gc, 2, none⟩) hgc.out (.int .i64 clv)
          have o3 := o2.setNe b2 (by decide) 2 (.int .i64 clv)
          have b4 := b3.set_ 3 (.int .u32 (clc : Int))
          have g4 := g3.setCell (p := ⟨gc, 3, none⟩) hgc.out (.int .u32 (clc : Int))
          have o4 := o3.setNe b3 (by decide) 3 (.int .u32 (clc : Int))
          have b5 := b4.set_ 4 (.int .i64 cf0)
          have g5 := g4.setCell (p := ⟨gc, 4, none⟩) hgc.out (.int .i64 cf0)
          have o5 := o4.setNe b4 (by decide) 4 (.int .i64 cf0)
          have b6 := b5.set_ 5 (.int .i64 ct0)
          have g6 := g5.setCell (p := ⟨gc, 5, none⟩) hgc.out (.int .i64 ct0)
          have o6 := o5.setNe b5 (by decide) 5 (.int .i64 ct0)
          obtain ⟨z0, z1, z2, z3, z4, z5, zf, zl⟩ := zero_cells hBk.out
          have hE := Lib.hid b6
          have hG9 := Lib.hid g6
          have hO9 := Lib.hid o6
          clear b0 g0 b1 g1 b2 g2 b3 g3 b4 g4 b5 g5 b6 g6 o0 o1 o2 o3 o4 o5 o6
          go_simp
          refine hK.out _ _ ?_ (fun hS => ?_)
          · exact hG9.out
          clear z0 z1 z2 z3 z4 z5 zf zl hBk hgL
          generalize ((((((wN.setCell ⟨gc, 0, none⟩ (.string ⟨csrc.toArray⟩)).setCell ⟨gc, 1, none⟩ (.slice A' cfs.length k')).setCell ⟨gc, 2, none⟩ (.int .i64 clv)).setCell ⟨gc, 3, none⟩ (.int .u32 (clc : Int))).setCell ⟨gc, 4, none⟩ (.int .i64 cf0)).setCell ⟨gc, 5, none⟩ (.int .i64 ct0)) = w9 at *
          clear hK hS
          refine wpAnyK_run (l' := #[true, true, true, true, true, true, true, true, true, true, true, true, true, true, true, true, true, true]) [17] 0 up_grows (by kernel_rfl) (by intro c a d v w h; first | (cases d <;> exact h) | exact hQ0 _ _ _ _ _ h) rfl (by kernel_rfl) (by kernel_rfl) ?_
          iterate 1 (refine wpMixC_q rfl (fun K hK => ?_); go_simp; (try go_bits); first | (refine hK.out _ ?_; clear hK K) | (apply Exists.intro; refine ⟨fun wq hsq => ?_, hK.out _ ?_⟩; (first | (go_simp; done) | ((try go_simp); (try simp only [↓IntWalk.iteOmega]); (try go_bits); rfl) | (obtain ⟨hcq, hfq⟩ := bcells hsq; go_simp; done) | (obtain ⟨hcq, hfq⟩ := bcells hsq; (try go_simp); (try simp only [↓IntWalk.iteOmega]); (try go_bits); rfl)); clear hK K))
          refine wpMixC_nil ?_
          refine wpAnyK_end (by kernel_rfl) (fun wN hN hS => ?_)
          try replace hBk := Lib.hid (hBk.out.grows hN)
          try replace hO5 := Lib.hid (hO5.out.grows hN)
          try replace hE := Lib.hid (hE.out.grows hN)
          try replace hO9 := Lib.hid (hO9.out.grows hN)
          try replace hG9 := Lib.hid (hG9.out.trans hN)
          try replace hgL := Lib.hid (hgL.out.trans hN)
          have hbO9 := Nat.lt_of_lt_of_le hbO hG9.out.size
          have pl9 := Nat.lt_of_lt_of_le pl hG9.out.size
          have hbN9 := Nat.lt_of_lt_of_le hbN hG9.out.size
          replace p0 := hG9.out.cell p0
          replace p1 := hG9.out.cell p1
          replace p2 := hG9.out.cell p2
          replace p3 := hG9.out.cell p3
          replace p4 := hG9.out.cell p4
          replace p5 := hG9.out.cell p5
          replace y0 := hG9.out.cell y0
          replace y1 := hG9.out.cell y1
          replace y2 := hG9.out.cell y2
          replace y3 := hG9.out.cell y3
          replace y4 := hG9.out.cell y4
          replace y5 := hG9.out.cell y5
          have cG9 := Lib.hid (fun W (hW : Grows wN W) => cG.out W (hG9.out.trans hW))
          have hgw9 := Lib.hid (hgw.out.trans hG9.out)
          clear cC cG hgw hG9 hN hS hbO pl n1 n2 hbN
          go_wp2_with fail
          refine wp_region_mixg [(0, true), (1, true), (2, true), (3, true), (4, true), (5, true), (6, true), (7, false), (8, true)] (by kernel_rfl) (by kernel_rfl) rfl (by kernel_rfl) (by intro c a d v w h; first | (cases d <;> exact h) | exact hQ0 _ _ _ _ _ h) ?_
          iterate 7 (refine wpMix_s rfl (fun K hK => ?_); go_simp; (try go_bits); first | (refine hK.out _ ?_; clear hK K) | (apply Exists.intro; refine ⟨fun wq hsq => ?_, hK.out _ ?_⟩; (first | (go_simp; done) | ((try go_simp); (try simp only [↓IntWalk.iteOmega]); (try go_bits); rfl) | (obtain ⟨hcq, hfq⟩ := bcells hsq; go_simp; done) | (obtain ⟨hcq, hfq⟩ := bcells hsq; (try go_simp); (try simp only [↓IntWalk.iteOmega]); (try go_bits); rfl)); clear hK K))
          refine wpMix_m rfl (fun K' hK => ?_)
          go_simp
          refine (cG9.out _ (by
            repeat (first | assumption | exact Grows.refl _ | apply Grows.drew | apply Grows.drewN | refine Grows.alloc ?_ _ | (refine Grows.setCell ?_ (by first | (simp; done) | (simp; omega) | omega) _) | (refine Grows.trans ?_ (by assumption)))
          )).mono ?_
          rintro e w7 ⟨v7, rfl, hO7, hb7⟩
          obtain ⟨A7, c7, rfl, hl7, hc7, hX7⟩ := hO7.arr hkI
          clear hO7
          refine hK.out _ _ ?_ (fun hS => ?_)
          · repeat (first | assumption | exact Grows.refl _ | apply Grows.drew | apply Grows.drewN | refine Grows.alloc ?_ _ | (refine Grows.setCell ?_ (by first | (simp; done) | (simp; omega) | omega) _) | (refine Grows.trans ?_ (by assumption)))
          clear hK hS
          iterate 1 (refine wpMix_s rfl (fun K hK => ?_); go_simp; (try go_bits); first | (refine hK.out _ ?_; clear hK K) | (apply Exists.intro; refine ⟨fun wq hsq => ?_, hK.out _ ?_⟩; (first | (go_simp; done) | ((try go_simp); (try simp only [↓IntWalk.iteOmega]); (try go_bits); rfl) | (obtain ⟨hcq, hfq⟩ := bcells hsq; go_simp; done) | (obtain ⟨hcq, hfq⟩ := bcells hsq; (try go_simp); (try simp only [↓IntWalk.iteOmega]); (try go_bits); rfl)); clear hK K))
          refine wpMix_nil ?_
          have hb9 : Grows wN w7 := by
            repeat (first | assumption | exact Grows.refl _ | apply Grows.drew | apply Grows.drewN | refine Grows.alloc ?_ _ | (refine Grows.setCell ?_ (by first | (simp; done) | (simp; omega) | omega) _) | (refine Grows.trans ?_ (by assumption)))
          have hgz := Lib.hid (hgw9.out.trans hb9)
          by_cases hF0 : F = []
          · subst hF0
            clear hE hO9 p0 p1 p2 p3 p4 p5 y0 y1 y2 y3 y4 y5 cG9 hgw9 hX7
            (try simp only [List.length_nil])
            go_wp2_with fail
            refine parts_lD0 (by intro c a d v w h; first | (cases d <;> exact h) | exact hQ0 _ _ _ _ _ h) ?_
            intros
            rename_i wz hz
            have hgz2 := Lib.hid (hgz.out.trans hz.out)
            clear hgz hz
            go_wp2
            go_roundw
            case rel => exact ⟨i + 1, by omega, by go_num, hgz2⟩
            case measure => simp [intOf]; omega
          · skip
            unfold maxLen at hc7
            obtain ⟨r0, hr0⟩ : ∃ r0, r0 ∈ F := List.exists_mem_of_ne_nil F hF0
            obtain ⟨c', rx', e1, hcI, -, -⟩ := hF.out r0 hr0
            injection e1 with e1
            subst e1
            have hcI' := Lib.hid (hcI A' k')
            have hD : Hid (∀ r ∈ F, ∃ rx, q.o[r]? = some rx ∧ cntG r (pickF cfs rx.r.by_) (idA ⟨csrc, cfs, ⟨clv, clc⟩, cf0, ct0⟩) (gs.map GrpX.g) = 1) := Lib.hid (by
              intro r hr
              obtain ⟨c', rx', e1, -, e2, e3⟩ := hF.out r hr
              injection e1 with e1
              subst e1
              exact ⟨rx', e2, e3⟩)
            have hE9 : Hid (Blk w7 gc 50 (alrC ⟨⟨csrc, cfs, ⟨clv, clc⟩, cf0, ct0⟩, A', cfs.length, k'⟩)) := Lib.hid (hE.out.grows hb9)
            have hcA9 := Lib.hid ((own_arr hO9.out hkF).2.2.2.keep hb9)
            replace hX7 := Lib.hid hX7
            clear p0 p1 p2 p3 p4 p5 y0 y1 y2 y3 y4 y5 cG9 hgw9 hcI hr0 hF0 hE hO9
            go_wp2_with fail
            refine parts_lD (q := q) (c := ⟨⟨csrc, cfs, ⟨clv, clc⟩, cf0, ct0⟩, A', cfs.length, k'⟩) (F := F) (Lib.hid (hP.out.grows hgz.out)) hE9 (Lib.hid (hX.out.keep hgz.out)) (Lib.hid (hI.out.grows hgz.out)) hX7 (Lib.hid (hq.out.keep hgz.out)) hcA9 hcI' hss hD hm5 (by omega) (by intro c a d v w h; first | (cases d <;> exact h) | exact hQ0 _ _ _ _ _ h) ?_
            intros
            rename_i wz hz
            have hgz2 := Lib.hid (hgz.out.trans hz.out)
            clear hgz hz
            go_wp2
            go_roundw
            case rel => exact ⟨i + 1, by omega, by go_num, hgz2⟩
            case measure => simp [intOf]; omega
    · have hili : ¬ (i : Int) < (L : Int) := by omega
      go_wp2
end Go.Proofs.YtfoffneipdkdjaaGreatDoor
