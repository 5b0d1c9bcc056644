/- Parts: LabB AlrD AlrE LwA -/
import Derived.Test.YtfoffneipdkdjaaGreatDoorBs3
import Derived.Test.YtfoffneipdkdjaaGreatDoorBs8
import Derived.Test.YtfoffneipdkdjaaGreatDoorBs6
namespace Go.Proofs.YtfoffneipdkdjaaGreatDoor
open Go.RowKit

def encI (n : Nat) : List Value := [.int .i64 (n : Int)]
theorem hkI (n : Nat) : (encI n).length = 1 := rfl
theorem oneI (n : Nat) : ∀ u ∈ encI n, u.oneCell' = true := by intro u hu; simp [encI] at hu; subst hu; rfl
theorem T_ii : SliceT Tryz.prog 53 3 1 8 := SliceT.mk' (z := .int .i64 0) Tryz.underlying53 (by kernel_rfl) rfl (by omega)
def bitsTo (c k : Nat) : List Nat := (List.range k).filter fun j => c.testBit j
theorem bitsTo_all (c : Nat) : bitsTo c 32 = teams c := rfl
theorem bitsTo_yes {c k : Nat} (h : c.testBit k = true) : bitsTo c (k + 1) = bitsTo c k ++ [k] := by
  unfold bitsTo; rw [List.range_succ, List.filter_append]; simp [h]
theorem bitsTo_no {c k : Nat} (h : c.testBit k = false) : bitsTo c (k + 1) = bitsTo c k := by
  unfold bitsTo; rw [List.range_succ, List.filter_append]; simp [h]
theorem bitsTo_len (c k : Nat) : (bitsTo c k).length ≤ k := by
  unfold bitsTo; exact Nat.le_trans (List.length_filter_le _ _) (by simp)
theorem teams_len (c : Nat) : (teams c).length ≤ 32 := bitsTo_len c 32
theorem testBit_div (c k : Nat) : c.testBit k = decide (c / 2 ^ k % 2 = 1) := by
  rw [Nat.testBit_eq_decide_div_mod_eq]

set_option maxRecDepth 100000 in
set_option maxHeartbeats 1600000 in
theorem refTeams_any (x : Lab) (w : World) (hx : x.ok) :
    Calls Tryz.prog 58 #[.agg #[.int .i64 x.lv, .int .u32 (x.c : Int)]] w fun e w' => ∃ v, e = .returned v ∧ Own w' w.heap.size 3 1 encI v (teams x.c) ∧ Grows w w' := by
  have hxc : (x.c : Int) < 4294967296 := by unfold Lab.ok at hx; omega
  go_enter Tryz.func58, Tryz.ntmps58
  go_wp2
  go_loopw [3, 4, 5] (fun v r i wr => ∃ (k : Nat) (R : Int), k ≤ 32 ∧ i = .int .i64 k ∧ r = .int .u32 R ∧ 0 ≤ R ∧ R < 4294967296 ∧ Hid (R = ((x.c / 2 ^ k : Nat) : Int)) ∧ Own wr w.heap.size 3 1 encI v (bitsTo x.c k) ∧ Grows w wr) (fun _ _ i _ => 32 - (intOf i).toNat)
  case atStart => exact ⟨0, x.c, by omega, rfl, rfl, by omega, hxc, (by simp : (x.c : Int) = ((x.c / 2 ^ 0 : Nat) : Int)), Own.nil_ _ _ _ _ _, (Grows.refl w).alloc _⟩
  case round =>
    obtain ⟨k, R, hk, rfl, rfl, hR0, hR, hRk, hown, hg⟩ := hrel
    by_cases hlt : k < 32
    · have hnext : R / 2 = ((x.c / 2 ^ (k + 1) : Nat) : Int) := by rw [hRk.out, Nat.pow_succ, ← Nat.div_div_eq_div_mul]; omega
      have hbit := testBit_div x.c k
      have hRk' := hRk.out
      have hl := bitsTo_len x.c k
      have hsz := hg.size
      replace hnext := Lib.hid hnext
      clear hxc hx
      cases hb : x.c.testBit k
      · have hr1 : R % 2 = 0 := by
          rw [hb] at hbit; simp only [Bool.false_eq, decide_eq_false_iff_not] at hbit
          omega
        have hno := Lib.hid (bitsTo_no hb)
        clear hb hbit hRk hRk' hl
        go_wp2
        go_roundw
        case rel => exact ⟨k + 1, R / 2, by omega, by go_num, rfl, by omega, by omega, hnext.out, by rw [hno.out]; exact hown, hg⟩
        case measure => simp [intOf]; omega
      · have hr1 : R % 2 = 1 := by
          rw [hb] at hbit; simp only [Bool.true_eq, decide_eq_true_eq] at hbit
          omega
        have hyes := Lib.hid (bitsTo_yes hb)
        clear hb hbit hRk hRk'
        replace hl := Lib.hid hl
        go_wp2_with (at_builtin; refine wpList_grown (x := k) T_ii rfl (.tmp 15) (.tmp 17) rfl (hown.alloc _) rfl ⟨wr.heap.size, 0, none⟩ rfl rfl (news_of (by exact heap_alloc_new wr _)) (oneI k) (by simp; omega) (by have := hl.out; unfold maxLen; omega) (by have := hl.out; omega) (fun v1 w1 hown1 hgr hat => ?_))
        have hb1 : Below w.heap.size wr w1 := Own.below (hown.alloc _) (by
          repeat (first | assumption | exact Below.refl _ _ | apply Below.drew | apply below_drewN | (refine Below.alloc2t ?_ (by first | rfl | simp) (by first | omega | (simp; omega) | simp)) | (refine Below.alloc ?_ (by first | omega | (simp; omega) | simp) _) | (refine Below.setCell ?_ (by first | omega | (simp; omega) | simp) _))
        ) (Nat.le_refl _) (by simp; omega) hgr
        clear hgr hat
        go_wp2
        go_roundw
        case rel => exact ⟨k + 1, R / 2, by omega, by go_num, rfl, by omega, by omega, hnext.out, by rw [hyes.out]; exact hown1, hg.then_ hb1⟩
        case measure => simp [intOf]; omega
    · obtain rfl : k = 32 := by omega
      clear hRk
      go_wp2
      go_ret
      exact ⟨u3, rfl, hown, hg⟩

set_option maxRecDepth 100000 in
set_option maxHeartbeats 1600000 in
theorem has_any (A : Option Addr) (m c : Nat) (xs : List Nat) (j : Nat) (w : World) (h : Arr w 1 encI A m xs) (hm : m ≤ maxLen) (g : FuncId) (hgf : g = 59) :
    Calls Tryz.prog g #[.slice A m c, .int .i64 j] w fun e w' => e = .returned (.bool (decide (j ∈ xs))) ∧ w' = w := by
  subst hgf
  unfold maxLen at hm
  have hlen := h.1
  go_enter Tryz.func59, Tryz.ntmps59
  go_wp2
  go_loop [5] (fun i => ∃ k : Nat, k ≤ m ∧ i = .int .i64 k ∧ Hid (j ∉ xs.take k)) (fun i => m - (intOf i).toNat)
  case atStart => exact ⟨0, by omega, rfl, by simp [Hid]⟩
  case round =>
    obtain ⟨k, hk, rfl, hno⟩ := hrel
    by_cases hlt : k < m
    · obtain ⟨b, off, y, rfl, _, hy, hcell⟩ := h.at_ hlt
      have c0 : w.cell? ⟨b, off + k, none⟩ = some (.int .i64 y) := by simpa using hcell 0 _ rfl
      by_cases hyj : y = j
      · have hb : ((y : Int) == (j : Int)) = true := by simp [hyj]
        have hfin : decide (j ∈ xs) = true := by rw [decide_eq_true_eq, ← hyj]; exact List.mem_of_getElem? hy
        replace hfin := Lib.hid hfin
        clear hyj hno hy hcell h hlen
        go_wp2
        go_ret
        exact ⟨ret_bool hfin.out.symm, rfl⟩
      · have hb : ((y : Int) == (j : Int)) = false := by rw [beq_eq_false_iff_ne]; omega
        have hno2 : j ∉ xs.take (k + 1) := by
          rw [List.take_add_one, hy]; simp [hno.out, Ne.symm hyj]
        replace hno2 := Lib.hid hno2
        clear hyj hno hy hcell h hlen
        go_wp2
        go_round
        case rel => exact ⟨k + 1, by omega, by go_num, hno2.out⟩
        case measure => simp [intOf]; omega
    · obtain rfl : k = m := by omega
      have hfin : decide (j ∈ xs) = false := by rw [decide_eq_false_iff_not, ← List.take_of_length_le (Nat.le_of_eq hlen)]; exact hno.out
      replace hfin := Lib.hid hfin
      clear hno h hlen
      go_wp2
      go_ret
      exact ⟨ret_bool hfin.out.symm, rfl⟩
end Go.Proofs.YtfoffneipdkdjaaGreatDoor
namespace Go.Proofs.YtfoffneipdkdjaaGreatDoor
open Go.RowKit

theorem alr_cells {w : World} {g m k lc : Nat} {src : List UInt8} {A : Option Addr} {lv f t : Int} (h : Blk w g 50 #[.string ⟨src.toArray⟩, .slice A m k, .int .i64 lv, .int .u32 (lc : Int), .int .i64 f, .int .i64 t]) :
    w.cell? ⟨g, 0, none⟩ = some (.string ⟨src.toArray⟩) ∧ w.cell? ⟨g, 1, none⟩ = some (.slice A m k) ∧ w.cell? ⟨g, 2, none⟩ = some (.int .i64 lv) ∧ w.cell? ⟨g, 3, none⟩ = some (.int .u32 (lc : Int)) ∧ w.cell? ⟨g, 4, none⟩ = some (.int .i64 f) ∧ w.cell? ⟨g, 5, none⟩ = some (.int .i64 t) ∧ g < w.heap.size :=
  ⟨h.cell 0, h.cell 1, h.cell 2, h.cell 3, h.cell 4, h.cell 5, h.lt⟩
theorem zero_cells {w : World} {g : Nat} (h : Blk w g 50 zeroC) :
    w.cell? ⟨g, 0, none⟩ = some (.string ⟨#[]⟩) ∧ w.cell? ⟨g, 1, none⟩ = some (.slice none 0 0) ∧ w.cell? ⟨g, 2, none⟩ = some (.int .i64 0) ∧ w.cell? ⟨g, 3, none⟩ = some (.int .u32 0) ∧ w.cell? ⟨g, 4, none⟩ = some (.int .i64 0) ∧ w.cell? ⟨g, 5, none⟩ = some (.int .i64 0) ∧ (∀ i, w.frozen? ⟨g, i, none⟩ = false) ∧ g < w.heap.size :=
  ⟨h.cell 0, h.cell 1, h.cell 2, h.cell 3, h.cell 4, h.cell 5, fun i => h.frozen i, h.lt⟩
theorem seesA_none {p : Pol} {rec : List UInt8} {a : Alr} {now : Int} (h : findL p.receivers rec = none) : seesA p rec a now = none := by unfold seesA; rw [h]
theorem seesA_not {p : Pol} {rec : List UInt8} {a : Alr} {now : Int} (h : alertB a = false ∨ firesB a now = false) : seesA p rec a now = none := by
  unfold seesA
  cases findL p.receivers rec with
  | none => rfl
  | some to => rcases h with h | h <;> simp [h]
theorem seesA_cut {p : Pol} {rec : List UInt8} {a : Alr} {now : Int} {to : Lab} (h : findL p.receivers rec = some to) (h1 : alertB a = true) (h2 : firesB a now = true) : seesA p rec a now = cutA p a to := by
  unfold seesA; rw [h]; simp [h1, h2]
set_option maxRecDepth 100000 in
set_option maxHeartbeats 6400000 in
theorem sees_any {p : PolX} {rec : List UInt8} {a : AlrX} {now : Int} (w : World) (hp : p.At w) (ha : a.At w) :
    Calls Tryz.prog 36 #[p.val, .string ⟨rec.toArray⟩, valA a, .int .i64 now] w fun e w' => ∃ v, e = .returned (.tuple #[v, .bool (seesA p.pol rec a.a now).isSome]) ∧ CutOf w' w.heap.size (seesA p.pol rec a.a now) v ∧ Grows w w' := by
  have cF := fun W (hW : Grows w W) => find_any (c := p.r.k) (n := rec) W (hp.r.arr.keep hW) hp.r.le
  have cR := fun W (hW : Grows w W) => aright_any W (ha.keep hW)
  have cT := fun W => fires_any a now W
  have hS0 : findL p.pol.receivers rec = none → seesA p.pol rec a.a now = none := seesA_none
  have hS1 : alertB a.a = false ∨ firesB a.a now = false → seesA p.pol rec a.a now = none := seesA_not
  have hfl : p.pol.receivers = p.r.l := rfl
  rw [hfl] at hS0
  have cC : ∀ to, findL p.r.l rec = some to → ∀ W, Grows w W → Calls Tryz.prog 17 #[p.val, valA a, .agg #[.int .i64 to.lv, .int .u32 (to.c : Int)]] W fun e w' => ∃ v, e = .returned (.tuple #[v, .bool (cutA p.pol a.a to).isSome]) ∧ CutOf w' W.heap.size (cutA p.pol a.a to) v ∧ Grows W w' := fun to hto W hW =>
    cut_any W (hp.keep hW) (ha.keep hW) (by obtain ⟨y, hy, rfl⟩ := find_mem hto; exact hp.r.lab y hy)
  have hS2 : ∀ to, findL p.r.l rec = some to → alertB a.a = true → firesB a.a now = true → seesA p.pol rec a.a now = cutA p.pol a.a to := fun to hto h1 h2 => seesA_cut (hfl ▸ hto) h1 h2
  generalize cutA p.pol a.a = CU at *
  generalize seesA p.pol rec a.a now = S at *
  generalize alertB a.a = AB at *
  generalize firesB a.a now = FI at *
  unfold valA PolX.val at *
  clear hp ha hfl
  obtain ⟨⟨sl, sA, sm, sk⟩, ⟨rl, rA, rm, rk⟩, ⟨el, eA, em, ek⟩, ⟨al, aA, am, ak⟩, o, oA, om, ok, i, iA, im, ik⟩ := p
  obtain ⟨⟨src, fs, ⟨lv, lc⟩, f, t⟩, A, m, k⟩ := a
  simp only at cF cR cT cC hS0 hS2 ⊢
  replace cR := Lib.hid cR
  replace cT := Lib.hid cT
  replace cF := Lib.hid cF
  generalize hfind : findL rl rec = FL at *
  clear hfind
  cases FL with
  | none =>
    obtain rfl := hS0 rfl
    clear cR cT cC hS0 hS1 hS2
    go_enter Tryz.func36, Tryz.ntmps36
    go_wp2_with fail
    refine (cF.out _ (by
      repeat (first | assumption | exact Grows.refl _ | apply Grows.drew | apply Grows.drewN | refine Grows.alloc ?_ _ | (refine Grows.setCell ?_ (by first | (simp; done) | (simp; omega) | omega) _) | (refine Grows.trans ?_ (by assumption)))
    )).mono ?_
    rintro e w1 ⟨rfl, hb1⟩
    have br : Blk w1 (w.heap.size + 1 + 1) 50 zeroC := (Blk.new2 w _ _ _ _).grows hb1
    have hG : Hid (Grows w w1) := Lib.hid ((((Grows.refl w).alloc _).alloc _).alloc _ |>.trans hb1)
    have y0 : w1.cell? ⟨w.heap.size + 1 + 1, 0, none⟩ = some (.string ⟨#[]⟩) := br.cell 0
    have y1 : w1.cell? ⟨w.heap.size + 1 + 1, 1, none⟩ = some (.slice none 0 0) := br.cell 1
    have y2 : w1.cell? ⟨w.heap.size + 1 + 1, 2, none⟩ = some (.int .i64 0) := br.cell 2
    have y3 : w1.cell? ⟨w.heap.size + 1 + 1, 3, none⟩ = some (.int .u32 0) := br.cell 3
    have y4 : w1.cell? ⟨w.heap.size + 1 + 1, 4, none⟩ = some (.int .i64 0) := br.cell 4
    have y5 : w1.cell? ⟨w.heap.size + 1 + 1, 5, none⟩ = some (.int .i64 0) := br.cell 5
    have yf := fun i => br.frozen i
    have yl := br.lt
    clear cF hb1 br
    go_wp2_with fail
    refine bodyPost_ret (v := .tuple #[noneA, .bool false]) ?_ rfl ⟨noneA, rfl, rfl, ?_⟩
    · simp only [results, Tryz.results36, noneA]
      go_simp
    · have hG := hG.out
      repeat (first | with_reducible assumption | with_reducible exact Grows.refl _ | (with_reducible refine Grows.setCell ?_ (by first | (simp; done) | (simp; omega) | omega) _) | with_reducible refine Grows.alloc ?_ _ | with_reducible apply Grows.drew)
  | some to =>
    replace cC := Lib.hid (cC to rfl)
    replace hS1 := Lib.hid hS1
    have hS2' := Lib.hid (hS2 to rfl)
    generalize CU to = C at *
    clear hS0 hS2
    simp only [labOf, Option.getD_some, Option.isSome_some] at cF
    replace cF := Lib.hid cF.out
    go_enter Tryz.func36, Tryz.ntmps36
    go_wp2_with fail
    refine (cF.out _ (by
      repeat (first | assumption | exact Grows.refl _ | apply Grows.drew | apply Grows.drewN | refine Grows.alloc ?_ _ | (refine Grows.setCell ?_ (by first | (simp; done) | (simp; omega) | omega) _) | (refine Grows.trans ?_ (by assumption)))
    )).mono ?_
    rintro e w1 ⟨rfl, hb1⟩
    have bp : Hid (Blk w1 w.heap.size 32 #[.slice sA sm sk, .slice rA rm rk, .slice eA em ek, .slice aA am ak, .slice oA om ok, .slice iA im ik]) := Lib.hid ((((Blk.new w _ _).alloc _).alloc _).grows hb1)
    have ba : Hid (Blk w1 (w.heap.size + 1) 50 #[.string ⟨src.toArray⟩, .slice A m k, .int .i64 lv, .int .u32 (lc : Int), .int .i64 f, .int .i64 t]) := Lib.hid (((Blk.new1 w _ _ _).alloc _).grows hb1)
    have br : Hid (Blk w1 (w.heap.size + 1 + 1) 50 zeroC) := Lib.hid ((Blk.new2 w _ _ _ _).grows hb1)
    have hG : Hid (Grows w w1) := Lib.hid ((((Grows.refl w).alloc _).alloc _).alloc _ |>.trans hb1)
    have sz1 : w.heap.size + 3 ≤ w1.heap.size := by have := hb1.size; simp at this; omega
    clear cF hb1
    replace bp := Lib.hid (bp.out.alloc (.cells #[.int .i64 to.lv, .int .u32 (to.c : Int)] 40))
    replace ba := Lib.hid (ba.out.alloc (.cells #[.int .i64 to.lv, .int .u32 (to.c : Int)] 40))
    replace br := Lib.hid (br.out.alloc (.cells #[.int .i64 to.lv, .int .u32 (to.c : Int)] 40))
    have hN : Hid (Grows w (w1.alloc (.cells #[.int .i64 to.lv, .int .u32 (to.c : Int)] 40))) := Lib.hid (hG.out.alloc _)
    have bl : Hid (Blk (w1.alloc (.cells #[.int .i64 to.lv, .int .u32 (to.c : Int)] 40)) w1.heap.size 40 #[.int .i64 to.lv, .int .u32 (to.c : Int)]) := Lib.hid (Blk.new w1 _ _)
    obtain ⟨x0, x1, x2, x3, x4, x5, xl⟩ := alr_cells ba.out
    obtain ⟨y0, y1, y2, y3, y4, y5, yf, yl⟩ := zero_cells br.out
    go_wp2_with fail
    refine (cR.out _ hN.out).mono ?_
    rintro e w2 ⟨rfl, hb2⟩
    replace bp := Lib.hid (bp.out.grows hb2)
    replace ba := Lib.hid (ba.out.grows hb2)
    replace br := Lib.hid (br.out.grows hb2)
    replace bl := Lib.hid (bl.out.grows hb2)
    replace hN := Lib.hid (hN.out.trans hb2)
    clear hb2 x0 x1 x2 x3 x4 x5 xl y0 y1 y2 y3 y4 y5 yf yl
    obtain ⟨x0, x1, x2, x3, x4, x5, xl⟩ := alr_cells ba.out
    obtain ⟨y0, y1, y2, y3, y4, y5, yf, yl⟩ := zero_cells br.out
    clear cR
    cases AB
    · obtain rfl := hS1.out (.inl (by trivial))
      clear cT cC hS1 hS2'
      go_wp2_with fail
      refine bodyPost_ret (v := .tuple #[noneA, .bool false]) ?_ rfl ⟨noneA, rfl, rfl, ?_⟩
      · simp only [results, Tryz.results36, noneA]
        go_simp
      · have hN := hN.out
        repeat (first | with_reducible assumption | with_reducible exact Grows.refl _ | (with_reducible refine Grows.setCell ?_ (by first | (simp; done) | (simp; omega) | omega) _) | with_reducible refine Grows.alloc ?_ _ | with_reducible apply Grows.drew)
    · go_wp2_with fail
      refine (cT.out _).mono ?_
      rintro e w3 ⟨rfl, hb3⟩
      replace bp := Lib.hid (bp.out.grows hb3)
      replace ba := Lib.hid (ba.out.grows hb3)
      replace br := Lib.hid (br.out.grows hb3)
      replace bl := Lib.hid (bl.out.grows hb3)
      replace hN := Lib.hid (hN.out.trans hb3)
      clear hb3 x0 x1 x2 x3 x4 x5 xl y0 y1 y2 y3 y4 y5 yf yl
      obtain ⟨x0, x1, x2, x3, x4, x5, xl⟩ := alr_cells ba.out
      obtain ⟨y0, y1, y2, y3, y4, y5, yf, yl⟩ := zero_cells br.out
      clear cT
      cases FI
      · obtain rfl := hS1.out (.inr (by trivial))
        clear cC hS1 hS2'
        go_wp2_with fail
        refine bodyPost_ret (v := .tuple #[noneA, .bool false]) ?_ rfl ⟨noneA, rfl, rfl, ?_⟩
        · simp only [results, Tryz.results36, noneA]
          go_simp
        · have hN := hN.out
          repeat (first | with_reducible assumption | with_reducible exact Grows.refl _ | (with_reducible refine Grows.setCell ?_ (by first | (simp; done) | (simp; omega) | omega) _) | with_reducible refine Grows.alloc ?_ _ | with_reducible apply Grows.drew)
      · obtain rfl := hS2'.out (by trivial) (by trivial)
        clear hS1 hS2'
        have p0 : _ = some (Value.slice sA sm sk) := bp.out.cell 0
        have p1 : _ = some (Value.slice rA rm rk) := bp.out.cell 1
        have p2 : _ = some (Value.slice eA em ek) := bp.out.cell 2
        have p3 : _ = some (Value.slice aA am ak) := bp.out.cell 3
        have p4 : _ = some (Value.slice oA om ok) := bp.out.cell 4
        have p5 : _ = some (Value.slice iA im ik) := bp.out.cell 5
        have pl := bp.out.lt
        have l0 : _ = some (Value.int .i64 to.lv) := bl.out.cell 0
        have l1 : _ = some (Value.int .u32 (to.c : Int)) := bl.out.cell 1
        have ll := bl.out.lt
        go_wp2_with fail
        refine (cC.out _ hN.out).mono ?_
        rintro e w4 ⟨v, rfl, hv, hb4⟩
        have sz3 := hN.out.size
        replace hN := Lib.hid (hN.out.trans hb4)
        clear cC x0 x1 x2 x3 x4 x5 xl y0 y1 y2 y3 y4 y5 yf yl p0 p1 p2 p3 p4 p5 pl l0 l1 ll ba bp bl
        have sz4 := br.out.lt
        replace br := Lib.hid (br.out.grows hb4)
        clear hb4
        obtain ⟨y0, y1, y2, y3, y4, y5, yf, yl⟩ := zero_cells br.out
        cases S with
        | none =>
          obtain rfl : v = noneA := hv
          unfold noneA
          clear br
          go_wp2_with fail
          refine bodyPost_ret (v := .tuple #[noneA, .bool false]) ?_ rfl ⟨noneA, rfl, rfl, ?_⟩
          · simp only [results, Tryz.results36, noneA]
            go_simp
          · have hN := hN.out
            repeat (first | with_reducible assumption | with_reducible exact Grows.refl _ | (with_reducible refine Grows.setCell ?_ (by first | (simp; done) | (simp; omega) | omega) _) | with_reducible refine Grows.alloc ?_ _ | with_reducible apply Grows.drew)
        | some b =>
          obtain ⟨A', c', rfl, hO⟩ := hv
          unfold valA
          obtain ⟨src', fs', ⟨lv', lc'⟩, f', t'⟩ := b
          simp only at hO ⊢
          replace hO := Lib.hid hO
          generalize hL : fs'.length = L at *
          replace hL := Lib.hid hL
          clear br
          go_wp2_with fail
          refine bodyPost_ret (v := .tuple #[valA ⟨⟨src', fs', ⟨lv', lc'⟩, f', t'⟩, A', L, c'⟩, .bool true]) ?_ rfl ⟨valA ⟨⟨src', fs', ⟨lv', lc'⟩, f', t'⟩, A', L, c'⟩, rfl, ?_, ?_⟩
          · simp only [results, Tryz.results36, valA]
            go_simp
          · refine ⟨A', c', by rw [hL.out], ?_⟩
            rw [hL.out]
            refine Own.base_le (base := w3.heap.size) ?_ (by omega)
            repeat (with_reducible refine Own.setFar ?_ (by first | omega | (simp; omega)) _)
            with_reducible exact hO.out
          · have hN := hN.out
            repeat (first | with_reducible assumption | with_reducible exact Grows.refl _ | (with_reducible refine Grows.setCell ?_ (by first | (simp; done) | (simp; omega) | omega) _) | with_reducible refine Grows.alloc ?_ _ | with_reducible apply Grows.drew)
end Go.Proofs.YtfoffneipdkdjaaGreatDoor
namespace Go.Proofs.YtfoffneipdkdjaaGreatDoor
open Go.RowKit

/-- As FitsOK, for fields whose values are short enough to be read as bytes. -/
def FitsOKs (ft : List Fld → Mat → Bool) (x : Mat) : Prop := ∀ (A : Option Addr) (m c : Nat) (l : List Fld) (W : World), Arr W 2 encF A m l → m ≤ 9223372036854775807 → (∀ f ∈ l, f.v.length ≤ 1000000) → Calls Tryz.prog 118 #[.slice A m c, valM x] W fun e w' => e = .returned (.bool (ft l x)) ∧ Grows W w'
set_option maxRecDepth 100000 in
set_option maxHeartbeats 800000 in
theorem allC_any {ft : List Fld → Mat → Bool} {x : Mat} {g : Nat} {A : Option Addr} {m c : Nat} {l : List Fld} (w : World) (hx : FitsOKs ft x) (hc : w.cell? ⟨g, 0, none⟩ = some (.slice A m c)) (hA : Arr w 2 encF A m l) (hm : m ≤ 9223372036854775807) (hT : ∀ f ∈ l, f.v.length ≤ 1000000) :
    Calls Tryz.prog 117 #[valM x, .pointer (some ⟨g, 0, none⟩)] w fun e w' => e = .returned (.bool (!ft l x)) ∧ Grows w w' := by
  have cF := fun W (hW : Grows w W) => hx A m c l W (hA.keep hW) hm hT
  have hg := World.block_lt_of_cell? w _ hc
  simp only at hg
  generalize ft l x = B at *
  unfold valM at *
  replace cF := Lib.hid cF
  clear hx hA
  go_enter Tryz.func117, Tryz.ntmps117
  go_wp2_with fail
  refine (cF.out _ (by
    repeat (first | assumption | exact Grows.refl _ | apply Grows.drew | apply Grows.drewN | refine Grows.alloc ?_ _ | (refine Grows.setCell ?_ (by first | (simp; done) | (simp; omega) | omega) _) | (refine Grows.trans ?_ (by assumption)))
  )).mono ?_
  rintro e w1 ⟨rfl, hb⟩
  have hG : Grows w w1 := ((Grows.refl w).alloc _).trans hb
  go_wp2
  go_ret
  exact ⟨ret_bool rfl, hG⟩
theorem all_not_any {α : Type} (p : α → Bool) (l : List α) : l.all p = !(l.any fun x => !p x) := by
  rw [List.not_any_eq_all_not]; congr 1; funext x; rw [Bool.not_not]
set_option maxRecDepth 100000 in
set_option maxHeartbeats 800000 in
theorem all_any {ft : List Fld → Mat → Bool} {A : Option Addr} {m c : Nat} {l : List Fld} {A2 : Option Addr} {m2 c2 : Nat} {ms : List Mat} (w : World) (hA : Arr w 2 encF A m l) (hm : m ≤ 9223372036854775807) (hM : Arr w 3 encM A2 m2 ms) (hm2 : m2 ≤ 9223372036854775807) (hT : ∀ f ∈ l, f.v.length ≤ 1000000) (hx : ∀ x ∈ ms, FitsOKs ft x) :
    Calls Tryz.prog 81 #[.slice A m c, .slice A2 m2 c2] w fun e w' => e = .returned (.bool (ms.all (ft l))) ∧ Grows w w' := by
  have cC := fun (W : World) (hW : Grows w W) (hc : W.cell? ⟨w.heap.size, 0, none⟩ = some (.slice A m c)) => conM_any (c := c2) 117 #[.pointer (some ⟨w.heap.size, 0, none⟩)] (enters_of Tryz.func117 (by kernel_rfl) rfl) (fun y => !ft l y) A2 m2 ms W (hM.keep hW) hm2 (fun y hy W' hW' => allC_any W' (hx y hy) (hW'.cell hc) (hA.keep (hW.trans hW')) hm hT)
  have hna := all_not_any (ft l) ms
  rw [hna]
  generalize (ms.any fun x => !ft l x) = B at *
  replace cC := Lib.hid cC
  clear hx hA hM hna
  go_enter Tryz.func81, Tryz.ntmps81
  go_wp2_with fail
  refine (cC.out _ (by
    repeat (first | assumption | exact Grows.refl _ | apply Grows.drew | apply Grows.drewN | refine Grows.alloc ?_ _ | (refine Grows.setCell ?_ (by first | (simp; done) | (simp; omega) | omega) _) | (refine Grows.trans ?_ (by assumption)))
  ) ((Blk.new w _ _).cell 0)).mono ?_
  rintro e w1 ⟨rfl, hb⟩
  have hG : Grows w w1 := ((Grows.refl w).alloc _).trans hb
  go_wp2
  go_ret
  exact ⟨ret_bool rfl, hG⟩

def fitsAt (ft : List Fld → Mat → Bool) (rec : List UInt8) (fs : List Fld) (r : Rte) : Bool := decide (r.r = rec) && r.wh.all (ft fs)
def fitsTo (ft : List Fld → Mat → Bool) (rs : List Rte) (rec : List UInt8) (fs : List Fld) (k : Nat) : List Nat := (List.range k).filter fun i => match rs[i]? with | some r => fitsAt ft rec fs r | none => false
def fitsL (ft : List Fld → Mat → Bool) (p : Pol) (rec : List UInt8) (fs : List Fld) : List Nat := fitsTo ft p.routes rec fs p.routes.length
theorem fitsTo_yes {ft : List Fld → Mat → Bool} {rs : List Rte} {rec : List UInt8} {fs : List Fld} {k : Nat} {r : Rte} (hr : rs[k]? = some r) (h : fitsAt ft rec fs r = true) : fitsTo ft rs rec fs (k + 1) = fitsTo ft rs rec fs k ++ [k] := by
  unfold fitsTo; rw [List.range_succ, List.filter_append]; simp [hr, h]
theorem fitsTo_no {ft : List Fld → Mat → Bool} {rs : List Rte} {rec : List UInt8} {fs : List Fld} {k : Nat} {r : Rte} (hr : rs[k]? = some r) (h : fitsAt ft rec fs r = false) : fitsTo ft rs rec fs (k + 1) = fitsTo ft rs rec fs k := by
  unfold fitsTo; rw [List.range_succ, List.filter_append]; simp [hr, h]
theorem fitsTo_len (ft : List Fld → Mat → Bool) (rs : List Rte) (rec : List UInt8) (fs : List Fld) (k : Nat) : (fitsTo ft rs rec fs k).length ≤ k := by
  unfold fitsTo; exact Nat.le_trans (List.length_filter_le _ _) (by simp)
/-- What the policy's matchers answer. -/
def FitssOK (ft : List Fld → Mat → Bool) (x : PolX) : Prop := ∀ r ∈ x.o, ∀ y ∈ r.r.wh, FitsOKs ft y
set_option maxRecDepth 100000 in
set_option maxHeartbeats 3200000 in
theorem fits_any {ft : List Fld → Mat → Bool} {p : PolX} {rec : List UInt8} {a : AlrX} (w : World) (hp : p.At w) (hA : Arr w 2 encF a.A a.m a.a.fs) (hm : a.m ≤ 9223372036854775807) (hT : ∀ f ∈ a.a.fs, f.v.length ≤ 1000000) (hom : p.om ≤ 1000) (hft : FitssOK ft p) :
    Calls Tryz.prog 37 #[p.val, .string ⟨rec.toArray⟩, valA a] w fun e w' => ∃ v, e = .returned v ∧ Own w' w.heap.size 3 1 encI v (fitsL ft p.pol rec a.a.fs) ∧ Grows w w' := by
  have hO := hp.o
  have hol := hO.1
  have cA := fun (r : RteX) (hr : r ∈ p.o) (W : World) (hW : Grows w W) => all_any (ft := ft) (c := a.k) (c2 := r.wk) W (hA.keep hW) hm ((hp.oAt r hr).keep hW).wh (hp.oAt r hr).whle hT (hft r hr)
  have hfin : fitsL ft p.pol rec a.a.fs = fitsTo ft (p.o.map (·.r)) rec a.a.fs p.om := by
    show fitsTo ft (p.o.map (·.r)) rec a.a.fs (p.o.map (·.r)).length = _
    rw [List.length_map, hol]
  rw [hfin]
  have hyes := fun k r (hr : p.o[k]? = some r) (h : fitsAt ft rec a.a.fs r.r = true) => fitsTo_yes (rs := p.o.map (·.r)) (rec := rec) (fs := a.a.fs) (k := k) (ft := ft) (by rw [List.getElem?_map, hr]; rfl) h
  have hno := fun k r (hr : p.o[k]? = some r) (h : fitsAt ft rec a.a.fs r.r = false) => fitsTo_no (rs := p.o.map (·.r)) (rec := rec) (fs := a.a.fs) (k := k) (ft := ft) (by rw [List.getElem?_map, hr]; rfl) h
  have hlen := fitsTo_len ft (p.o.map (·.r)) rec a.a.fs
  have h00 : fitsTo ft (p.o.map (·.r)) rec a.a.fs 0 = [] := rfl
  unfold fitsAt at hyes hno
  generalize fitsTo ft (p.o.map (·.r)) rec a.a.fs = F at *
  unfold PolX.val valA
  clear hfin hp hft hA
  obtain ⟨⟨sl, sA, sm, sk⟩, ⟨rl, rA, rm, rk⟩, ⟨el, eA, em, ek⟩, ⟨al, aA, am, ak⟩, o, oA, om, ok, i, iA, im, ik⟩ := p
  obtain ⟨⟨src, fs, ⟨lv, lc⟩, f, t⟩, A, m, k0⟩ := a
  simp only at cA hO hol hom hm hyes hno ⊢
  replace cA := Lib.hid cA
  replace hO := Lib.hid hO
  replace hyes := Lib.hid hyes
  replace hno := Lib.hid hno
  replace hlen := Lib.hid hlen
  go_enter Tryz.func37, Tryz.ntmps37
  go_wp2
  go_loopw [7, 8, 9, 13] (fun v _ _ i wr => ∃ k : Nat, k ≤ om ∧ i = .int .i64 k ∧ Hid (Own wr (w.heap.size + 2) 3 1 encI v (F k)) ∧ Hid (Blk wr (w.heap.size + 1) 50 #[.string ⟨src.toArray⟩, .slice A m k0, .int .i64 lv, .int .u32 (lc : Int), .int .i64 f, .int .i64 t]) ∧ Hid (Grows w wr)) (fun _ _ _ i _ => om - (intOf i).toNat)
  case atStart => exact ⟨0, by omega, rfl, by rw [h00]; exact Own.nil_ _ _ _ _ _, Blk.new1 w _ _ _, ((Grows.refl w).alloc _).alloc _⟩
  case round =>
    obtain ⟨k, hk, rfl, hOw, hB, hG⟩ := hrel
    by_cases hkm : k < om
    · obtain ⟨bb, off, r, rfl, hsx, hr, hcell⟩ := (hO.out.keep hG.out).at_ hkm
      have c0 : wr.cell? ⟨bb, off + k * 6, none⟩ = some (.string ⟨r.r.r.toArray⟩) := hcell 0 _ rfl
      have c1 : wr.cell? ⟨bb, off + k * 6 + 1, none⟩ = some (.slice r.bA r.bm r.bk) := hcell 1 _ rfl
      have c2 : wr.cell? ⟨bb, off + k * 6 + 2, none⟩ = some (.int .i64 r.r.wait) := hcell 2 _ rfl
      have c3 : wr.cell? ⟨bb, off + k * 6 + 3, none⟩ = some (.int .i64 r.r.every) := hcell 3 _ rfl
      have c4 : wr.cell? ⟨bb, off + k * 6 + 4, none⟩ = some (.int .i64 r.r.again) := hcell 4 _ rfl
      have c5 : wr.cell? ⟨bb, off + k * 6 + 5, none⟩ = some (.slice r.wA r.wm r.wk) := hcell 5 _ rfl
      have hki : (k : Int) < (om : Int) := by omega
      have hy := hyes.out k r hr
      have hn := hno.out k r hr
      have cR := cA.out r (List.mem_of_getElem? hr)
      have q1 : wr.cell? ⟨w.heap.size + 1, 1, none⟩ = some (.slice A m k0) := hB.out.cell 1
      have qz := hB.out.lt
      have hsz := hG.out.size
      have hlk := hlen.out k
      generalize r.r.wh.all (ft fs) = B at *
      replace cR := Lib.hid cR
      clear hcell
      by_cases hrec : r.r.r = rec
      · have hbe : (r.r.r == rec) = true := by simp [hrec]
        have hde : decide (r.r.r = rec) = true := by simp [hrec]
        rw [hde] at hy hn
        clear hrec hde hr
        cases B
        · have hn' := Lib.hid (hn rfl)
          clear hy hn
          go_wp2_with fail
          refine (cR.out _ (by
            have hG := hG.out
            repeat (first | assumption | exact Grows.refl _ | apply Grows.drew | apply Grows.drewN | refine Grows.alloc ?_ _ | (refine Grows.setCell ?_ (by first | (simp; done) | (simp; omega) | omega) _) | (refine Grows.trans ?_ (by assumption)))
          )).mono ?_
          rintro e w1 ⟨rfl, hb⟩
          have hG1 := Lib.hid ((hG.out.alloc _).trans hb)
          have hO1 := Lib.hid ((hOw.out.alloc _).grows hb)
          have hB1 := Lib.hid ((hB.out.alloc _).grows hb)
          clear hb c0 c1 c2 c3 c4 c5 hG hOw hB q1 qz
          go_wp2
          go_roundw
          case rel => exact ⟨k + 1, by omega, by go_num, by rw [hn'.out]; exact hO1.out, hB1.out, hG1.out⟩
          case measure => simp [intOf]; omega
        · have hy' := Lib.hid (hy rfl)
          clear hy hn
          go_wp2_with fail
          refine (cR.out _ (by
            have hG := hG.out
            repeat (first | assumption | exact Grows.refl _ | apply Grows.drew | apply Grows.drewN | refine Grows.alloc ?_ _ | (refine Grows.setCell ?_ (by first | (simp; done) | (simp; omega) | omega) _) | (refine Grows.trans ?_ (by assumption)))
          )).mono ?_
          rintro e w1 ⟨rfl, hb⟩
          have hG1 := Lib.hid ((hG.out.alloc _).trans hb)
          have hO1 := Lib.hid ((hOw.out.alloc _).grows hb)
          have hB1 := Lib.hid ((hB.out.alloc _).grows hb)
          clear hb c0 c1 c2 c3 c4 c5 hG hOw hB q1 qz
          have hsz1 := hB1.out.lt
          replace hlk := Lib.hid hlk
          go_wp2_with (at_builtin; refine wpList_grown (x := k) T_ii rfl (.tmp 29) (.tmp 31) rfl (hO1.out.alloc _) rfl ⟨w1.heap.size, 0, none⟩ rfl rfl (news_of (by exact heap_alloc_new w1 _)) (oneI k) (by simp; omega) (by have := hlk.out; unfold maxLen; omega) (by have := hlk.out; omega) (fun v2 w2 hO2 hgr hat => ?_); (have hG2 := Lib.hid ((hG1.out.alloc _).by_row hgr (fun g hg => by have := hO1.out.block_ge g hg; omega))); (have hB2 := Lib.hid ((hB1.out.alloc _).by_row hgr (fun e => by have := hO1.out.block_ge _ e.symm; omega))); (replace hO2 := Lib.hid hO2); clear hgr hat)
          go_roundw
          case rel => exact ⟨k + 1, by omega, by go_num, by rw [hy'.out]; exact hO2.out, hB2.out, hG2.out⟩
          case measure => simp [intOf]; omega
      · have hbe : (r.r.r == rec) = false := by simp [hrec]
        have hde : decide (r.r.r = rec) = false := by simp [hrec]
        rw [hde] at hn
        have hn' := Lib.hid (hn rfl)
        clear hrec hde hr hy hn cR
        go_wp2
        go_roundw
        case rel => exact ⟨k + 1, by omega, by go_num, by rw [hn'.out]; exact hOw.out.alloc _, hB.out.alloc _, hG.out.alloc _⟩
        case measure => simp [intOf]; omega
    · obtain rfl : k = om := by omega
      go_wp2
      go_ret
      exact ⟨_, rfl, hOw.out.base_le (by omega), hG.out⟩
end Go.Proofs.YtfoffneipdkdjaaGreatDoor
namespace Go.Proofs.YtfoffneipdkdjaaGreatDoor
open Go.RowKit

def NamsX.cut (x : NamsX) (n : Nat) : NamsX := ⟨x.l.take (min x.m n), x.A, min x.m n, x.k⟩
def PolX.cut (p : PolX) (n : Nat) : PolX := ⟨p.s.cut n, p.r.cut n, p.e.cut n, p.a.cut n, p.o.take (min p.om n), p.oA, min p.om n, p.ok, p.i.take (min p.im n), p.iA, min p.im n, p.ik⟩
/-- No list is longer than its room. -/
structure PolX.Caps (p : PolX) : Prop where
  s : p.s.m ≤ p.s.k
  r : p.r.m ≤ p.r.k
  e : p.e.m ≤ p.e.k
  a : p.a.m ≤ p.a.k
  o : p.om ≤ p.ok
  i : p.im ≤ p.ik
  sk : p.s.k ≤ 9223372036854775807
  rk : p.r.k ≤ 9223372036854775807
  ek : p.e.k ≤ 9223372036854775807
  ak : p.a.k ≤ 9223372036854775807
  ok_ : p.ok ≤ 9223372036854775807
  ik_ : p.ik ≤ 9223372036854775807
theorem NamsX.At.cut {x : NamsX} {w : World} (h : x.At w) (n : Nat) : (x.cut n).At w :=
  ⟨h.arr.take (Nat.min_le_left _ _), Nat.le_trans (Nat.min_le_left _ _) h.le, fun y hy => h.lab y (List.mem_of_mem_take hy), fun y hy => h.txt y (List.mem_of_mem_take hy)⟩
theorem PolX.At.cut {p : PolX} {w : World} (h : p.At w) (n : Nat) : (p.cut n).At w :=
  ⟨h.s.cut n, h.r.cut n, h.e.cut n, h.a.cut n, h.o.take (Nat.min_le_left _ _), Nat.le_trans (Nat.min_le_left _ _) h.ole, fun y hy => h.oAt y (List.mem_of_mem_take hy), h.i.take (Nat.min_le_left _ _), Nat.le_trans (Nat.min_le_left _ _) h.ile, fun y hy => h.iAt y (List.mem_of_mem_take hy)⟩
set_option maxRecDepth 100000 in
set_option maxHeartbeats 3200000 in
theorem cut14_any {p : PolX} (w : World) (hk : p.Caps) : Calls Tryz.prog 13 #[p.val, .int .i64 14] w fun e w' => e = .returned (p.cut 14).val ∧ Grows w w' := by
  obtain ⟨⟨sl, sA, sm, sk⟩, ⟨rl, rA, rm, rk⟩, ⟨el, eA, em, ek⟩, ⟨al, aA, am, ak⟩, o, oA, om, ok, i, iA, im, ik⟩ := p
  obtain ⟨h1, h2, h3, h4, h5, h6, k1, k2, k3, k4, k5, k6⟩ := hk
  simp only at h1 h2 h3 h4 h5 h6 k1 k2 k3 k4 k5 k6
  unfold PolX.val PolX.cut NamsX.cut
  simp only
  go_enter Tryz.func13, Tryz.ntmps13
  go_wp2
  have e : ∀ m : Nat, (min (m : Int) 14).toNat = min m 14 := fun m => by omega
  simp only [e]
  have hB := Blk.new (w.alloc (.cells #[.slice sA (min sm 14) sk, .slice rA (min rm 14) rk, .slice eA (min em 14) ek, .slice aA (min am 14) ak, .slice oA (min om 14) ok, .slice iA (min im 14) ik] 32)) 32 #[.slice sA (min sm 14) sk, .slice rA (min rm 14) rk, .slice eA (min em 14) ek, .slice aA (min am 14) ak, .slice oA (min om 14) ok, .slice iA (min im 14) ik]
  rw [show (w.alloc (.cells #[.slice sA (min sm 14) sk, .slice rA (min rm 14) rk, .slice eA (min em 14) ek, .slice aA (min am 14) ak, .slice oA (min om 14) ok, .slice iA (min im 14) ik] 32)).heap.size = w.heap.size + 1 by simp] at hB
  have hG : Grows w ((w.alloc (.cells #[.slice sA (min sm 14) sk, .slice rA (min rm 14) rk, .slice eA (min em 14) ek, .slice aA (min am 14) ak, .slice oA (min om 14) ok, .slice iA (min im 14) ik] 32)).alloc (.cells #[.slice sA (min sm 14) sk, .slice rA (min rm 14) rk, .slice eA (min em 14) ek, .slice aA (min am 14) ak, .slice oA (min om 14) ok, .slice iA (min im 14) ik] 32)) := ((Grows.refl w).alloc _).alloc _
  generalize (w.alloc (.cells #[.slice sA (min sm 14) sk, .slice rA (min rm 14) rk, .slice eA (min em 14) ek, .slice aA (min am 14) ak, .slice oA (min om 14) ok, .slice iA (min im 14) ik] 32)).alloc (.cells #[.slice sA (min sm 14) sk, .slice rA (min rm 14) rk, .slice eA (min em 14) ek, .slice aA (min am 14) ak, .slice oA (min om 14) ok, .slice iA (min im 14) ik] 32) = w9 at *
  have e0 := hB.cell 0
  have e1 := hB.cell 1
  have e2 := hB.cell 2
  have e3 := hB.cell 3
  have e4 := hB.cell 4
  have e5 := hB.cell 5
  refine bodyPost_ret (v := .agg #[.slice sA (min sm 14) sk, .slice rA (min rm 14) rk, .slice eA (min em 14) ek, .slice aA (min am 14) ak, .slice oA (min om 14) ok, .slice iA (min im 14) ik]) ?_ rfl ⟨rfl, hG⟩
  simp [results, Tryz.results13, go_sem, e0, e1, e2, e3, e4, e5]
end Go.Proofs.YtfoffneipdkdjaaGreatDoor
