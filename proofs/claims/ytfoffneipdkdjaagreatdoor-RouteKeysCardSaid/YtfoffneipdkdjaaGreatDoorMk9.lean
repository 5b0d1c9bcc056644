/- Parts: Labels: the teams of a label, the program's and the reference's; is a number in a list. What a receiver sees of an alert (route.sees); matchers that all fit (match.All). Matchers that all fit (match.All); the routes that fit (route.fits). An alert's id. The fields of some names (match.Pick); which group it is, as a text (route.where). Ids in a row: where one belongs (slices.BinarySearch at uint64). Ids in a row: one is put where it belongs (slices.Insert at uint64). slices.Insert at uint64: one id. -/
import Derived.Test.YtfoffneipdkdjaaGreatDoorMk2
import Derived.Test.YtfoffneipdkdjaaGreatDoorMk8
import Derived.Test.YtfoffneipdkdjaaGreatDoorMk7
import Derived.Laws.CopyRow
import Derived.Laws.Externs
import Derived.Lib.AppendZeros
namespace Go.Proofs.YtfoffneipdkdjaaGreatDoor
open Go.RowKit

def encI (n : Nat) : List Value := [.int .i64 (n : Int)]
theorem hkI (n : Nat) : (encI n).length = 1 := rfl
theorem oneI (n : Nat) : ∀ u ∈ encI n, u.oneCell' = true := by intro u hu; simp [encI] at hu; subst hu; rfl
theorem T_ii : SliceT Tryz.prog 53 3 1 8 := SliceT.mk' (z := .int .i64 0) Tryz.underlying53 (by kernel_rfl) rfl (by omega)
def bitsTo (c k : Nat) : List Nat := (List.range k).filter fun j => c.testBit j
theorem bitsTo_all (c : Nat) : bitsTo c 32 = teams c := rfl
theorem bitsTo_yes {c k : Nat} (h : c.testBit k = true) : bitsTo c (k + 1) = bitsTo c k ++ [k] := by
  unfold bitsTo; rw [List.range_succ, List.filter_append]; simp [h]
theorem bitsTo_no {c k : Nat} (h : c.testBit k = false) : bitsTo c (k + 1) = bitsTo c k := by
  unfold bitsTo; rw [List.range_succ, List.filter_append]; simp [h]
theorem bitsTo_len (c k : Nat) : (bitsTo c k).length ≤ k := by
  unfold bitsTo; exact Nat.le_trans (List.length_filter_le _ _) (by simp)
theorem teams_len (c : Nat) : (teams c).length ≤ 32 := bitsTo_len c 32
theorem testBit_div (c k : Nat) : c.testBit k = decide (c / 2 ^ k % 2 = 1) := by
  rw [Nat.testBit_eq_decide_div_mod_eq]

set_option maxRecDepth 100000 in
set_option maxHeartbeats 1600000 in
theorem refTeams_any (x : Lab) (w : World) (hx : x.ok) :
    Calls Tryz.prog 58 #[.agg #[.int .i64 x.lv, .int .u32 (x.c : Int)]] w fun e w' => ∃ v, e = .returned v ∧ Own w' w.heap.size 3 1 encI v (teams x.c) ∧ Grows w w' := by
  have hxc : (x.c : Int) < 4294967296 := by unfold Lab.ok at hx; omega
  go_enter Tryz.func58, Tryz.ntmps58
  go_wp2
  go_loopw [3, 4, 5] (fun v r i wr => ∃ (k : Nat) (R : Int), k ≤ 32 ∧ i = .int .i64 k ∧ r = .int .u32 R ∧ 0 ≤ R ∧ R < 4294967296 ∧ Hid (R = ((x.c / 2 ^ k : Nat) : Int)) ∧ Own wr w.heap.size 3 1 encI v (bitsTo x.c k) ∧ Grows w wr) (fun _ _ i _ => 32 - (intOf i).toNat)
  case atStart => exact ⟨0, x.c, by omega, rfl, rfl, by omega, hxc, (by simp : (x.c : Int) = ((x.c / 2 ^ 0 : Nat) : Int)), Own.nil_ _ _ _ _ _, (Grows.refl w).alloc _⟩
  case round =>
    obtain ⟨k, R, hk, rfl, rfl, hR0, hR, hRk, hown, hg⟩ := hrel
    by_cases hlt : k < 32
    · have hnext : R / 2 = ((x.c / 2 ^ (k + 1) : Nat) : Int) := by rw [hRk.out, Nat.pow_succ, ← Nat.div_div_eq_div_mul]; omega
      have hbit := testBit_div x.c k
      have hRk' := hRk.out
      have hl := bitsTo_len x.c k
      have hsz := hg.size
      replace hnext := Lib.hid hnext
      clear hxc hx
      cases hb : x.c.testBit k
      · have hr1 : R % 2 = 0 := by
          rw [hb] at hbit; simp only [Bool.false_eq, decide_eq_false_iff_not] at hbit
          omega
        have hno := Lib.hid (bitsTo_no hb)
        clear hb hbit hRk hRk' hl
        go_wp2
        go_roundw
        case rel => exact ⟨k + 1, R / 2, by omega, by go_num, rfl, by omega, by omega, hnext.out, by rw [hno.out]; exact hown, hg⟩
        case measure => simp [intOf]; omega
      · have hr1 : R % 2 = 1 := by
          rw [hb] at hbit; simp only [Bool.true_eq, decide_eq_true_eq] at hbit
          omega
        have hyes := Lib.hid (bitsTo_yes hb)
        clear hb hbit hRk hRk'
        replace hl := Lib.hid hl
        go_wp2_with (at_builtin; refine wpList_grown (x := k) T_ii rfl (.tmp 15) (.tmp 17) rfl (hown.alloc _) rfl ⟨wr.heap.size, 0, none⟩ rfl rfl (news_of (by exact heap_alloc_new wr _)) (oneI k) (by simp; omega) (by have := hl.out; unfold maxLen; omega) (by have := hl.out; omega) (fun v1 w1 hown1 hgr hat => ?_))
        have hb1 : Below w.heap.size wr w1 := Own.below (hown.alloc _) (by
          repeat (first | assumption | exact Below.refl _ _ | apply Below.drew | apply below_drewN | (refine Below.alloc2t ?_ (by first | rfl | simp) (by first | omega | (simp; omega) | simp)) | (refine Below.alloc ?_ (by first | omega | (simp; omega) | simp) _) | (refine Below.setCell ?_ (by first | omega | (simp; omega) | simp) _))
        ) (Nat.le_refl _) (by simp; omega) hgr
        clear hgr hat
        go_wp2
        go_roundw
        case rel => exact ⟨k + 1, R / 2, by omega, by go_num, rfl, by omega, by omega, hnext.out, by rw [hyes.out]; exact hown1, hg.then_ hb1⟩
        case measure => simp [intOf]; omega
    · obtain rfl : k = 32 := by omega
      clear hRk
      go_wp2
      go_ret
      exact ⟨u3, rfl, hown, hg⟩

set_option maxRecDepth 100000 in
set_option maxHeartbeats 1600000 in
theorem has_any (A : Option Addr) (m c : Nat) (xs : List Nat) (j : Nat) (w : World) (h : Arr w 1 encI A m xs) (hm : m ≤ maxLen) (g : FuncId) (hgf : g = 59) :
    Calls Tryz.prog g #[.slice A m c, .int .i64 j] w fun e w' => e = .returned (.bool (decide (j ∈ xs))) ∧ w' = w := by
  subst hgf
  unfold maxLen at hm
  have hlen := h.1
  go_enter Tryz.func59, Tryz.ntmps59
  go_wp2
  go_loop [5] (fun i => ∃ k : Nat, k ≤ m ∧ i = .int .i64 k ∧ Hid (j ∉ xs.take k)) (fun i => m - (intOf i).toNat)
  case atStart => exact ⟨0, by omega, rfl, by simp [Hid]⟩
  case round =>
    obtain ⟨k, hk, rfl, hno⟩ := hrel
    by_cases hlt : k < m
    · obtain ⟨b, off, y, rfl, _, hy, hcell⟩ := h.at_ hlt
      have c0 : w.cell? ⟨b, off + k, none⟩ = some (.int .i64 y) := by simpa using hcell 0 _ rfl
      by_cases hyj : y = j
      · have hb : ((y : Int) == (j : Int)) = true := by simp [hyj]
        have hfin : decide (j ∈ xs) = true := by rw [decide_eq_true_eq, ← hyj]; exact List.mem_of_getElem? hy
        replace hfin := Lib.hid hfin
        clear hyj hno hy hcell h hlen
        go_wp2
        go_ret
        exact ⟨ret_bool hfin.out.symm, rfl⟩
      · have hb : ((y : Int) == (j : Int)) = false := by rw [beq_eq_false_iff_ne]; omega
        have hno2 : j ∉ xs.take (k + 1) := by
          rw [List.take_add_one, hy]; simp [hno.out, Ne.symm hyj]
        replace hno2 := Lib.hid hno2
        clear hyj hno hy hcell h hlen
        go_wp2
        go_round
        case rel => exact ⟨k + 1, by omega, by go_num, hno2.out⟩
        case measure => simp [intOf]; omega
    · obtain rfl : k = m := by omega
      have hfin : decide (j ∈ xs) = false := by rw [decide_eq_false_iff_not, ← List.take_of_length_le (Nat.le_of_eq hlen)]; exact hno.out
      replace hfin := Lib.hid hfin
      clear hno h hlen
      go_wp2
      go_ret
      exact ⟨ret_bool hfin.out.symm, rfl⟩
end Go.Proofs.YtfoffneipdkdjaaGreatDoor
namespace Go.Proofs.YtfoffneipdkdjaaGreatDoor
open Go.RowKit

theorem noneA_cells : (noneA : Value) = .agg #[.string ⟨#[]⟩, .slice none 0 0, .int .i64 0, .int .u32 0, .int .i64 0, .int .i64 0] := rfl
theorem alr_cells {w : World} {g m k lc : Nat} {src : List UInt8} {A : Option Addr} {lv f t : Int} (h : Blk w g 50 #[.string ⟨src.toArray⟩, .slice A m k, .int .i64 lv, .int .u32 (lc : Int), .int .i64 f, .int .i64 t]) :
    w.cell? ⟨g, 0, none⟩ = some (.string ⟨src.toArray⟩) ∧ w.cell? ⟨g, 1, none⟩ = some (.slice A m k) ∧ w.cell? ⟨g, 2, none⟩ = some (.int .i64 lv) ∧ w.cell? ⟨g, 3, none⟩ = some (.int .u32 (lc : Int)) ∧ w.cell? ⟨g, 4, none⟩ = some (.int .i64 f) ∧ w.cell? ⟨g, 5, none⟩ = some (.int .i64 t) ∧ g < w.heap.size :=
  ⟨h.cell 0, h.cell 1, h.cell 2, h.cell 3, h.cell 4, h.cell 5, h.lt⟩
theorem zero_cells {w : World} {g : Nat} (h : Blk w g 50 zeroC) :
    w.cell? ⟨g, 0, none⟩ = some (.string ⟨#[]⟩) ∧ w.cell? ⟨g, 1, none⟩ = some (.slice none 0 0) ∧ w.cell? ⟨g, 2, none⟩ = some (.int .i64 0) ∧ w.cell? ⟨g, 3, none⟩ = some (.int .u32 0) ∧ w.cell? ⟨g, 4, none⟩ = some (.int .i64 0) ∧ w.cell? ⟨g, 5, none⟩ = some (.int .i64 0) ∧ (∀ i, w.frozen? ⟨g, i, none⟩ = false) ∧ g < w.heap.size :=
  ⟨h.cell 0, h.cell 1, h.cell 2, h.cell 3, h.cell 4, h.cell 5, fun i => h.frozen i, h.lt⟩
def seesOf (p : PolX) (rec : List UInt8) (a : Alr) (now : Int) : Option Alr := seesA p.pol rec a now
theorem seesA_none {p : Pol} {rec : List UInt8} {a : Alr} {now : Int} (h : findL p.receivers rec = none) : seesA p rec a now = none := by unfold seesA; rw [h]
theorem seesA_not {p : Pol} {rec : List UInt8} {a : Alr} {now : Int} (h : alertB a = false ∨ firesB a now = false) : seesA p rec a now = none := by
  unfold seesA
  cases findL p.receivers rec with
  | none => rfl
  | some to => rcases h with h | h <;> simp [h]
theorem seesA_cut {p : Pol} {rec : List UInt8} {a : Alr} {now : Int} {to : Lab} (h : findL p.receivers rec = some to) (h1 : alertB a = true) (h2 : firesB a now = true) : seesA p rec a now = cutA p a to := by
  unfold seesA; rw [h]; simp [h1, h2]
set_option maxRecDepth 100000 in
set_option maxHeartbeats 6400000 in
theorem sees_any {p : PolX} {rec : List UInt8} {a : AlrX} {now : Int} (w : World) (hp : p.At w) (ha : a.At w) :
    Calls Tryz.prog 36 #[p.val, .string ⟨rec.toArray⟩, valA a, .int .i64 now] w fun e w' => ∃ v, e = .returned (.tuple #[v, .bool (seesA p.pol rec a.a now).isSome]) ∧ CutOf w' w.heap.size (seesA p.pol rec a.a now) v ∧ Grows w w' := by
  have cF := fun W (hW : Grows w W) => find_any (c := p.r.k) (n := rec) W (hp.r.arr.keep hW) hp.r.le
  have cR := fun W (hW : Grows w W) => aright_any W (ha.keep hW)
  have cT := fun W => fires_any a now W
  have hS0 : findL p.pol.receivers rec = none → seesA p.pol rec a.a now = none := seesA_none
  have hS1 : alertB a.a = false ∨ firesB a.a now = false → seesA p.pol rec a.a now = none := seesA_not
  have hfl : p.pol.receivers = p.r.l := rfl
  rw [hfl] at hS0
  have cC : ∀ to, findL p.r.l rec = some to → ∀ W, Grows w W → Calls Tryz.prog 17 #[p.val, valA a, .agg #[.int .i64 to.lv, .int .u32 (to.c : Int)]] W fun e w' => ∃ v, e = .returned (.tuple #[v, .bool (cutA p.pol a.a to).isSome]) ∧ CutOf w' W.heap.size (cutA p.pol a.a to) v ∧ Grows W w' := fun to hto W hW =>
    cut_any W (hp.keep hW) (ha.keep hW) (by obtain ⟨y, hy, rfl⟩ := find_mem hto; exact hp.r.lab y hy)
  have hS2 : ∀ to, findL p.r.l rec = some to → alertB a.a = true → firesB a.a now = true → seesA p.pol rec a.a now = cutA p.pol a.a to := fun to hto h1 h2 => seesA_cut (hfl ▸ hto) h1 h2
  generalize cutA p.pol a.a = CU at *
  generalize seesA p.pol rec a.a now = S at *
  generalize alertB a.a = AB at *
  generalize firesB a.a now = FI at *
  unfold valA PolX.val at *
  clear hp ha hfl
  obtain ⟨⟨sl, sA, sm, sk⟩, ⟨rl, rA, rm, rk⟩, ⟨el, eA, em, ek⟩, ⟨al, aA, am, ak⟩, o, oA, om, ok, i, iA, im, ik⟩ := p
  obtain ⟨⟨src, fs, ⟨lv, lc⟩, f, t⟩, A, m, k⟩ := a
  simp only at cF cR cT cC hS0 hS2 ⊢
  replace cR := Lib.hid cR
  replace cT := Lib.hid cT
  replace cF := Lib.hid cF
  generalize hfind : findL rl rec = FL at *
  clear hfind
  cases FL with
  | none =>
    obtain rfl := hS0 rfl
    clear cR cT cC hS0 hS1 hS2
    go_enter Tryz.func36, Tryz.ntmps36
    go_wp2_with fail
    refine (cF.out _ (by
      repeat (first | assumption | exact Grows.refl _ | apply Grows.drew | apply Grows.drewN | refine Grows.alloc ?_ _ | (refine Grows.setCell ?_ (by first | (simp; done) | (simp; omega) | omega) _) | (refine Grows.trans ?_ (by assumption)))
    )).mono ?_
    rintro e w1 ⟨rfl, hb1⟩
    have br : Blk w1 (w.heap.size + 1 + 1) 50 zeroC := (Blk.new2 w _ _ _ _).grows hb1
    have hG : Hid (Grows w w1) := Lib.hid ((((Grows.refl w).alloc _).alloc _).alloc _ |>.trans hb1)
    have y0 : w1.cell? ⟨w.heap.size + 1 + 1, 0, none⟩ = some (.string ⟨#[]⟩) := br.cell 0
    have y1 : w1.cell? ⟨w.heap.size + 1 + 1, 1, none⟩ = some (.slice none 0 0) := br.cell 1
    have y2 : w1.cell? ⟨w.heap.size + 1 + 1, 2, none⟩ = some (.int .i64 0) := br.cell 2
    have y3 : w1.cell? ⟨w.heap.size + 1 + 1, 3, none⟩ = some (.int .u32 0) := br.cell 3
    have y4 : w1.cell? ⟨w.heap.size + 1 + 1, 4, none⟩ = some (.int .i64 0) := br.cell 4
    have y5 : w1.cell? ⟨w.heap.size + 1 + 1, 5, none⟩ = some (.int .i64 0) := br.cell 5
    have yf := fun i => br.frozen i
    have yl := br.lt
    clear cF hb1 br
    go_wp2_with fail
    refine bodyPost_ret (v := .tuple #[noneA, .bool false]) ?_ rfl ⟨noneA, rfl, rfl, ?_⟩
    · simp only [results, Tryz.results36, noneA]
      go_simp
    · have hG := hG.out
      repeat (first | with_reducible assumption | with_reducible exact Grows.refl _ | (with_reducible refine Grows.setCell ?_ (by first | (simp; done) | (simp; omega) | omega) _) | with_reducible refine Grows.alloc ?_ _ | with_reducible apply Grows.drew)
  | some to =>
    replace cC := Lib.hid (cC to rfl)
    replace hS1 := Lib.hid hS1
    have hS2' := Lib.hid (hS2 to rfl)
    generalize CU to = C at *
    clear hS0 hS2
    simp only [labOf, Option.getD_some, Option.isSome_some] at cF
    replace cF := Lib.hid cF.out
    go_enter Tryz.func36, Tryz.ntmps36
    go_wp2_with fail
    refine (cF.out _ (by
      repeat (first | assumption | exact Grows.refl _ | apply Grows.drew | apply Grows.drewN | refine Grows.alloc ?_ _ | (refine Grows.setCell ?_ (by first | (simp; done) | (simp; omega) | omega) _) | (refine Grows.trans ?_ (by assumption)))
    )).mono ?_
    rintro e w1 ⟨rfl, hb1⟩
    have bp : Hid (Blk w1 w.heap.size 32 #[.slice sA sm sk, .slice rA rm rk, .slice eA em ek, .slice aA am ak, .slice oA om ok, .slice iA im ik]) := Lib.hid ((((Blk.new w _ _).alloc _).alloc _).grows hb1)
    have ba : Hid (Blk w1 (w.heap.size + 1) 50 #[.string ⟨src.toArray⟩, .slice A m k, .int .i64 lv, .int .u32 (lc : Int), .int .i64 f, .int .i64 t]) := Lib.hid (((Blk.new1 w _ _ _).alloc _).grows hb1)
    have br : Hid (Blk w1 (w.heap.size + 1 + 1) 50 zeroC) := Lib.hid ((Blk.new2 w _ _ _ _).grows hb1)
    have hG : Hid (Grows w w1) := Lib.hid ((((Grows.refl w).alloc _).alloc _).alloc _ |>.trans hb1)
    have sz1 : w.heap.size + 3 ≤ w1.heap.size := by have := hb1.size; simp at this; omega
    clear cF hb1
    replace bp := Lib.hid (bp.out.alloc (.cells #[.int .i64 to.lv, .int .u32 (to.c : Int)] 40))
    replace ba := Lib.hid (ba.out.alloc (.cells #[.int .i64 to.lv, .int .u32 (to.c : Int)] 40))
    replace br := Lib.hid (br.out.alloc (.cells #[.int .i64 to.lv, .int .u32 (to.c : Int)] 40))
    have hN : Hid (Grows w (w1.alloc (.cells #[.int .i64 to.lv, .int .u32 (to.c : Int)] 40))) := Lib.hid (hG.out.alloc _)
    have bl : Hid (Blk (w1.alloc (.cells #[.int .i64 to.lv, .int .u32 (to.c : Int)] 40)) w1.heap.size 40 #[.int .i64 to.lv, .int .u32 (to.c : Int)]) := Lib.hid (Blk.new w1 _ _)
    obtain ⟨x0, x1, x2, x3, x4, x5, xl⟩ := alr_cells ba.out
    obtain ⟨y0, y1, y2, y3, y4, y5, yf, yl⟩ := zero_cells br.out
    go_wp2_with fail
    refine (cR.out _ hN.out).mono ?_
    rintro e w2 ⟨rfl, hb2⟩
    replace bp := Lib.hid (bp.out.grows hb2)
    replace ba := Lib.hid (ba.out.grows hb2)
    replace br := Lib.hid (br.out.grows hb2)
    replace bl := Lib.hid (bl.out.grows hb2)
    replace hN := Lib.hid (hN.out.trans hb2)
    clear hb2 x0 x1 x2 x3 x4 x5 xl y0 y1 y2 y3 y4 y5 yf yl
    obtain ⟨x0, x1, x2, x3, x4, x5, xl⟩ := alr_cells ba.out
    obtain ⟨y0, y1, y2, y3, y4, y5, yf, yl⟩ := zero_cells br.out
    clear cR
    cases AB
    · obtain rfl := hS1.out (.inl (by trivial))
      clear cT cC hS1 hS2'
      go_wp2_with fail
      refine bodyPost_ret (v := .tuple #[noneA, .bool false]) ?_ rfl ⟨noneA, rfl, rfl, ?_⟩
      · simp only [results, Tryz.results36, noneA]
        go_simp
      · have hN := hN.out
        repeat (first | with_reducible assumption | with_reducible exact Grows.refl _ | (with_reducible refine Grows.setCell ?_ (by first | (simp; done) | (simp; omega) | omega) _) | with_reducible refine Grows.alloc ?_ _ | with_reducible apply Grows.drew)
    · go_wp2_with fail
      refine (cT.out _).mono ?_
      rintro e w3 ⟨rfl, hb3⟩
      replace bp := Lib.hid (bp.out.grows hb3)
      replace ba := Lib.hid (ba.out.grows hb3)
      replace br := Lib.hid (br.out.grows hb3)
      replace bl := Lib.hid (bl.out.grows hb3)
      replace hN := Lib.hid (hN.out.trans hb3)
      clear hb3 x0 x1 x2 x3 x4 x5 xl y0 y1 y2 y3 y4 y5 yf yl
      obtain ⟨x0, x1, x2, x3, x4, x5, xl⟩ := alr_cells ba.out
      obtain ⟨y0, y1, y2, y3, y4, y5, yf, yl⟩ := zero_cells br.out
      clear cT
      cases FI
      · obtain rfl := hS1.out (.inr (by trivial))
        clear cC hS1 hS2'
        go_wp2_with fail
        refine bodyPost_ret (v := .tuple #[noneA, .bool false]) ?_ rfl ⟨noneA, rfl, rfl, ?_⟩
        · simp only [results, Tryz.results36, noneA]
          go_simp
        · have hN := hN.out
          repeat (first | with_reducible assumption | with_reducible exact Grows.refl _ | (with_reducible refine Grows.setCell ?_ (by first | (simp; done) | (simp; omega) | omega) _) | with_reducible refine Grows.alloc ?_ _ | with_reducible apply Grows.drew)
      · obtain rfl := hS2'.out (by trivial) (by trivial)
        clear hS1 hS2'
        have p0 : _ = some (Value.slice sA sm sk) := bp.out.cell 0
        have p1 : _ = some (Value.slice rA rm rk) := bp.out.cell 1
        have p2 : _ = some (Value.slice eA em ek) := bp.out.cell 2
        have p3 : _ = some (Value.slice aA am ak) := bp.out.cell 3
        have p4 : _ = some (Value.slice oA om ok) := bp.out.cell 4
        have p5 : _ = some (Value.slice iA im ik) := bp.out.cell 5
        have pl := bp.out.lt
        have l0 : _ = some (Value.int .i64 to.lv) := bl.out.cell 0
        have l1 : _ = some (Value.int .u32 (to.c : Int)) := bl.out.cell 1
        have ll := bl.out.lt
        go_wp2_with fail
        refine (cC.out _ hN.out).mono ?_
        rintro e w4 ⟨v, rfl, hv, hb4⟩
        have sz3 := hN.out.size
        replace hN := Lib.hid (hN.out.trans hb4)
        clear cC x0 x1 x2 x3 x4 x5 xl y0 y1 y2 y3 y4 y5 yf yl p0 p1 p2 p3 p4 p5 pl l0 l1 ll ba bp bl
        have sz4 := br.out.lt
        replace br := Lib.hid (br.out.grows hb4)
        clear hb4
        obtain ⟨y0, y1, y2, y3, y4, y5, yf, yl⟩ := zero_cells br.out
        cases S with
        | none =>
          obtain rfl : v = noneA := hv
          unfold noneA
          clear br
          go_wp2_with fail
          refine bodyPost_ret (v := .tuple #[noneA, .bool false]) ?_ rfl ⟨noneA, rfl, rfl, ?_⟩
          · simp only [results, Tryz.results36, noneA]
            go_simp
          · have hN := hN.out
            repeat (first | with_reducible assumption | with_reducible exact Grows.refl _ | (with_reducible refine Grows.setCell ?_ (by first | (simp; done) | (simp; omega) | omega) _) | with_reducible refine Grows.alloc ?_ _ | with_reducible apply Grows.drew)
        | some b =>
          obtain ⟨A', c', rfl, hO⟩ := hv
          unfold valA
          obtain ⟨src', fs', ⟨lv', lc'⟩, f', t'⟩ := b
          simp only at hO ⊢
          replace hO := Lib.hid hO
          generalize hL : fs'.length = L at *
          replace hL := Lib.hid hL
          clear br
          go_wp2_with fail
          refine bodyPost_ret (v := .tuple #[valA ⟨⟨src', fs', ⟨lv', lc'⟩, f', t'⟩, A', L, c'⟩, .bool true]) ?_ rfl ⟨valA ⟨⟨src', fs', ⟨lv', lc'⟩, f', t'⟩, A', L, c'⟩, rfl, ?_, ?_⟩
          · simp only [results, Tryz.results36, valA]
            go_simp
          · refine ⟨A', c', by rw [hL.out], ?_⟩
            rw [hL.out]
            refine Own.base_le (base := w3.heap.size) ?_ (by omega)
            repeat (with_reducible refine Own.setFar ?_ (by first | omega | (simp; omega)) _)
            with_reducible exact hO.out
          · have hN := hN.out
            repeat (first | with_reducible assumption | with_reducible exact Grows.refl _ | (with_reducible refine Grows.setCell ?_ (by first | (simp; done) | (simp; omega) | omega) _) | with_reducible refine Grows.alloc ?_ _ | with_reducible apply Grows.drew)
end Go.Proofs.YtfoffneipdkdjaaGreatDoor
namespace Go.Proofs.YtfoffneipdkdjaaGreatDoor
open Go.RowKit

set_option maxRecDepth 100000 in
set_option maxHeartbeats 800000 in
theorem allC_any {ft : List Fld → Mat → Bool} {x : Mat} {g : Nat} {A : Option Addr} {m c : Nat} {l : List Fld} (w : World) (hx : FitsOK ft x) (hc : w.cell? ⟨g, 0, none⟩ = some (.slice A m c)) (hA : Arr w 2 encF A m l) (hm : m ≤ 9223372036854775807) :
    Calls Tryz.prog 117 #[valM x, .pointer (some ⟨g, 0, none⟩)] w fun e w' => e = .returned (.bool (!ft l x)) ∧ Grows w w' := by
  have cF := fun W (hW : Grows w W) => hx A m c l W (hA.keep hW) hm
  have hg := World.block_lt_of_cell? w _ hc
  simp only at hg
  generalize ft l x = B at *
  unfold valM at *
  replace cF := Lib.hid cF
  clear hx hA
  go_enter Tryz.func117, Tryz.ntmps117
  go_wp2_with fail
  refine (cF.out _ (by
    repeat (first | assumption | exact Grows.refl _ | apply Grows.drew | apply Grows.drewN | refine Grows.alloc ?_ _ | (refine Grows.setCell ?_ (by first | (simp; done) | (simp; omega) | omega) _) | (refine Grows.trans ?_ (by assumption)))
  )).mono ?_
  rintro e w1 ⟨rfl, hb⟩
  have hG : Grows w w1 := ((Grows.refl w).alloc _).trans hb
  go_wp2
  go_ret
  exact ⟨ret_bool rfl, hG⟩
theorem all_not_any {α : Type} (p : α → Bool) (l : List α) : l.all p = !(l.any fun x => !p x) := by
  rw [List.not_any_eq_all_not]; congr 1; funext x; rw [Bool.not_not]
set_option maxRecDepth 100000 in
set_option maxHeartbeats 800000 in
theorem all_any {ft : List Fld → Mat → Bool} {A : Option Addr} {m c : Nat} {l : List Fld} {A2 : Option Addr} {m2 c2 : Nat} {ms : List Mat} (w : World) (hA : Arr w 2 encF A m l) (hm : m ≤ 9223372036854775807) (hM : Arr w 3 encM A2 m2 ms) (hm2 : m2 ≤ 9223372036854775807) (hx : ∀ x ∈ ms, FitsOK ft x) :
    Calls Tryz.prog 81 #[.slice A m c, .slice A2 m2 c2] w fun e w' => e = .returned (.bool (ms.all (ft l))) ∧ Grows w w' := by
  have cC := fun (W : World) (hW : Grows w W) (hc : W.cell? ⟨w.heap.size, 0, none⟩ = some (.slice A m c)) => conM_any (c := c2) 117 #[.pointer (some ⟨w.heap.size, 0, none⟩)] (enters_of Tryz.func117 (by kernel_rfl) rfl) (fun y => !ft l y) A2 m2 ms W (hM.keep hW) hm2 (fun y hy W' hW' => allC_any W' (hx y hy) (hW'.cell hc) (hA.keep (hW.trans hW')) hm)
  have hna := all_not_any (ft l) ms
  rw [hna]
  generalize (ms.any fun x => !ft l x) = B at *
  replace cC := Lib.hid cC
  clear hx hA hM hna
  go_enter Tryz.func81, Tryz.ntmps81
  go_wp2_with fail
  refine (cC.out _ (by
    repeat (first | assumption | exact Grows.refl _ | apply Grows.drew | apply Grows.drewN | refine Grows.alloc ?_ _ | (refine Grows.setCell ?_ (by first | (simp; done) | (simp; omega) | omega) _) | (refine Grows.trans ?_ (by assumption)))
  ) ((Blk.new w _ _).cell 0)).mono ?_
  rintro e w1 ⟨rfl, hb⟩
  have hG : Grows w w1 := ((Grows.refl w).alloc _).trans hb
  go_wp2
  go_ret
  exact ⟨ret_bool rfl, hG⟩

def fitsAt (ft : List Fld → Mat → Bool) (rec : List UInt8) (fs : List Fld) (r : Rte) : Bool := decide (r.r = rec) && r.wh.all (ft fs)
def fitsTo (ft : List Fld → Mat → Bool) (rs : List Rte) (rec : List UInt8) (fs : List Fld) (k : Nat) : List Nat := (List.range k).filter fun i => match rs[i]? with | some r => fitsAt ft rec fs r | none => false
def fitsL (ft : List Fld → Mat → Bool) (p : Pol) (rec : List UInt8) (fs : List Fld) : List Nat := fitsTo ft p.routes rec fs p.routes.length
theorem fitsTo_yes {ft : List Fld → Mat → Bool} {rs : List Rte} {rec : List UInt8} {fs : List Fld} {k : Nat} {r : Rte} (hr : rs[k]? = some r) (h : fitsAt ft rec fs r = true) : fitsTo ft rs rec fs (k + 1) = fitsTo ft rs rec fs k ++ [k] := by
  unfold fitsTo; rw [List.range_succ, List.filter_append]; simp [hr, h]
theorem fitsTo_no {ft : List Fld → Mat → Bool} {rs : List Rte} {rec : List UInt8} {fs : List Fld} {k : Nat} {r : Rte} (hr : rs[k]? = some r) (h : fitsAt ft rec fs r = false) : fitsTo ft rs rec fs (k + 1) = fitsTo ft rs rec fs k := by
  unfold fitsTo; rw [List.range_succ, List.filter_append]; simp [hr, h]
theorem fitsTo_len (ft : List Fld → Mat → Bool) (rs : List Rte) (rec : List UInt8) (fs : List Fld) (k : Nat) : (fitsTo ft rs rec fs k).length ≤ k := by
  unfold fitsTo; exact Nat.le_trans (List.length_filter_le _ _) (by simp)
/-- What the policy's matchers answer. -/
def FitssOK (ft : List Fld → Mat → Bool) (x : PolX) : Prop := ∀ r ∈ x.o, ∀ y ∈ r.r.wh, FitsOK ft y
set_option maxRecDepth 100000 in
set_option maxHeartbeats 3200000 in
theorem fits_any {ft : List Fld → Mat → Bool} {p : PolX} {rec : List UInt8} {a : AlrX} (w : World) (hp : p.At w) (hA : Arr w 2 encF a.A a.m a.a.fs) (hm : a.m ≤ 9223372036854775807) (hom : p.om ≤ 1000) (hft : FitssOK ft p) :
    Calls Tryz.prog 37 #[p.val, .string ⟨rec.toArray⟩, valA a] w fun e w' => ∃ v, e = .returned v ∧ Own w' w.heap.size 3 1 encI v (fitsL ft p.pol rec a.a.fs) ∧ Grows w w' := by
  have hO := hp.o
  have hol := hO.1
  have cA := fun (r : RteX) (hr : r ∈ p.o) (W : World) (hW : Grows w W) => all_any (ft := ft) (c := a.k) (c2 := r.wk) W (hA.keep hW) hm ((hp.oAt r hr).keep hW).wh (hp.oAt r hr).whle (hft r hr)
  have hfin : fitsL ft p.pol rec a.a.fs = fitsTo ft (p.o.map (·.r)) rec a.a.fs p.om := by
    show fitsTo ft (p.o.map (·.r)) rec a.a.fs (p.o.map (·.r)).length = _
    rw [List.length_map, hol]
  rw [hfin]
  have hyes := fun k r (hr : p.o[k]? = some r) (h : fitsAt ft rec a.a.fs r.r = true) => fitsTo_yes (rs := p.o.map (·.r)) (rec := rec) (fs := a.a.fs) (k := k) (ft := ft) (by rw [List.getElem?_map, hr]; rfl) h
  have hno := fun k r (hr : p.o[k]? = some r) (h : fitsAt ft rec a.a.fs r.r = false) => fitsTo_no (rs := p.o.map (·.r)) (rec := rec) (fs := a.a.fs) (k := k) (ft := ft) (by rw [List.getElem?_map, hr]; rfl) h
  have hlen := fitsTo_len ft (p.o.map (·.r)) rec a.a.fs
  have h00 : fitsTo ft (p.o.map (·.r)) rec a.a.fs 0 = [] := rfl
  unfold fitsAt at hyes hno
  generalize fitsTo ft (p.o.map (·.r)) rec a.a.fs = F at *
  unfold PolX.val valA
  clear hfin hp hft hA
  obtain ⟨⟨sl, sA, sm, sk⟩, ⟨rl, rA, rm, rk⟩, ⟨el, eA, em, ek⟩, ⟨al, aA, am, ak⟩, o, oA, om, ok, i, iA, im, ik⟩ := p
  obtain ⟨⟨src, fs, ⟨lv, lc⟩, f, t⟩, A, m, k0⟩ := a
  simp only at cA hO hol hom hm hyes hno ⊢
  replace cA := Lib.hid cA
  replace hO := Lib.hid hO
  replace hyes := Lib.hid hyes
  replace hno := Lib.hid hno
  replace hlen := Lib.hid hlen
  go_enter Tryz.func37, Tryz.ntmps37
  go_wp2
  go_loopw [7, 8, 9, 13] (fun v _ _ i wr => ∃ k : Nat, k ≤ om ∧ i = .int .i64 k ∧ Hid (Own wr (w.heap.size + 2) 3 1 encI v (F k)) ∧ Hid (Blk wr (w.heap.size + 1) 50 #[.string ⟨src.toArray⟩, .slice A m k0, .int .i64 lv, .int .u32 (lc : Int), .int .i64 f, .int .i64 t]) ∧ Hid (Grows w wr)) (fun _ _ _ i _ => om - (intOf i).toNat)
  case atStart => exact ⟨0, by omega, rfl, by rw [h00]; exact Own.nil_ _ _ _ _ _, Blk.new1 w _ _ _, ((Grows.refl w).alloc _).alloc _⟩
  case round =>
    obtain ⟨k, hk, rfl, hOw, hB, hG⟩ := hrel
    by_cases hkm : k < om
    · obtain ⟨bb, off, r, rfl, hsx, hr, hcell⟩ := (hO.out.keep hG.out).at_ hkm
      have c0 : wr.cell? ⟨bb, off + k * 6, none⟩ = some (.string ⟨r.r.r.toArray⟩) := hcell 0 _ rfl
      have c1 : wr.cell? ⟨bb, off + k * 6 + 1, none⟩ = some (.slice r.bA r.bm r.bk) := hcell 1 _ rfl
      have c2 : wr.cell? ⟨bb, off + k * 6 + 2, none⟩ = some (.int .i64 r.r.wait) := hcell 2 _ rfl
      have c3 : wr.cell? ⟨bb, off + k * 6 + 3, none⟩ = some (.int .i64 r.r.every) := hcell 3 _ rfl
      have c4 : wr.cell? ⟨bb, off + k * 6 + 4, none⟩ = some (.int .i64 r.r.again) := hcell 4 _ rfl
      have c5 : wr.cell? ⟨bb, off + k * 6 + 5, none⟩ = some (.slice r.wA r.wm r.wk) := hcell 5 _ rfl
      have hki : (k : Int) < (om : Int) := by omega
      have hy := hyes.out k r hr
      have hn := hno.out k r hr
      have cR := cA.out r (List.mem_of_getElem? hr)
      have q1 : wr.cell? ⟨w.heap.size + 1, 1, none⟩ = some (.slice A m k0) := hB.out.cell 1
      have qz := hB.out.lt
      have hsz := hG.out.size
      have hlk := hlen.out k
      generalize r.r.wh.all (ft fs) = B at *
      replace cR := Lib.hid cR
      clear hcell
      by_cases hrec : r.r.r = rec
      · have hbe : (r.r.r == rec) = true := by simp [hrec]
        have hde : decide (r.r.r = rec) = true := by simp [hrec]
        rw [hde] at hy hn
        clear hrec hde hr
        cases B
        · have hn' := Lib.hid (hn rfl)
          clear hy hn
          go_wp2_with fail
          refine (cR.out _ (by
            have hG := hG.out
            repeat (first | assumption | exact Grows.refl _ | apply Grows.drew | apply Grows.drewN | refine Grows.alloc ?_ _ | (refine Grows.setCell ?_ (by first | (simp; done) | (simp; omega) | omega) _) | (refine Grows.trans ?_ (by assumption)))
          )).mono ?_
          rintro e w1 ⟨rfl, hb⟩
          have hG1 := Lib.hid ((hG.out.alloc _).trans hb)
          have hO1 := Lib.hid ((hOw.out.alloc _).grows hb)
          have hB1 := Lib.hid ((hB.out.alloc _).grows hb)
          clear hb c0 c1 c2 c3 c4 c5 hG hOw hB q1 qz
          go_wp2
          go_roundw
          case rel => exact ⟨k + 1, by omega, by go_num, by rw [hn'.out]; exact hO1.out, hB1.out, hG1.out⟩
          case measure => simp [intOf]; omega
        · have hy' := Lib.hid (hy rfl)
          clear hy hn
          go_wp2_with fail
          refine (cR.out _ (by
            have hG := hG.out
            repeat (first | assumption | exact Grows.refl _ | apply Grows.drew | apply Grows.drewN | refine Grows.alloc ?_ _ | (refine Grows.setCell ?_ (by first | (simp; done) | (simp; omega) | omega) _) | (refine Grows.trans ?_ (by assumption)))
          )).mono ?_
          rintro e w1 ⟨rfl, hb⟩
          have hG1 := Lib.hid ((hG.out.alloc _).trans hb)
          have hO1 := Lib.hid ((hOw.out.alloc _).grows hb)
          have hB1 := Lib.hid ((hB.out.alloc _).grows hb)
          clear hb c0 c1 c2 c3 c4 c5 hG hOw hB q1 qz
          have hsz1 := hB1.out.lt
          replace hlk := Lib.hid hlk
          go_wp2_with (at_builtin; refine wpList_grown (x := k) T_ii rfl (.tmp 29) (.tmp 31) rfl (hO1.out.alloc _) rfl ⟨w1.heap.size, 0, none⟩ rfl rfl (news_of (by exact heap_alloc_new w1 _)) (oneI k) (by simp; omega) (by have := hlk.out; unfold maxLen; omega) (by have := hlk.out; omega) (fun v2 w2 hO2 hgr hat => ?_); (have hG2 := Lib.hid ((hG1.out.alloc _).by_row hgr (fun g hg => by have := hO1.out.block_ge g hg; omega))); (have hB2 := Lib.hid ((hB1.out.alloc _).by_row hgr (fun e => by have := hO1.out.block_ge _ e.symm; omega))); (replace hO2 := Lib.hid hO2); clear hgr hat)
          go_roundw
          case rel => exact ⟨k + 1, by omega, by go_num, by rw [hy'.out]; exact hO2.out, hB2.out, hG2.out⟩
          case measure => simp [intOf]; omega
      · have hbe : (r.r.r == rec) = false := by simp [hrec]
        have hde : decide (r.r.r = rec) = false := by simp [hrec]
        rw [hde] at hn
        have hn' := Lib.hid (hn rfl)
        clear hrec hde hr hy hn cR
        go_wp2
        go_roundw
        case rel => exact ⟨k + 1, by omega, by go_num, by rw [hn'.out]; exact hOw.out.alloc _, hB.out.alloc _, hG.out.alloc _⟩
        case measure => simp [intOf]; omega
    · obtain rfl : k = om := by omega
      go_wp2
      go_ret
      exact ⟨_, rfl, hOw.out.base_le (by omega), hG.out⟩
end Go.Proofs.YtfoffneipdkdjaaGreatDoor
namespace Go.Proofs.YtfoffneipdkdjaaGreatDoor
open Go.RowKit

def idNums (R : List UInt8) (fs : List Fld) : List Nat := nums R ++ [0] ++ nums (fs.flatMap partBytes)
def idA (a : Alr) : Nat := shortTo (sha (idNums a.src a.fs)) 8
theorem idNums_nil (R : List UInt8) : idNums R [] = nums R ++ [0] := by simp [idNums, nums]
theorem idNums_snoc (R : List UInt8) (fs : List Fld) (f : Fld) : idNums R (fs ++ [f]) = (((idNums R fs ++ nums f.n) ++ [61]) ++ nums f.v) ++ [0] := by
  simp [idNums, partBytes, nums]
theorem idNums_lt (R : List UInt8) (fs : List Fld) : ∀ x ∈ idNums R fs, x < 256 := by
  intro x hx
  unfold idNums at hx
  simp only [List.mem_append, List.mem_cons, List.not_mem_nil, or_false] at hx
  rcases hx with (h | rfl) | h
  · exact nums_lt _ x h
  · omega
  · exact nums_lt _ x h
theorem idNums_len (R : List UInt8) (fs : List Fld) (h : ∀ f ∈ fs, f.n.length + f.v.length ≤ 1000) : (idNums R fs).length ≤ R.length + 2 + 1002 * fs.length := by
  have := keyNums_len R 0 fs h
  simp only [keyNums, idNums, List.length_append, List.length_cons, List.length_nil] at this ⊢
  omega
set_option maxRecDepth 100000 in
set_option maxHeartbeats 1600000 in
theorem id_any {a : AlrX} (w : World) (hA : Arr w 2 encF a.A a.m a.a.fs) (hR : a.a.src.length ≤ 1000) (hm : a.m ≤ 100) (hf : ∀ f ∈ a.a.fs, f.n.length + f.v.length ≤ 1000) :
    Calls Tryz.prog 20 #[valA a] w fun e w' => e = .returned (.int .u64 ((idA a.a : Nat) : Int)) ∧ Grows w w' := by
  unfold valA idA
  obtain ⟨⟨R, fs, ⟨lv, lc⟩, f0, t0⟩, A, m, c⟩ := a
  simp only at hA hR hm hf ⊢
  have hml := hA.1
  have hkl := fun k => idNums_len R (fs.take k) (fun f h => hf f (List.mem_of_mem_take h))
  have hkb : ∀ k, (idNums R (fs.take k)).length ≤ 200000 := fun k => by
    have h1 := hkl k
    have h2 : (fs.take k).length ≤ 100 := by rw [List.length_take]; omega
    omega
  replace hA := Lib.hid hA
  replace hf := Lib.hid hf
  replace hkb := Lib.hid hkb
  clear hkl
  generalize hD : shortTo (sha (idNums R fs)) 8 = D
  replace hD := Lib.hid hD
  go_enter Tryz.func20, Tryz.ntmps20
  go_wp2_with (first | (refine wpList_conv rfl (.tmp 7) rfl rfl (by rw [bsize]; omega) ?_; intro v1 w1 hO1 hG1; (replace hO1 := Lib.hid hO1); (replace hG1 := Lib.hid hG1)) | (at_builtin; (refine wpList_appB rfl (.tmp 8) (.tmp 9) rfl rfl rfl (hO1.out.alloc (.cells #[.int .u8 ((0 : Nat) : Int)] 5)) (Arr.one_byte (x := 0) (Blk.new w1 5 _)) (hG1.out.alloc (.cells #[.int .u8 ((0 : Nat) : Int)] 5)).size (by rw [numsB_len, bsize]; omega) ?_; intro v2 w2 hO2 hby2; (have hG2 := Lib.hid ((hG1.out.alloc (.cells #[.int .u8 ((0 : Nat) : Int)] 5)).by_row hby2 hO1.out.block_ge)); (replace hO2 := Lib.hid hO2); (have bx := (Blk.new w 50 #[.string ⟨R.toArray⟩, .slice A m c, .int .i64 lv, .int .u32 (lc : Int), .int .i64 f0, .int .i64 t0]).grows hG2.out); (have x1 : w2.cell? ⟨w.heap.size, 1, none⟩ = some (.slice A m c) := bx.cell 1); (have xl := bx.lt); clear hby2 bx)))
  have hO0 : Hid (OwnB w2 w.heap.size v2 (idNums R (fs.take 0))) := by
    rw [List.take_zero, idNums_nil]
    exact hO2.out.base_le (by simp)
  replace hG2 := Lib.hid ((Grows.refl w).alloc _ |>.trans hG2.out)
  clear hO1 hG1 hO2
  go_loopw [3, 5, 14] (fun b _ i wr => ∃ k : Nat, k ≤ m ∧ i = .int .i64 k ∧ Hid (OwnB wr w.heap.size b (idNums R (fs.take k))) ∧ Hid (Grows w wr)) (fun _ _ i _ => m - (intOf i).toNat)
  case atStart => exact ⟨0, by omega, rfl, hO0, hG2⟩
  case round =>
    clear hO0 hG2 x1 xl
    obtain ⟨k, hk, rfl, hO, hG⟩ := hrel
    by_cases hkm : k < m
    · obtain ⟨bb, off, f, rfl, hsx, hx, hcell⟩ := (hA.out.keep hG.out).at_ hkm
      have c0 : wr.cell? ⟨bb, off + k * 2, none⟩ = some (.string ⟨f.n.toArray⟩) := by simpa using hcell 0 _ rfl
      have c1 : wr.cell? ⟨bb, off + k * 2 + 1, none⟩ = some (.string ⟨f.v.toArray⟩) := by simpa using hcell 1 _ rfl
      have hfl := hf.out f (List.mem_of_getElem? hx)
      have hkk := hkb.out k
      have hkk2 := hkb.out (k + 1)
      have htk : fs.take (k + 1) = fs.take k ++ [f] := by rw [List.take_add_one, hx]; rfl
      have hsn := idNums_snoc R (fs.take k) f
      rw [← htk] at hsn
      have hki : (k : Int) < (m : Int) := by omega
      obtain ⟨A0, c0', hv0, hn0, hm0, hA0⟩ := hO.out.arr
      generalize hN0 : (idNums R (fs.take k)).length = N0 at *
      subst hv0
      replace hsn := Lib.hid hsn
      replace hA0 := Lib.hid hA0
      clear hcell hx htk
      go_wp2_with (first | (refine wpList_conv rfl (.tmp 20) rfl rfl (by rw [bsize]; omega) ?_; intro v3 w3 hO3 hG3; (obtain ⟨A3, c3, hv3, _, _, hA3⟩ := hO3.arr); (rw [numsB_len, bsize] at hv3 hA3); subst hv3; (replace hA3 := Lib.hid hA3); (have b9 := (Blk.new wr 76 #[.string ⟨f.n.toArray⟩, .string ⟨f.v.toArray⟩]).grows hG3); (have d1 : w3.cell? ⟨wr.heap.size, 1, none⟩ = some (.string ⟨f.v.toArray⟩) := b9.cell 1); (have z1 := b9.lt); (replace hG3 := Lib.hid hG3); clear hO3 b9) | (refine wpList_conv rfl (.tmp 24) rfl rfl (by rw [bsize]; omega) ?_; intro v5 w5 hO5 hG5; (obtain ⟨A5, c5, hv5, _, _, hA5⟩ := hO5.arr); (rw [numsB_len, bsize] at hv5 hA5); subst hv5; (replace hA5 := Lib.hid hA5); (replace hG5 := Lib.hid hG5); clear hO5))
      have g3 : Grows wr w3 := ((Grows.refl wr).alloc _).trans hG3.out
      have g5 : Grows w3 w5 := ((Grows.refl w3).alloc _).trans hG5.out
      have gW : Grows w5 ((w5.alloc (.cells #[.int .u8 0] 5)).alloc (.cells #[.slice A0 N0 c0', .slice A3 f.n.length c3, .slice (some ⟨w3.heap.size, 0, none⟩) 1 1, .slice A5 f.v.length c5, .slice (some ⟨w5.heap.size, 0, none⟩) 1 1] 81)) := ((Grows.refl w5).alloc _).alloc _
      have hct : catL [⟨A0, N0, c0', idNums R (fs.take k)⟩, ⟨A3, f.n.length, c3, numsB ⟨f.n.toArray⟩⟩, ⟨some ⟨w3.heap.size, 0, none⟩, 1, 1, [61]⟩, ⟨A5, f.v.length, c5, numsB ⟨f.v.toArray⟩⟩, ⟨some ⟨w5.heap.size, 0, none⟩, 1, 1, [0]⟩] = idNums R (fs.take (k + 1)) := by
        rw [hsn.out, numsB_nums, numsB_nums]
        simp [catL]
      have h61 : Arr w5 1 encB (some ⟨w3.heap.size, 0, none⟩) 1 [61] := (Arr.one_byte (x := 61) (Blk.new w3 5 #[.int .u8 ((61 : Nat) : Int)])).keep hG5.out
      have h00 : Arr (w5.alloc (.cells #[.int .u8 0] 5)) 1 encB (some ⟨w5.heap.size, 0, none⟩) 1 [0] := Arr.one_byte (x := 0) (Blk.new w5 5 #[.int .u8 ((0 : Nat) : Int)])
      refine (concatB_any (L := 5) (c := 5) (A := some ⟨w5.heap.size + 1, 0, none⟩) (bs := [⟨A0, N0, c0', idNums R (fs.take k)⟩, ⟨A3, f.n.length, c3, numsB ⟨f.n.toArray⟩⟩, ⟨some ⟨w3.heap.size, 0, none⟩, 1, 1, [61]⟩, ⟨A5, f.v.length, c5, numsB ⟨f.v.toArray⟩⟩, ⟨some ⟨w5.heap.size, 0, none⟩, 1, 1, [0]⟩]) _ (Arr.of_blk (e1 := fun (b : Bsl) => Value.slice b.A b.n b.c) (fun _ => rfl) (Blk.new1 w5 _ _ _)) ?_ (by rw [hct]; omega) (by omega)).mono ?_
      · intro b hb
        simp only [List.mem_cons, List.not_mem_nil, or_false] at hb
        rcases hb with rfl | rfl | rfl | rfl | rfl
        · exact hA0.out.keep (g3.trans (g5.trans gW))
        · exact hA3.out.keep (g5.trans gW)
        · exact h61.keep gW
        · exact hA5.out.keep gW
        · exact h00.keep ((Grows.refl _).alloc _)
      rintro e w8 ⟨v8, rfl, hO8, hG8⟩
      rw [hct] at hO8
      have hG9 := hG.out.trans (g3.trans (g5.trans (gW.trans hG8)))
      have hO9 := Lib.hid (hO8.base_le (base' := w.heap.size) (hG.out.trans (g3.trans (g5.trans gW))).size)
      replace hG9 := Lib.hid hG9
      clear hO8 hG8 h61 h00 gW g5 g3 hct
      go_wp2
      go_roundw
      case rel => exact ⟨k + 1, by omega, by go_num, hO9, hG9⟩
      case measure => simp [intOf]; omega
    · obtain rfl : k = m := by omega
      have hO7 := hO.out
      rw [List.take_of_length_le (by omega)] at hO7
      obtain ⟨A1, c1, hv1, _, _, hA1⟩ := hO7.arr
      subst hv1
      have cS := short_any (c := c1) wr hA1 (idNums_lt R fs) (by have := hkb.out fs.length; rw [List.take_length] at this; omega)
      rw [hD.out] at cS
      replace cS := Lib.hid cS
      clear hO7 hO hA1 hkb
      go_wp2_with fail
      refine (cS.out).mono ?_
      rintro e w2 ⟨rfl, hG2⟩
      go_wp2
      go_ret
      exact ⟨rfl, hG.out.trans hG2⟩
end Go.Proofs.YtfoffneipdkdjaaGreatDoor
namespace Go.Proofs.YtfoffneipdkdjaaGreatDoor
open Go.RowKit

theorem mem_any (x : List UInt8) : ∀ l : List (List UInt8), (l.any fun y => x == y) = decide (x ∈ l)
  | [] => by simp
  | y :: r => by
    rw [List.any_cons, mem_any x r]
    by_cases h : x = y
    · simp [h]
    · simp [h]
set_option maxRecDepth 100000 in
set_option maxHeartbeats 800000 in
theorem pickC_any {f : Fld} {g : Nat} {A : Option Addr} {m c : Nat} {names : List (List UInt8)} (w : World) (hc : w.cell? ⟨g, 0, none⟩ = some (.slice A m c)) (hA : Arr w 1 encS A m names) (hm : m ≤ 9223372036854775807) :
    Calls Tryz.prog 84 #[valF f, .pointer (some ⟨g, 0, none⟩)] w fun e w' => e = .returned (.bool (!decide (f.n ∈ names))) ∧ Grows w w' := by
  have cC := fun W (hW : Grows w W) => hasT_any (c := c) (v := f.n) W (hA.keep hW) hm
  rw [mem_any] at cC
  have hg := World.block_lt_of_cell? w _ hc
  simp only at hg
  generalize decide (f.n ∈ names) = B at *
  unfold valF
  replace cC := Lib.hid cC
  clear hA
  go_enter Tryz.func84, Tryz.ntmps84
  go_wp2_with fail
  refine (cC.out _ (by
    repeat (first | assumption | exact Grows.refl _ | apply Grows.drew | apply Grows.drewN | refine Grows.alloc ?_ _ | (refine Grows.setCell ?_ (by first | (simp; done) | (simp; omega) | omega) _) | (refine Grows.trans ?_ (by assumption)))
  )).mono ?_
  rintro e w1 ⟨rfl, hb⟩
  have hG : Grows w w1 := ((Grows.refl w).alloc _).trans hb
  go_wp2
  go_ret
  exact ⟨ret_bool rfl, hG⟩
set_option maxRecDepth 100000 in
set_option maxHeartbeats 1600000 in
theorem pick_any {A : Option Addr} {m c : Nat} {fs : List Fld} {A2 : Option Addr} {m2 c2 : Nat} {names : List (List UInt8)} (w : World) (hA : Arr w 2 encF A m fs) (hm : m ≤ 1000) (hN : Arr w 1 encS A2 m2 names) (hm2 : m2 ≤ 9223372036854775807) :
    Calls Tryz.prog 38 #[.slice A m c, .slice A2 m2 c2] w fun e w' => ∃ v, e = .returned v ∧ Own w' w.heap.size 76 2 encF v (pickF fs names) ∧ Grows w w' := by
  have hlen := hA.1
  obtain ⟨w3, hw3⟩ : ∃ w3, w3 = (w.alloc (.cells #[.slice A2 m2 c2] 56)) := ⟨_, rfl⟩
  have hg3 : Grows w w3 := by rw [hw3]; exact (Grows.refl w).alloc _
  have bp : Blk w3 w.heap.size 56 #[.slice A2 m2 c2] := by rw [hw3]; exact Blk.new w _ _
  have cC := cloF_any (c := c) w3 (hA.keep hg3) (by omega)
  have cD := fun v w4 (hg : Grows w3 w4) (hO : Own w4 w3.heap.size 76 2 encF v fs) => delF_any 84 #[.pointer (some ⟨w.heap.size, 0, none⟩)] (enters_of Tryz.func84 (by kernel_rfl) rfl)
    (fun f => !decide (f.n ∈ names)) w3.heap.size v fs w4 hO hg.size (by omega) (fun f _ W hW => pickC_any W ((bp.grows (hg.then_ hW)).cell 0) (hN.keep (hg3.trans (hg.then_ hW))) hm2)
  have hfil := filter_nn (fun f : Fld => decide (f.n ∈ names)) fs
  rw [hfil] at cD
  change Calls _ _ _ _ fun e w' => ∃ v, e = .returned v ∧ Own w' w.heap.size 76 2 encF v (fs.filter fun f => decide (f.n ∈ names)) ∧ Grows w w'
  generalize (fs.filter fun f => decide (f.n ∈ names)) = R at *
  rw [hw3] at cC
  have hb3 : w.heap.size ≤ w3.heap.size := hg3.size
  replace cC := Lib.hid cC
  replace cD := Lib.hid cD
  replace hw3 := Lib.hid hw3
  replace hg3 := Lib.hid hg3
  clear bp hA hfil hN
  go_enter Tryz.func38, Tryz.ntmps38
  go_wp2_with fail
  refine (cC.out).mono ?_
  rintro e w4 ⟨v4, rfl, hO4, hg4⟩
  rw [← hw3.out] at hO4 hg4
  have cD' := Lib.hid (cD.out v4 w4 hg4 hO4)
  clear cD cC
  go_wp2_with fail
  refine (cD'.out).mono ?_
  rintro e w5 ⟨v5, rfl, hO5, hb5⟩
  go_wp2
  go_ret
  exact ⟨v5, rfl, hO5.base_le hb3, hg3.out.trans (hg4.then_ hb5)⟩

/-! ### where -/
def whereF (f : Fld) : List UInt8 := 0 :: (f.n ++ 61 :: (Lib.decDigits f.v.length ++ 58 :: f.v))
def whereL (r : Nat) (fs : List Fld) : List UInt8 := Lib.decDigits r ++ fs.flatMap whereF
theorem whereL_nil (r : Nat) : whereL r [] = Lib.decDigits r := by simp [whereL]
theorem whereL_snoc (r : Nat) (fs : List Fld) (f : Fld) : whereL r (fs ++ [f]) = whereL r fs ++ whereF f := by simp [whereL]
theorem dec_len_lt {n : Nat} (h : n < 10000) : (Lib.decDigits n).length ≤ 4 := decDigits_len 3 n (by omega)
theorem whereF_len {f : Fld} (h : f.n.length + f.v.length ≤ 1000) : (whereF f).length ≤ 1007 := by
  have := dec_len_lt (n := f.v.length) (by omega)
  simp only [whereF, List.length_cons, List.length_append]
  omega
theorem whereL_len {r : Nat} (hr : r < 10000) : ∀ (fs : List Fld), (∀ f ∈ fs, f.n.length + f.v.length ≤ 1000) → (whereL r fs).length ≤ 4 + 1007 * fs.length := by
  intro fs h
  have h1 := dec_len_lt hr
  have h2 : (fs.flatMap whereF).length ≤ 1007 * fs.length := by
    induction fs with
    | nil => simp
    | cons f r ih =>
      have h3 := whereF_len (h f (by simp))
      have h4 := ih (fun g hg => h g (by simp [hg]))
      simp only [List.flatMap_cons, List.length_append, List.length_cons]
      omega
  simp only [whereL, List.length_append]
  omega
set_option maxRecDepth 100000 in
set_option maxHeartbeats 3200000 in
theorem where_any {r : Nat} {A : Option Addr} {m c : Nat} {fs : List Fld} (w : World) (he : LibEnv w) (hr : r < 10000) (hA : Arr w 2 encF A m fs) (hm : m ≤ 100) (hf : ∀ f ∈ fs, f.n.length + f.v.length ≤ 1000) :
    Calls Tryz.prog 39 #[.int .i64 r, .slice A m c] w fun e w' => e = .returned (.string ⟨(whereL r fs).toArray⟩) ∧ Grows w w' := by
  have hml := hA.1
  have cI : ∀ n : Nat, n ≤ 100000 → ∀ W, Grows w W → Calls Tryz.prog 86 #[.int .i64 n] W fun e w' => e = .returned (.string ⟨(Lib.decDigits n).toArray⟩) ∧ Grows W w' := fun n h1 W hW => by
    have := itoa_any (n : Int) (by omega) (by omega) W (he.grows hW)
    rwa [itoa_nat (n : Int) (by omega), Int.toNat_natCast] at this
  have cR := cI r (by omega)
  have hkb : ∀ k, (whereL r (fs.take k)).length ≤ 200000 := fun k => by
    have h1 := whereL_len hr (fs.take k) (fun f h => hf f (List.mem_of_mem_take h))
    have h2 : (fs.take k).length ≤ 100 := by rw [List.length_take]; omega
    omega
  have h00 := whereL_nil r
  generalize Lib.decDigits r = dr at *
  replace cI := Lib.hid cI
  replace cR := Lib.hid cR
  replace hA := Lib.hid hA
  replace hf := Lib.hid hf
  replace hkb := Lib.hid hkb
  replace h00 := Lib.hid h00
  clear he
  go_enter Tryz.func39, Tryz.ntmps39
  go_wp2_with fail
  refine (cR.out _ (Grows.refl _)).mono ?_
  rintro e w1 ⟨rfl, hb1⟩
  replace hb1 := Lib.hid hb1
  go_wp2
  go_loopw [5, 7, 12] (fun s _ i wr => ∃ (k : Nat) (S : List UInt8), k ≤ m ∧ i = .int .i64 k ∧ s = .string ⟨S.toArray⟩ ∧ Hid (S = whereL r (fs.take k)) ∧ Hid (Grows w wr)) (fun _ _ i _ => m - (intOf i).toNat)
  case atStart => exact ⟨0, dr, by omega, rfl, rfl, (h00.out.symm : dr = whereL r (fs.take 0)), hb1⟩
  case round =>
    obtain ⟨k, S, hk, rfl, rfl, hS, hG⟩ := hrel
    by_cases hkm : k < m
    · obtain ⟨bb, off, f, rfl, hsx, hx, hcell⟩ := (hA.out.keep hG.out).at_ hkm
      have c0 : wr.cell? ⟨bb, off + k * 2, none⟩ = some (.string ⟨f.n.toArray⟩) := by simpa using hcell 0 _ rfl
      have c1 : wr.cell? ⟨bb, off + k * 2 + 1, none⟩ = some (.string ⟨f.v.toArray⟩) := by simpa using hcell 1 _ rfl
      have hfl := hf.out f (List.mem_of_getElem? hx)
      have hki : (k : Int) < (m : Int) := by omega
      have hkk := hkb.out k
      rw [← hS.out] at hkk
      have cL := cI.out f.v.length (by omega)
      have htk : fs.take (k + 1) = fs.take k ++ [f] := by rw [List.take_add_one, hx]; rfl
      have hsn : S ++ whereF f = whereL r (fs.take (k + 1)) := by rw [htk, whereL_snoc, hS.out]
      have hdl := dec_len_lt (n := f.v.length) (by omega)
      unfold whereF at hsn
      generalize Lib.decDigits f.v.length = dv at *
      replace cL := Lib.hid cL
      replace hsn := Lib.hid hsn
      have hGa : Hid (Grows w (wr.alloc (.cells #[.string ⟨f.n.toArray⟩, .string ⟨f.v.toArray⟩] 76))) := Lib.hid (hG.out.alloc _)
      clear hcell hx htk hS
      go_wp2_with fail
      refine wp_region_k (by kernel_rfl) ?_
      refine wpAnyK_run (l' := #[true, true, true, true, true, true, true, true, true, true, true, true, true, true, true, true]) [0, 1, 2, 3, 4, 5, 6, 7, 8, 9, 10, 11, 12, 13, 14, 15] 0 up_grows (by kernel_rfl) (by intro c a d v w h; first | (cases d <;> exact h) | exact hQ0 _ _ _ _ _ h) rfl (by kernel_rfl) (by kernel_rfl) ?_
      iterate 8 (refine wpMixC_q rfl (fun K hK => ?_); go_simp; (try go_bits); first | (refine hK.out _ ?_; clear hK K) | (apply Exists.intro; refine ⟨fun wq hsq => ?_, hK.out _ ?_⟩; (first | (go_simp; done) | ((try go_simp); (try simp only [↓IntWalk.iteOmega]); (try go_bits); rfl) | (obtain ⟨hcq, hfq⟩ := bcells hsq; go_simp; done) | (obtain ⟨hcq, hfq⟩ := bcells hsq; (try go_simp); (try simp only [↓IntWalk.iteOmega]); (try go_bits); rfl)); clear hK K))
      refine wpMixC_c (.string ⟨dv.toArray⟩) rfl (by first | rfl | (go_simp; done)) (fun wq hsq => ?_) ?_
      · obtain ⟨hcq, hfq⟩ := bcells hsq
        go_simp
        exact Calls.mono (cL.out wq (hGa.out.trans hsq)) (fun e w'' h => h)
      go_simp
      iterate 7 (refine wpMixC_q rfl (fun K hK => ?_); go_simp; (try go_bits); first | (refine hK.out _ ?_; clear hK K) | (apply Exists.intro; refine ⟨fun wq hsq => ?_, hK.out _ ?_⟩; (first | (go_simp; done) | ((try go_simp); (try simp only [↓IntWalk.iteOmega]); (try go_bits); rfl) | (obtain ⟨hcq, hfq⟩ := bcells hsq; go_simp; done) | (obtain ⟨hcq, hfq⟩ := bcells hsq; (try go_simp); (try simp only [↓IntWalk.iteOmega]); (try go_bits); rfl)); clear hK K))
      refine wpMixC_nil ?_
      refine wpAnyK_end (by kernel_rfl) (fun wN hN hS => ?_)
      go_wp2
      go_roundw
      case rel => exact ⟨k + 1, S ++ 0 :: (f.n ++ 61 :: (dv ++ 58 :: f.v)), by omega, by go_num, congrArg Value.string (ByteArray.ext (by simp)), hsn, hGa.out.trans hN⟩
      case measure => simp [intOf]; omega
    · obtain rfl : k = m := by omega
      have hfin : S = whereL r fs := by rw [hS.out, List.take_of_length_le (by omega)]
      replace hfin := Lib.hid hfin
      clear hS
      go_wp2
      go_ret
      exact ⟨by rw [hfin.out]; rfl, hG.out⟩
end Go.Proofs.YtfoffneipdkdjaaGreatDoor
namespace Go.Proofs.YtfoffneipdkdjaaGreatDoor
open Go.RowKit

def encU (n : Nat) : List Value := [.int .u64 (n : Int)]
theorem hkU (n : Nat) : (encU n).length = 1 := rfl
theorem oneU (n : Nat) : ∀ u ∈ encU n, u.oneCell' = true := by intro u hu; simp [encU] at hu; subst hu; rfl
theorem T_uu : SliceT Tryz.prog 45 25 1 8 := SliceT.mk' (z := .int .u64 0) Tryz.underlying45 (by kernel_rfl) rfl (by omega)
def posU (l : List Nat) (t : Nat) : Nat := (l.takeWhile fun x => decide (x < t)).length
def SortU (l : List Nat) : Prop := l.Pairwise (· < ·)
theorem posU_le (l : List Nat) (t : Nat) : posU l t ≤ l.length := by
  unfold posU; exact (List.takeWhile_sublist _).length_le
theorem posU_of {t : Nat} : ∀ {l : List Nat} {i : Nat}, i ≤ l.length → (∀ (k x : Nat), k < i → l[k]? = some x → x < t) → (∀ x : Nat, l[i]? = some x → t ≤ x) → posU l t = i
  | [], i, h, _, _ => by simp at h; subst h; rfl
  | a :: r, 0, _, _, h => by
    have := h a rfl
    unfold posU
    rw [List.takeWhile_cons_of_neg (by simp; omega)]
    rfl
  | a :: r, i + 1, hi, h1, h2 => by
    have ha := h1 0 a (by omega) rfl
    have := posU_of (l := r) (i := i) (t := t) (by simpa using hi) (fun k x hk hx => h1 (k + 1) x (by omega) (by simpa using hx)) (fun x hx => h2 x (by simpa using hx))
    unfold posU at this ⊢
    rw [List.takeWhile_cons_of_pos (by simpa using ha), List.length_cons, this]
theorem SortU.lt {l : List Nat} (h : SortU l) {i j x y : Nat} (hij : i < j) (hx : l[i]? = some x) (hy : l[j]? = some y) : x < y := by
  obtain ⟨h1, rfl⟩ := List.getElem?_eq_some_iff.1 hx
  obtain ⟨h2, rfl⟩ := List.getElem?_eq_some_iff.1 hy
  exact List.pairwise_iff_getElem.1 h i j h1 h2 hij
theorem mem_of_pos {l : List Nat} {t i : Nat} (hs : SortU l) (h1 : ∀ (k x : Nat), k < i → l[k]? = some x → x < t) (h2 : ∀ x : Nat, l[i]? = some x → t ≤ x) : (t ∈ l) ↔ l[i]? = some t := by
  constructor
  · intro h
    obtain ⟨j, hj⟩ := List.getElem?_of_mem h
    rcases Nat.lt_trichotomy j i with h3 | h3 | h3
    · have := h1 j t h3 hj; omega
    · rw [← h3]; exact hj
    · have hil : i < l.length := by have := (List.getElem?_eq_some_iff.1 hj).1; omega
      have h4 := h2 l[i] (List.getElem?_eq_getElem hil)
      have h5 := hs.lt h3 (List.getElem?_eq_getElem hil) hj
      omega
  · exact List.mem_of_getElem?
set_option maxRecDepth 100000 in
theorem nan_any (x : Nat) (w : World) : Calls Tryz.prog 88 #[.int .u64 x] w fun e w' => e = .returned (.bool false) ∧ w' = w := by
  go_enter Tryz.func88, Tryz.ntmps88
  go_wp2
  go_ret
  exact ⟨ret_bool (by simp), rfl⟩
set_option maxRecDepth 100000 in
theorem nanC_any (x : Nat) (w : World) : Calls Tryz.prog 122 #[.int .u64 x] w fun e w' => e = .returned (.bool false) ∧ w' = w := by
  go_enter Tryz.func122, Tryz.ntmps122
  go_wp2
  go_ret
  exact ⟨ret_bool (by simp), rfl⟩
set_option maxRecDepth 100000 in
theorem less_any (x y : Nat) (w : World) : Calls Tryz.prog 87 #[.int .u64 x, .int .u64 y] w fun e w' => e = .returned (.bool (decide (x < y))) ∧ w' = w := by
  have cN := fun W => nanC_any x W
  replace cN := Lib.hid cN
  go_enter Tryz.func87, Tryz.ntmps87
  go_wp2_with fail
  refine (cN.out _).mono ?_
  rintro e w1 ⟨rfl, rfl⟩
  go_wp2
  go_ret
  exact ⟨ret_bool (by simp), rfl⟩
set_option maxRecDepth 100000 in
set_option maxHeartbeats 3200000 in
theorem bsearch_any {A : Option Addr} {m c : Nat} {l : List Nat} {t : Nat} (w : World) (hA : Arr w 1 encU A m l) (hm : m ≤ 1000000) (hs : SortU l) :
    Calls Tryz.prog 40 #[.slice A m c, .int .u64 t] w fun e w' => e = .returned (.tuple #[.int .i64 (posU l t), .bool (decide (t ∈ l))]) ∧ w' = w := by
  have hml := hA.1
  have cL := fun x W => less_any x t W
  have cN := fun x W => nan_any x W
  obtain ⟨R, hR⟩ : ∃ R, R = (Value.tuple #[.int .i64 (posU l t), .bool (decide (t ∈ l))]) := ⟨_, rfl⟩
  rw [← hR]
  replace hR := Lib.hid hR
  replace cL := Lib.hid cL
  replace cN := Lib.hid cN
  replace hA := Lib.hid hA
  replace hs := Lib.hid hs
  go_enter Tryz.func40, Tryz.ntmps40
  go_wp2
  go_loopw [7, 8, 9] (fun vi vj _ wr => ∃ i j : Nat, i ≤ j ∧ j ≤ m ∧ vi = .int .i64 i ∧ vj = .int .i64 j ∧ Hid (∀ (k x : Nat), k < i → l[k]? = some x → x < t) ∧ Hid (∀ x : Nat, l[j]? = some x → t ≤ x) ∧ wr = w) (fun vi vj _ _ => (intOf vj - intOf vi).toNat)
  case atStart => exact ⟨0, m, by omega, by omega, rfl, rfl, fun _ _ h => absurd h (by omega), (fun x hx => by have := (List.getElem?_eq_some_iff.1 hx).1; omega), rfl⟩
  case round =>
    obtain ⟨i, j, hij, hjm, rfl, rfl, hlo, hhi, rfl⟩ := hrel
    by_cases hlt : i < j
    · have hlti : (i : Int) < (j : Int) := by omega
      obtain ⟨h, hh⟩ : ∃ h, h = (i + j) / 2 := ⟨_, rfl⟩
      have hhm : h < m := by omega
      obtain ⟨bb, off, x, rfl, hsx, hx, hcell⟩ := hA.out.at_ hhm
      have c0 : wr.cell? ⟨bb, off + h, none⟩ = some (.int .u64 (x : Int)) := by simpa using hcell 0 _ rfl
      have hhi2 : ((i : Int) + (j : Int)) / 2 = (h : Int) := by omega
      have hhj : h < j := by omega
      have hih : i ≤ h := by omega
      clear hcell hh
      have cX := cL.out x
      cases hxt : decide (x < t) with
      | true =>
        rw [hxt] at cX
        replace cX := Lib.hid cX
        have hlo2 := Lib.hid (show ∀ (k y : Nat), k < h + 1 → l[k]? = some y → y < t from fun k y hk hy => by
          have hxt' := of_decide_eq_true hxt
          by_cases hkh : k = h
          · subst hkh; rw [hx] at hy; rw [← Option.some.inj hy]; exact hxt'
          · have := hs.out.lt (show k < h by omega) hy hx; omega)
        clear hxt hx
        go_wp2_with fail
        refine (cX.out _).mono ?_
        rintro e w1 ⟨rfl, rfl⟩
        go_wp2
        go_roundw
        case rel => exact ⟨h + 1, j, by omega, by omega, by go_num, rfl, hlo2, hhi, trivial⟩
        case measure => simp [intOf]; omega
      | false =>
        rw [hxt] at cX
        replace cX := Lib.hid cX
        have hhi3 := Lib.hid (show ∀ y : Nat, l[h]? = some y → t ≤ y from fun y hy => by
          rw [hx] at hy; rw [← Option.some.inj hy]; exact Nat.le_of_not_lt (of_decide_eq_false hxt))
        clear hxt hx
        go_wp2_with fail
        refine (cX.out _).mono ?_
        rintro e w1 ⟨rfl, rfl⟩
        go_wp2
        go_roundw
        case rel => exact ⟨i, h, by omega, by omega, rfl, rfl, hlo, hhi3, trivial⟩
        case measure => simp [intOf]; omega
    · obtain rfl : i = j := by omega
      have hpos := posU_of (t := t) (by omega) hlo.out hhi.out
      have hmem := mem_of_pos hs.out hlo.out hhi.out
      have hR2 := hR.out
      rw [hpos] at hR2
      clear hR hpos
      by_cases him : i < m
      · obtain ⟨bb, off, x, rfl, hsx, hx, hcell⟩ := hA.out.at_ him
        have c0 : wr.cell? ⟨bb, off + i, none⟩ = some (.int .u64 (x : Int)) := by simpa using hcell 0 _ rfl
        have himi : (i : Int) < (m : Int) := by omega
        rw [hx] at hmem
        clear hcell hx hlo hhi
        have cX := cN.out x
        cases hxt : ((x : Int) == (t : Int)) with
        | true =>
          have hxt' : x = t := by have := of_decide_eq_true (show decide ((x : Int) = (t : Int)) = true by simpa using hxt); omega
          rw [decide_eq_true (hmem.2 (by rw [hxt']))] at hR2
          replace hR2 := Lib.hid hR2
          clear hmem hxt'
          go_wp2
          go_ret2
          exact ⟨by rw [hR2.out]; rfl, rfl⟩
        | false =>
          have hxt' : ¬ x = t := fun h => by rw [h] at hxt; simp at hxt
          rw [decide_eq_false (fun h => hxt' (Option.some.inj (hmem.1 h)))] at hR2
          replace hR2 := Lib.hid hR2
          replace cX := Lib.hid cX
          clear hmem hxt'
          go_wp2_with fail
          refine (cX.out _).mono ?_
          rintro e w1 ⟨rfl, rfl⟩
          go_wp2
          go_ret2
          exact ⟨by rw [hR2.out]; rfl, rfl⟩
      · have hx : l[i]? = none := List.getElem?_eq_none (by omega)
        rw [hx] at hmem
        rw [decide_eq_false (fun h => by have := hmem.1 h; cases this)] at hR2
        have himi : ¬ (i : Int) < (m : Int) := by omega
        replace hR2 := Lib.hid hR2
        clear hmem hx hlo hhi
        go_wp2
        go_ret2
        exact ⟨by rw [hR2.out]; rfl, rfl⟩
end Go.Proofs.YtfoffneipdkdjaaGreatDoor
namespace Go.Proofs.YtfoffneipdkdjaaGreatDoor
open Go.RowKit

def rowPut (cur : Array Value) (o : Nat) (cs : List Value) : Array Value := (cur.toList.take o ++ cs ++ cur.toList.drop (o + cs.length)).toArray
theorem rowPut_size {cur : Array Value} {o : Nat} {cs : List Value} (h : o + cs.length ≤ cur.size) : (rowPut cur o cs).size = cur.size := by
  simp only [rowPut, List.size_toArray, List.length_append, List.length_take, List.length_drop, Array.length_toList]
  omega
theorem rowPut_get {cur : Array Value} {o : Nat} {cs : List Value} (h : o + cs.length ≤ cur.size) (q : Nat) : (rowPut cur o cs)[q]? = if o ≤ q ∧ q < o + cs.length then cs[q - o]? else cur[q]? := by
  simp only [rowPut, List.getElem?_toArray, List.append_assoc]
  have hto : (cur.toList.take o).length = o := by rw [List.length_take, Array.length_toList]; omega
  by_cases h1 : q < o
  · rw [List.getElem?_append_left (by omega), List.getElem?_take_of_lt h1, if_neg (by omega)]
    simp
  · rw [List.getElem?_append_right (by omega), hto]
    by_cases h2 : q < o + cs.length
    · rw [List.getElem?_append_left (by omega), if_pos (by omega)]
    · rw [List.getElem?_append_right (by omega), if_neg (by omega), List.getElem?_drop, show o + cs.length + (q - o - cs.length) = q by omega]
      simp
theorem copy_u {w : World} {g o dL dC a b sL sC : Nat} {cur : Array Value} {t : TypeId} {cs : List Value} (hg : w.heap[g]? = some (.cells cur t (0, 0))) (hn : cs.length = min sL dL)
    (hsrc : ∀ j v, cs[j]? = some v → w.cell? ⟨a, b + j, none⟩ = some v) (hfit : o + cs.length ≤ cur.size) (h1 : ∀ v ∈ cs, v.oneCell' = true) :
    ∃ w', (Builtin.copy_ #[45, 45] 3 #[.slice (some ⟨g, o, none⟩) dL dC, .slice (some ⟨a, b, none⟩) sL sC]).run Tryz.prog w = .ok (goInt (min sL dL : Nat)) w' ∧ w'.heap[g]? = some (.cells (rowPut cur o cs) t (0, 0)) ∧ w.grownBy w' (some g) := by
  have hc := run_copy_row (P := Tryz.prog) w 45 45 3 25 g o dL dC ⟨a, b, none⟩ sL sC cur t cs Tryz.underlying45 (by kernel_rfl) hg hn (fun j v hv => by
    have := hsrc j v hv
    have he : (⟨a, b, none⟩ : Addr).add j = ⟨a, b + j, none⟩ := by unfold Addr.add; by_cases hj : j = 0 <;> simp [hj]
    rw [he]; exact this) hfit h1
  refine ⟨_, by rw [← hn]; exact hc, ?_, grownBy_setRow _ _ _⟩
  exact setRow_heap w g cur _ t _ hg
theorem ov_match {M : Array Value → Type} {a b : Option Addr} {la ca lb cb : Nat} (h1 : (a : Option Addr) → (la ca : Nat) → (b : Option Addr) → (lb cb : Nat) → M #[.slice a la ca, .slice b lb cb]) (h2 : (x : Array Value) → M x) :
    Extern.SlicesOverlaps.overlaps.match_4 M #[.slice a la ca, .slice b lb cb] h1 h2 = h1 a la ca b lb cb := rfl
set_option maxRecDepth 100000 in
theorem overlaps_no {a b : Nat} {oa ob la lb ca cb : Nat} {w : World} {xs ys : Array Value} {t u : TypeId} (ha : w.heap[a]? = some (.cells xs t (0, 0))) (hb : w.heap[b]? = some (.cells ys u (0, 0))) (hne : a ≠ b) :
    (callFunc 89 #[.slice (some ⟨a, oa, none⟩) la ca, .slice (some ⟨b, ob, none⟩) lb cb]).run Tryz.prog w = .ok (.value (.bool false)) w := by
  rw [run_callFunc_extern (e := Extern.SlicesOverlaps.overlaps #[45, 45] #[4]) Tryz.func89 (by kernel_rfl) (by kernel_rfl) (by kernel_rfl) (by rfl)]
  obtain ⟨i, z, hi, hz, hsz, hby, hzs⟩ := T_uu.info
  have hsa : w.shape? a = some (t, xs.size) := by simp [World.shape?, ha]
  have hsb : w.shape? b = some (u, ys.size) := by simp [World.shape?, hb]
  have hfa : ∀ j, w.frozen? ⟨a, j, none⟩ = false := fun j => by simp [World.frozen?, ha]
  have hfb : ∀ j, w.frozen? ⟨b, j, none⟩ = false := fun j => by simp [World.frozen?, hb]
  have hne' : (a != b) = true := by simpa using hne
  have hne2 : (a == b) = false := by simpa using hne
  unfold Extern.SlicesOverlaps.overlaps
  rw [ov_match]
  by_cases h0 : la = 0 ∨ lb = 0
  · simp [run_underlying Tryz.underlying45, sizeOf, typeInfo, hi, hsz, h0, Result.andThen]
  · simp [run_underlying Tryz.underlying45, sizeOf, typeInfo, hi, hsz, h0, hne', hne2, noView, viewAt, mayBeOne, stringish, hsa, hsb, hfa, hfb, Result.andThen]
/-- append(s[:i], make(n)...), where there is no room: a new row. -/
theorem run_append_zeros {P : Program} (w : World) (t tn ty e : TypeId) (i : TypeInfo) (z : Value) (k kn : IntKind) (ht : P.underlying t = some (.slice e)) (htn : P.underlying tn = some (.int kn)) (hi : P.info? e = some i) (hz : i.zero = some z)
    (b : Addr) (sLen sCap : Nat) (olds : List Value) (hlo : olds.length = sLen * i.size) (holds : ∀ j v, olds[j]? = some v → w.cell? (b.add j) = some v)
    (n : Nat) (h0 : 0 < n) (hs : 0 < i.size) (hg : sCap < sLen + n) (h63 : ((sLen + n : Nat) : Int) ≤ 9223372036854775807) (hfit : Builtin.nextslicecap (sLen + n) sCap * i.bytes ≤ 281474976710656) (h48 : n * i.bytes ≤ 281474976710656) :
    (Builtin.append_ #[t, tn] ty #[.slice (some b) sLen sCap, .int k n]).run P w =
      .ok (.slice (some ⟨w.heap.size, 0, none⟩) (sLen + n) (grownCap w (sLen + n) sCap e)) (w.drew.alloc (.cells (olds.toArray ++ Builtin.zeroCells z.cells n ++ Builtin.zeroCells z.cells (grownCap w (sLen + n) sCap e - (sLen + n))) e)) := by
  have hn : n ≠ 0 := by omega
  have hw : IntKind.i64.wrap (n : Int) = n := by rw [IntKind.wrap_i64]; omega
  have hne : ¬ (sLen + n ≤ sCap) := by omega
  have h63' : ¬ (9223372036854775807 < ((sLen : Int) + (n : Int))) := by omega
  have h48' : ¬ (281474976710656 < Builtin.nextslicecap (sLen + n) sCap * i.bytes) := by omega
  have h48i : ¬ (281474976710656 < (n : Int) * (i.bytes : Int)) := by
    rw [← Int.natCast_mul]
    omega
  have hneg : ¬ ((n : Int) < 0) := by omega
  have hns : ¬ (n * i.size = 0) := Nat.mul_ne_zero hn (by omega)
  have hfo := run_firstCells_some (P := P) w.drew i.size sLen b sLen sCap olds hlo (by simpa using holds)
  simp [Builtin.append_, run_underlying ht, run_underlying htn, sizeOf, typeInfo, zeroValue, hi, hz, asInt, asIntOf, hw, hneg, hns, h63', h48', h48i, hne, Question.forced, hfo, newRow, grownCap]
end Go.Proofs.YtfoffneipdkdjaaGreatDoor
namespace Go.Proofs.YtfoffneipdkdjaaGreatDoor
open Go.RowKit

def putAt (l : List Nat) (i t : Nat) : List Nat := l.take i ++ t :: l.drop i
theorem putAt_end (l : List Nat) (t : Nat) : putAt l l.length t = l ++ [t] := by simp [putAt]
theorem putAt_len {l : List Nat} {i t : Nat} (h : i ≤ l.length) : (putAt l i t).length = l.length + 1 := by
  simp only [putAt, List.length_append, List.length_take, List.length_cons, List.length_drop]; omega
theorem putAt_lo {l : List Nat} {i t q : Nat} (hi : i ≤ l.length) (h : q < i) : (putAt l i t)[q]? = l[q]? := by
  unfold putAt
  rw [List.getElem?_append_left (by rw [List.length_take]; omega), List.getElem?_take_of_lt h]
theorem putAt_at {l : List Nat} {i t : Nat} (h : i ≤ l.length) : (putAt l i t)[i]? = some t := by
  unfold putAt
  rw [List.getElem?_append_right (by rw [List.length_take]; omega), List.length_take, show i - min i l.length = 0 by omega]
  rfl
theorem putAt_hi {l : List Nat} {i t q : Nat} (h : i ≤ l.length) (hq : i < q) : (putAt l i t)[q]? = l[q - 1]? := by
  unfold putAt
  rw [List.getElem?_append_right (by rw [List.length_take]; omega), List.length_take, show q - min i l.length = (q - 1 - i) + 1 by omega, List.getElem?_cons_succ, List.getElem?_drop, show i + (q - 1 - i) = q - 1 by omega]
/-- An id, in a block of its own. -/
def OneU (w : World) (h : Nat) (t : Nat) : Prop := w.heap[h]? = some (.cells #[.int .u64 (t : Int)] 25 (0, 0))
theorem OneU.arr {w : World} {h t : Nat} (ho : OneU w h t) : Arr w 1 encU (some ⟨h, 0, none⟩) 1 [t] := by
  refine ⟨rfl, fun _ => ⟨h, 0, rfl, (Array.getElem?_eq_some_iff.1 ho).1, fun i hi j u hu => ?_⟩⟩
  have hi0 : i = 0 := by simpa using hi
  subst hi0
  have hj : j = 0 := by have := (List.getElem?_eq_some_iff.1 hu).1; simp [encU] at this; omega
  subst hj
  simp only [World.cell?, show w.heap[h]? = _ from ho]
  simpa [encU] using hu
def uv (x : Nat) : Value := .int .u64 (x : Int)
theorem uv_one : ∀ (l : List Nat), ∀ v ∈ l.map uv, v.oneCell' = true := by intro l v hv; simp only [List.mem_map] at hv; obtain ⟨x, _, rfl⟩ := hv; rfl
theorem putAt_get {l : List Nat} {i t q x : Nat} (hi : i ≤ l.length) (h : (putAt l i t)[q]? = some x) : (q < i ∧ l[q]? = some x) ∨ (q = i ∧ x = t) ∨ (i < q ∧ l[q - 1]? = some x) := by
  rcases Nat.lt_trichotomy q i with h1 | h1 | h1
  · rw [putAt_lo hi h1] at h; exact .inl ⟨h1, h⟩
  · subst h1; rw [putAt_at hi] at h; exact .inr (.inl ⟨rfl, (Option.some.inj h).symm⟩)
  · rw [putAt_hi hi h1] at h; exact .inr (.inr ⟨h1, h⟩)
theorem drop_uv {l : List Nat} {i q x : Nat} (h : l[i + q]? = some x) : ((l.drop i).map uv)[q]? = some (uv x) := by simp [h]
/-- In place: what stands from i on is moved by one, then the id is put. -/
theorem ins_room {cur : Array Value} {l : List Nat} {i t : Nat} (hc : ∀ (q x : Nat), l[q]? = some x → cur[q]? = some (uv x)) (hi : i < l.length) (hsz : l.length + 1 ≤ cur.size) :
    ∀ (q x : Nat), (putAt l i t)[q]? = some x → (rowPut (rowPut cur (i + 1) ((l.drop i).map uv)) i [uv t])[q]? = some (uv x) := by
  intro q x hq
  have hl : ((l.drop i).map uv).length = l.length - i := by simp
  have hs1 : (rowPut cur (i + 1) ((l.drop i).map uv)).size = cur.size := rowPut_size (by omega)
  rw [rowPut_get (by rw [hs1, List.length_singleton]; omega)]
  rcases putAt_get (by omega) hq with ⟨h1, h2⟩ | ⟨rfl, rfl⟩ | ⟨h1, h2⟩
  · rw [if_neg (by omega), rowPut_get (by omega), if_neg (by omega)]
    exact hc q x h2
  · rw [if_pos (by simp)]; simp
  · have hq2 := (List.getElem?_eq_some_iff.1 h2).1
    rw [if_neg (by simp; omega), rowPut_get (by omega), if_pos (by omega)]
    exact drop_uv (by rw [show i + (q - (i + 1)) = q - 1 by omega]; exact h2)
/-- In a new row, that holds the first i. -/
theorem ins_new {cur : Array Value} {l : List Nat} {i t : Nat} (hc : ∀ (q x : Nat), q < i → l[q]? = some x → cur[q]? = some (uv x)) (hi : i < l.length) (hsz : l.length + 1 ≤ cur.size) :
    ∀ (q x : Nat), (putAt l i t)[q]? = some x → (rowPut (rowPut cur i [uv t]) (i + 1) ((l.drop i).map uv))[q]? = some (uv x) := by
  intro q x hq
  have hl : ((l.drop i).map uv).length = l.length - i := by simp
  have hs1 : (rowPut cur i [uv t]).size = cur.size := rowPut_size (by simp; omega)
  rw [rowPut_get (by omega)]
  rcases putAt_get (by omega) hq with ⟨h1, h2⟩ | ⟨rfl, rfl⟩ | ⟨h1, h2⟩
  · rw [if_neg (by omega), rowPut_get (by simp; omega), if_neg (by omega)]
    exact hc q x h1 h2
  · rw [if_neg (by omega), rowPut_get (by simp; omega), if_pos (by simp)]; simp
  · have hq2 := (List.getElem?_eq_some_iff.1 h2).1
    rw [if_pos (by omega)]
    exact drop_uv (by rw [show i + (q - (i + 1)) = q - 1 by omega]; exact h2)
theorem Own.of_row {w : World} {base g cap n : Nat} {cur : Array Value} {xs : List Nat} (hb : base ≤ g) (hh : w.heap[g]? = some (.cells cur 25 (0, 0))) (hn : xs.length = n) (hnc : n ≤ cap) (hcm : cap ≤ maxLen) (hcs : cur.size = cap)
    (hc : ∀ (q x : Nat), xs[q]? = some x → cur[q]? = some (uv x)) : Own w base 25 1 encU (.slice (some ⟨g, 0, none⟩) n cap) xs := by
  subst hn
  refine Own.mk_ hkU (by omega) hb hh hnc hcm (by omega) (fun q hq r hr => ?_)
  have hr0 : r = 0 := by omega
  subst hr0
  have := hc q xs[q] (List.getElem?_eq_getElem hq)
  simpa [encU, uv] using this
theorem OneU.cell {w : World} {h t : Nat} (ho : OneU w h t) : ∀ (j : Nat) v, [uv t][j]? = some v → w.cell? ⟨h, 0 + j, none⟩ = some v := by
  intro j v hv
  have hj : j = 0 := by have := (List.getElem?_eq_some_iff.1 hv).1; simp at this; omega
  subst hj
  simp only [World.cell?, show w.heap[h]? = _ from ho]
  simpa [uv] using hv
theorem OneU.by_ {w w' : World} {h t : Nat} {row : Option Nat} (ho : OneU w h t) (hg : w.grownBy w' row) (hne : some h ≠ row) : OneU w' h t := (hg.block h (Array.getElem?_eq_some_iff.1 ho).1 hne).trans ho
theorem row_src {w : World} {g i : Nat} {cur : Array Value} {t : TypeId} {l : List Nat} (hh : w.heap[g]? = some (.cells cur t (0, 0))) (hc : ∀ (q x : Nat), l[q]? = some x → cur[q]? = some (uv x)) :
    ∀ (j : Nat) v, ((l.drop i).map uv)[j]? = some v → w.cell? ⟨g, i + j, none⟩ = some v := by
  intro j v hv
  simp only [List.getElem?_map, List.getElem?_drop, Option.map_eq_some_iff] at hv
  obtain ⟨x, hx, rfl⟩ := hv
  have := hc _ x hx
  simp only [World.cell?, hh]
  simpa using this
theorem zeros_u {w : World} {g i n d cap : Nat} {cur : Array Value} {l : List Nat} (hh : w.heap[g]? = some (.cells cur 25 (0, 0))) (hc : ∀ (q x : Nat), l[q]? = some x → cur[q]? = some (uv x)) (hl : l.length = n) (hi : i < n) (hd : n + 1 - i = d) (hroom : cap < n + 1) (hn : n ≤ 1000000) :
    ∃ cap2 w2 cur2, (Builtin.append_ #[45, 3] 45 #[.slice (some ⟨g, 0, none⟩) i cap, .int .i64 (d : Int)]).run Tryz.prog w = .ok (.slice (some ⟨w.heap.size, 0, none⟩) (n + 1) cap2) w2 ∧ n + 1 ≤ cap2 ∧ cap2 ≤ maxLen ∧
      w2.heap[w.heap.size]? = some (.cells cur2 25 (0, 0)) ∧ cur2.size = cap2 ∧ (∀ (q x : Nat), q < i → l[q]? = some x → cur2[q]? = some (uv x)) ∧ Grows w w2 := by
  obtain ⟨ti, z, hti, hz, hsz, hby, hzs⟩ := T_uu.info
  have hol : ((l.take i).map uv).length = i := by rw [List.length_map, List.length_take]; omega
  have hr := run_append_zeros (P := Tryz.prog) w 45 3 45 25 ti z .i64 .i64 Tryz.underlying45 Tryz.underlying3 hti hz ⟨g, 0, none⟩ i cap ((l.take i).map uv) (by rw [hol, hsz, Nat.mul_one]) (fun j v hv => by
    simp only [List.getElem?_map, Option.map_eq_some_iff] at hv
    obtain ⟨x, hx, rfl⟩ := hv
    have hji : j < i := by have := (List.getElem?_eq_some_iff.1 hx).1; rw [List.length_take] at this; omega
    rw [List.getElem?_take_of_lt hji] at hx
    have he : (⟨g, 0, none⟩ : Addr).add j = ⟨g, j, none⟩ := by unfold Addr.add; by_cases hj : j = 0 <;> simp [hj]
    rw [he]
    simp only [World.cell?, hh]
    simpa using hc j x hx) d (by omega) (by omega) (by omega) (by omega) (by rw [hby]; exact growslice_fits (by omega) (by omega)) (by rw [hby]; omega)
  rw [show i + d = n + 1 by omega] at hr
  have hge := grownCap_ge w (n + 1) cap 25
  have hcm := grownCap_le_maxLen w (n + 1) cap 25 (by unfold maxLen; omega)
  refine ⟨_, _, _, hr, hge, hcm, heap_alloc_new w.drew _, ?_, ?_, (Grows.refl w).drew.alloc _⟩
  · simp only [Array.size_append, size_zeroCells, hzs, List.size_toArray, hol]
    omega
  · intro q x hq hx
    rw [Array.getElem?_append_left (by simp only [Array.size_append, List.size_toArray, hol]; omega), Array.getElem?_append_left (by rw [List.size_toArray, hol]; omega)]
    simp [hq, hx]
set_option maxRecDepth 100000 in
set_option maxHeartbeats 3200000 in
theorem insert_any {base : Nat} {v : Value} {l : List Nat} {i t h c : Nat} (w : World) (hO : Own w base 25 1 encU v l) (hbase : base ≤ w.heap.size) (hi : i ≤ l.length) (hl : l.length ≤ 1000000) (hT : OneU w h t) (hne : ∀ j, v.ownBlock = some j → j ≠ h) :
    Calls Tryz.prog 41 #[v, .int .i64 i, .slice (some ⟨h, 0, none⟩) 1 c] w fun e w' => ∃ v', e = .returned v' ∧ Own w' base 25 1 encU v' (putAt l i t) ∧ w.grownBy w' v.ownBlock ∧ (v'.ownBlock = v.ownBlock ∨ ∃ j, v'.ownBlock = some j ∧ w.heap.size ≤ j) := by
  obtain ⟨A, cap, rfl, hcap, hcm, hA⟩ := hO.arr hkU
  by_cases hin : i = l.length
  · subst hin
    rw [putAt_end]
    have hOn := hO
    rcases hO.2 with ⟨h5, h6⟩ | ⟨g, cap0, cur, h5, hb, hh, hnc, _, hcs, htk⟩
    · injection h5 with h5 h7 h8
      subst h5 h8
      have hn := h6
      obtain rfl : l = [] := List.eq_nil_of_length_eq_zero h6
      replace hO := Lib.hid hO
      replace hT := Lib.hid hT
      clear hA hne hOn h7 hcap hcm hi hl hn h6
      go_enter Tryz.func41, Tryz.ntmps41
      go_wp2_with (at_builtin; refine wpList_grownOpt T_uu rfl (.tmp 23) (.tmp 24) rfl hO.out rfl rfl hT.out.arr hkU oneU hbase (by simp [maxLen]) (by simp) ?_; intro v2 w2 hO2 hby2 hv2)
      go_ret
      exact ⟨v2, rfl, hO2, hby2, hv2.imp id (fun h => ⟨_, h, Nat.le_refl _⟩)⟩
    · simp only [Value.slice.injEq] at h5
      obtain ⟨rfl, _, rfl⟩ := h5
      clear hb hh hnc hcs htk
      generalize hn : l.length = n at *
      replace hn := Lib.hid hn
      replace hO := Lib.hid hO
      replace hT := Lib.hid hT
      clear hA hne hi hOn
      unfold maxLen at hcm
      go_enter Tryz.func41, Tryz.ntmps41
      go_wp2_with (at_builtin; refine wpList_grownOpt T_uu rfl (.tmp 23) (.tmp 24) rfl hO.out rfl rfl hT.out.arr hkU oneU hbase (by rw [hn.out]; unfold maxLen; omega) (by rw [hn.out]; omega) ?_; intro v2 w2 hO2 hby2 hv2)
      all_goals (go_ret; exact ⟨v2, rfl, hO2, hby2, hv2.imp id (fun h => ⟨_, h, Nat.le_refl _⟩)⟩)
  · have hin2 : i < l.length := by omega
    clear hin
    obtain ⟨g, cap0, cur, h5, hb, hh, hnc, _, hcs, htk⟩ := hO.2.resolve_left (fun h => by have := h.2; omega)
    simp only [Value.slice.injEq] at h5
    obtain ⟨rfl, _, rfl⟩ := h5
    obtain ⟨cur2, _, _, hh2, _, _, hcs2, hcell⟩ := hO.cells_ hkU
    obtain rfl : cur2 = cur := by rw [hh] at hh2; injection hh2 with h; injection h with h; exact h.symm
    have hgh : g ≠ h := hne g rfl
    replace hcell : ∀ (q x : Nat), l[q]? = some x → cur2[q]? = some (uv x) := fun q x hx => by
      obtain ⟨h1, rfl⟩ := List.getElem?_eq_some_iff.1 hx
      simpa [encU, uv] using hcell q h1 0 (by omega)
    rw [Nat.mul_one] at hcs
    clear hh2 hcs2 htk hA hne
    generalize hn : l.length = n at *
    unfold maxLen at hcm
    have hini : ((i : Int) == (n : Int)) = false := by rw [beq_eq_false_iff_ne]; omega
    by_cases hroom : n + 1 ≤ cap
    · have hri : ¬ (cap : Int) < (n : Int) + 1 := by omega
      have hov := fun (c1 : Nat) => overlaps_no (oa := 0) (ob := i + 1) (la := 1) (lb := n - i) (ca := c) (cb := c1) hT hh (Ne.symm hgh)
      replace hn := Lib.hid hn
      replace hO := Lib.hid hO
      replace hT := Lib.hid hT
      replace hh := Lib.hid hh
      replace hcell := Lib.hid hcell
      go_enter Tryz.func41, Tryz.ntmps41
      go_wp2
      have hgl : g < w.heap.size := (Array.getElem?_eq_some_iff.1 hh.out).1
      refine wp_region_k (by kernel_rfl) ?_
      refine wpAnyK_run (l' := #[true, true, true, true, true, true, true, true, false]) [0, 1, 2, 3, 4, 5, 6, 7] 1 up_grows (by kernel_rfl) (by intro c a d v w h; first | (cases d <;> exact h) | exact hQ0 _ _ _ _ _ h) rfl (by kernel_rfl) (by kernel_rfl) ?_
      iterate 8 (refine wpMixC_q rfl (fun K hK => ?_); go_simp; (try go_bits); first | (refine hK.out _ ?_; clear hK K) | (apply Exists.intro; refine ⟨fun wq hsq => ?_, hK.out _ ?_⟩; (first | (go_simp; done) | ((try go_simp); (try simp only [↓IntWalk.iteOmega]); (try go_bits); rfl) | (obtain ⟨hcq, hfq⟩ := bcells hsq; go_simp; done) | (obtain ⟨hcq, hfq⟩ := bcells hsq; (try go_simp); (try simp only [↓IntWalk.iteOmega]); (try go_bits); rfl)); clear hK K))
      refine wpMixC_nil ?_
      refine wpAnyK_last (i := 8) rfl (by kernel_rfl) (by kernel_rfl) (fun wN hN hS K' hK => ?_)
      clear hS
      have hhN := (hN.below.block g hgl).trans hh.out
      have hdl : ((l.drop i).map uv).length = n - i := by rw [List.length_map, List.length_drop, hn.out]
      obtain ⟨w2, hcp, hh2, hby2⟩ := copy_u (o := i + 1) (dL := n - i) (dC := cap - (i + 1)) (sL := n + 1 - i) (sC := cap - i) hhN (by rw [hdl]; omega) (row_src (i := i) hhN hcell.out) (by rw [hdl, hcs]; omega) (uv_one _)
      have hTN := Lib.hid (OneU.by_ (OneU.by_ hT.out (hN.by_none none) (by simp)) hby2 (by simpa using Ne.symm hgh))
      have hbyT : Hid (w.grownBy w2 (some g)) := Lib.hid ((hN.by_none _).trans hby2)
      replace hh2 := Lib.hid hh2
      clear hhN hN hdl hby2
      go_simp
      refine hK.out _ _ ?_
      clear hK hcp
      have hsA : (rowPut cur2 (i + 1) ((l.drop i).map uv)).size = cap := by rw [rowPut_size (cur := cur2) (o := i + 1) (cs := (l.drop i).map uv) (by rw [List.length_map, List.length_drop, hn.out, hcs]; omega), hcs]
      have hsB : (rowPut (rowPut cur2 (i + 1) ((l.drop i).map uv)) i [uv t]).size = cap := by rw [rowPut_size (cur := rowPut cur2 (i + 1) ((l.drop i).map uv)) (o := i) (cs := [uv t]) (by rw [hsA, List.length_singleton]; omega), hsA]
      obtain ⟨w3, hcp3, hh3, hby3⟩ := copy_u (o := i) (dL := n + 1 - i) (dC := cap - i) (sL := 1) (sC := c) hh2.out (by rw [List.length_singleton]; omega) hTN.out.cell (by rw [hsA, List.length_singleton]; omega) (by intro v hv; rw [List.mem_singleton] at hv; subst hv; rfl)
      have hfin := Own.of_row (base := base) hb hh3 (putAt_len (t := t) (by have := hn.out; omega)) (by have := hn.out; omega) (by unfold maxLen; omega) hsB (ins_room (t := t) hcell.out (by have := hn.out; omega) (by have := hn.out; omega))
      clear hsA hsB
      rw [hn.out] at hfin
      replace hfin := Lib.hid hfin
      replace hbyT := Lib.hid (hbyT.out.trans hby3)
      clear hh2 hTN hh3 hby3
      go_wp2
      go_ret
      exact ⟨_, rfl, hfin.out, hbyT.out, .inl rfl⟩
    · have hri : (cap : Int) < (n : Int) + 1 := by omega
      obtain ⟨d, hd⟩ : ∃ d, n + 1 - i = d := ⟨_, rfl⟩
      have hdi : (n : Int) + 1 - (i : Int) = (d : Int) := by omega
      obtain ⟨cap2, w2, cur3, hrun, hn2, hcm2, hh2, hcs3, hc3, hG2⟩ := zeros_u (cap := cap) hh hcell hn hin2 hd (by omega) hl
      have hcm3 := hcm2
      unfold maxLen at hcm3
      have hgl : g < w.heap.size := (Array.getElem?_eq_some_iff.1 hh).1
      have hhl : h < w.heap.size := (Array.getElem?_eq_some_iff.1 hT).1
      have hhh : Hid (w2.heap[g]? = some (.cells cur2 25 (0, 0))) := Lib.hid ((hG2.below.block g hgl).trans hh)
      have hT2 : OneU w2 h t := OneU.by_ hT (hG2.by_none none) (by simp)
      obtain ⟨w3, hcp3, hh3, hby3⟩ := copy_u (o := i) (dL := n + 1 - i) (dC := cap2 - i) (sL := 1) (sC := c) (cur := cur3) hh2 (by rw [List.length_singleton]; omega) hT2.cell (by rw [List.length_singleton, hcs3]; omega) (by intro v hv; rw [List.mem_singleton] at hv; subst hv; rfl)
      have hh4 : Hid (w3.heap[g]? = some (.cells cur2 25 (0, 0))) := Lib.hid ((hby3.block g (Nat.lt_of_lt_of_le hgl hG2.size) (by simp; omega)).trans hhh.out)
      have hG3 : Hid (Grows w w3) := Lib.hid (hG2.by_row hby3 (fun j hj => by injection hj with hj; omega))
      have hsA : Hid ((rowPut cur3 i [uv t]).size = cap2) := Lib.hid (by rw [rowPut_size (cur := cur3) (o := i) (cs := [uv t]) (by rw [List.length_singleton]; omega), hcs3])
      generalize hG : w.heap.size = G at *
      replace hn := Lib.hid hn
      replace hO := Lib.hid hO
      replace hT := Lib.hid hT
      replace hh := Lib.hid hh
      replace hcell := Lib.hid hcell
      replace hd := Lib.hid hd
      replace hh3 := Lib.hid hh3
      replace hc3 := Lib.hid hc3
      clear hh2 hT2 hhh hby3 hG2
      go_enter Tryz.func41, Tryz.ntmps41
      go_wp2_with (at_builtin; refine Lib.wpList_append_run _ rfl (.tmp 34) (.tmp 39) _ _ rfl _ _ rfl rfl _ _ hrun ?_)
      clear hrun
      have hgl3 : g < w3.heap.size := (Array.getElem?_eq_some_iff.1 hh4.out).1
      refine wp_region_k (by kernel_rfl) ?_
      refine wpAnyK_run (l' := #[true, true, true, true, true, true, true, true, false]) [0, 1, 2, 3, 4, 5, 6, 7] 1 up_grows (by kernel_rfl) (by intro c a d v w h; first | (cases d <;> exact h) | exact hQ0 _ _ _ _ _ h) rfl (by kernel_rfl) (by kernel_rfl) ?_
      iterate 8 (refine wpMixC_q rfl (fun K hK => ?_); go_simp; (try go_bits); first | (refine hK.out _ ?_; clear hK K) | (apply Exists.intro; refine ⟨fun wq hsq => ?_, hK.out _ ?_⟩; (first | (go_simp; done) | ((try go_simp); (try simp only [↓IntWalk.iteOmega]); (try go_bits); rfl) | (obtain ⟨hcq, hfq⟩ := bcells hsq; go_simp; done) | (obtain ⟨hcq, hfq⟩ := bcells hsq; (try go_simp); (try simp only [↓IntWalk.iteOmega]); (try go_bits); rfl)); clear hK K))
      refine wpMixC_nil ?_
      refine wpAnyK_last (i := 8) rfl (by kernel_rfl) (by kernel_rfl) (fun wN hN hS K' hK => ?_)
      clear hS
      have hhN := (hN.below.block g hgl3).trans hh4.out
      have hhM := (hN.below.block G (Array.getElem?_eq_some_iff.1 hh3.out).1).trans hh3.out
      have hdl : ((l.drop i).map uv).length = n - i := by rw [List.length_map, List.length_drop, hn.out]
      obtain ⟨w5, hcp, hh5, hby5⟩ := copy_u (o := i + 1) (dL := n - i) (dC := cap2 - (i + 1)) (sL := n - i) (sC := cap - i) hhM (by rw [hdl]; omega) (row_src (i := i) hhN hcell.out) (by rw [hdl, hsA.out]; omega) (uv_one _)
      have hfin := Own.of_row (base := base) (by omega) hh5 (putAt_len (t := t) (by have := hn.out; omega)) (by have := hn.out; omega) hcm2 (by rw [rowPut_size (cur := rowPut cur3 i [uv t]) (o := i + 1) (cs := (l.drop i).map uv) (by rw [hdl, hsA.out]; omega), hsA.out]) (ins_new (t := t) hc3.out (by have := hn.out; omega) (by have := hn.out; omega))
      rw [hn.out] at hfin
      replace hfin := Lib.hid hfin
      have hG5 : Hid (Grows w w5) := Lib.hid ((hG3.out.trans hN).by_row hby5 (fun j hj => by injection hj with hj; omega))
      clear hhN hhM hN hdl hby5 hh5
      go_simp
      refine hK.out _ _ ?_
      clear hK hcp
      go_wp2
      go_ret
      exact ⟨_, rfl, hfin.out, hG5.out.by_none _, .inr ⟨G, rfl, Nat.le_refl _⟩⟩
end Go.Proofs.YtfoffneipdkdjaaGreatDoor
