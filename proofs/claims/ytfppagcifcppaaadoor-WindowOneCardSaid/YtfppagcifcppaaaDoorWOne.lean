/- The walk of the law WindowOne. -/
import Derived.Test.YtfppagcifcppaaaDoorWOneP
import Derived.ArgAppend
namespace Go.Proofs.YtfppagcifcppaaaDoor
open Go.RowKit

theorem Arr.all_cells {α : Type} {w : World} {k m : Nat} {enc : α → List Value} {ad : Addr} {ys : List α} (harr : Arr w k enc (some ad) m ys) (hk : ∀ x, (enc x).length = k) (hpos : 0 < k) :
    ∀ j u, (encAll enc ys)[j]? = some u → w.cell? (ad.add j) = some u := by
  intro j u hu
  have hj := (List.getElem?_eq_some_iff.1 hu).1
  rw [encAll_length hk] at hj
  have hm : 0 < ys.length := by
    rcases Nat.eq_zero_or_pos ys.length with h0 | h0
    · rw [h0] at hj; omega
    · exact h0
  obtain ⟨b, off, e1, _, hc⟩ := harr.2 (by rw [← harr.1]; exact hm)
  have e2 : j / k * k + j % k = j := by rw [Nat.mul_comm]; exact Nat.div_add_mod j k
  have hq : j / k < ys.length := (Nat.div_lt_iff_lt_mul hpos).2 hj
  have h2 := encAll_get hk ys _ hq _ (Nat.mod_lt j hpos)
  rw [e2, hu] at h2
  have h3 := hc _ hq _ u h2.symm
  rw [show off + j / k * k + j % k = off + j by omega] at h3
  injection e1 with e1
  subst e1
  have : (⟨b, off, none⟩ : Addr).add j = ⟨b, off + j, none⟩ := by unfold Addr.add; by_cases hj : j = 0 <;> simp [hj]
  rw [this]; exact h3
/-- One element appended to a slice that is full: a new array, the old one stays as it was. -/
theorem Own.full {α : Type} {w : World} {base k n g : Nat} {e : TypeId} {enc : α → List Value} {xs : List α} {P : Program} {ops : Array Oper} {o : Oper} {ac : Act} {K : Act → World → Prop} {Q : Exit → Act → World → Prop} {E : Prop} {x : α} {bytes c : Nat} {t : TypeId} (T : SliceT P t e k bytes) (hgd : Region.wanted o (yielded ops ac.tmps) = true) (s y : Operand)
    (ho : o.op = .call { callee := .builtin .append, args := #[s, y], argTypes := #[t, t] }) (h : Own w base e k enc (.slice (some ⟨g, 0, none⟩) n n) xs) (hs : ac.eval s = .slice (some ⟨g, 0, none⟩) n n) (ad : Addr) (hy : ac.eval y = .slice (some ad) 1 c)
    (hk : ∀ x, (enc x).length = k) (hnews : ∀ j u, (enc x)[j]? = some u → w.cell? (ad.add j) = some u) (h63 : n + 1 ≤ maxLen) (hbytes : (n + 1) * bytes ≤ 140737488355328)
    (hK : ∀ v' w', Own w' w.heap.size e k enc v' (xs ++ [x]) → w.grownBy w' none → K (ac.put o.dst v') w') :
    if Region.wanted o (yielded ops ac.tmps) = true then Oper.wp P o ac w K Q else E := by
  rw [if_pos hgd]
  obtain ⟨i, z, hi, hz, hsz, hby, hzs⟩ := T.info
  have hl := h.len hk
  obtain ⟨A, c', e1, _, _, harr⟩ := h.arr hk
  simp only [Value.slice.injEq] at e1
  obtain ⟨rfl, _, rfl⟩ := e1
  obtain ⟨v', w', hr, h2, h3⟩ := run_append_arg_grows (P := P) w t o.type e i z k bytes T.und hi hz hsz hby hzs T.pos ⟨g, 0, none⟩ n n (encAll enc xs) (by rw [encAll_length hk, hl]) (harr.all_cells hk T.pos) ad 1 c (enc x) (by rw [hk]; omega) hnews (by omega) h63 hbytes
  unfold Oper.wp execOp
  simp only [ho, resolve, invoke, builtin, Sem.run_bind, Sem.run_pure, Result.andThen_ok, List.map_toArray, List.map_cons, List.map_nil, hs, hy, hr]
  refine hK v' w' ?_ h3
  unfold Own
  rw [encAll_snoc, List.length_append, hl]
  exact h2
/-- Below B nothing has turned, and B is still within. -/
structure BG (B : Nat) (a c : World) : Prop where
  below : Below B a c
  size : B ≤ c.heap.size
section
variable {B : Nat} {a b c : World}
theorem BG.refl (h : B ≤ a.heap.size) : BG B a a := ⟨Below.refl _ _, h⟩
theorem BG.drew (h : BG B a b) : BG B a b.drew := ⟨Below.drew h.below, h.size⟩
theorem BG.alloc (h : BG B a b) (o : Obj) : BG B a (b.alloc o) := ⟨Below.alloc h.below h.size o, by have := h.size; simp; omega⟩
theorem BG.grows (h : BG B a b) (g : Grows b c) : BG B a c := ⟨h.below.trans (g.below.mono h.size), Nat.le_trans h.size g.size⟩
end
def zeroW : Win := ⟨0, 0, 0⟩
def farCells : Array Value := (List.replicate 60 (.int .i64 0)).toArray
theorem run_far (w : World) : (Instr.makeSlice 24 (.int .i64 20) (.int .i64 20)).run Tryd.prog w = .ok (.slice (some ⟨w.heap.size, 0, none⟩) 20 20) (w.alloc (.cells farCells 39)) := by
  obtain ⟨i0, hi, hz0, hz1, hz2⟩ := info_parts (show (Tryd.prog.info? 39).map (fun i => (i.zero, i.size, i.bytes)) = some (some (.agg #[.int .i64 0, .int .i64 0, .int .i64 0]), 3, 24) by kernel_rfl)
  have h := run_makeSlice (P := Tryd.prog) w 24 39 i0 _ Tryd.underlying24 hi hz0 .i64 .i64 20 20 (by decide) (by decide) (by rw [hz1]; decide) (by rw [hz2]; decide) (by decide)
  rw [hz1] at h
  have e : madeCells (Value.agg #[Value.int .i64 0, .int .i64 0, .int .i64 0]).cells (Int.toNat 20 * 3) = farCells := by kernel_rfl
  rw [e] at h
  exact h
theorem far_own (w : World) (base : Nat) (hb : base ≤ w.heap.size) : Own (w.alloc (.cells farCells 39)) base 39 3 encW (.slice (some ⟨w.heap.size, 0, none⟩) 20 20) (List.replicate 20 zeroW) := by
  have := Own.mk_ (xs := List.replicate 20 zeroW) (cap := 20) (enc := encW) (k := 3) (base := base) hkW (by omega) hb (heap_alloc_new w (.cells farCells 39)) (by simp) (by simp [maxLen]) (by simp [farCells]) (fun q hq r hr => by
    have hq' : q < 20 := by simpa using hq
    rw [List.getElem_replicate]
    have h3 : (encW zeroW)[r]? = some (.int .i64 0) := by
      have : r = 0 ∨ r = 1 ∨ r = 2 := by omega
      rcases this with rfl | rfl | rfl <;> rfl
    rw [h3]
    unfold farCells
    rw [List.getElem?_toArray, List.getElem?_replicate, if_pos (by omega)])
  simpa using this
theorem zero_in (t : Int) : isIn t zeroW = false := by show wIn 0 0 0 t = false; exact wIn_no rfl
theorem far_no (t : Int) (x : Win) : ((List.replicate 20 zeroW ++ [x]).take 20).any (isIn t) = false := by
  rw [List.take_append_of_le_length (by simp)]
  simp [zero_in]
theorem far_yes (t : Int) (x : Win) (h : isIn t x = true) : (((List.replicate 20 zeroW).take 19 ++ [x]).take 20).any (isIn t) = true := by
  rw [List.take_of_length_le (by simp), List.any_append]
  simp [h]
theorem whole_in {x : Win} (hR : WRight x.p x.f x.l) {t : Int} (h0 : 0 ≤ t) (h1 : t ≤ 1099511627776) : isIn t ⟨x.p, x.f, x.p⟩ = true := by
  obtain ⟨r1, r2, r3, r4, r5, r6⟩ := hR
  show wIn x.p x.f x.p t = true
  have := Int.emod_lt_of_pos (t - x.f) r1
  unfold wIn wTime
  rw [wRight_iff.2 ⟨r1, r2, r3, r4, r1, Int.le_refl _⟩, decide_eq_true (p := (0 : Int) ≤ t ∧ t ≤ 1099511627776) ⟨h0, h1⟩, decide_eq_true this]
  rfl
theorem next_whole {x : Win} (hR : WRight x.p x.f x.l) {F n : Int} {ok : Bool} (hF : 0 ≤ F) (h : NextIs (mutedAt [⟨x.p, x.f, x.p⟩]) F n ok) : n = 0 ∧ ok = false := by
  rcases h with ⟨_, a1, a2, _, a4, _⟩ | ⟨h1, h2, _⟩
  · rw [mutedAt_one, whole_in hR (by omega) a2] at a4; cases a4
  · exact ⟨h2, h1⟩
theorem next_wrong {x : Win} (hR : rightW x = false) {F n : Int} {ok : Bool} (hF : F ≤ 1099511627776) (h : NextIs (mutedAt [x]) F n ok) : n = F ∧ ok = true :=
  h.one (.inl ⟨rfl, Int.le_refl _, hF, by omega, by rw [mutedAt_one]; exact wIn_no hR, fun s h1 h2 => by omega⟩)

set_option maxRecDepth 100000 in
set_option maxHeartbeats 6400000 in
theorem one_law (x : Win) (now : Int) (w : World) (he : LibEnv w) :
    Calls Tryd.prog 6 #[.agg #[.int .i64 x.p, .int .i64 x.f, .int .i64 x.l], .int .i64 now] w fun e w' => e = .returned (.bool true) ∧ Grows w w' := by
  have cL := fun o => lives_any (w.alloc o) (he.grows ((Grows.refl w).alloc o))
  replace cL := Lib.hid cL
  have hN0 := u64w now
  obtain ⟨R, hR0, hR1, hRN⟩ : ∃ R : Int, 0 ≤ R ∧ R < 1000000 ∧ IntKind.u64.wrap now % 1000000 = R := ⟨_, by omega, by omega, rfl⟩
  generalize hN : IntKind.u64.wrap now = N at *
  have cR := fun W => right_any x.p x.f x.l W
  cases hr : wRight x.p x.f x.l
  · have cN := fun W A h => next_any A 1 1 [x] R W h (by omega) (by simp [maxLen])
    have cI := fun W => in_any x.p x.f x.l R W
    rw [wIn_no hr] at cI
    rw [hr] at cR
    have cM : ∀ W A, Arr W 3 encW A 1 [x] → Calls Tryd.prog 20 #[.slice A 1 1, .int .i64 R] W fun e w' => e = .returned (.bool false) ∧ Grows W w' := fun W A h => by
      have := muted_any A 1 1 [x] R W h (by omega) (by simp [maxLen])
      rw [show ([x].take 20).any (isIn R) = false by simp; exact wIn_no hr] at this
      exact this
    have hnw := fun n ok (h : NextIs (mutedAt [x]) (max R 0) n ok) => next_wrong (x := x) hr (by omega) h
    rw [show max R 0 = R by omega] at hnw
    have hmx : max R 0 = R := by omega
    replace hnw := Lib.hid hnw
    replace cR := Lib.hid cR
    replace cN := Lib.hid cN
    replace cI := Lib.hid cI
    replace cM := Lib.hid cM
    replace hmx := Lib.hid hmx
    clear hr he
    go_enter Tryd.func6, Tryd.ntmps6
    go_wp2_with fail
    refine (cL.out _).mono ?_
    rintro e w1 ⟨rfl, hb1⟩
    have blW : Blk w1 w.heap.size 37 #[.int .i64 x.p, .int .i64 x.f, .int .i64 x.l] := (Blk.new w _ _).grows hb1
    have hg1 : Grows w w1 := ((Grows.refl _).alloc _).trans hb1
    have d0W : w1.cell? ⟨w.heap.size, 0, none⟩ = some (.int .i64 x.p) := blW.cell 0
    have d1W : w1.cell? ⟨w.heap.size, 1, none⟩ = some (.int .i64 x.f) := blW.cell 1
    have d2W : w1.cell? ⟨w.heap.size, 2, none⟩ = some (.int .i64 x.l) := blW.cell 2
    have sW := blW.lt
    clear cL hb1
    go_wp2_with fail
    refine (back_one _ 1 x _ (Arr.one (Blk.new _ _ _))).mono ?_
    rintro e w2 ⟨b, off, c, rfl, c0, c1, c2, harr, hc1, hcm, hb2⟩
    replace hg1 : Grows w w2 := (hg1.alloc _).trans hb2
    clear hb2 harr hcm d0W d1W d2W sW blW
    go_wp2_with fail
    refine (cR.out _).mono ?_
    rintro e w3 ⟨rfl, hb3⟩
    have blX : Blk w3 w2.heap.size 39 #[.int .i64 x.p, .int .i64 x.f, .int .i64 x.l] := (Blk.new w2 _ _).grows hb3
    replace hg1 : Grows w w3 := (hg1.alloc _).trans hb3
    clear hb3 c0 c1 c2 hc1 hN hRN hN0
    have d0X : w3.cell? ⟨w2.heap.size, 0, none⟩ = some (.int .i64 x.p) := blX.cell 0
    have d1X : w3.cell? ⟨w2.heap.size, 1, none⟩ = some (.int .i64 x.f) := blX.cell 1
    have d2X : w3.cell? ⟨w2.heap.size, 2, none⟩ = some (.int .i64 x.l) := blX.cell 2
    have sX := blX.lt
    go_wp2_with fail
    refine (cN.out _ _ (Arr.one (x := x) (Blk.new _ _ _))).mono ?_
    rintro e w4 ⟨n, ok, rfl, hn, hb4⟩
    rw [hmx.out] at hn
    obtain ⟨rfl, rfl⟩ := hnw.out _ _ hn
    replace hg1 : Grows w w4 := (hg1.alloc _).trans hb4
    replace blX := (blX.alloc _).grows hb4
    clear hb4 hn cN hnw d0X d1X d2X sX
    have d0X : w4.cell? ⟨w2.heap.size, 0, none⟩ = some (.int .i64 x.p) := blX.cell 0
    have d1X : w4.cell? ⟨w2.heap.size, 1, none⟩ = some (.int .i64 x.f) := blX.cell 1
    have d2X : w4.cell? ⟨w2.heap.size, 2, none⟩ = some (.int .i64 x.l) := blX.cell 2
    have sX := blX.lt
    go_wp2_with fail
    refine (cI.out _).mono ?_
    rintro e w5 ⟨rfl, hb5⟩
    replace hg1 : Grows w w5 := hg1.trans hb5
    replace blX := blX.grows hb5
    (try clear d0X); (try clear d1X); (try clear d2X); (try clear sX)
    have d0X : w5.cell? ⟨w2.heap.size, 0, none⟩ = some (.int .i64 x.p) := blX.cell 0
    have d1X : w5.cell? ⟨w2.heap.size, 1, none⟩ = some (.int .i64 x.f) := blX.cell 1
    have d2X : w5.cell? ⟨w2.heap.size, 2, none⟩ = some (.int .i64 x.l) := blX.cell 2
    have sX := blX.lt
    clear hb5
    go_wp2_with fail
    refine (cM.out _ _ (Arr.one (x := x) (Blk.new _ _ _))).mono ?_
    rintro e w6 ⟨rfl, hb6⟩
    replace hg1 : Grows w w6 := (hg1.alloc _).trans hb6
    clear hb6 d0X d1X d2X sX
    go_wp2_with fail
    go_ret
    exact ⟨rfl, hg1⟩
  · obtain ⟨r1, r2, r3, r4, r5, r6⟩ := wRight_iff.1 hr
    have hR : WRight x.p x.f x.l := ⟨r1, r2, r3, r4, r5, r6⟩
    obtain ⟨y, hy⟩ : ∃ y : Win, y = ⟨x.p, x.f, x.p⟩ := ⟨_, rfl⟩
    have y1 : y.p = x.p := by rw [hy]
    have y2 : y.f = x.f := by rw [hy]
    have y3 : y.l = x.p := by rw [hy]
    have hyR := whole_in hR hR0 (by omega)
    rw [← hy] at hyR
    have hnw := fun n ok => next_whole (n := n) (ok := ok) hR (show 0 ≤ max R 0 by omega)
    rw [← hy] at hnw
    have cN := fun W A h => next_any A 1 1 [y] R W h (by omega) (by simp [maxLen])
    have cI := fun W => in_any y.p y.f y.l R W
    rw [show wIn y.p y.f y.l R = true from hyR] at cI
    rw [y1, y2, y3] at cI
    have cM1 : ∀ W A m c, m ≤ c → c ≤ maxLen → Arr W 3 encW A m (List.replicate 20 zeroW ++ [y]) → Calls Tryd.prog 20 #[.slice A m c, .int .i64 R] W fun e w' => e = .returned (.bool false) ∧ Grows W w' := fun W A m c h1 h2 h => by
      have := muted_any A m c _ R W h h1 h2
      rw [far_no] at this
      exact this
    have cM2 : ∀ W A m c, m ≤ c → c ≤ maxLen → Arr W 3 encW A m ((List.replicate 20 zeroW).take 19 ++ [y]) → Calls Tryd.prog 20 #[.slice A m c, .int .i64 R] W fun e w' => e = .returned (.bool true) ∧ Grows W w' := fun W A m c h1 h2 h => by
      have := muted_any A m c _ R W h h1 h2
      rw [far_yes R y hyR] at this
      exact this
    have hyA : ∀ W g, Blk W g 39 #[.int .i64 x.p, .int .i64 x.f, .int .i64 x.p] → Arr W 3 encW (some ⟨g, 0, none⟩) 1 [y] := fun W g h => by rw [hy]; exact Arr.one (x := ⟨x.p, x.f, x.p⟩) h
    have hyE : encW y = [.int .i64 x.p, .int .i64 x.f, .int .i64 x.p] := by rw [hy]; rfl
    have hfm : x.f % x.p = x.f := Int.emod_eq_of_lt r3 r4
    have hft : x.f.tmod x.p = x.f := Int.tmod_eq_of_lt r3 r4
    rw [hr] at cR
    replace hnw := Lib.hid hnw
    replace cR := Lib.hid cR
    replace cN := Lib.hid cN
    replace cI := Lib.hid cI
    replace cM1 := Lib.hid cM1
    replace cM2 := Lib.hid cM2
    replace hyA := Lib.hid hyA
    replace hyE := Lib.hid hyE
    clear hr he hyR y1 y2 y3 hy
    go_enter Tryd.func6, Tryd.ntmps6
    go_wp2_with fail
    refine (cL.out _).mono ?_
    rintro e w1 ⟨rfl, hb1⟩
    have blW : Blk w1 w.heap.size 37 #[.int .i64 x.p, .int .i64 x.f, .int .i64 x.l] := (Blk.new w _ _).grows hb1
    have hg1 : Grows w w1 := ((Grows.refl _).alloc _).trans hb1
    have d0W : w1.cell? ⟨w.heap.size, 0, none⟩ = some (.int .i64 x.p) := blW.cell 0
    have d1W : w1.cell? ⟨w.heap.size, 1, none⟩ = some (.int .i64 x.f) := blW.cell 1
    have d2W : w1.cell? ⟨w.heap.size, 2, none⟩ = some (.int .i64 x.l) := blW.cell 2
    have sW := blW.lt
    clear cL hb1
    go_wp2_with fail
    refine (back_one _ 1 x _ (Arr.one (Blk.new _ _ _))).mono ?_
    rintro e w2 ⟨b, off, c, rfl, c0, c1, c2, harr, hc1, hcm, hb2⟩
    replace hg1 : Grows w w2 := (hg1.alloc _).trans hb2
    have hg2 := hg1
    clear hb2 harr hcm d0W d1W d2W sW blW
    go_wp2_with fail
    refine (cR.out _).mono ?_
    rintro e w3 ⟨rfl, hb3⟩
    have blX : Blk w3 w2.heap.size 39 #[.int .i64 x.p, .int .i64 x.f, .int .i64 x.l] := (Blk.new w2 _ _).grows hb3
    replace hg1 : Grows w w3 := (hg1.alloc _).trans hb3
    clear hb3 c0 c1 c2 hc1 hN hRN hN0
    have d0X : w3.cell? ⟨w2.heap.size, 0, none⟩ = some (.int .i64 x.p) := blX.cell 0
    have d1X : w3.cell? ⟨w2.heap.size, 1, none⟩ = some (.int .i64 x.f) := blX.cell 1
    have d2X : w3.cell? ⟨w2.heap.size, 2, none⟩ = some (.int .i64 x.l) := blX.cell 2
    have sX := blX.lt
    have f1 : w3.frozen? ⟨w2.heap.size, 1, none⟩ = false := blX.frozen 1
    have f2 : w3.frozen? ⟨w2.heap.size, 2, none⟩ = false := blX.frozen 2
    go_wp2_with fail
    obtain ⟨W4, hW4⟩ : ∃ W4, (w3.setCell ⟨w2.heap.size, 2, none⟩ (.int .i64 x.p)).setCell ⟨w2.heap.size, 1, none⟩ (.int .i64 x.f) = W4 := ⟨_, rfl⟩
    have hz4 : W4.heap.size = w3.heap.size := by rw [← hW4]; simp
    have hz2 := hg2.size
    have blY : Blk W4 w2.heap.size 39 #[.int .i64 x.p, .int .i64 x.f, .int .i64 x.p] := by rw [← hW4]; exact (blX.set_ 2 _).set_ 1 _
    have hg4 : Grows w W4 := by rw [← hW4]; exact (hg1.setCell hz2 _).setCell hz2 _
    rw [hW4]
    clear hW4 hg1 blX d0X d1X d2X sX f1 f2 hz2 hfm hft
    have hbN : Blk (W4.alloc (.cells #[.int .i64 x.p, .int .i64 x.f, .int .i64 x.p] 39)) w3.heap.size 39 #[.int .i64 x.p, .int .i64 x.f, .int .i64 x.p] := by
      rw [← hz4]; exact Blk.new _ _ _
    refine (cN.out _ _ (hyA.out _ _ hbN)).mono ?_
    rintro e w5 ⟨n, ok, rfl, hn, hb5⟩
    obtain ⟨rfl, rfl⟩ := hnw.out _ _ hn
    replace blY := (blY.alloc _).grows hb5
    have hg1 : Grows w w5 := (hg4.alloc _).trans hb5
    clear hb5 hn cN hnw hz4 hg4 hbN hg2
    have d0Y : w5.cell? ⟨w2.heap.size, 0, none⟩ = some (.int .i64 x.p) := blY.cell 0
    have d1Y : w5.cell? ⟨w2.heap.size, 1, none⟩ = some (.int .i64 x.f) := blY.cell 1
    have d2Y : w5.cell? ⟨w2.heap.size, 2, none⟩ = some (.int .i64 x.p) := blY.cell 2
    have sY := blY.lt
    have hmk := fun W => run_far W
    have hfar := far_own w5 w5.heap.size (Nat.le_refl _)
    replace hfar := Lib.hid hfar
    go_wp2_with fail
    refine wp_region_mixb (w5.heap.size) [(0, true), (1, true), (2, false), (3, true), (4, true), (5, true), (6, true), (7, true), (8, true), (9, true), (10, true), (11, true), (12, true), (13, true), (16, true), (14, false), (15, false), (17, false), (18, true), (19, true), (20, true), (21, true), (22, true), (23, true), (26, true), (24, false), (25, false), (27, false), (28, true), (29, true)] (by kernel_rfl) (by kernel_rfl) rfl (by kernel_rfl) (by intro c a d v w h; cases d <;> exact h) ?_
    iterate 2 (refine wpMix_q rfl (fun K hK => ?_); go_simp; (try go_bits); first | (refine hK _ ?_; clear hK K) | (apply Exists.intro; refine ⟨fun wq hsq => ?_, hK _ ?_⟩; (first | (go_simp; done) | ((try go_simp); (try simp only [↓IntWalk.iteOmega]); (try go_bits); rfl) | (obtain ⟨hcq, hfq⟩ := bcellsB hsq; go_simp; done) | (obtain ⟨hcq, hfq⟩ := bcellsB hsq; (try go_simp); (try simp only [↓IntWalk.iteOmega]); (try go_bits); rfl)); clear hK K))
    refine wpMix_m rfl (fun K' hK => ?_)
    go_simp
    refine (cI.out _).mono ?_
    rintro e w6 ⟨rfl, hb6⟩
    refine hK.out _ _ ?_ (fun hS => ?_)
    · exact BG.below (by
      repeat (first | assumption | exact BG.refl (by first | exact Nat.le_refl _ | (simp; done) | (simp; omega) | omega) | apply BG.drew | refine BG.alloc ?_ _ | (refine BG.grows ?_ (by assumption)))
    )
    clear hK hS
    iterate 12 (refine wpMix_q rfl (fun K hK => ?_); go_simp; (try go_bits); first | (refine hK _ ?_; clear hK K) | (apply Exists.intro; refine ⟨fun wq hsq => ?_, hK _ ?_⟩; (first | (go_simp; done) | ((try go_simp); (try simp only [↓IntWalk.iteOmega]); (try go_bits); rfl) | (obtain ⟨hcq, hfq⟩ := bcellsB hsq; go_simp; done) | (obtain ⟨hcq, hfq⟩ := bcellsB hsq; (try go_simp); (try simp only [↓IntWalk.iteOmega]); (try go_bits); rfl)); clear hK K))
    refine wpMix_m rfl (fun K' hK => ?_)
    go_simp
    refine hK.out _ _ ?_ (fun hS => ?_)
    · exact BG.below (by
      repeat (first | assumption | exact BG.refl (by first | exact Nat.le_refl _ | (simp; done) | (simp; omega) | omega) | apply BG.drew | refine BG.alloc ?_ _ | (refine BG.grows ?_ (by assumption)))
    )
    clear hK hS
    refine wpMix_m rfl (fun K' hK => ?_)
    refine Own.full (x := y) T_ww rfl (.tmp 80) (.tmp 82) rfl (((hfar.out.drew).grows hb6).alloc _) rfl ⟨w6.heap.size, 0, none⟩ rfl hkW (by rw [hyE.out]; exact news_of (heap_alloc_new w6 _)) (by simp [maxLen]) (by omega) (fun v7 w7 h7 hgr => ?_)
    have hb7 : Grows _ w7 := (Below.refl _ _).grown hgr (Nat.le_refl _) (fun g hk => by cases hk)
    obtain ⟨A7, c7, rfl, hc7, hcm7, hA7⟩ := h7.arr hkW
    generalize (List.replicate 20 zeroW ++ [y]).length = L7 at hc7 hA7 ⊢
    clear h7 hgr
    replace hA7 := Lib.hid hA7
    refine hK.out _ _ ?_ (fun hS => ?_)
    · exact BG.below (by
      repeat (first | assumption | exact BG.refl (by first | exact Nat.le_refl _ | (simp; done) | (simp; omega) | omega) | apply BG.drew | refine BG.alloc ?_ _ | (refine BG.grows ?_ (by assumption)))
    )
    clear hK hS
    refine wpMix_m rfl (fun K' hK => ?_)
    go_simp
    refine (cM1.out _ A7 L7 c7 hc7 hcm7 hA7.out).mono ?_
    rintro e w8 ⟨rfl, hb8⟩
    refine hK.out _ _ ?_ (fun hS => ?_)
    · exact BG.below (by
      repeat (first | assumption | exact BG.refl (by first | exact Nat.le_refl _ | (simp; done) | (simp; omega) | omega) | apply BG.drew | refine BG.alloc ?_ _ | (refine BG.grows ?_ (by assumption)))
    )
    clear hK hS
    iterate 7 (refine wpMix_q rfl (fun K hK => ?_); go_simp; (try go_bits); first | (refine hK _ ?_; clear hK K) | (apply Exists.intro; refine ⟨fun wq hsq => ?_, hK _ ?_⟩; (first | (go_simp; done) | ((try go_simp); (try simp only [↓IntWalk.iteOmega]); (try go_bits); rfl) | (obtain ⟨hcq, hfq⟩ := bcellsB hsq; go_simp; done) | (obtain ⟨hcq, hfq⟩ := bcellsB hsq; (try go_simp); (try simp only [↓IntWalk.iteOmega]); (try go_bits); rfl)); clear hK K))
    refine wpMix_m rfl (fun K' hK => ?_)
    go_simp
    refine hK.out _ _ ?_ (fun hS => ?_)
    · exact BG.below (by
      repeat (first | assumption | exact BG.refl (by first | exact Nat.le_refl _ | (simp; done) | (simp; omega) | omega) | apply BG.drew | refine BG.alloc ?_ _ | (refine BG.grows ?_ (by assumption)))
    )
    clear hK hS
    refine wpMix_m rfl (fun K' hK => ?_)
    have hfar8 := (((((hfar.out.drew).grows hb6).alloc (.cells #[.int .i64 x.p, .int .i64 x.f, .int .i64 x.p] 39)).grows hb7).grows hb8).alloc (.cells #[.int .i64 x.p, .int .i64 x.f, .int .i64 x.p] 39)
    have hcut := hfar8.cut hkW (by omega) (i := 19) (by omega)
    refine Own.grownOpt T_ww rfl (.tmp 90) (.tmp 92) rfl hcut rfl rfl (hyA.out _ w8.heap.size (Blk.new w8 _ _)) hkW oneW (Grows.size (by
      repeat (first | assumption | exact Grows.refl _ | apply Grows.drew | apply Grows.drewN | refine Grows.alloc ?_ _ | (refine Grows.setCell ?_ (by first | (simp; done) | (simp; omega) | omega) _) | (refine Grows.trans ?_ (by assumption)))
    )) (by simp [maxLen]) (by simp) (fun v9 w9 h9 hgr hat => ?_)
    have hb9 : Grows w5 w9 := Own.below hcut (Grows.below (by
      repeat (first | assumption | exact Grows.refl _ | apply Grows.drew | apply Grows.drewN | refine Grows.alloc ?_ _ | (refine Grows.setCell ?_ (by first | (simp; done) | (simp; omega) | omega) _) | (refine Grows.trans ?_ (by assumption)))
    )) (Nat.le_refl _) (Grows.size (by
      repeat (first | assumption | exact Grows.refl _ | apply Grows.drew | apply Grows.drewN | refine Grows.alloc ?_ _ | (refine Grows.setCell ?_ (by first | (simp; done) | (simp; omega) | omega) _) | (refine Grows.trans ?_ (by assumption)))
    )) hgr
    have hb9' : BG w5.heap.size (w5.alloc (.cells farCells 39)) w9 := ⟨Own.below hcut (BG.below (by
      repeat (first | assumption | exact BG.refl (by first | exact Nat.le_refl _ | (simp; done) | (simp; omega) | omega) | apply BG.drew | refine BG.alloc ?_ _ | (refine BG.grows ?_ (by assumption)))
    )) (Nat.le_refl _) (Grows.size (by
      repeat (first | assumption | exact Grows.refl _ | apply Grows.drew | apply Grows.drewN | refine Grows.alloc ?_ _ | (refine Grows.setCell ?_ (by first | (simp; done) | (simp; omega) | omega) _) | (refine Grows.trans ?_ (by assumption)))
    )) hgr, hb9.size⟩
    obtain ⟨A9, c9, rfl, hc9, hcm9, hA9⟩ := h9.arr hkW
    generalize ((List.replicate 20 zeroW).take 19 ++ [y]).length = L9 at hc9 hA9 ⊢
    clear h9 hgr hat hfar8 hcut
    replace hA9 := Lib.hid hA9
    refine hK.out _ _ ?_ (fun hS => ?_)
    · exact BG.below (by
      repeat (first | assumption | exact BG.refl (by first | exact Nat.le_refl _ | (simp; done) | (simp; omega) | omega) | apply BG.drew | refine BG.alloc ?_ _ | (refine BG.grows ?_ (by assumption)))
    )
    clear hK hS
    refine wpMix_m rfl (fun K' hK => ?_)
    go_simp
    refine (cM2.out _ A9 L9 c9 hc9 hcm9 hA9.out).mono ?_
    rintro e w10 ⟨rfl, hb10⟩
    refine hK.out _ _ ?_ (fun hS => ?_)
    · exact (hb9'.grows hb10).below
    clear hK hS
    iterate 2 (refine wpMix_q rfl (fun K hK => ?_); go_simp; (try go_bits); first | (refine hK _ ?_; clear hK K) | (apply Exists.intro; refine ⟨fun wq hsq => ?_, hK _ ?_⟩; (first | (go_simp; done) | ((try go_simp); (try simp only [↓IntWalk.iteOmega]); (try go_bits); rfl) | (obtain ⟨hcq, hfq⟩ := bcellsB hsq; go_simp; done) | (obtain ⟨hcq, hfq⟩ := bcellsB hsq; (try go_simp); (try simp only [↓IntWalk.iteOmega]); (try go_bits); rfl)); clear hK K))
    refine wpMix_nil ?_
    go_wp2
    go_ret
    exact ⟨rfl, (hg1.trans hb9).trans hb10⟩
end Go.Proofs.YtfppagcifcppaaaDoor
