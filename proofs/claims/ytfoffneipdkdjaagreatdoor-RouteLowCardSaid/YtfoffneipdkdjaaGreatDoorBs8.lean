/- Parts: PolC AlrA AlrB AlrC -/
import Derived.Test.YtfoffneipdkdjaaGreatDoorBs6
import Derived.Test.YtfoffneipdkdjaaGreatDoorBs7
import Derived.Test.YtfoffneipdkdjaaGreatDoorBs5
namespace Go.Proofs.YtfoffneipdkdjaaGreatDoor
open Go.RowKit

theorem joinL_ok {a b : Lab} (ha : a.ok) (hb : b.ok) : (joinL a b).ok := joinL_lt ha hb
def labC (l : Lab) : Array Value := #[.int .i64 l.lv, .int .u32 (l.c : Int)]
theorem raisedL_ok {p : Pol} {n : List UInt8} {l : Lab} (hp : ∀ x ∈ p.raises, x.l.ok) (hl : l.ok) : (raisedL p n l).ok := by
  unfold raisedL
  cases h : findL p.raises n with
  | none => exact hl
  | some r =>
    obtain ⟨x, hx, rfl⟩ := find_mem h
    exact joinL_ok hl (hp x hx)
set_option maxRecDepth 100000 in
set_option maxHeartbeats 1600000 in
theorem raised_any {p : PolX} {n : List UInt8} {l : Lab} (w : World) (hp : p.At w) (hl : l.ok) :
    Calls Tryz.prog 93 #[p.val, .string ⟨n.toArray⟩, .agg #[.int .i64 l.lv, .int .u32 (l.c : Int)]] w fun e w' => e = .returned (.agg #[.int .i64 (raisedL p.pol n l).lv, .int .u32 ((raisedL p.pol n l).c : Int)]) ∧ Grows w w' := by
  have hA := fun W (hW : Grows w W) => find_any (c := p.a.k) (n := n) W (hp.a.arr.keep hW) hp.a.le
  have hlab := hp.a.lab
  unfold PolX.val
  have hrl : raisedL p.pol n l = (match findL p.a.l n with | some r => joinL l r | none => l) := rfl
  obtain ⟨⟨sl, sA, sm, sk⟩, ⟨rl, rA, rm, rk⟩, ⟨el, eA, em, ek⟩, ⟨al, aA, am, ak⟩, o, oA, om, ok, i, iA, im, ik⟩ := p
  simp only at hA hrl hlab ⊢
  clear hp
  cases hf : findL al n with
  | none =>
    rw [hf] at hA hrl
    simp only at hrl
    rw [hrl]
    simp only [labOf, Option.getD_none, Option.isSome_none] at hA
    replace hA := Lib.hid hA
    clear hrl hf
    go_enter Tryz.func93, Tryz.ntmps93
    go_wp2_with fail
    refine (hA.out _ (by
      repeat (first | assumption | exact Grows.refl _ | apply Grows.drew | apply Grows.drewN | refine Grows.alloc ?_ _ | (refine Grows.setCell ?_ (by first | (simp; done) | (simp; omega) | omega) _) | (refine Grows.trans ?_ (by assumption)))
    )).mono ?_
    rintro e w1 ⟨rfl, hb⟩
    have bl : Blk w1 (w.heap.size + 1) 40 (labC l) := ((Blk.new1 w _ _ _).alloc _).grows hb
    have l0 : w1.cell? ⟨w.heap.size + 1, 0, none⟩ = some (.int .i64 l.lv) := bl.cell 0
    have l1 : w1.cell? ⟨w.heap.size + 1, 1, none⟩ = some (.int .u32 (l.c : Int)) := bl.cell 1
    have b1 : Blk w1 (w.heap.size + 1 + 1) 40 (labC ⟨0, 0⟩) := (Blk.new2 w _ _ _ _).grows hb
    have sl := bl.lt
    clear bl
    have d0 : _ = some (Value.int .i64 0) := b1.cell 0
    have d1 : _ = some (Value.int .u32 0) := b1.cell 1
    have f0 := b1.frozen 0
    have f1 := b1.frozen 1
    have s1 := b1.lt
    have hg : Grows w w1 := by
      repeat (first | assumption | exact Grows.refl _ | apply Grows.drew | apply Grows.drewN | refine Grows.alloc ?_ _ | (refine Grows.setCell ?_ (by first | (simp; done) | (simp; omega) | omega) _) | (refine Grows.trans ?_ (by assumption)))
    clear hA hb b1
    go_wp2_with fail
    refine bodyPost_ret (v := .agg #[.int .i64 l.lv, .int .u32 (l.c : Int)]) ?_ rfl ⟨rfl, ?_⟩
    · simp only [results, Tryz.results93]
      go_simp
    · repeat (first | assumption | exact Grows.refl _ | apply Grows.drew | apply Grows.drewN | refine Grows.alloc ?_ _ | (refine Grows.setCell ?_ (by first | (simp; done) | (simp; omega) | omega) _) | (refine Grows.trans ?_ (by assumption)))
  | some r =>
    have hr : r.ok := by obtain ⟨x, hx, rfl⟩ := find_mem hf; exact hlab x hx
    rw [hf] at hA hrl
    simp only at hrl
    rw [hrl]
    simp only [labOf, Option.getD_some, Option.isSome_some] at hA
    have cJ := fun W => lJoin_any l r W hl hr
    generalize joinL l r = J at *
    replace hA := Lib.hid hA
    replace cJ := Lib.hid cJ
    clear hrl hf hr hlab
    go_enter Tryz.func93, Tryz.ntmps93
    go_wp2_with fail
    refine (hA.out _ (by
      repeat (first | assumption | exact Grows.refl _ | apply Grows.drew | apply Grows.drewN | refine Grows.alloc ?_ _ | (refine Grows.setCell ?_ (by first | (simp; done) | (simp; omega) | omega) _) | (refine Grows.trans ?_ (by assumption)))
    )).mono ?_
    rintro e w1 ⟨rfl, hb⟩
    have bl : Blk w1 (w.heap.size + 1) 40 (labC l) := ((Blk.new1 w _ _ _).alloc _).grows hb
    have l0 : w1.cell? ⟨w.heap.size + 1, 0, none⟩ = some (.int .i64 l.lv) := bl.cell 0
    have l1 : w1.cell? ⟨w.heap.size + 1, 1, none⟩ = some (.int .u32 (l.c : Int)) := bl.cell 1
    have b1 : Blk w1 (w.heap.size + 1 + 1) 40 (labC ⟨0, 0⟩) := (Blk.new2 w _ _ _ _).grows hb
    have sl := bl.lt
    clear bl
    have s0 := b1.lt
    have hg : Grows w w1 := by
      repeat (first | assumption | exact Grows.refl _ | apply Grows.drew | apply Grows.drewN | refine Grows.alloc ?_ _ | (refine Grows.setCell ?_ (by first | (simp; done) | (simp; omega) | omega) _) | (refine Grows.trans ?_ (by assumption)))
    clear hA hb
    go_wp2_with fail
    refine (cJ.out _).mono ?_
    rintro e w2 ⟨rfl, hb2⟩
    replace b1 := (b1.alloc _).grows hb2
    have d0 : _ = some (Value.int .i64 0) := b1.cell 0
    have d1 : _ = some (Value.int .u32 0) := b1.cell 1
    have f0 := b1.frozen 0
    have f1 := b1.frozen 1
    have s1 := b1.lt
    have hg2 : Grows w w2 := by
      repeat (first | assumption | exact Grows.refl _ | apply Grows.drew | apply Grows.drewN | refine Grows.alloc ?_ _ | (refine Grows.setCell ?_ (by first | (simp; done) | (simp; omega) | omega) _) | (refine Grows.trans ?_ (by assumption)))
    clear cJ hb2 b1 hg s0
    go_wp2_with fail
    refine bodyPost_ret (v := .agg #[.int .i64 J.lv, .int .u32 (J.c : Int)]) ?_ rfl ⟨rfl, ?_⟩
    · simp only [results, Tryz.results93]
      go_simp
    · repeat (first | assumption | exact Grows.refl _ | apply Grows.drew | apply Grows.drewN | refine Grows.alloc ?_ _ | (refine Grows.setCell ?_ (by first | (simp; done) | (simp; omega) | omega) _) | (refine Grows.trans ?_ (by assumption)))

set_option maxRecDepth 100000 in
set_option maxHeartbeats 1600000 in
theorem visC_any {p : PolX} {l to : Lab} {f : Fld} {gp ga gt : Nat} (w : World) (hp : p.At w) (hl : l.ok) (ht : to.ok) (bp : Blk w gp 32 p.cells.toArray) (ba : Blk w ga 40 (labC l)) (bt : Blk w gt 40 (labC to)) :
    Calls Tryz.prog 92 #[valF f, .pointer (some ⟨gp, 0, none⟩), .pointer (some ⟨ga, 0, none⟩), .pointer (some ⟨gt, 0, none⟩)] w fun e w' => e = .returned (.bool (!flowsL (raisedL p.pol f.n l) to)) ∧ Grows w w' := by
  have cR := fun W (hW : Grows w W) => raised_any (n := f.n) W (hp.keep hW) hl
  have hro : (raisedL p.pol f.n l).ok := raisedL_ok hp.a.lab hl
  have cF := fun W => lFlows_any (raisedL p.pol f.n l) to W hro ht
  generalize raisedL p.pol f.n l = R at *
  generalize flowsL R to = B at *
  unfold PolX.val at cR
  have q0 := bp.cell 0
  have q1 := bp.cell 1
  have q2 := bp.cell 2
  have q3 := bp.cell 3
  have q4 := bp.cell 4
  have q5 := bp.cell 5
  have a0 := ba.cell 0
  have a1 := ba.cell 1
  have t0 := bt.cell 0
  have t1 := bt.cell 1
  have sp := bp.lt
  have sa := ba.lt
  have st := bt.lt
  unfold labC at a0 a1 t0 t1
  unfold PolX.cells at q0 q1 q2 q3 q4 q5
  unfold valF
  clear hp bp ba bt
  obtain ⟨⟨sl, sA, sm, sk⟩, ⟨rl, rA, rm, rk⟩, ⟨el, eA, em, ek⟩, ⟨al, aA, am, ak⟩, o, oA, om, ok, i, iA, im, ik⟩ := p
  simp only [List.getElem?_toArray, List.getElem?_cons_zero, List.getElem?_cons_succ] at cR q0 q1 q2 q3 q4 q5
  replace cR := Lib.hid cR
  replace cF := Lib.hid cF
  go_enter Tryz.func92, Tryz.ntmps92
  go_wp2_with fail
  refine wp_region_mixg [(0, true), (1, true), (2, true), (3, true), (5, true), (4, false), (6, false), (7, true), (8, true)] (by kernel_rfl) (by kernel_rfl) rfl (by kernel_rfl) (by intro c a d v w h; first | (cases d <;> exact h) | exact hQ0 _ _ _ _ _ h) ?_
  iterate 5 (refine wpMix_q rfl (fun K hK => ?_); go_simp; (try go_bits); first | (refine hK _ ?_; clear hK K) | (apply Exists.intro; refine ⟨fun wq hsq => ?_, hK _ ?_⟩; (first | (go_simp; done) | ((try go_simp); (try simp only [↓IntWalk.iteOmega]); (try go_bits); rfl) | (obtain ⟨hcq, hfq⟩ := bcells hsq; go_simp; done) | (obtain ⟨hcq, hfq⟩ := bcells hsq; (try go_simp); (try simp only [↓IntWalk.iteOmega]); (try go_bits); rfl)); clear hK K))
  refine wpMix_m rfl (fun K' hK => ?_)
  go_simp
  refine (cR.out _ (by
    repeat (first | assumption | exact Grows.refl _ | apply Grows.drew | apply Grows.drewN | refine Grows.alloc ?_ _ | (refine Grows.setCell ?_ (by first | (simp; done) | (simp; omega) | omega) _) | (refine Grows.trans ?_ (by assumption)))
  )).mono ?_
  rintro e w1 ⟨rfl, hb1⟩
  refine hK.out _ _ ?_ (fun hS => ?_)
  · repeat (first | assumption | exact Grows.refl _ | apply Grows.drew | apply Grows.drewN | refine Grows.alloc ?_ _ | (refine Grows.setCell ?_ (by first | (simp; done) | (simp; omega) | omega) _) | (refine Grows.trans ?_ (by assumption)))
  clear hK hS
  refine wpMix_m rfl (fun K' hK => ?_)
  go_simp
  refine (cF.out _).mono ?_
  rintro e w2 ⟨rfl, hb2⟩
  refine hK.out _ _ ?_ (fun hS => ?_)
  · repeat (first | assumption | exact Grows.refl _ | apply Grows.drew | apply Grows.drewN | refine Grows.alloc ?_ _ | (refine Grows.setCell ?_ (by first | (simp; done) | (simp; omega) | omega) _) | (refine Grows.trans ?_ (by assumption)))
  clear hK hS
  iterate 2 (refine wpMix_q rfl (fun K hK => ?_); go_simp; (try go_bits); first | (refine hK _ ?_; clear hK K) | (apply Exists.intro; refine ⟨fun wq hsq => ?_, hK _ ?_⟩; (first | (go_simp; done) | ((try go_simp); (try simp only [↓IntWalk.iteOmega]); (try go_bits); rfl) | (obtain ⟨hcq, hfq⟩ := bcells hsq; go_simp; done) | (obtain ⟨hcq, hfq⟩ := bcells hsq; (try go_simp); (try simp only [↓IntWalk.iteOmega]); (try go_bits); rfl)); clear hK K))
  refine wpMix_nil ?_
  go_wp2
  go_ret
  exact ⟨ret_bool rfl, by
    repeat (first | assumption | exact Grows.refl _ | apply Grows.drew | apply Grows.drewN | refine Grows.alloc ?_ _ | (refine Grows.setCell ?_ (by first | (simp; done) | (simp; omega) | omega) _) | (refine Grows.trans ?_ (by assumption)))
  ⟩
theorem filter_nn {α : Type} (p : α → Bool) (l : List α) : (l.filter fun x => !!p x) = l.filter p := by congr 1; funext x; rw [Bool.not_not]
set_option maxRecDepth 100000 in
set_option maxHeartbeats 1600000 in
theorem visible_any {p : PolX} {A : Option Addr} {m c : Nat} {fs : List Fld} {l to : Lab} (w : World) (hp : p.At w) (hA : Arr w 2 encF A m fs) (hm : m ≤ 1000) (hl : l.ok) (ht : to.ok) :
    Calls Tryz.prog 43 #[p.val, .slice A m c, .agg #[.int .i64 l.lv, .int .u32 (l.c : Int)], .agg #[.int .i64 to.lv, .int .u32 (to.c : Int)]] w fun e w' => ∃ v, e = .returned v ∧ Own w' w.heap.size 76 2 encF v (visibleL p.pol fs l to) ∧ Grows w w' := by
  have hlen := hA.1
  obtain ⟨w3, hw3⟩ : ∃ w3, w3 = ((w.alloc (.cells p.cells.toArray 32)).alloc (.cells (labC l) 40)).alloc (.cells (labC to) 40) := ⟨_, rfl⟩
  have hg3 : Grows w w3 := by rw [hw3]; exact (((Grows.refl w).alloc _).alloc _).alloc _
  have bp : Blk w3 w.heap.size 32 p.cells.toArray := by rw [hw3]; exact ((Blk.new w _ _).alloc _).alloc _
  have ba : Blk w3 (w.heap.size + 1) 40 (labC l) := by rw [hw3]; exact (Blk.new1 w _ _ _).alloc _
  have bt : Blk w3 (w.heap.size + 1 + 1) 40 (labC to) := by rw [hw3]; exact Blk.new2 w _ _ _ _
  have cC := cloF_any (c := c) w3 (hA.keep hg3) (by omega)
  have cD := fun v w4 (hg : Grows w3 w4) (hO : Own w4 w3.heap.size 76 2 encF v fs) => delF_any 92 #[.pointer (some ⟨w.heap.size, 0, none⟩), .pointer (some ⟨w.heap.size + 1, 0, none⟩), .pointer (some ⟨w.heap.size + 1 + 1, 0, none⟩)] (enters_of Tryz.func92 (by kernel_rfl) rfl)
    (fun f => !flowsL (raisedL p.pol f.n l) to) w3.heap.size v fs w4 hO hg.size (by omega) (fun f _ W hW => visC_any W (hp.keep (hg3.trans (hg.then_ hW))) hl ht (bp.grows (hg.then_ hW)) (ba.grows (hg.then_ hW)) (bt.grows (hg.then_ hW)))
  have hfil := filter_nn (fun f : Fld => flowsL (raisedL p.pol f.n l) to) fs
  rw [hfil] at cD
  change Calls _ _ _ _ fun e w' => ∃ v, e = .returned v ∧ Own w' w.heap.size 76 2 encF v (fs.filter fun f => flowsL (raisedL p.pol f.n l) to) ∧ Grows w w'
  generalize (fs.filter fun f => flowsL (raisedL p.pol f.n l) to) = R at *
  rw [hw3] at cC
  have hs3 : w3.heap.size = w.heap.size + 1 + 1 + 1 := by rw [hw3]; simp
  have hb3 : w.heap.size ≤ w3.heap.size := hg3.size
  replace cC := Lib.hid cC
  replace cD := Lib.hid cD
  replace hw3 := Lib.hid hw3
  replace hg3 := Lib.hid hg3
  clear hp bp ba bt hA hfil
  unfold PolX.val
  unfold PolX.cells labC at hw3 cC
  obtain ⟨⟨sl, sA, sm, sk⟩, ⟨rl, rA, rm, rk⟩, ⟨el, eA, em, ek⟩, ⟨al, aA, am, ak⟩, o, oA, om, ok, i, iA, im, ik⟩ := p
  simp only at hw3 cC ⊢
  go_enter Tryz.func43, Tryz.ntmps43
  go_wp2_with fail
  refine (cC.out).mono ?_
  rintro e w4 ⟨v4, rfl, hO4, hg4⟩
  rw [← hw3.out] at hO4 hg4
  have cD' := Lib.hid (cD.out v4 w4 hg4 hO4)
  clear cD cC
  go_wp2_with fail
  refine (cD'.out).mono ?_
  rintro e w5 ⟨v5, rfl, hO5, hb5⟩
  go_wp2
  go_ret
  exact ⟨v5, rfl, hO5.base_le hb3, hg3.out.trans (hg4.then_ hb5)⟩
end Go.Proofs.YtfoffneipdkdjaaGreatDoor
namespace Go.Proofs.YtfoffneipdkdjaaGreatDoor
open Go.RowKit

set_option maxRecDepth 100000 in
set_option maxHeartbeats 1600000 in
theorem fires_any (a : AlrX) (now : Int) (w : World) :
    Calls Tryz.prog 21 #[valA a, .int .i64 now] w fun e w' => e = .returned (.bool (firesB a.a now)) ∧ Grows w w' := by
  unfold valA
  obtain ⟨R, hR⟩ : ∃ R, R = firesB a.a now := ⟨_, rfl⟩
  rw [← hR]
  unfold firesB at hR
  by_cases h1 : a.a.f ≤ now
  · rw [decide_eq_true h1, Bool.true_and] at hR
    by_cases h2 : a.a.t = 0
    · rw [decide_eq_true h2, Bool.true_or] at hR
      replace hR := Lib.hid hR
      go_enter Tryz.func21, Tryz.ntmps21
      go_wp2
      go_ret
      exact ⟨ret_bool (by rw [hR.out]; first | done | simp [h2]), by
        repeat (first | assumption | exact Grows.refl _ | apply Grows.drew | apply Grows.drewN | refine Grows.alloc ?_ _ | (refine Grows.setCell ?_ (by first | (simp; done) | (simp; omega) | omega) _) | (refine Grows.trans ?_ (by assumption)))
      ⟩
    · rw [decide_eq_false h2, Bool.false_or] at hR
      replace hR := Lib.hid hR
      go_enter Tryz.func21, Tryz.ntmps21
      go_wp2
      go_ret
      exact ⟨ret_bool (by rw [hR.out]; first | done | simp [h2]), by
        repeat (first | assumption | exact Grows.refl _ | apply Grows.drew | apply Grows.drewN | refine Grows.alloc ?_ _ | (refine Grows.setCell ?_ (by first | (simp; done) | (simp; omega) | omega) _) | (refine Grows.trans ?_ (by assumption)))
      ⟩
  · rw [decide_eq_false h1, Bool.false_and] at hR
    replace hR := Lib.hid hR
    go_enter Tryz.func21, Tryz.ntmps21
    go_wp2
    go_ret
    exact ⟨ret_bool (by rw [hR.out]), by
      repeat (first | assumption | exact Grows.refl _ | apply Grows.drew | apply Grows.drewN | refine Grows.alloc ?_ _ | (refine Grows.setCell ?_ (by first | (simp; done) | (simp; omega) | omega) _) | (refine Grows.trans ?_ (by assumption)))
    ⟩

theorem visibleL_len (p : Pol) (fs : List Fld) (l to : Lab) : (visibleL p fs l to).length ≤ fs.length := List.length_filter_le _ _
/-- What Cut answers: an alert's value, and whether there is one. -/
def noneA : Value := .agg #[.string ⟨#[]⟩, .slice none 0 0, .int .i64 0, .int .u32 0, .int .i64 0, .int .i64 0]
def CutOf (w : World) (base : Nat) (r : Option Alr) (v : Value) : Prop := match r with
  | none => v = noneA
  | some b => ∃ A c, v = valA ⟨b, A, b.fs.length, c⟩ ∧ Own w base 76 2 encF (.slice A b.fs.length c) b.fs
theorem Own.setFar {α : Type} {w : World} {base k : Nat} {e : TypeId} {enc : α → List Value} {v : Value} {xs : List α} (h : Own w base e k enc v xs) {g o : Nat} (hp : g < base) (u : Value) : Own (w.setCell ⟨g, o, none⟩ u) base e k enc v xs :=
  h.by_ (g := g) (grownBy_cell w ⟨g, o, none⟩ u) (fun j hj => by have := h.block_ge j hj; omega)
def alrC (x : AlrX) : Array Value := #[.string ⟨x.a.src.toArray⟩, .slice x.A x.m x.k, .int .i64 x.a.l.lv, .int .u32 (x.a.l.c : Int), .int .i64 x.a.f, .int .i64 x.a.t]
def zeroC : Array Value := #[.string ⟨#[]⟩, .slice none 0 0, .int .i64 0, .int .u32 0, .int .i64 0, .int .i64 0]
theorem Blk.new3 (w : World) (o o' o'' : Obj) (t : TypeId) (cs : Array Value) : Blk ((((w.alloc o).alloc o').alloc o'').alloc (.cells cs t)) (w.heap.size + 1 + 1 + 1) t cs := by
  have := Blk.new (((w.alloc o).alloc o').alloc o'') t cs
  rwa [World.size_alloc, World.size_alloc, World.size_alloc] at this
set_option maxRecDepth 100000 in
set_option maxHeartbeats 3200000 in
theorem cut_any {p : PolX} {a : AlrX} {to : Lab} (w : World) (hp : p.At w) (ha : a.At w) (ht : to.ok) :
    Calls Tryz.prog 17 #[p.val, valA a, .agg #[.int .i64 to.lv, .int .u32 (to.c : Int)]] w fun e w' => ∃ v, e = .returned (.tuple #[v, .bool (cutA p.pol a.a to).isSome]) ∧ CutOf w' w.heap.size (cutA p.pol a.a to) v ∧ Grows w w' := by
  have cV := fun W (hW : Grows w W) => visible_any (c := a.k) W (hp.keep hW) (ha.arr.keep hW) ha.le ha.lab ht
  have cF := fun W => lFlows_any a.a.l to W ha.lab ht
  have hcut : cutA p.pol a.a to = (if (visibleL p.pol a.a.fs a.a.l to).length = 0 ∨ flowsL a.a.l to = false then none else some { a.a with fs := visibleL p.pol a.a.fs a.a.l to }) := rfl
  have hlen := visibleL_len p.pol a.a.fs a.a.l to
  have hle := ha.le
  have hal := ha.arr.1
  generalize cutA p.pol a.a to = RR at *
  generalize visibleL p.pol a.a.fs a.a.l to = V at *
  generalize flowsL a.a.l to = F at *
  unfold valA PolX.val
  unfold PolX.val at cV
  clear hp ha
  obtain ⟨⟨sl, sA, sm, sk⟩, ⟨rl, rA, rm, rk⟩, ⟨el, eA, em, ek⟩, ⟨al, aA, am, ak⟩, o, oA, om, ok, i, iA, im, ik⟩ := p
  obtain ⟨⟨src, fs, ⟨lv, lc⟩, f, t⟩, A, m, k⟩ := a
  simp only at cV cF hcut hlen hle hal ⊢
  have hL : V.length ≤ 1000 := by omega
  replace cV := Lib.hid cV
  replace cF := Lib.hid cF
  clear hlen hle hal
  go_enter Tryz.func17, Tryz.ntmps17
  go_wp2_with fail
  refine (cV.out _ (by
    repeat (first | assumption | exact Grows.refl _ | apply Grows.drew | apply Grows.drewN | refine Grows.alloc ?_ _ | (refine Grows.setCell ?_ (by first | (simp; done) | (simp; omega) | omega) _) | (refine Grows.trans ?_ (by assumption)))
  )).mono ?_
  rintro e w1 ⟨v, rfl, hO, hb⟩
  obtain ⟨A1, c1, rfl, _, _, hA1⟩ := hO.arr hkF
  have hg : Grows w w1 := by
    repeat (first | assumption | exact Grows.refl _ | apply Grows.drew | apply Grows.drewN | refine Grows.alloc ?_ _ | (refine Grows.setCell ?_ (by first | (simp; done) | (simp; omega) | omega) _) | (refine Grows.trans ?_ (by assumption)))
  have ba : Blk w1 (w.heap.size + 1) 50 (alrC ⟨⟨src, fs, ⟨lv, lc⟩, f, t⟩, A, m, k⟩) := (((Blk.new1 w _ _ _).alloc _).alloc _).grows hb
  have bt : Blk w1 (w.heap.size + 1 + 1) 40 (labC to) := ((Blk.new2 w _ _ _ _).alloc _).grows hb
  have br : Blk w1 (w.heap.size + 1 + 1 + 1) 50 zeroC := (Blk.new3 w _ _ _ _ _).grows hb
  simp only [World.size_alloc] at hO
  replace hO := Lib.hid hO
  clear hb cV hA1
  by_cases h0 : V.length = 0
  · rw [if_pos (.inl h0)] at hcut
    replace hcut := Lib.hid hcut
    rw [h0]
    have x0 : w1.cell? ⟨w.heap.size + 1, 0, none⟩ = some (.string ⟨src.toArray⟩) := ba.cell 0
    have x1 : w1.cell? ⟨w.heap.size + 1, 1, none⟩ = some (.slice A m k) := ba.cell 1
    have x2 : w1.cell? ⟨w.heap.size + 1, 2, none⟩ = some (.int .i64 lv) := ba.cell 2
    have x3 : w1.cell? ⟨w.heap.size + 1, 3, none⟩ = some (.int .u32 (lc : Int)) := ba.cell 3
    have x4 : w1.cell? ⟨w.heap.size + 1, 4, none⟩ = some (.int .i64 f) := ba.cell 4
    have x5 : w1.cell? ⟨w.heap.size + 1, 5, none⟩ = some (.int .i64 t) := ba.cell 5
    have xf := fun i => ba.frozen i
    have xl := ba.lt
    have y0 : w1.cell? ⟨w.heap.size + 1 + 1 + 1, 0, none⟩ = some (.string ⟨#[]⟩) := br.cell 0
    have y1 : w1.cell? ⟨w.heap.size + 1 + 1 + 1, 1, none⟩ = some (.slice none 0 0) := br.cell 1
    have y2 : w1.cell? ⟨w.heap.size + 1 + 1 + 1, 2, none⟩ = some (.int .i64 0) := br.cell 2
    have y3 : w1.cell? ⟨w.heap.size + 1 + 1 + 1, 3, none⟩ = some (.int .u32 0) := br.cell 3
    have y4 : w1.cell? ⟨w.heap.size + 1 + 1 + 1, 4, none⟩ = some (.int .i64 0) := br.cell 4
    have y5 : w1.cell? ⟨w.heap.size + 1 + 1 + 1, 5, none⟩ = some (.int .i64 0) := br.cell 5
    have yf := fun i => br.frozen i
    have yl := br.lt
    clear hO cF h0 ba bt br hL
    go_wp2_with fail
    refine bodyPost_ret (v := .tuple #[noneA, .bool false]) ?_ rfl ⟨noneA, by rw [hcut.out]; rfl, by rw [hcut.out]; exact rfl, ?_⟩
    · simp only [results, Tryz.results17, noneA]
      go_simp
    · repeat (first | with_reducible assumption | with_reducible exact Grows.refl _ | (with_reducible refine Grows.setCell ?_ (by first | (simp; done) | (simp; omega) | omega) _) | with_reducible refine Grows.alloc ?_ _ | with_reducible apply Grows.drew)
  · have hi : ¬ (V.length : Int) = 0 := by omega
    obtain ⟨L, hLn⟩ : ∃ L, L = V.length := ⟨_, rfl⟩
    rw [← hLn] at hi hL hO ⊢
    have hi' : ¬ L = 0 := by omega
    replace hLn := Lib.hid hLn
    have a2 : w1.cell? ⟨w.heap.size + 1, 2, none⟩ = some (.int .i64 lv) := ba.cell 2
    have a3 : w1.cell? ⟨w.heap.size + 1, 3, none⟩ = some (.int .u32 (lc : Int)) := ba.cell 3
    have t0 : w1.cell? ⟨w.heap.size + 1 + 1, 0, none⟩ = some (.int .i64 to.lv) := bt.cell 0
    have t1 : w1.cell? ⟨w.heap.size + 1 + 1, 1, none⟩ = some (.int .u32 (to.c : Int)) := bt.cell 1
    cases F
    · rw [if_pos (.inr rfl)] at hcut
      replace hcut := Lib.hid hcut
      clear h0 hO
      go_wp2_with fail
      refine (cF.out _).mono ?_
      rintro e w2 ⟨rfl, hb2⟩
      replace ba := ba.grows hb2
      replace bt := bt.grows hb2
      replace br := br.grows hb2
      replace hg := hg.trans hb2
      have x0 : w2.cell? ⟨w.heap.size + 1, 0, none⟩ = some (.string ⟨src.toArray⟩) := ba.cell 0
      have x1 : w2.cell? ⟨w.heap.size + 1, 1, none⟩ = some (.slice A m k) := ba.cell 1
      have x2 : w2.cell? ⟨w.heap.size + 1, 2, none⟩ = some (.int .i64 lv) := ba.cell 2
      have x3 : w2.cell? ⟨w.heap.size + 1, 3, none⟩ = some (.int .u32 (lc : Int)) := ba.cell 3
      have x4 : w2.cell? ⟨w.heap.size + 1, 4, none⟩ = some (.int .i64 f) := ba.cell 4
      have x5 : w2.cell? ⟨w.heap.size + 1, 5, none⟩ = some (.int .i64 t) := ba.cell 5
      have xf := fun i => ba.frozen i
      have xl := ba.lt
      have y0 : w2.cell? ⟨w.heap.size + 1 + 1 + 1, 0, none⟩ = some (.string ⟨#[]⟩) := br.cell 0
      have y1 : w2.cell? ⟨w.heap.size + 1 + 1 + 1, 1, none⟩ = some (.slice none 0 0) := br.cell 1
      have y2 : w2.cell? ⟨w.heap.size + 1 + 1 + 1, 2, none⟩ = some (.int .i64 0) := br.cell 2
      have y3 : w2.cell? ⟨w.heap.size + 1 + 1 + 1, 3, none⟩ = some (.int .u32 0) := br.cell 3
      have y4 : w2.cell? ⟨w.heap.size + 1 + 1 + 1, 4, none⟩ = some (.int .i64 0) := br.cell 4
      have y5 : w2.cell? ⟨w.heap.size + 1 + 1 + 1, 5, none⟩ = some (.int .i64 0) := br.cell 5
      have yf := fun i => br.frozen i
      have yl := br.lt
      clear cF a2 a3 t0 t1 ba bt br hb2
      go_wp2_with fail
      refine bodyPost_ret (v := .tuple #[noneA, .bool false]) ?_ rfl ⟨noneA, by rw [hcut.out]; rfl, by rw [hcut.out]; exact rfl, ?_⟩
      · simp only [results, Tryz.results17, noneA]
        go_simp
      · repeat (first | with_reducible assumption | with_reducible exact Grows.refl _ | (with_reducible refine Grows.setCell ?_ (by first | (simp; done) | (simp; omega) | omega) _) | with_reducible refine Grows.alloc ?_ _ | with_reducible apply Grows.drew)
    · rw [if_neg (by rintro (h | h); exact h0 h; cases h)] at hcut
      replace hcut := Lib.hid hcut
      clear h0
      go_wp2_with fail
      refine (cF.out _).mono ?_
      rintro e w2 ⟨rfl, hb2⟩
      replace ba := ba.grows hb2
      replace bt := bt.grows hb2
      replace br := br.grows hb2
      replace hg := hg.trans hb2
      replace hO := Lib.hid (hO.out.grows hb2)
      have x0 : w2.cell? ⟨w.heap.size + 1, 0, none⟩ = some (.string ⟨src.toArray⟩) := ba.cell 0
      have x1 : w2.cell? ⟨w.heap.size + 1, 1, none⟩ = some (.slice A m k) := ba.cell 1
      have x2 : w2.cell? ⟨w.heap.size + 1, 2, none⟩ = some (.int .i64 lv) := ba.cell 2
      have x3 : w2.cell? ⟨w.heap.size + 1, 3, none⟩ = some (.int .u32 (lc : Int)) := ba.cell 3
      have x4 : w2.cell? ⟨w.heap.size + 1, 4, none⟩ = some (.int .i64 f) := ba.cell 4
      have x5 : w2.cell? ⟨w.heap.size + 1, 5, none⟩ = some (.int .i64 t) := ba.cell 5
      have xf := fun i => ba.frozen i
      have xl := ba.lt
      have y0 : w2.cell? ⟨w.heap.size + 1 + 1 + 1, 0, none⟩ = some (.string ⟨#[]⟩) := br.cell 0
      have y1 : w2.cell? ⟨w.heap.size + 1 + 1 + 1, 1, none⟩ = some (.slice none 0 0) := br.cell 1
      have y2 : w2.cell? ⟨w.heap.size + 1 + 1 + 1, 2, none⟩ = some (.int .i64 0) := br.cell 2
      have y3 : w2.cell? ⟨w.heap.size + 1 + 1 + 1, 3, none⟩ = some (.int .u32 0) := br.cell 3
      have y4 : w2.cell? ⟨w.heap.size + 1 + 1 + 1, 4, none⟩ = some (.int .i64 0) := br.cell 4
      have y5 : w2.cell? ⟨w.heap.size + 1 + 1 + 1, 5, none⟩ = some (.int .i64 0) := br.cell 5
      have yf := fun i => br.frozen i
      have yl := br.lt
      clear cF a2 a3 t0 t1 ba bt br hb2
      go_wp2_with fail
      refine bodyPost_ret (v := .tuple #[valA ⟨⟨src, V, ⟨lv, lc⟩, f, t⟩, A1, L, c1⟩, .bool true]) ?_ rfl ⟨_, by rw [hcut.out]; rfl, ?_, ?_⟩
      · simp only [results, Tryz.results17, valA]
        go_simp
      · rw [hcut.out]
        refine ⟨A1, c1, by rw [hLn.out], ?_⟩
        rw [← hLn.out]
        refine Own.base_le (base := w.heap.size + 1 + 1 + 1 + 1) ?_ (by omega)
        repeat (refine Own.setFar ?_ (by omega) _)
        exact hO.out
      · repeat (first | with_reducible assumption | with_reducible exact Grows.refl _ | (with_reducible refine Grows.setCell ?_ (by first | (simp; done) | (simp; omega) | omega) _) | with_reducible refine Grows.alloc ?_ _ | with_reducible apply Grows.drew)
end Go.Proofs.YtfoffneipdkdjaaGreatDoor
namespace Go.Proofs.YtfoffneipdkdjaaGreatDoor
open Go.RowKit

theorem aheadB_less : ∀ a b : List UInt8, aheadB a b = Op.bytesLess a b
  | [], [] => rfl
  | [], _ :: _ => rfl
  | _ :: _, [] => rfl
  | a :: x, b :: y => by
    unfold aheadB Op.bytesLess
    rw [aheadB_less x y]
    by_cases h : a = b
    · subst h
      skip
      simp
    · have h' : (a == b) = false := by simpa using h
      rw [if_neg h, h', Bool.false_and, Bool.or_false]
      rfl
set_option maxRecDepth 100000 in
set_option maxHeartbeats 1600000 in
theorem fright_any {A : Option Addr} {m c : Nat} {fs : List Fld} (w : World) (hA : Arr w 2 encF A m fs) (hm : m ≤ 9223372036854775807) :
    Calls Tryz.prog 116 #[.slice A m c] w fun e w' => e = .returned (.bool (fieldsB fs)) ∧ Grows w w' := by
  have hml := hA.1
  obtain ⟨R, hR⟩ : ∃ R, R = fieldsB fs := ⟨_, rfl⟩
  rw [← hR]
  replace hR := Lib.hid hR
  replace hA := Lib.hid hA
  go_enter Tryz.func116, Tryz.ntmps116
  go_wp2
  go_loopw [3, 4, 7] (fun _ _ i wr => ∃ k : Nat, k ≤ m ∧ i = .int .i64 k ∧ Hid (RightTo fs k) ∧ Hid (Grows w wr)) (fun _ _ i _ => m - (intOf i).toNat)
  case atStart => exact ⟨0, by omega, rfl, ⟨fun _ _ h => absurd h (by omega), fun _ _ _ h => absurd h (by omega)⟩, Grows.refl _⟩
  case round =>
    obtain ⟨k, hk, rfl, hall, hG⟩ := hrel
    by_cases hkm : k < m
    · obtain ⟨bb, off, f, rfl, hsx, hx, hcell⟩ := (hA.out.keep hG.out).at_ hkm
      have c0 : wr.cell? ⟨bb, off + k * 2, none⟩ = some (.string ⟨f.n.toArray⟩) := by simpa using hcell 0 _ rfl
      have c1 : wr.cell? ⟨bb, off + k * 2 + 1, none⟩ = some (.string ⟨f.v.toArray⟩) := by simpa using hcell 1 _ rfl
      have hfl := 0
      have hki : (k : Int) < (m : Int) := by omega
      have cN := fun W => name_any1 f.n W
      have hbz := bsize f.v
      cases hnm : nameB f.n with
      | false =>
        have hfin := hR.out
        rw [fieldsB_bad hx (by unfold fldB; rw [hnm]; rfl)] at hfin
        rw [hnm] at cN
        replace hfin := Lib.hid hfin
        replace cN := Lib.hid cN
        clear hcell hx hfl hnm hall hR hbz
        go_wp2_with fail
        refine wp_region_k (by kernel_rfl) ?_
        refine wpAnyK_run (l' := #[true, true, true, true, true, true, true, true, true, true, true, true, true, true, true, true, true, true, true, true, true, true, true, true, true]) [0, 1, 2, 3, 4, 5, 6, 7, 8, 9, 10, 11, 12, 13, 14, 15, 16, 17, 18, 19, 20, 21, 22, 23, 24] 0 up_grows (by kernel_rfl) (by intro c a d v w h; first | (cases d <;> exact h) | exact hQ0 _ _ _ _ _ h) rfl (by kernel_rfl) (by kernel_rfl) ?_
        iterate 2 (refine wpMixC_q rfl (fun K hK => ?_); go_simp; (try go_bits); first | (refine hK.out _ ?_; clear hK K) | (apply Exists.intro; refine ⟨fun wq hsq => ?_, hK.out _ ?_⟩; (first | (go_simp; done) | ((try go_simp); (try simp only [↓IntWalk.iteOmega]); (try go_bits); rfl) | (obtain ⟨hcq, hfq⟩ := bcells hsq; go_simp; done) | (obtain ⟨hcq, hfq⟩ := bcells hsq; (try go_simp); (try simp only [↓IntWalk.iteOmega]); (try go_bits); rfl)); clear hK K))
        refine wpMixC_c (.bool false) rfl (by first | rfl | (go_simp; done)) (fun wq hsq => ?_) ?_
        · obtain ⟨hcq, hfq⟩ := bcells hsq
          go_simp
          exact Calls.mono (cN.out wq) (fun e w'' h => h)
        go_simp
        iterate 22 (refine wpMixC_q rfl (fun K hK => ?_); go_simp; (try go_bits); first | (refine hK.out _ ?_; clear hK K) | (apply Exists.intro; refine ⟨fun wq hsq => ?_, hK.out _ ?_⟩; (first | (go_simp; done) | ((try go_simp); (try simp only [↓IntWalk.iteOmega]); (try go_bits); rfl) | (obtain ⟨hcq, hfq⟩ := bcells hsq; go_simp; done) | (obtain ⟨hcq, hfq⟩ := bcells hsq; (try go_simp); (try simp only [↓IntWalk.iteOmega]); (try go_bits); rfl)); clear hK K))
        refine wpMixC_nil ?_
        refine wpAnyK_end (by kernel_rfl) (fun wN hN hS => ?_)
        go_wp2
        go_ret
        exact ⟨ret_bool (by rw [hfin.out]), (hG.out.alloc _).trans hN⟩
      | true =>
        rw [hnm] at cN
        replace cN := Lib.hid cN
        by_cases hv : f.v.length ≤ 200
        · have hfb : fldB f = true := by unfold fldB; rw [hnm]; simp [hv]
          have hvi : ¬ ((200 : Int) < (f.v.length : Int)) := by omega
          by_cases hk0 : 0 < k
          · obtain ⟨j, rfl⟩ : ∃ j, k = j + 1 := ⟨k - 1, by omega⟩
            obtain ⟨bb', off', e, hA', hse, he, hcelle⟩ := (hA.out.keep hG.out).at_ (show j < m by omega)
            injection hA' with hA'
            injection hA' with hb1 hb2
            subst hb1 hb2
            have c2 : wr.cell? ⟨bb, off + j * 2, none⟩ = some (.string ⟨e.n.toArray⟩) := by simpa using hcelle 0 _ rfl
            have hlt := (aheadB_less e.n f.n).symm
            have i0 : (0 : Int) < ((j + 1 : Nat) : Int) := by omega
            have i1 : ((j + 1 : Nat) : Int) - 1 = (j : Int) := by omega
            have i2 : (j : Int) < (m : Int) := by omega
            cases hah : aheadB e.n f.n with
            | false =>
              rw [hah] at hlt
              have hfin := hR.out
              rw [fieldsB_asc he hx hah] at hfin
              replace hfin := Lib.hid hfin
              clear hcell hcelle hx he hfl hnm hall hR hfb hah
              go_wp2_with fail
              refine wp_region_k (by kernel_rfl) ?_
              refine wpAnyK_run (l' := #[true, true, true, true, true, true, true, true, true, true, true, true, true, true, true, true, true, true, true, true, true, true, true, true, true]) [0, 1, 2, 3, 4, 5, 6, 7, 8, 9, 10, 11, 12, 13, 14, 15, 16, 17, 18, 19, 20, 21, 22, 23, 24] 0 up_grows (by kernel_rfl) (by intro c a d v w h; first | (cases d <;> exact h) | exact hQ0 _ _ _ _ _ h) rfl (by kernel_rfl) (by kernel_rfl) ?_
              iterate 2 (refine wpMixC_q rfl (fun K hK => ?_); go_simp; (try go_bits); first | (refine hK.out _ ?_; clear hK K) | (apply Exists.intro; refine ⟨fun wq hsq => ?_, hK.out _ ?_⟩; (first | (go_simp; done) | ((try go_simp); (try simp only [↓IntWalk.iteOmega]); (try go_bits); rfl) | (obtain ⟨hcq, hfq⟩ := bcells hsq; go_simp; done) | (obtain ⟨hcq, hfq⟩ := bcells hsq; (try go_simp); (try simp only [↓IntWalk.iteOmega]); (try go_bits); rfl)); clear hK K))
              refine wpMixC_c (.bool true) rfl (by first | rfl | (go_simp; done)) (fun wq hsq => ?_) ?_
              · obtain ⟨hcq, hfq⟩ := bcells hsq
                go_simp
                exact Calls.mono (cN.out wq) (fun e w'' h => h)
              go_simp
              iterate 22 (refine wpMixC_q rfl (fun K hK => ?_); go_simp; (try go_bits); first | (refine hK.out _ ?_; clear hK K) | (apply Exists.intro; refine ⟨fun wq hsq => ?_, hK.out _ ?_⟩; (first | (go_simp; done) | ((try go_simp); (try simp only [↓IntWalk.iteOmega]); (try go_bits); rfl) | (obtain ⟨hcq, hfq⟩ := bcells hsq; go_simp; done) | (obtain ⟨hcq, hfq⟩ := bcells hsq; (try go_simp); (try simp only [↓IntWalk.iteOmega]); (try go_bits); rfl)); clear hK K))
              refine wpMixC_nil ?_
              refine wpAnyK_end (by kernel_rfl) (fun wN hN hS => ?_)
              go_wp2
              go_ret
              exact ⟨ret_bool (by rw [hfin.out]), (hG.out.alloc _).trans hN⟩
            | true =>
              rw [hah] at hlt
              have hnext := Lib.hid (hall.out.succ hx hfb (fun e' _ he' => by rw [show j + 1 - 1 = j from rfl, he] at he'; rw [← Option.some.inj he']; exact hah))
              clear hcell hcelle hx he hfl hnm hall hfb hah
              go_wp2_with fail
              refine wp_region_k (by kernel_rfl) ?_
              refine wpAnyK_run (l' := #[true, true, true, true, true, true, true, true, true, true, true, true, true, true, true, true, true, true, true, true, true, true, true, true, true]) [0, 1, 2, 3, 4, 5, 6, 7, 8, 9, 10, 11, 12, 13, 14, 15, 16, 17, 18, 19, 20, 21, 22, 23, 24] 0 up_grows (by kernel_rfl) (by intro c a d v w h; first | (cases d <;> exact h) | exact hQ0 _ _ _ _ _ h) rfl (by kernel_rfl) (by kernel_rfl) ?_
              iterate 2 (refine wpMixC_q rfl (fun K hK => ?_); go_simp; (try go_bits); first | (refine hK.out _ ?_; clear hK K) | (apply Exists.intro; refine ⟨fun wq hsq => ?_, hK.out _ ?_⟩; (first | (go_simp; done) | ((try go_simp); (try simp only [↓IntWalk.iteOmega]); (try go_bits); rfl) | (obtain ⟨hcq, hfq⟩ := bcells hsq; go_simp; done) | (obtain ⟨hcq, hfq⟩ := bcells hsq; (try go_simp); (try simp only [↓IntWalk.iteOmega]); (try go_bits); rfl)); clear hK K))
              refine wpMixC_c (.bool true) rfl (by first | rfl | (go_simp; done)) (fun wq hsq => ?_) ?_
              · obtain ⟨hcq, hfq⟩ := bcells hsq
                go_simp
                exact Calls.mono (cN.out wq) (fun e w'' h => h)
              go_simp
              iterate 22 (refine wpMixC_q rfl (fun K hK => ?_); go_simp; (try go_bits); first | (refine hK.out _ ?_; clear hK K) | (apply Exists.intro; refine ⟨fun wq hsq => ?_, hK.out _ ?_⟩; (first | (go_simp; done) | ((try go_simp); (try simp only [↓IntWalk.iteOmega]); (try go_bits); rfl) | (obtain ⟨hcq, hfq⟩ := bcells hsq; go_simp; done) | (obtain ⟨hcq, hfq⟩ := bcells hsq; (try go_simp); (try simp only [↓IntWalk.iteOmega]); (try go_bits); rfl)); clear hK K))
              refine wpMixC_nil ?_
              refine wpAnyK_end (by kernel_rfl) (fun wN hN hS => ?_)
              go_wp2
              go_roundw
              case rel => exact ⟨j + 1 + 1, by omega, by go_num, hnext, (hG.out.alloc _).trans hN⟩
              case measure => simp [intOf]; omega
          · obtain rfl : k = 0 := by omega
            simp only [Nat.zero_mul, Nat.add_zero] at c0 c1
            have hnext := Lib.hid (hall.out.succ hx hfb (fun e' h _ => absurd h (by omega)))
            clear hcell hx hfl hnm hall hfb hk0
            go_wp2_with fail
            refine wp_region_k (by kernel_rfl) ?_
            refine wpAnyK_run (l' := #[true, true, true, true, true, true, true, true, true, true, true, true, true, true, true, true, true, true, true, true, true, true, true, true, true]) [0, 1, 2, 3, 4, 5, 6, 7, 8, 9, 10, 11, 12, 13, 14, 15, 16, 17, 18, 19, 20, 21, 22, 23, 24] 0 up_grows (by kernel_rfl) (by intro c a d v w h; first | (cases d <;> exact h) | exact hQ0 _ _ _ _ _ h) rfl (by kernel_rfl) (by kernel_rfl) ?_
            iterate 2 (refine wpMixC_q rfl (fun K hK => ?_); go_simp; (try go_bits); first | (refine hK.out _ ?_; clear hK K) | (apply Exists.intro; refine ⟨fun wq hsq => ?_, hK.out _ ?_⟩; (first | (go_simp; done) | ((try go_simp); (try simp only [↓IntWalk.iteOmega]); (try go_bits); rfl) | (obtain ⟨hcq, hfq⟩ := bcells hsq; go_simp; done) | (obtain ⟨hcq, hfq⟩ := bcells hsq; (try go_simp); (try simp only [↓IntWalk.iteOmega]); (try go_bits); rfl)); clear hK K))
            refine wpMixC_c (.bool true) rfl (by first | rfl | (go_simp; done)) (fun wq hsq => ?_) ?_
            · obtain ⟨hcq, hfq⟩ := bcells hsq
              go_simp
              exact Calls.mono (cN.out wq) (fun e w'' h => h)
            go_simp
            iterate 22 (refine wpMixC_q rfl (fun K hK => ?_); go_simp; (try go_bits); first | (refine hK.out _ ?_; clear hK K) | (apply Exists.intro; refine ⟨fun wq hsq => ?_, hK.out _ ?_⟩; (first | (go_simp; done) | ((try go_simp); (try simp only [↓IntWalk.iteOmega]); (try go_bits); rfl) | (obtain ⟨hcq, hfq⟩ := bcells hsq; go_simp; done) | (obtain ⟨hcq, hfq⟩ := bcells hsq; (try go_simp); (try simp only [↓IntWalk.iteOmega]); (try go_bits); rfl)); clear hK K))
            refine wpMixC_nil ?_
            refine wpAnyK_end (by kernel_rfl) (fun wN hN hS => ?_)
            go_wp2
            go_roundw
            case rel => exact ⟨1, by omega, by go_num, hnext, (hG.out.alloc _).trans hN⟩
            case measure => simp [intOf]; omega
        · have hvi : (200 : Int) < (f.v.length : Int) := by omega
          have hfin := hR.out
          rw [fieldsB_bad hx (by unfold fldB; rw [hnm]; simp [hv])] at hfin
          replace hfin := Lib.hid hfin
          clear hcell hx hfl hnm hall hR
          go_wp2_with fail
          refine wp_region_k (by kernel_rfl) ?_
          refine wpAnyK_run (l' := #[true, true, true, true, true, true, true, true, true, true, true, true, true, true, true, true, true, true, true, true, true, true, true, true, true]) [0, 1, 2, 3, 4, 5, 6, 7, 8, 9, 10, 11, 12, 13, 14, 15, 16, 17, 18, 19, 20, 21, 22, 23, 24] 0 up_grows (by kernel_rfl) (by intro c a d v w h; first | (cases d <;> exact h) | exact hQ0 _ _ _ _ _ h) rfl (by kernel_rfl) (by kernel_rfl) ?_
          iterate 2 (refine wpMixC_q rfl (fun K hK => ?_); go_simp; (try go_bits); first | (refine hK.out _ ?_; clear hK K) | (apply Exists.intro; refine ⟨fun wq hsq => ?_, hK.out _ ?_⟩; (first | (go_simp; done) | ((try go_simp); (try simp only [↓IntWalk.iteOmega]); (try go_bits); rfl) | (obtain ⟨hcq, hfq⟩ := bcells hsq; go_simp; done) | (obtain ⟨hcq, hfq⟩ := bcells hsq; (try go_simp); (try simp only [↓IntWalk.iteOmega]); (try go_bits); rfl)); clear hK K))
          refine wpMixC_c (.bool true) rfl (by first | rfl | (go_simp; done)) (fun wq hsq => ?_) ?_
          · obtain ⟨hcq, hfq⟩ := bcells hsq
            go_simp
            exact Calls.mono (cN.out wq) (fun e w'' h => h)
          go_simp
          iterate 22 (refine wpMixC_q rfl (fun K hK => ?_); go_simp; (try go_bits); first | (refine hK.out _ ?_; clear hK K) | (apply Exists.intro; refine ⟨fun wq hsq => ?_, hK.out _ ?_⟩; (first | (go_simp; done) | ((try go_simp); (try simp only [↓IntWalk.iteOmega]); (try go_bits); rfl) | (obtain ⟨hcq, hfq⟩ := bcells hsq; go_simp; done) | (obtain ⟨hcq, hfq⟩ := bcells hsq; (try go_simp); (try simp only [↓IntWalk.iteOmega]); (try go_bits); rfl)); clear hK K))
          refine wpMixC_nil ?_
          refine wpAnyK_end (by kernel_rfl) (fun wN hN hS => ?_)
          go_wp2
          go_ret
          exact ⟨ret_bool (by rw [hfin.out]), (hG.out.alloc _).trans hN⟩
    · obtain rfl : k = m := by omega
      have hfin := hR.out
      rw [RightTo.all (by rw [hml]; exact hall.out), hml] at hfin
      by_cases h8 : k ≤ 8
      · have h8i : (k : Int) ≤ 8 := by omega
        simp only [h8, decide_true] at hfin
        replace hfin := Lib.hid hfin
        clear hR hall
        go_wp2
        go_ret
        exact ⟨ret_bool (by rw [hfin.out]), hG.out⟩
      · have h8i : ¬ ((k : Int) ≤ 8) := by omega
        simp only [h8, decide_false] at hfin
        replace hfin := Lib.hid hfin
        clear hR hall
        go_wp2
        go_ret
        exact ⟨ret_bool (by rw [hfin.out]), hG.out⟩
end Go.Proofs.YtfoffneipdkdjaaGreatDoor
namespace Go.Proofs.YtfoffneipdkdjaaGreatDoor
open Go.RowKit

set_option maxRecDepth 100000 in
set_option maxHeartbeats 12800000 in
theorem aright_any {a : AlrX} (w : World) (ha : a.At w) :
    Calls Tryz.prog 80 #[valA a] w fun e w' => e = .returned (.bool (alertB a.a)) ∧ Grows w w' := by
  have cN := fun W => name_any1 a.a.src W
  have cF := fun W (hW : Grows w W) => fright_any (c := a.k) W (ha.arr.keep hW) (by have := ha.le; omega)
  have cL := fun W => lRight_any a.a.l W
  have hle := ha.le
  have hln := ha.arr.1
  obtain ⟨R, hR⟩ : ∃ R, R = alertB a.a := ⟨_, rfl⟩
  rw [← hR]
  unfold alertB maxTime at hR
  rw [hln] at hR
  generalize nameB a.a.src = N at *
  generalize fieldsB a.a.fs = FB at *
  generalize labRight a.a.l.lv = L at *
  unfold valA
  clear ha hln
  obtain ⟨⟨src, fs, ⟨lv, lc⟩, f, t⟩, A, m, k⟩ := a
  simp only at cN cF cL hR hle ⊢
  replace cN := Lib.hid cN
  replace cF := Lib.hid cF
  replace cL := Lib.hid cL
  replace hR := Lib.hid hR
  rcases (show (t == 0) = true ∨ (t == 0) = false by cases (t == 0) <;> simp) with a2 | a2 <;> by_cases a1 : 0 ≤ f <;> by_cases a3 : f < t
  all_goals
    go_enter Tryz.func80, Tryz.ntmps80
    go_wp2_with fail
    refine (cN.out _).mono ?_
    rintro e w1 ⟨rfl, hb1⟩
    have bx := Lib.hid ((Blk.new w 50 #[.string ⟨src.toArray⟩, .slice A m k, .int .i64 lv, .int .u32 (lc : Int), .int .i64 f, .int .i64 t]).grows hb1)
    have hG : Hid (Grows w w1) := Lib.hid (((Grows.refl w).alloc _).trans hb1)
    clear hb1 cN
    have q0 : w1.cell? ⟨w.heap.size, 0, none⟩ = some (.string ⟨src.toArray⟩) := bx.out.cell 0
    have q1 : w1.cell? ⟨w.heap.size, 1, none⟩ = some (.slice A m k) := bx.out.cell 1
    have q2 : w1.cell? ⟨w.heap.size, 2, none⟩ = some (.int .i64 lv) := bx.out.cell 2
    have q3 : w1.cell? ⟨w.heap.size, 3, none⟩ = some (.int .u32 (lc : Int)) := bx.out.cell 3
    have q4 : w1.cell? ⟨w.heap.size, 4, none⟩ = some (.int .i64 f) := bx.out.cell 4
    have q5 : w1.cell? ⟨w.heap.size, 5, none⟩ = some (.int .i64 t) := bx.out.cell 5
    have qz := bx.out.lt
    cases N
    · go_wp2
      go_ret
      exact ⟨ret_bool (by rw [hR.out]; simp), hG.out⟩
    · by_cases h0 : m < 1
      · have h0' : ¬ (0 : Int) < (m : Int) := by omega
        have h0'' : decide (0 < m) = false := by simp; omega
        go_wp2
        go_ret
        exact ⟨ret_bool (by rw [hR.out, h0'']; simp), hG.out⟩
      · have h0' : (0 : Int) < (m : Int) := by omega
        have h0'' : decide (0 < m) = true := by simp; omega
        go_wp2_with fail
        refine (cF.out _ hG.out).mono ?_
        rintro e w2 ⟨rfl, hb2⟩
        replace bx := Lib.hid (bx.out.grows hb2)
        replace hG := Lib.hid (hG.out.trans hb2)
        clear hb2 q0 q1 q2 q3 q4 q5 qz
        have q0 : w2.cell? ⟨w.heap.size, 0, none⟩ = some (.string ⟨src.toArray⟩) := bx.out.cell 0
        have q1 : w2.cell? ⟨w.heap.size, 1, none⟩ = some (.slice A m k) := bx.out.cell 1
        have q2 : w2.cell? ⟨w.heap.size, 2, none⟩ = some (.int .i64 lv) := bx.out.cell 2
        have q3 : w2.cell? ⟨w.heap.size, 3, none⟩ = some (.int .u32 (lc : Int)) := bx.out.cell 3
        have q4 : w2.cell? ⟨w.heap.size, 4, none⟩ = some (.int .i64 f) := bx.out.cell 4
        have q5 : w2.cell? ⟨w.heap.size, 5, none⟩ = some (.int .i64 t) := bx.out.cell 5
        have qz := bx.out.lt
        cases FB
        · go_wp2
          go_ret
          exact ⟨ret_bool (by rw [hR.out]; simp), hG.out⟩
        · go_wp2_with fail
          refine (cL.out _).mono ?_
          rintro e w3 ⟨rfl, hb3⟩
          replace bx := Lib.hid (bx.out.grows hb3)
          replace hG := Lib.hid (hG.out.trans hb3)
          clear hb3 q0 q1 q2 q3 q4 q5 qz
          have q0 : w3.cell? ⟨w.heap.size, 0, none⟩ = some (.string ⟨src.toArray⟩) := bx.out.cell 0
          have q1 : w3.cell? ⟨w.heap.size, 1, none⟩ = some (.slice A m k) := bx.out.cell 1
          have q2 : w3.cell? ⟨w.heap.size, 2, none⟩ = some (.int .i64 lv) := bx.out.cell 2
          have q3 : w3.cell? ⟨w.heap.size, 3, none⟩ = some (.int .u32 (lc : Int)) := bx.out.cell 3
          have q4 : w3.cell? ⟨w.heap.size, 4, none⟩ = some (.int .i64 f) := bx.out.cell 4
          have q5 : w3.cell? ⟨w.heap.size, 5, none⟩ = some (.int .i64 t) := bx.out.cell 5
          have qz := bx.out.lt
          cases L
          · go_wp2
            go_ret
            exact ⟨ret_bool (by rw [hR.out]; simp), hG.out⟩
          · by_cases a4 : f ≤ 1099511627776
            · go_wp2
              go_ret
              exact ⟨ret_bool (by rw [hR.out, h0'', Bool.eq_iff_iff]; simp at a2; simp <;> omega), hG.out⟩
            · first
              | (exfalso; omega)
              | (go_wp2; go_ret; exact ⟨ret_bool (by rw [hR.out, h0'', Bool.eq_iff_iff]; simp at a2; simp <;> omega), hG.out⟩)
end Go.Proofs.YtfoffneipdkdjaaGreatDoor
