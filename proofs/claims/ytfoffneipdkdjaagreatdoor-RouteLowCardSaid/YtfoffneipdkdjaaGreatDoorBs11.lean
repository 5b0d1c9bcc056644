/- Parts: GrpA PatA PatB PatC PatQ PatD PatE -/
import Derived.Test.YtfoffneipdkdjaaGreatDoorBs10
import Derived.Laws.ShiftsVarLaws
namespace Go.Proofs.YtfoffneipdkdjaaGreatDoor
open Go.RowKit

theorem own_ne {α : Type} {w : World} {b0 k g : Nat} {e e' : TypeId} {enc : α → List Value} {v : Value} {xs : List α} {cur : Array Value} {fz : Nat × Nat} (h : Own w b0 e k enc v xs) (hg : w.heap[g]? = some (.cells cur e' fz)) (hne : e ≠ e') : v.ownBlock ≠ some g := by
  intro hv
  rcases h.2 with ⟨h5, _⟩ | ⟨g', cap, cur', h5, _, hh, _⟩
  · rw [h5] at hv; cases hv
  · rw [h5] at hv
    simp only [Value.ownBlock, Option.some.injEq] at hv
    subst hv
    rw [hh] at hg
    simp only [Option.some.injEq, Obj.cells.injEq] at hg
    exact hne hg.2.1
theorem own_block {α : Type} {w : World} {b0 k g : Nat} {e : TypeId} {enc : α → List Value} {v : Value} {xs : List α} (h : Own w b0 e k enc v xs) (hv : v.ownBlock = some g) : ∃ cur, w.heap[g]? = some (.cells cur e (0, 0)) := by
  rcases h.2 with ⟨h5, _⟩ | ⟨g', cap, cur', h5, _, hh, _⟩
  · rw [h5] at hv; cases hv
  · rw [h5] at hv
    simp only [Value.ownBlock, Option.some.injEq] at hv
    subst hv
    exact ⟨_, hh⟩
theorem Own.kept' {α : Type} {w w' : World} {b0 k : Nat} {e : TypeId} {enc : α → List Value} {v : Value} {xs : List α} {row : Option Nat} (h : Own w b0 e k enc v xs) (hg : w.grownBy w' row) (hne : ∀ g, row = some g → v.ownBlock ≠ some g) : Own w' b0 e k enc v xs := by
  refine World.ownsRow.kept h hg ?_
  cases hv : v.ownBlock with
  | none => exact .inl rfl
  | some g => exact .inr (fun hr => hne g hr.symm hv)
/-- One cell of an element is written. -/
theorem Own.setOne {α : Type} {w : World} {base k n g cap : Nat} {e : TypeId} {enc : α → List Value} {xs : List α} (h : Own w base e k enc (.slice (some ⟨g, 0, none⟩) n cap) xs) (hk : ∀ x, (enc x).length = k) (hk0 : 0 < k) {i j : Nat} (hi : i < n) (hj : j < k) {x : α} {u : Value}
    (hx : ∀ y, xs[i]? = some y → enc x = (enc y).set j u) : Own (w.setCell ⟨g, i * k + j, none⟩ u) base e k enc (.slice (some ⟨g, 0, none⟩) n cap) (xs.set i x) := by
  obtain ⟨cur, hl, hb, hh, hnc, hcm, hcs, hc⟩ := h.cells_ hk
  have hlt : i * k + k ≤ cap * k := by have := Nat.mul_le_mul_right k (show i + 1 ≤ cap by omega); rw [Nat.add_mul] at this; omega
  have hh2 : (w.setCell ⟨g, i * k + j, none⟩ u).heap[g]? = some (.cells (cur.setIfInBounds (i * k + j) u) e (0, 0)) := by
    simp [World.setCell, Array.getElem?_modify, hh]
  have hl' : (xs.set i x).length = n := by rw [List.length_set]; exact hl
  have := Own.mk_ (xs := xs.set i x) (cap := cap) hk hk0 hb hh2 (by omega) hcm (by simpa using hcs) (fun q hq r hr => by
    rw [List.getElem_set]
    by_cases hq' : i = q
    · subst hq'
      rw [if_pos rfl, hx _ (List.getElem?_eq_getElem (by omega)), List.getElem?_set]
      by_cases hr' : j = r
      · subst hr'
        rw [if_pos rfl, if_pos (by rw [hk]; exact hr), Array.getElem?_setIfInBounds]
        simp
        omega
      · rw [if_neg hr', Array.getElem?_setIfInBounds, if_neg (by omega)]
        exact hc i (by omega) r hr
    · rw [if_neg hq', Array.getElem?_setIfInBounds, if_neg (by
        intro h4
        rcases Nat.lt_or_ge q i with h6 | h6
        · have := Nat.mul_le_mul_right k (show q + 1 ≤ i from h6); rw [Nat.add_mul] at this; omega
        · have := Nat.mul_le_mul_right k (show i + 1 ≤ q by omega); rw [Nat.add_mul] at this; omega)]
      exact hc q (by omega) r hr)
  rwa [hl'] at this

structure RoomsAt (w : World) (b0 RB : Nat) (vs : List Value) (rs : List (List GrpX)) : Prop where
  row : w.heap[RB]? = some (.cells vs.toArray 43 (0, 0))
  len : vs.length = rs.length
  own : ∀ (r : Nat) v gs, vs[r]? = some v → rs[r]? = some gs → OwnG w b0 v gs
  apart : ∀ (r s : Nat) v u g, vs[r]? = some v → vs[s]? = some u → r ≠ s → v.ownBlock = some g → u.ownBlock ≠ some g
  ids : ∀ (r : Nat) (gs : List GrpX) (k : Nat) (x : GrpX), rs[r]? = some gs → gs[k]? = some x → Own w b0 25 1 encU x.iv x.ids
  flds : ∀ (r : Nat) (gs : List GrpX) (k : Nat) (x : GrpX), rs[r]? = some gs → gs[k]? = some x → Own w b0 76 2 encF x.bv x.by_
  idap : ∀ (r s k j : Nat) (gs hs : List GrpX) (x y : GrpX) (g : Nat), rs[r]? = some gs → gs[k]? = some x → rs[s]? = some hs → hs[j]? = some y → (r ≠ s ∨ k ≠ j) → x.iv.ownBlock = some g → y.iv.ownBlock ≠ some g
section
variable {w w' : World} {b0 RB : Nat} {vs : List Value} {rs : List (List GrpX)}
theorem RoomsAt.lt (h : RoomsAt w b0 RB vs rs) : RB < w.heap.size := (Array.getElem?_eq_some_iff.1 h.row).1
theorem RoomsAt.grows (h : RoomsAt w b0 RB vs rs) (hg : Grows w w') : RoomsAt w' b0 RB vs rs where
  row := (hg.below.block RB h.lt).trans h.row
  len := h.len
  own := fun r v gs h1 h2 => (h.own r v gs h1 h2).grows hg
  apart := h.apart
  ids := fun r gs k x h1 h2 => (h.ids r gs k x h1 h2).grows hg
  flds := fun r gs k x h1 h2 => (h.flds r gs k x h1 h2).grows hg
  idap := h.idap
/-- A block that is no row of cells is written. -/
theorem RoomsAt.other (h : RoomsAt w b0 RB vs rs) {m : Nat} (hg : w.grownBy w' (some m)) (hm : ∀ cur e fz, w.heap[m]? ≠ some (.cells cur e fz)) : RoomsAt w' b0 RB vs rs where
  row := (hg.block RB h.lt (by intro hh; injection hh with hh; subst hh; exact hm _ _ _ h.row)).trans h.row
  len := h.len
  own := fun r v gs h1 h2 => (h.own r v gs h1 h2).kept' hg (fun g hgm hv => by injection hgm with hgm; subst hgm; obtain ⟨cur, hc⟩ := own_block (h.own r v gs h1 h2) hv; exact hm _ _ _ hc)
  apart := h.apart
  ids := fun r gs k x h1 h2 => (h.ids r gs k x h1 h2).kept' hg (fun g hgm hv => by injection hgm with hgm; subst hgm; obtain ⟨cur, hc⟩ := own_block (h.ids r gs k x h1 h2) hv; exact hm _ _ _ hc)
  flds := fun r gs k x h1 h2 => (h.flds r gs k x h1 h2).kept' hg (fun g hgm hv => by injection hgm with hgm; subst hgm; obtain ⟨cur, hc⟩ := own_block (h.flds r gs k x h1 h2) hv; exact hm _ _ _ hc)
  idap := h.idap
theorem own_lt {α : Type} {w : World} {b0 k g : Nat} {e : TypeId} {enc : α → List Value} {v : Value} {xs : List α} (h : Own w b0 e k enc v xs) (hv : v.ownBlock = some g) : g < w.heap.size := (World.ownsRow.lt h g hv).2
/-- A group more at the end of room r: appended, and the slice stored. -/
theorem RoomsAt.push (h : RoomsAt w b0 RB vs rs) {r : Nat} {v v' : Value} {gs : List GrpX} {x : GrpX} (hv : vs[r]? = some v) (hgs : rs[r]? = some gs) {w1 : World} (hO : OwnG w1 b0 v' (gs ++ [x])) (hg : w.grownBy w1 v.ownBlock) (hv' : v'.ownBlock = v.ownBlock ∨ ∃ j, v'.ownBlock = some j ∧ w.heap.size ≤ j)
    (hid : x.iv = .slice none 0 0 ∧ x.ids = []) (hby : Own w b0 76 2 encF x.bv x.by_) :
    RoomsAt (w1.setCell ⟨RB, r, none⟩ v') b0 RB (vs.set r v') (rs.set r (gs ++ [x])) := by
  have hrl : r < vs.length := (List.getElem?_eq_some_iff.1 hv).1
  have hOv := h.own r v gs hv hgs
  have hRBv : ∀ g, v.ownBlock = some g → g ≠ RB := fun g hg e => own_ne hOv h.row (by decide) (by rw [hg, e])
  have hrow1 : w1.heap[RB]? = some (.cells vs.toArray 43 (0, 0)) := (hg.block RB h.lt (fun e => hRBv RB e.symm rfl)).trans h.row
  have hset := grownBy_cell w1 ⟨RB, r, none⟩ v'
  have hbyO : Own w1 b0 76 2 encF x.bv x.by_ := hby.kept' hg (fun g hgm hv2 => by obtain ⟨cur, hc⟩ := own_block hOv hgm; exact own_ne hby hc (by decide) hv2)
  have len2 : (vs.set r v').length = (rs.set r (gs ++ [x])).length := by simp [h.len]
  refine ⟨?_, len2, ?_, ?_, ?_, ?_, ?_⟩
  · simp [World.setCell, Array.getElem?_modify, hrow1]
  · intro s u hs h1 h2
    by_cases hrs : r = s
    · subst hrs
      rw [List.getElem?_set_self hrl] at h1
      rw [List.getElem?_set_self (by rw [← h.len]; exact hrl)] at h2
      injection h1 with h1; injection h2 with h2
      subst h1 h2
      exact hO.kept' hset (fun g hgm hv2 => by injection hgm with hgm; subst hgm; exact own_ne hO hrow1 (by decide) hv2)
    · rw [List.getElem?_set_ne hrs] at h1 h2
      have h3 := h.own s u hs h1 h2
      have h4 : OwnG w1 b0 u hs := h3.kept' hg (fun g hgm hv2 => h.apart r s v u g hv h1 hrs hgm hv2)
      exact h4.kept' hset (fun g hgm hv2 => by injection hgm with hgm; subst hgm; exact own_ne h4 hrow1 (by decide) hv2)
  · intro s t u1 u2 g h1 h2 hst hg1 hg2
    have key : ∀ (t : Nat) u2, vs[t]? = some u2 → t ≠ r → v'.ownBlock = some g → u2.ownBlock = some g → False := fun t u2 h2 htr hg1 hg2 => by
      have h2l := own_lt (h.own t u2 _ h2 (List.getElem?_eq_getElem (by rw [← h.len]; exact (List.getElem?_eq_some_iff.1 h2).1))) hg2
      rcases hv' with hv' | ⟨j, hj, hjs⟩
      · rw [hv'] at hg1
        exact h.apart r t v u2 g hv h2 (Ne.symm htr) hg1 hg2
      · rw [hj] at hg1; injection hg1 with hg1; omega
    by_cases hrs : r = s
    · subst hrs
      rw [List.getElem?_set_self hrl] at h1
      rw [List.getElem?_set_ne hst] at h2
      injection h1 with h1; subst h1
      exact key t u2 h2 (Ne.symm hst) hg1 hg2
    · rw [List.getElem?_set_ne hrs] at h1
      by_cases hrt : r = t
      · subst hrt
        rw [List.getElem?_set_self hrl] at h2
        injection h2 with h2; subst h2
        exact key s u1 h1 (Ne.symm hrs) hg2 hg1
      · rw [List.getElem?_set_ne hrt] at h2
        exact h.apart s t u1 u2 g h1 h2 hst hg1 hg2
  · intro s hs k y h1 h2
    have key : Own w b0 25 1 encU y.iv y.ids := by
      by_cases hrs : r = s
      · subst hrs
        rw [List.getElem?_set_self (by rw [← h.len]; exact hrl)] at h1
        injection h1 with h1; subst h1
        rw [List.getElem?_append] at h2
        split at h2
        · exact h.ids r gs k y hgs h2
        · have : y = x := by have := List.mem_of_getElem? h2; simpa using this
          subst this
          rw [hid.1, hid.2]
          exact Own.nil_ _ _ _ _ _
      · rw [List.getElem?_set_ne hrs] at h1
        exact h.ids s hs k y h1 h2
    have key1 : Own w1 b0 25 1 encU y.iv y.ids := key.kept' hg (fun g hgm hv2 => by obtain ⟨cur, hc⟩ := own_block hOv hgm; exact own_ne key hc (by decide) hv2)
    exact key1.kept' hset (fun g hgm hv2 => by injection hgm with hgm; subst hgm; exact own_ne key1 hrow1 (by decide) hv2)
  · intro s hs k y h1 h2
    have key1 : Own w1 b0 76 2 encF y.bv y.by_ := by
      by_cases hrs : r = s
      · subst hrs
        rw [List.getElem?_set_self (by rw [← h.len]; exact hrl)] at h1
        injection h1 with h1; subst h1
        rw [List.getElem?_append] at h2
        split at h2
        · have := h.flds r gs k y hgs h2
          exact this.kept' hg (fun g hgm hv2 => by obtain ⟨cur, hc⟩ := own_block hOv hgm; exact own_ne this hc (by decide) hv2)
        · have : y = x := by have := List.mem_of_getElem? h2; simpa using this
          subst this
          exact hbyO
      · rw [List.getElem?_set_ne hrs] at h1
        have := h.flds s hs k y h1 h2
        exact this.kept' hg (fun g hgm hv2 => by obtain ⟨cur, hc⟩ := own_block hOv hgm; exact own_ne this hc (by decide) hv2)
    exact key1.kept' hset (fun g hgm hv2 => by injection hgm with hgm; subst hgm; exact own_ne key1 hrow1 (by decide) hv2)
  · have old : ∀ (s : Nat) (hs : List GrpX) (k : Nat) (y : GrpX) (g : Nat), (rs.set r (gs ++ [x]))[s]? = some hs → hs[k]? = some y → y.iv.ownBlock = some g → ∃ hs', rs[s]? = some hs' ∧ hs'[k]? = some y := fun s hs k y g h1 h2 h3 => by
      by_cases hrs : r = s
      · subst hrs
        rw [List.getElem?_set_self (by rw [← h.len]; exact hrl)] at h1
        injection h1 with h1; subst h1
        rw [List.getElem?_append] at h2
        split at h2
        · exact ⟨gs, hgs, h2⟩
        · have : y = x := by have := List.mem_of_getElem? h2; simpa using this
          subst this
          rw [hid.1] at h3; cases h3
      · rw [List.getElem?_set_ne hrs] at h1
        exact ⟨hs, h1, h2⟩
    intro s t k j gs1 hs1 a b g h1 h2 h3 h4 hne hg1 hg2
    obtain ⟨gs1', o1, o2⟩ := old s gs1 k a g h1 h2 hg1
    obtain ⟨hs1', o3, o4⟩ := old t hs1 j b g h3 h4 hg2
    exact h.idap s t k j gs1' hs1' a b g o1 o2 o3 o4 hne hg1 hg2
/-- One group's ids are others. -/
theorem RoomsAt.upd (h : RoomsAt w b0 RB vs rs) {r k gb n cap : Nat} {gs : List GrpX} {x x' : GrpX} (hv : vs[r]? = some (.slice (some ⟨gb, 0, none⟩) n cap)) (hgs : rs[r]? = some gs) (hx : gs[k]? = some x) {w1 : World}
    (hO : Own w1 b0 25 1 encU x'.iv x'.ids) (hg : w.grownBy w1 x.iv.ownBlock) (hv' : x'.iv.ownBlock = x.iv.ownBlock ∨ ∃ j, x'.iv.ownBlock = some j ∧ w.heap.size ≤ j) (hbv : x'.bv = x.bv ∧ x'.by_ = x.by_) (henc : encG x' = (encG x).set 3 x'.iv) :
    RoomsAt (w1.setCell ⟨gb, k * 4 + 3, none⟩ x'.iv) b0 RB vs (rs.set r (gs.set k x')) := by
  have hrl : r < rs.length := (List.getElem?_eq_some_iff.1 hgs).1
  have hkl : k < gs.length := (List.getElem?_eq_some_iff.1 hx).1
  have hOx := h.ids r gs k x hgs hx
  have hOv := h.own r _ gs hv hgs
  have hnl := hOv.len hkG
  obtain ⟨curv, hcv⟩ := own_block hOv (g := gb) rfl
  have hne : ∀ g, x.iv.ownBlock = some g → ∀ (α : Type) (v : Value) (e : TypeId) (kk : Nat) (enc : α → List Value) (xs : List α), Own w b0 e kk enc v xs → e ≠ 25 → v.ownBlock ≠ some g := fun g hg α v e kk enc xs ho he => by
    obtain ⟨cur, hc⟩ := own_block hOx hg
    exact own_ne ho hc he
  have hrow1 : w1.heap[RB]? = some (.cells vs.toArray 43 (0, 0)) := (hg.block RB h.lt (fun e => own_ne hOx h.row (by decide) e.symm)).trans h.row
  have hcv1 : w1.heap[gb]? = some (.cells curv 47 (0, 0)) := (hg.block gb (Array.getElem?_eq_some_iff.1 hcv).1 (fun e => own_ne hOx hcv (by decide) e.symm)).trans hcv
  have hset := grownBy_cell w1 ⟨gb, k * 4 + 3, none⟩ x'.iv
  have hgbRB : gb ≠ RB := fun e => by subst e; rw [h.row] at hcv; simp only [Option.some.injEq, Obj.cells.injEq] at hcv; exact absurd hcv.2.1 (by decide)
  refine ⟨?_, by simp [h.len], ?_, h.apart, ?_, ?_, ?_⟩
  · exact (hset.block RB (Array.getElem?_eq_some_iff.1 hrow1).1 (by simpa using Ne.symm hgbRB)).trans hrow1
  · intro s u hs h1 h2
    by_cases hrs : r = s
    · subst hrs
      rw [hv] at h1
      rw [List.getElem?_set_self hrl] at h2
      injection h1 with h1; injection h2 with h2
      subst h1 h2
      have hO1 : OwnG w1 b0 (.slice (some ⟨gb, 0, none⟩) n cap) gs := hOv.kept' hg (fun g hgm hv2 => hne g hgm _ _ _ _ _ _ hOv (by decide) hv2)
      exact hO1.setOne hkG (by omega) (by omega) (by omega) (fun y hy => by rw [hx] at hy; injection hy with hy; subst hy; exact henc)
    · rw [List.getElem?_set_ne hrs] at h2
      have h3 := h.own s u hs h1 h2
      have h4 : OwnG w1 b0 u hs := h3.kept' hg (fun g hgm hv2 => hne g hgm _ _ _ _ _ _ h3 (by decide) hv2)
      exact h4.kept' hset (fun g hgm hv2 => by injection hgm with hgm; subst hgm; exact h.apart r s _ u gb hv h1 hrs rfl hv2)
  · intro s hs j y h1 h2
    have key1 : Own w1 b0 25 1 encU y.iv y.ids := by
      by_cases hrs : r = s
      · subst hrs
        rw [List.getElem?_set_self hrl] at h1
        injection h1 with h1; subst h1
        by_cases hkj : k = j
        · subst hkj
          rw [List.getElem?_set_self hkl] at h2
          injection h2 with h2; subst h2
          exact hO
        · rw [List.getElem?_set_ne hkj] at h2
          exact (h.ids r gs j y hgs h2).kept' hg (fun g hgm hv2 => h.idap r r k j gs gs x y g hgs hx hgs h2 (.inr hkj) hgm hv2)
      · rw [List.getElem?_set_ne hrs] at h1
        exact (h.ids s hs j y h1 h2).kept' hg (fun g hgm hv2 => h.idap r s k j gs hs x y g hgs hx h1 h2 (.inl hrs) hgm hv2)
    exact key1.kept' hset (fun g hgm hv2 => by injection hgm with hgm; subst hgm; exact own_ne key1 hcv1 (by decide) hv2)
  · intro s hs j y h1 h2
    have key0 : Own w b0 76 2 encF y.bv y.by_ := by
      by_cases hrs : r = s
      · subst hrs
        rw [List.getElem?_set_self hrl] at h1
        injection h1 with h1; subst h1
        by_cases hkj : k = j
        · subst hkj
          rw [List.getElem?_set_self hkl] at h2
          injection h2 with h2; subst h2
          rw [hbv.1, hbv.2]
          exact h.flds r gs k x hgs hx
        · rw [List.getElem?_set_ne hkj] at h2
          exact h.flds r gs j y hgs h2
      · rw [List.getElem?_set_ne hrs] at h1
        exact h.flds s hs j y h1 h2
    have key1 : Own w1 b0 76 2 encF y.bv y.by_ := key0.kept' hg (fun g hgm hv2 => hne g hgm _ _ _ _ _ _ key0 (by decide) hv2)
    exact key1.kept' hset (fun g hgm hv2 => by injection hgm with hgm; subst hgm; exact own_ne key1 hcv1 (by decide) hv2)
  · have old : ∀ (s : Nat) (hs : List GrpX) (j : Nat) (y : GrpX), (rs.set r (gs.set k x'))[s]? = some hs → hs[j]? = some y → (s = r ∧ j = k ∧ y = x') ∨ ((s ≠ r ∨ j ≠ k) ∧ ∃ hs', rs[s]? = some hs' ∧ hs'[j]? = some y) := fun s hs j y h1 h2 => by
      by_cases hrs : r = s
      · subst hrs
        rw [List.getElem?_set_self hrl] at h1
        injection h1 with h1; subst h1
        by_cases hkj : k = j
        · subst hkj
          rw [List.getElem?_set_self hkl] at h2
          injection h2 with h2
          exact .inl ⟨rfl, rfl, h2.symm⟩
        · rw [List.getElem?_set_ne hkj] at h2
          exact .inr ⟨.inr (Ne.symm hkj), gs, hgs, h2⟩
      · rw [List.getElem?_set_ne hrs] at h1
        exact .inr ⟨.inl (Ne.symm hrs), hs, h1, h2⟩
    have key : ∀ (t : Nat) (hs : List GrpX) (j : Nat) (y : GrpX) (g : Nat), (t ≠ r ∨ j ≠ k) → rs[t]? = some hs → hs[j]? = some y → x'.iv.ownBlock = some g → y.iv.ownBlock = some g → False := fun t hs j y g hne2 o1 o2 hg1 hg2 => by
      have hlt := own_lt (h.ids t hs j y o1 o2) hg2
      rcases hv' with hv' | ⟨q, hq, hqs⟩
      · rw [hv'] at hg1
        exact h.idap r t k j gs hs x y g hgs hx o1 o2 (hne2.imp Ne.symm Ne.symm) hg1 hg2
      · rw [hq] at hg1; injection hg1 with hg1; omega
    intro s t i j gs1 hs1 a b g h1 h2 h3 h4 hne2 hg1 hg2
    rcases old s gs1 i a h1 h2 with ⟨rfl, rfl, rfl⟩ | ⟨n1, gs1', o1, o2⟩
    · rcases old t hs1 j b h3 h4 with ⟨rfl, rfl, rfl⟩ | ⟨n2, hs1', o3, o4⟩
      · rcases hne2 with h5 | h5 <;> exact h5 rfl
      · exact key t hs1' j b g n2 o3 o4 hg1 hg2
    · rcases old t hs1 j b h3 h4 with ⟨rfl, rfl, rfl⟩ | ⟨n2, hs1', o3, o4⟩
      · exact key s gs1' i a g n1 o1 o2 hg2 hg1
      · exact h.idap s t i j gs1' hs1' a b g o1 o2 o3 o4 hne2 hg1 hg2
end
end Go.Proofs.YtfoffneipdkdjaaGreatDoor
namespace Go.Proofs.YtfoffneipdkdjaaGreatDoor
open Go.RowKit

def u64s (ws : List Nat) : List Value := ws.map fun (x : Nat) => .int .u64 (x : Int)
def SetAt (w : World) (g : Nat) (ws : List Nat) : Prop := Blk w g 242 (u64s ws).toArray ∧ ws.length = 4 ∧ ∀ x ∈ ws, x < 18446744073709551616
theorem SetAt.cell {w : World} {g : Nat} {ws : List Nat} (h : SetAt w g ws) {i x : Nat} (hx : ws[i]? = some x) : w.cell? ⟨g, i, none⟩ = some (.int .u64 (x : Int)) := by
  rw [h.1.cell]
  simp [u64s, hx]
theorem and_one64 (x k : Nat) (hx : x < 18446744073709551616) : (bits .and .u64 ((x : Int) / 2 ^ k) 1 == 1) = x.testBit k := by
  have h0 : x / 2 ^ k < 18446744073709551616 := Nat.lt_of_le_of_lt (Nat.div_le_self _ _) hx
  have h1 := u64_and_nat (x / 2 ^ k) 1 h0 (by decide)
  have h2 : ((x / 2 ^ k : Nat) : Int) = (x : Int) / 2 ^ k := by simp
  rw [h2] at h1
  rw [show bits .and .u64 ((x : Int) / 2 ^ k) 1 = bits .and .u64 ((x : Int) / 2 ^ k) ((1 : Nat) : Int) from rfl, h1, Nat.and_one_is_mod, testBit_div, Bool.eq_iff_iff, beq_iff_eq, decide_eq_true_eq]
  omega
set_option maxRecDepth 100000 in
set_option maxHeartbeats 1600000 in
theorem has_any2 {w : World} {g : Nat} {ws : List Nat} {c : Nat} (h : SetAt w g ws) (hc : c < 256) :
    Calls Tryz.prog 177 #[.pointer (some ⟨g, 0, none⟩), .int .u8 (c : Int)] w fun e w' => e = .returned (.bool (hasSet ws c)) ∧ w' = w := by
  obtain ⟨x, hx⟩ : ∃ x, ws[c / 64]? = some x := ⟨_, List.getElem?_eq_getElem (by rw [h.2.1]; omega)⟩
  have c0 := h.cell hx
  have hl := World.block_lt_of_cell? w _ c0
  simp only at hl
  have hci : 0 ≤ (c : Int) ∧ (c : Int) ≤ 255 := by omega
  have hd : ((c : Int) / 64).toNat = c / 64 := by omega
  have hc4 : (c : Int) / 64 < 4 := by omega
  have hc0 : 0 ≤ (c : Int) / 64 := by omega
  replace hc := Lib.hid hc
  go_enter Tryz.func177, Tryz.ntmps177
  have hb := and_one64 x (c % 64) (h.2.2 x (List.mem_of_getElem? hx))
  go_wp2
  go_ret
  refine ⟨?_, rfl⟩
  simp [hasSet, hx]
theorem SetAt.put {w : World} {g : Nat} {ws : List Nat} (h : SetAt w g ws) {i x : Nat} (hx : x < 18446744073709551616) : SetAt (w.setCell ⟨g, i, none⟩ (.int .u64 (x : Int))) g (ws.set i x) := by
  refine ⟨?_, by rw [List.length_set]; exact h.2.1, ?_⟩
  · have := h.1
    unfold Blk at *
    simp [World.setCell, Array.getElem?_modify, this, u64s, List.map_set]
  · intro y hy
    rcases List.mem_or_eq_of_mem_set hy with hy | rfl
    · exact h.2.2 y hy
    · exact hx
theorem i64_and63 (n : Int) : bits .and .i64 n 63 = n % 64 := by
  have h63 : (BitVec.ofInt 64 63).toNat = 2 ^ 6 - 1 := by decide
  have key : (BitVec.ofInt 64 n &&& BitVec.ofInt 64 63).toNat = (n % ((2 ^ 64 : Nat) : Int)).toNat % 2 ^ 6 := by
    rw [BitVec.toNat_and, BitVec.toNat_ofInt, h63, Nat.and_two_pow_sub_one_eq_mod]
  show IntKind.i64.wrap ((BitVec.ofInt 64 n &&& BitVec.ofInt 64 63).toNat : Nat) = n % 64
  rw [key, IntKind.wrap_i64]
  omega
theorem or_bit_lt {x j : Nat} (hx : x < 18446744073709551616) (hj : j < 64) : x ||| 2 ^ j < 18446744073709551616 := Nat.or_lt_two_pow (n := 64) hx (Nat.pow_lt_pow_right (by decide) hj)
theorem addBit_eq {ws : List Nat} {c x : Nat} (h : ws[c / 64]? = some x) : addBit ws c = ws.set (c / 64) (x ||| 2 ^ (c % 64)) := by
  apply List.ext_getElem?
  intro i
  rw [addBit, List.getElem?_modify, List.getElem?_set]
  by_cases hi : c / 64 = i
  · subst hi
    obtain ⟨hl, rfl⟩ := List.getElem?_eq_some_iff.1 h
    simp [hl]
  · simp [hi]
set_option maxRecDepth 100000 in
set_option maxHeartbeats 1600000 in
theorem addSet_any {w : World} {g : Nat} {ws : List Nat} {lo hi : Nat} (h : SetAt w g ws) (hlo : lo < 256) (hhi : hi < 256) :
    Calls Tryz.prog 190 #[.pointer (some ⟨g, 0, none⟩), .int .u8 (lo : Int), .int .u8 (hi : Int)] w fun e w' => e = .returned (.tuple #[]) ∧ SetAt w' g (addSet ws lo hi) ∧ w.grownBy w' (some g) := by
  have hl : g < w.heap.size := World.block_lt_of_cell? w _ (h.cell (i := 0) (List.getElem?_eq_getElem (by rw [h.2.1]; omega)))
  have hli : 0 ≤ (lo : Int) ∧ (lo : Int) ≤ 255 := by omega
  have hhi' : 0 ≤ (hi : Int) ∧ (hi : Int) ≤ 255 := by omega
  replace hlo := Lib.hid hlo
  replace hhi := Lib.hid hhi
  replace h := Lib.hid h
  go_enter Tryz.func190, Tryz.ntmps190
  go_wp2
  go_loopw [6] (fun i wr => ∃ k : Nat, lo + k ≤ 256 ∧ (k = 0 ∨ lo + k ≤ hi + 1) ∧ i = .int .i64 ((lo + k : Nat) : Int) ∧ SetAt wr g ((List.range' lo k).foldl addBit ws) ∧ w.grownBy wr (some g)) (fun i _ => 256 - (intOf i).toNat)
  case atStart => exact ⟨0, by have := hlo.out; omega, .inl rfl, by simp, h.out, World.grownBy.refl _ _⟩
  case round =>
    obtain ⟨k, hk, hk2, rfl, hs, hg⟩ := hrel
    by_cases hlt : lo + k ≤ hi
    · have hc256 : lo + k < 256 := by have := hhi.out; omega
      obtain ⟨x, hx⟩ : ∃ x, ((List.range' lo k).foldl addBit ws)[(lo + k) / 64]? = some x := ⟨_, List.getElem?_eq_getElem (by rw [hs.2.1]; omega)⟩
      have hxl := hs.2.2 x (List.mem_of_getElem? hx)
      have hfold : (List.range' lo (k + 1)).foldl addBit ws = ((List.range' lo k).foldl addBit ws).set ((lo + k) / 64) (x ||| 2 ^ ((lo + k) % 64)) := by
        rw [← addBit_eq hx, List.range'_concat, List.foldl_append]
        simp
      have c0 := hs.cell hx
      have hlw := World.block_lt_of_cell? wr _ c0
      simp only at hlw
      have hor := u64_or_nat x (2 ^ ((lo + k) % 64)) hxl (Nat.pow_lt_pow_right (by decide) (Nat.mod_lt (lo + k) (by decide : 0 < 64)) : 2 ^ ((lo + k) % 64) < 2 ^ 64)
      have hn : lo + (k + 1) = lo + k + 1 := by omega
      have hci : 0 ≤ ((lo + k : Nat) : Int) ∧ ((lo + k : Nat) : Int) ≤ hi := by omega
      replace hfold := Lib.hid hfold
      replace hs := Lib.hid hs
      generalize hck : lo + k = c at *
      have hd : ((c : Int) / 64).toNat = c / 64 := by omega
      have hA : bits .and .i64 (c : Int) 63 = (c : Int) % 64 := i64_and63 c
      have h6 : ((c : Int) % 64).toNat = c % 64 := by omega
      have hW : IntKind.u64.wrap (2 ^ (c % 64)) = 2 ^ (c % 64) := by
        have h8 : (2 : Int) ^ (c % 64) < 2 ^ 64 := by
          have := Nat.pow_lt_pow_right (a := 2) (by decide) (Nat.mod_lt c (by decide : 0 < 64))
          exact_mod_cast this
        have h9 : (0 : Int) < 2 ^ (c % 64) := Int.pow_pos (by decide)
        simp only [IntKind.wrap, IntKind.bits, IntKind.signed]
        simp
        omega
      rw [show ((2 ^ (c % 64) : Nat) : Int) = 2 ^ (c % 64) by simp] at hor
      have hyl := or_bit_lt hxl (Nat.mod_lt c (by decide : 0 < 64))
      generalize x ||| 2 ^ (c % 64) = y at *
      have hc4 : (c : Int) / 64 < 4 := by omega
      have hc0 : 0 ≤ (c : Int) / 64 := by omega
      replace hck := Lib.hid hck
      replace hc256 := Lib.hid hc256
      replace hk := Lib.hid hk
      replace hk2 := Lib.hid hk2
      go_wp2
      refine wp_region_k (by kernel_rfl) ?_
      refine wpAnyK_run (l' := #[true, true, true, true, true, true, true, true, true, true, true, true, false]) [0, 1, 2, 3, 4, 5, 6, 7, 8, 9, 10, 11] 1 up_grows (by kernel_rfl) (by intro c a d v w h; first | (cases d <;> exact h) | exact hQ0 _ _ _ _ _ h) rfl (by kernel_rfl) (by kernel_rfl) ?_
      iterate 12 (refine wpMixC_q rfl (fun K hK => ?_); go_simp; (try go_bits); first | (refine hK.out _ ?_; clear hK K) | (apply Exists.intro; refine ⟨fun wq hsq => ?_, hK.out _ ?_⟩; (first | (go_simp; done) | ((try go_simp); (try simp only [↓IntWalk.iteOmega]); (try go_bits); rfl) | (obtain ⟨hcq, hfq⟩ := bcells hsq; go_simp; done) | (obtain ⟨hcq, hfq⟩ := bcells hsq; (try go_simp); (try simp only [↓IntWalk.iteOmega]); (try go_bits); rfl)); clear hK K))
      refine wpMixC_nil ?_
      refine wpAnyK_last (i := 12) rfl (by kernel_rfl) (by kernel_rfl) (fun wN hN hS K' hK => ?_)
      clear hS
      have hsN : SetAt wN g _ := ⟨(hN.below.block g hlw).trans hs.out.1, hs.out.2⟩
      have c0N := hsN.cell hx
      have f0N := hsN.1.frozen (c / 64)
      have rlN := World.block_lt_of_cell? wN _ c0N
      simp only at rlN
      have hput := hsN.put (i := c / 64) hyl
      rw [← hfold.out] at hput
      replace hput := Lib.hid hput
      have hgN : Hid (w.grownBy _ (some g)) := Lib.hid ((hg.trans (hN.by_none (some g))).trans (grownBy_cell wN ⟨g, c / 64, none⟩ (.int .u64 (y : Int))))
      clear hsN
      go_simp
      refine hK.out _ _ ?_
      clear hK
      go_wp2
      go_roundw
      case rel => exact ⟨k + 1, by rw [hn]; exact hc256.out, .inr (by omega), by rw [hn]; simp, hput.out, hgN.out⟩
      case measure => simp [intOf]; omega
    · have hlt' : ¬ ((lo + k : Nat) : Int) ≤ hi := by omega
      have hke : k = hi + 1 - lo := by omega
      have hsz := hg.size
      have hci : 0 ≤ ((lo + k : Nat) : Int) ∧ ((lo + k : Nat) : Int) ≤ 256 := by omega
      replace hk := Lib.hid hk
      replace hk2 := Lib.hid hk2
      replace hlt := Lib.hid hlt
      replace hke := Lib.hid hke
      go_wp2
      go_end0
      refine ⟨rfl, ?_, hg⟩
      rw [addSet, ← hke.out]
      exact hs
theorem xor_all {x : Nat} (hx : x < 18446744073709551616) : 18446744073709551615 ^^^ x = 18446744073709551615 - x := by
  have := congrArg BitVec.toNat (BitVec.allOnes_xor (x := BitVec.ofNat 64 x))
  rw [BitVec.toNat_xor, BitVec.toNat_not, BitVec.toNat_ofNat, BitVec.toNat_allOnes, Nat.mod_eq_of_lt hx] at this
  simpa using this
def turnTo (k : Nat) (ws : List Nat) : List Nat := (ws.take k).map (fun x => 18446744073709551615 - x) ++ ws.drop k
theorem turnTo_get {k : Nat} {ws : List Nat} : (turnTo k ws)[k]? = ws[k]? := by
  unfold turnTo
  by_cases hk : k ≤ ws.length
  · rw [List.getElem?_append_right (by simp; omega)]
    simp [List.length_take, Nat.min_eq_left hk]
  · rw [List.drop_of_length_le (by omega), List.append_nil, List.getElem?_eq_none (by simp; omega), List.getElem?_eq_none (by omega)]
theorem turnTo_succ {k x : Nat} {ws : List Nat} (h : ws[k]? = some x) : turnTo (k + 1) ws = (turnTo k ws).set k (18446744073709551615 - x) := by
  obtain ⟨hl, rfl⟩ := List.getElem?_eq_some_iff.1 h
  unfold turnTo
  rw [List.set_append_right _ _ (by simp; omega), List.length_map, List.length_take, Nat.min_eq_left (by omega), Nat.sub_self, List.take_succ_eq_append_getElem hl, List.map_append]
  simp only [List.map_cons, List.map_nil, List.append_assoc, List.singleton_append]
  rw [List.drop_eq_getElem_cons hl]
  rfl
set_option maxRecDepth 100000 in
set_option maxHeartbeats 1600000 in
theorem turnSet_any {w : World} {g : Nat} {ws : List Nat} (h : SetAt w g ws) :
    Calls Tryz.prog 189 #[.pointer (some ⟨g, 0, none⟩)] w fun e w' => e = .returned (.tuple #[]) ∧ SetAt w' g (turnSet ws) ∧ w.grownBy w' (some g) := by
  have hl : g < w.heap.size := World.block_lt_of_cell? w _ (h.cell (i := 0) (List.getElem?_eq_getElem (by rw [h.2.1]; omega)))
  have hwl := Lib.hid h.2.1
  replace h := Lib.hid h
  go_enter Tryz.func189, Tryz.ntmps189
  go_wp2
  go_loopw [3] (fun i wr => ∃ k : Nat, k ≤ 4 ∧ i = .int .i64 (k : Int) ∧ SetAt wr g (turnTo k ws) ∧ w.grownBy wr (some g)) (fun i _ => 4 - (intOf i).toNat)
  case atStart => exact ⟨0, by omega, rfl, by simpa [turnTo] using h.out, World.grownBy.refl _ _⟩
  case round =>
    obtain ⟨k, hk, rfl, hs, hg⟩ := hrel
    by_cases hlt : k < 4
    · obtain ⟨x, hx⟩ : ∃ x, ws[k]? = some x := ⟨_, List.getElem?_eq_getElem (by rw [hwl.out]; omega)⟩
      have hfold := turnTo_succ hx
      rw [← turnTo_get] at hx
      have hxl := hs.2.2 x (List.mem_of_getElem? hx)
      have c0 := hs.cell hx
      have hlw := World.block_lt_of_cell? wr _ c0
      simp only at hlw
      have hki : (k : Int) < 4 := by omega
      have hnot : ((18446744073709551615 - x : Nat) : Int) = 18446744073709551615 - (x : Int) := by omega
      have hyl : 18446744073709551615 - x < 18446744073709551616 := by omega
      replace hfold := Lib.hid hfold
      replace hs := Lib.hid hs
      replace hk := Lib.hid hk
      replace hnot := Lib.hid hnot
      have hX : bits BinOp.xor IntKind.u64 (if IntKind.u64.signed = true then -1 else IntKind.u64.max) (x : Int) = ((18446744073709551615 - x : Nat) : Int) := by
        rw [← xor_all hxl]
        exact u64_xor_nat 18446744073709551615 x (by decide) hxl
      replace hX := Lib.hid hX
      go_wp2
      refine wp_region_k (by kernel_rfl) ?_
      refine wpAnyK_run (l' := #[true, true, true, true, true, true, true, true, true, true, false]) [0, 1, 2, 3, 4, 5, 6, 7, 8, 9] 1 up_grows (by kernel_rfl) (by intro c a d v w h; first | (cases d <;> exact h) | exact hQ0 _ _ _ _ _ h) rfl (by kernel_rfl) (by kernel_rfl) ?_
      iterate 10 (refine wpMixC_q rfl (fun K hK => ?_); go_simp; (try go_bits); first | (refine hK.out _ ?_; clear hK K) | (apply Exists.intro; refine ⟨fun wq hsq => ?_, hK.out _ ?_⟩; (first | (go_simp; done) | ((try go_simp); (try simp only [↓IntWalk.iteOmega]); (try go_bits); rfl) | (obtain ⟨hcq, hfq⟩ := bcells hsq; go_simp; done) | (obtain ⟨hcq, hfq⟩ := bcells hsq; (try go_simp); (try simp only [↓IntWalk.iteOmega]); (try go_bits); rfl)); clear hK K))
      refine wpMixC_nil ?_
      refine wpAnyK_last (i := 10) rfl (by kernel_rfl) (by kernel_rfl) (fun wN hN hS K' hK => ?_)
      clear hS
      have hsN : SetAt wN g _ := ⟨(hN.below.block g hlw).trans hs.out.1, hs.out.2⟩
      have c0N := hsN.cell hx
      have f0N := hsN.1.frozen k
      have rlN := World.block_lt_of_cell? wN _ c0N
      simp only at rlN
      have hput := hsN.put (i := k) hyl
      rw [← hfold.out] at hput
      replace hput := Lib.hid hput
      have hgN : Hid (w.grownBy _ (some g)) := Lib.hid ((hg.trans (hN.by_none (some g))).trans (grownBy_cell wN ⟨g, k, none⟩ (.int .u64 ((18446744073709551615 - x : Nat) : Int))))
      clear hsN
      go_simp
      refine hK.out _ _ ?_
      clear hK
      go_wp2
      go_roundw
      case rel => exact ⟨k + 1, by omega, by simp, by rw [hX.out]; exact hput.out, by rw [hX.out]; exact hgN.out⟩
      case measure => simp [intOf]; omega
    · have hlt' : ¬ (k : Int) < 4 := by omega
      have hke : k = 4 := by omega
      replace hk := Lib.hid hk
      replace hlt := Lib.hid hlt
      replace hke := Lib.hid hke
      go_wp2
      go_end0
      refine ⟨rfl, ?_, hg⟩
      have : turnTo k ws = turnSet ws := by
        rw [hke.out, turnTo, turnSet, List.take_of_length_le (by rw [hwl.out]; omega), List.drop_of_length_le (by rw [hwl.out]; omega), List.append_nil]
      rw [← this]
      exact hs
end Go.Proofs.YtfoffneipdkdjaaGreatDoor
namespace Go.Proofs.YtfoffneipdkdjaaGreatDoor
open Go.RowKit

/-- A state in memory: the pointer to its bytes, where to, the slice of where to without a byte. -/
structure StX where
  pv : Value
  next : Nat
  fv : Value
def encSt (x : StX) : List Value := [x.pv, .int .i64 (x.next : Int), x.fv]
def SetV (w : World) (base : Nat) (v : Value) : Option (List Nat) → Prop
  | none => v = .pointer none
  | some ws => ∃ g, v = .pointer (some ⟨g, 0, none⟩) ∧ base ≤ g ∧ SetAt w g ws
structure BAt (w : World) (base gB : Nat) (s : List UInt8) (b : PB) (xs : List StX) (sv : Value) : Prop where
  blk : Blk w gB 211 #[.string ⟨s.toArray⟩, .int .i64 (b.at_ : Int), .int .i64 (b.err : Int), sv]
  le : base ≤ gB
  own : Own w base 230 3 encSt sv xs
  len : xs.length = b.sts.length
  st : ∀ (i : Nat) x y, xs[i]? = some x → b.sts[i]? = some y → x.next = y.next ∧ SetV w base x.pv y.set ∧ Own w base 3 1 encI x.fv y.free
  apart : ∀ (i j : Nat) x y g, xs[i]? = some x → xs[j]? = some y → i ≠ j → x.fv.ownBlock = some g → y.fv.ownBlock ≠ some g
theorem SetAt.grows {w w' : World} {g : Nat} {ws : List Nat} (h : SetAt w g ws) (hg : Grows w w') : SetAt w' g ws := ⟨(hg.below.block g h.1.lt).trans h.1, h.2⟩
theorem SetV.grows {w w' : World} {base : Nat} {v : Value} {o : Option (List Nat)} (h : SetV w base v o) (hg : Grows w w') : SetV w' base v o := by
  cases o with
  | none => exact h
  | some ws => obtain ⟨g, h1, h2, h3⟩ := h; exact ⟨g, h1, h2, h3.grows hg⟩
theorem BAt.grows {w w' : World} {base gB : Nat} {s : List UInt8} {b : PB} {xs : List StX} {sv : Value} (h : BAt w base gB s b xs sv) (hg : Grows w w') : BAt w' base gB s b xs sv where
  blk := (hg.below.block gB h.blk.lt).trans h.blk
  le := h.le
  own := h.own.grows hg
  len := h.len
  st := fun i x y h1 h2 => ⟨(h.st i x y h1 h2).1, (h.st i x y h1 h2).2.1.grows hg, (h.st i x y h1 h2).2.2.grows hg⟩
  apart := h.apart
def pkV (s : List UInt8) (b : PB) : Value := .tuple (match pkP s b with | none => #[.int .u8 0, .bool false] | some c => #[.int .u8 (c.toNat : Int), .bool true])
set_option maxRecDepth 100000 in
set_option maxHeartbeats 1600000 in
theorem peek_any {w : World} {base gB : Nat} {s : List UInt8} {b : PB} {xs : List StX} {sv : Value} (h : BAt w base gB s b xs sv) :
    Calls Tryz.prog 174 #[.pointer (some ⟨gB, 0, none⟩)] w fun e w' => e = .returned (pkV s b) ∧ Grows w w' := by
  have c0 : w.cell? ⟨gB, 0, none⟩ = some (.string ⟨s.toArray⟩) := (h.blk.cell 0).trans rfl
  have c1 : w.cell? ⟨gB, 1, none⟩ = some (.int .i64 (b.at_ : Int)) := (h.blk.cell 1).trans rfl
  have c2 : w.cell? ⟨gB, 2, none⟩ = some (.int .i64 (b.err : Int)) := (h.blk.cell 2).trans rfl
  have hl := h.blk.lt
  have hG : Grows w w := Grows.refl w
  by_cases he : b.err = 0
  · rw [he] at c2
    by_cases ha : b.at_ < s.length
    · have hai : ¬ ((s.length : Nat) : Int) ≤ (b.at_ : Int) := by omega
      have hidx : s[b.at_]? = some s[b.at_] := List.getElem?_eq_getElem ha
      have hv : pkV s b = .tuple #[.int .u8 (s[b.at_].toNat : Int), .bool true] := by simp [pkV, pkP, he, hidx]
      rw [hv]
      clear hv
      replace h := Lib.hid h
      go_enter Tryz.func174, Tryz.ntmps174
      go_wp2
      refine wp_region_k (by kernel_rfl) ?_
      refine wpAnyK_run (l' := #[true, true, true, true, true, true, true, true, true, true, true, true, true, true, true, true, true]) [0, 1, 2, 3, 4, 5, 6, 7, 8, 9, 10, 11, 12, 13, 14, 15, 16] 0 up_grows (by kernel_rfl) (by intro c a d v w h; first | (cases d <;> exact h) | exact hQ0 _ _ _ _ _ h) rfl (by kernel_rfl) (by kernel_rfl) ?_
      iterate 17 (refine wpMixC_q rfl (fun K hK => ?_); go_simp; (try go_bits); first | (refine hK.out _ ?_; clear hK K) | (apply Exists.intro; refine ⟨fun wq hsq => ?_, hK.out _ ?_⟩; (first | (go_simp; done) | ((try go_simp); (try simp only [↓IntWalk.iteOmega]); (try go_bits); rfl) | (obtain ⟨hcq, hfq⟩ := bcells hsq; go_simp; done) | (obtain ⟨hcq, hfq⟩ := bcells hsq; (try go_simp); (try simp only [↓IntWalk.iteOmega]); (try go_bits); rfl)); clear hK K))
      refine wpMixC_nil ?_
      refine wpAnyK_end (by kernel_rfl) (fun wN hN hS => ?_)
      clear hS
      have d0 := (Below.cell (p := ⟨gB, 0, none⟩) hN.below hl).trans c0
      have d1 := (Below.cell (p := ⟨gB, 1, none⟩) hN.below hl).trans c1
      have hl1 := World.block_lt_of_cell? _ _ d0
      simp only at hl1
      replace hG := hG.trans hN
      clear hN c0 c1 c2 hl
      go_wp2
      refine wp_region_k (by kernel_rfl) ?_
      refine wpAnyK_run (l' := #[true, true, true, true, true, true, true, true, true, true, true]) [0, 1, 2, 3, 4, 5, 6, 7, 8, 9, 10] 0 up_grows (by kernel_rfl) (by intro c a d v w h; first | (cases d <;> exact h) | exact hQ0 _ _ _ _ _ h) rfl (by kernel_rfl) (by kernel_rfl) ?_
      iterate 11 (refine wpMixC_q rfl (fun K hK => ?_); go_simp; (try go_bits); first | (refine hK.out _ ?_; clear hK K) | (apply Exists.intro; refine ⟨fun wq hsq => ?_, hK.out _ ?_⟩; (first | (go_simp; done) | ((try go_simp); (try simp only [↓IntWalk.iteOmega]); (try go_bits); rfl) | (obtain ⟨hcq, hfq⟩ := bcells hsq; go_simp; done) | (obtain ⟨hcq, hfq⟩ := bcells hsq; (try go_simp); (try simp only [↓IntWalk.iteOmega]); (try go_bits); rfl)); clear hK K))
      refine wpMixC_nil ?_
      refine wpAnyK_end (by kernel_rfl) (fun wN hN hS => ?_)
      go_wp2
      go_ret2
      exact ⟨rfl, hG.trans hN⟩
    · have hai : ((s.length : Nat) : Int) ≤ (b.at_ : Int) := by omega
      have hidx : s[b.at_]? = none := List.getElem?_eq_none (by omega)
      have hv : pkV s b = .tuple #[.int .u8 0, .bool false] := by simp [pkV, pkP, he, hidx]
      rw [hv]
      clear hv
      replace h := Lib.hid h
      go_enter Tryz.func174, Tryz.ntmps174
      go_wp2
      refine wp_region_k (by kernel_rfl) ?_
      refine wpAnyK_run (l' := #[true, true, true, true, true, true, true, true, true, true, true, true, true, true, true, true, true]) [0, 1, 2, 3, 4, 5, 6, 7, 8, 9, 10, 11, 12, 13, 14, 15, 16] 0 up_grows (by kernel_rfl) (by intro c a d v w h; first | (cases d <;> exact h) | exact hQ0 _ _ _ _ _ h) rfl (by kernel_rfl) (by kernel_rfl) ?_
      iterate 17 (refine wpMixC_q rfl (fun K hK => ?_); go_simp; (try go_bits); first | (refine hK.out _ ?_; clear hK K) | (apply Exists.intro; refine ⟨fun wq hsq => ?_, hK.out _ ?_⟩; (first | (go_simp; done) | ((try go_simp); (try simp only [↓IntWalk.iteOmega]); (try go_bits); rfl) | (obtain ⟨hcq, hfq⟩ := bcells hsq; go_simp; done) | (obtain ⟨hcq, hfq⟩ := bcells hsq; (try go_simp); (try simp only [↓IntWalk.iteOmega]); (try go_bits); rfl)); clear hK K))
      refine wpMixC_nil ?_
      refine wpAnyK_end (by kernel_rfl) (fun wN hN hS => ?_)
      go_wp2
      go_ret2
      exact ⟨rfl, hG.trans hN⟩
  · have hei : ¬ (b.err : Int) = 0 := by omega
    have hv : pkV s b = .tuple #[.int .u8 0, .bool false] := by simp [pkV, pkP, he]
    rw [hv]
    clear hv
    replace h := Lib.hid h
    go_enter Tryz.func174, Tryz.ntmps174
    go_wp2
    refine wp_region_k (by kernel_rfl) ?_
    refine wpAnyK_run (l' := #[true, true, true, true, true, true, true, true, true, true, true, true, true, true, true, true, true]) [0, 1, 2, 3, 4, 5, 6, 7, 8, 9, 10, 11, 12, 13, 14, 15, 16] 0 up_grows (by kernel_rfl) (by intro c a d v w h; first | (cases d <;> exact h) | exact hQ0 _ _ _ _ _ h) rfl (by kernel_rfl) (by kernel_rfl) ?_
    iterate 17 (refine wpMixC_q rfl (fun K hK => ?_); go_simp; (try go_bits); first | (refine hK.out _ ?_; clear hK K) | (apply Exists.intro; refine ⟨fun wq hsq => ?_, hK.out _ ?_⟩; (first | (go_simp; done) | ((try go_simp); (try simp only [↓IntWalk.iteOmega]); (try go_bits); rfl) | (obtain ⟨hcq, hfq⟩ := bcells hsq; go_simp; done) | (obtain ⟨hcq, hfq⟩ := bcells hsq; (try go_simp); (try simp only [↓IntWalk.iteOmega]); (try go_bits); rfl)); clear hK K))
    refine wpMixC_nil ?_
    refine wpAnyK_end (by kernel_rfl) (fun wN hN hS => ?_)
    go_wp2
    go_ret2
    exact ⟨rfl, hG.trans hN⟩
/-- The world but for the builder's own block and for what is new. -/
theorem own_off {α : Type} {w w' : World} {base k m : Nat} {e te : TypeId} {enc : α → List Value} {v : Value} {xs : List α} {cs : Array Value} (h : Own w base e k enc v xs) (hm : Blk w m te cs) (hne : e ≠ te) (hg : w.grownBy w' (some m)) : Own w' base e k enc v xs :=
  h.kept' hg (fun g hgm hv => by
    injection hgm with hgm
    subst hgm
    obtain ⟨cur, hc⟩ := own_block h hv
    unfold Blk at hm
    rw [hm] at hc
    simp only [Option.some.injEq, Obj.cells.injEq] at hc
    exact hne hc.2.1.symm)
theorem SetAt.off {w w' : World} {g m : Nat} {ws : List Nat} {te : TypeId} {cs : Array Value} (h : SetAt w g ws) (hm : Blk w m te cs) (hne : 242 ≠ te) (hg : w.grownBy w' (some m)) : SetAt w' g ws := by
  refine ⟨(hg.block g h.1.lt (fun hh => ?_)).trans h.1, h.2⟩
  injection hh with hh
  subst hh
  have h1 := h.1
  unfold Blk at h1 hm
  rw [hm] at h1
  simp only [Option.some.injEq, Obj.cells.injEq] at h1
  exact hne h1.2.1.symm
theorem SetV.off {w w' : World} {base m : Nat} {v : Value} {o : Option (List Nat)} {te : TypeId} {cs : Array Value} (h : SetV w base v o) (hm : Blk w m te cs) (hne : 242 ≠ te) (hg : w.grownBy w' (some m)) : SetV w' base v o := by
  cases o with
  | none => exact h
  | some ws => obtain ⟨g, h1, h2, h3⟩ := h; exact ⟨g, h1, h2, h3.off hm hne hg⟩
/-- The builder's own cells are written (not its states). -/
theorem BAt.turn {w w' : World} {base gB : Nat} {s : List UInt8} {b b' : PB} {xs : List StX} {sv : Value} (h : BAt w base gB s b xs sv) (hg : w.grownBy w' (some gB)) (hb : b'.sts = b.sts)
    (hc : Blk w' gB 211 #[.string ⟨s.toArray⟩, .int .i64 (b'.at_ : Int), .int .i64 (b'.err : Int), sv]) : BAt w' base gB s b' xs sv where
  blk := hc
  le := h.le
  own := own_off h.own h.blk (by decide) hg
  len := by rw [hb]; exact h.len
  st := fun i x y h1 h2 => by
    rw [hb] at h2
    obtain ⟨a1, a2, a3⟩ := h.st i x y h1 h2
    exact ⟨a1, a2.off h.blk (by decide) hg, own_off a3 h.blk (by decide) hg⟩
  apart := h.apart
end Go.Proofs.YtfoffneipdkdjaaGreatDoor
namespace Go.Proofs.YtfoffneipdkdjaaGreatDoor
open Go.RowKit

set_option maxRecDepth 100000 in
set_option maxHeartbeats 1600000 in
theorem fail_any2 {w : World} {base gB e : Nat} {s : List UInt8} {b : PB} {xs : List StX} {sv : Value} (h : BAt w base gB s b xs sv) :
    Calls Tryz.prog 161 #[.pointer (some ⟨gB, 0, none⟩), .int .i64 (e : Int)] w fun r w' => r = .returned (.tuple #[]) ∧ BAt w' base gB s (failP e b) xs sv ∧ w.grownBy w' (some gB) := by
  have c2 : w.cell? ⟨gB, 2, none⟩ = some (.int .i64 (b.err : Int)) := (h.blk.cell 2).trans rfl
  have f2 := h.blk.frozen 2
  have hl := h.blk.lt
  by_cases he : b.err = 0
  · rw [he] at c2
    have hf : failP e b = { b with err := e } := by simp [failP, he]
    have hset := grownBy_cell w ⟨gB, 2, none⟩ (.int .i64 (e : Int))
    have hB : BAt (w.setCell ⟨gB, 2, none⟩ (.int .i64 (e : Int))) base gB s (failP e b) xs sv := by
      refine h.turn hset (by rw [hf]) ?_
      rw [hf]
      have := h.blk
      unfold Blk at *
      simp [World.setCell, Array.getElem?_modify, this]
    replace hB := Lib.hid hB
    replace hset := Lib.hid hset
    clear hf h
    go_enter Tryz.func161, Tryz.ntmps161
    go_wp2
    go_end0
    exact ⟨rfl, hB.out, hset.out⟩
  · have hei : ¬ (b.err : Int) = 0 := by omega
    have hf : failP e b = b := by simp [failP, he]
    rw [hf]
    clear hf
    replace h := Lib.hid h
    go_enter Tryz.func161, Tryz.ntmps161
    go_wp2
    go_end0
    exact ⟨rfl, h.out, World.grownBy.refl _ _⟩
end Go.Proofs.YtfoffneipdkdjaaGreatDoor
namespace Go.Proofs.YtfoffneipdkdjaaGreatDoor

def frees (l : List PSt) : Nat := (l.map fun x => x.free.length).sum
def costP (b : PB) : Nat := b.sts.length + frees b.sts
theorem frees_modify (l : List PSt) : ∀ (i j : Nat), frees (l.modify i fun x => { x with free := x.free ++ [j] }) ≤ frees l + 1 := by
  induction l with
  | nil => intro i j; simp [frees]
  | cons a l ih =>
    intro i j
    cases i with
    | zero => simp [frees]; omega
    | succ i =>
      have := ih i j
      simp only [frees, List.modify_succ_cons, List.map_cons, List.sum_cons] at this ⊢
      omega
theorem frees_set (l : List PSt) (ws : List Nat) (n : Nat) : ∀ (i : Nat), frees (l.modify i fun x => { x with set := some ws, next := n }) = frees l := by
  induction l with
  | nil => intro i; simp [frees]
  | cons a l ih =>
    intro i
    cases i with
    | zero => simp [frees]
    | succ i =>
      have := ih i
      simp only [frees, List.modify_succ_cons, List.map_cons, List.sum_cons] at this ⊢
      omega
theorem frees_append (l m : List PSt) : frees (l ++ m) = frees l + frees m := by simp [frees]
theorem frees_get {l : List PSt} {i : Nat} {y : PSt} (h : l[i]? = some y) : y.free.length ≤ frees l := by
  have hm : y ∈ l := List.mem_of_getElem? h
  clear h
  induction l with
  | nil => cases hm
  | cons a l ih =>
    simp only [frees, List.map_cons, List.sum_cons] at ih ⊢
    rcases List.mem_cons.1 hm with rfl | hm
    · omega
    · have := ih hm; omega
structure PT (b b' : PB) (c : Int) : Prop where
  at_ : b.at_ ≤ b'.at_
  len : b.sts.length ≤ b'.sts.length
  cost : (costP b' : Int) - 8 * b'.at_ ≤ costP b - 8 * b.at_ + c
theorem PT.refl (b : PB) : PT b b 0 := ⟨Nat.le_refl _, Nat.le_refl _, by omega⟩
theorem PT.trans {a b c : PB} {m n k : Int} (h : PT a b m) (h' : PT b c n) (hk : m + n ≤ k) : PT a c k :=
  ⟨Nat.le_trans h.at_ h'.at_, Nat.le_trans h.len h'.len, by have := h.cost; have := h'.cost; omega⟩
theorem PT.weak {a b : PB} {m k : Int} (h : PT a b m) (hk : m ≤ k) : PT a b k := ⟨h.at_, h.len, by have := h.cost; omega⟩
def WP (s : List UInt8) (k : Nat) (b : PB) : Prop := b.at_ ≤ s.length + k ∧ (b.err = 0 → b.at_ ≤ s.length)
theorem WP.weak {s : List UInt8} {k m : Nat} {b : PB} (h : WP s k b) (hm : k ≤ m) : WP s m b := ⟨by have := h.1; omega, h.2⟩
theorem WP.of_le {s : List UInt8} {k : Nat} {b : PB} (h : b.at_ ≤ s.length) : WP s k b := ⟨by omega, fun _ => h⟩
theorem pk_some {s : List UInt8} {b : PB} {c : UInt8} (h : pkP s b = some c) : b.err = 0 ∧ b.at_ < s.length ∧ s[b.at_]? = some c := by
  unfold pkP at h
  split at h
  · rename_i he
    exact ⟨he, (List.getElem?_eq_some_iff.1 h).1, h⟩
  · cases h
theorem failP_at (e : Nat) (b : PB) : (failP e b).at_ = b.at_ := by unfold failP; split <;> rfl
theorem failP_sts (e : Nat) (b : PB) : (failP e b).sts = b.sts := by unfold failP; split <;> rfl
theorem failP_err {e : Nat} (he : e ≠ 0) (b : PB) : (failP e b).err ≠ 0 := by unfold failP; split <;> assumption
theorem failP_WP {e k : Nat} {s : List UInt8} (he : e ≠ 0) {b : PB} (h : b.at_ ≤ s.length + k) : WP s k (failP e b) := ⟨by rw [failP_at]; exact h, fun h0 => absurd h0 (failP_err he b)⟩
theorem failP_PT (e : Nat) (b : PB) : PT b (failP e b) 0 := ⟨by rw [failP_at]; exact Nat.le_refl _, by rw [failP_sts]; exact Nat.le_refl _, by unfold costP; rw [failP_at, failP_sts]; omega⟩
theorem advP_PT (b : PB) : PT b (advP b) (-8) := ⟨by simp [advP], by simp [advP], by simp [advP, costP]; omega⟩
theorem nodeP_PT (b : PB) : PT b (nodeP b) 1 := ⟨by simp [nodeP], by simp [nodeP], by simp [nodeP, costP, frees, emptySt]; omega⟩
theorem freeP_PT (i j : Nat) (b : PB) : PT b (freeP i j b) 1 := ⟨by simp [freeP], by simp [freeP], by have := frees_modify b.sts i j; simp [freeP, costP]; omega⟩
theorem nodeP_len (b : PB) : (nodeP b).sts.length = b.sts.length + 1 := by simp [nodeP]
theorem freeP_len (i j : Nat) (b : PB) : (freeP i j b).sts.length = b.sts.length := by simp [freeP]
theorem freeP_WP {s : List UInt8} {k i j : Nat} {b : PB} (h : WP s k b) : WP s k (freeP i j b) := h
/-- A part's places are states. -/
def InP (x : PPt) (b : PB) : Prop := x.1 < b.sts.length ∧ x.2 < b.sts.length
theorem InP.mono {x : PPt} {b b' : PB} (h : InP x b) (hl : b.sts.length ≤ b'.sts.length) : InP x b' := ⟨Nat.lt_of_lt_of_le h.1 hl, Nat.lt_of_lt_of_le h.2 hl⟩
theorem oneP_ok (ws : List Nat) (b : PB) : PT b (oneP ws b).1 2 ∧ InP (oneP ws b).2 (oneP ws b).1 ∧ (oneP ws b).1.at_ = b.at_ ∧ (oneP ws b).1.err = b.err := by
  refine ⟨⟨Nat.le_refl _, by simp [oneP, nodeP], ?_⟩, ⟨by simp [oneP, nodeP], by simp [oneP, nodeP]⟩, rfl, rfl⟩
  have : costP (oneP ws b).1 = costP b + 2 := by
    unfold costP oneP
    simp only [List.length_modify, frees_set, nodeP, frees_append, List.length_append]
    simp [frees, emptySt]
    omega
  have h2 : (oneP ws b).1.at_ = b.at_ := rfl
  rw [this, h2]
  omega
theorem oneP_WP {s : List UInt8} {k : Nat} {b : PB} {ws : List Nat} (h : WP s k b) : WP s k (oneP ws b).1 := h
theorem signP_ok {s : List UInt8} {b : PB} (h : b.at_ < s.length) : PT b (signP s b).1 (-8) ∧ WP s 2 (signP s b).1 ∧ (signP s b).1.sts = b.sts ∧ b.at_ < (signP s b).1.at_ := by
  unfold signP
  split
  · split
    · refine ⟨((advP_PT b).trans (advP_PT _) (Int.le_refl _)).trans (failP_PT _ _) (by omega), failP_WP (by decide) (by simp [advP]; omega), by rw [failP_sts]; rfl, by rw [failP_at]; simp [advP]; omega⟩
    · rename_i hc
      have := (pk_some hc).2.1
      refine ⟨(advP_PT b).trans (advP_PT _) (by omega), WP.of_le (by simp [advP] at this ⊢; omega), rfl, by simp [advP]; omega⟩
  · split
    · exact ⟨(advP_PT b).trans (failP_PT _ _) (by omega), failP_WP (by decide) (by simp [advP]; omega), by rw [failP_sts]; rfl, by rw [failP_at]; simp [advP]⟩
    · exact ⟨advP_PT b, WP.of_le (by simp [advP]; omega), rfl, by simp [advP]⟩
def rangeP (s : List UInt8) (r : PB × UInt8) : PB × UInt8 := if pkP s r.1 = some 45 ∧ r.1.at_ + 1 < s.length ∧ s[r.1.at_ + 1]? ≠ some 93 then signP s (advP r.1) else r
theorem rangeP_ok {s : List UInt8} {b : PB} {r : PB × UInt8} (h : PT b r.1 (-8) ∧ WP s 2 r.1 ∧ r.1.sts = b.sts ∧ b.at_ < r.1.at_) : PT b (rangeP s r).1 (-8) ∧ WP s 2 (rangeP s r).1 ∧ (rangeP s r).1.sts = b.sts ∧ b.at_ < (rangeP s r).1.at_ := by
  unfold rangeP
  split
  · rename_i hc
    have h1 := signP_ok (s := s) (b := advP r.1) (by simp [advP]; omega)
    have h2 := h1.1.at_
    exact ⟨(h.1.trans (advP_PT _) (Int.le_refl _)).trans h1.1 (by omega), h1.2.1, by rw [h1.2.2.1]; exact h.2.2.1, by have := h.2.2.2; have h3 : (advP r.1).at_ = r.1.at_ + 1 := rfl; omega⟩
  · exact h
theorem classL_step {s : List UInt8} {f : Nat} {first : Bool} {b : PB} {ws : List Nat} (hf : s.length ≤ f + b.at_) : classL s f first b ws = match pkP s b with
    | none => (failP 2 b, ws)
    | some d =>
      if d = 93 ∧ first = true then (failP 2 b, ws)
      else if d = 93 then (advP b, ws)
      else
        let r := signP s b
        let q := rangeP s r
        classL s (f - 1) false (if q.2.toNat < r.2.toNat then failP 2 q.1 else q.1) (addSet ws r.2.toNat q.2.toNat) := by
  cases f with
  | zero =>
    rw [classL]
    split
    · rfl
    · rename_i hc
      have := (pk_some hc).2.1
      omega
  | succ f => rfl
theorem fixP_ok {s : List UInt8} {b : PB} {q : PB} {p : Prop} [Decidable p] (h : PT b q (-8) ∧ WP s 2 q ∧ q.sts = b.sts ∧ b.at_ < q.at_) :
    PT b (if p then failP 2 q else q) (-8) ∧ WP s 2 (if p then failP 2 q else q) ∧ (if p then failP 2 q else q).sts = b.sts ∧ b.at_ < (if p then failP 2 q else q).at_ := by
  split
  · exact ⟨h.1.trans (failP_PT _ _) (by omega), failP_WP (by decide) h.2.1.1, by rw [failP_sts]; exact h.2.2.1, by rw [failP_at]; exact h.2.2.2⟩
  · exact h
theorem classL_ok (s : List UInt8) : ∀ (f : Nat) (first : Bool) (b : PB) (ws : List Nat), WP s 2 b → PT b (classL s f first b ws).1 0 ∧ WP s 2 (classL s f first b ws).1 ∧ (classL s f first b ws).1.sts = b.sts := by
  intro f
  induction f with
  | zero => intro first b ws hW; exact ⟨failP_PT _ _, failP_WP (by decide) hW.1, failP_sts _ _⟩
  | succ f ih =>
    intro first b ws hW
    rw [classL]
    split
    · exact ⟨failP_PT _ _, failP_WP (by decide) hW.1, failP_sts _ _⟩
    · rename_i d hd
      split
      · exact ⟨failP_PT _ _, failP_WP (by decide) hW.1, failP_sts _ _⟩
      · split
        · exact ⟨(advP_PT b).weak (by omega), WP.of_le (by have := (pk_some hd).2.1; simp [advP]; omega), rfl⟩
        · have h1 := rangeP_ok (signP_ok (pk_some hd).2.1)
          have h2 := fixP_ok (p := (rangeP s (signP s b)).2.toNat < (signP s b).2.toNat) h1
          have h3 := ih false _ (addSet ws (signP s b).2.toNat (rangeP s (signP s b)).2.toNat) h2.2.1
          exact ⟨h2.1.trans h3.1 (by omega), h3.2.1, h3.2.2.trans h2.2.2.1⟩
theorem classP_ok {s : List UInt8} {b : PB} (hW : WP s 2 b) : PT b (classP s b).1 0 ∧ WP s 2 (classP s b).1 ∧ (classP s b).1.sts = b.sts := by
  unfold classP
  split
  · rename_i h
    have h1 := classL_ok s (s.length + 1) true (advP b) zeroW (WP.of_le (by have := (pk_some h).2.1; simp [advP]; omega))
    exact ⟨(advP_PT b).trans h1.1 (by omega), h1.2.1, h1.2.2⟩
  · exact classL_ok s _ true b zeroW hW
/-- What reads alternatives one level deeper. -/
def SubP (s : List UInt8) (k : Nat) (sub : Option (PB → PB × PPt)) : Prop := ∀ f, sub = some f → ∀ b, b.at_ ≤ s.length → PT b (f b).1 5 ∧ WP s k (f b).1 ∧ InP (f b).2 (f b).1
theorem atomP_ok {s : List UInt8} {k : Nat} {sub : Option (PB → PB × PPt)} {c : UInt8} {b : PB} (hs : SubP s k sub) (hk : 2 ≤ k) (hb : b.at_ < s.length) :
    PT b (atomP s sub c b).1 (-6) ∧ WP s (k + 1) (atomP s sub c b).1 ∧ InP (atomP s sub c b).2 (atomP s sub c b).1 := by
  have ha := advP_PT b
  have hal : (advP b).at_ ≤ s.length := by simp [advP]; omega
  unfold atomP
  split
  · split
    · have h1 := oneP_ok zeroW (failP 3 (advP b))
      exact ⟨(ha.trans (failP_PT _ _) (Int.le_refl _)).trans h1.1 (by omega), oneP_WP (failP_WP (by decide) (by omega)), h1.2.1⟩
    · rename_i f
      have h1 := hs f rfl (advP b) hal
      simp only
      split
      · rename_i hp
        refine ⟨(ha.trans h1.1 (Int.le_refl _)).trans (advP_PT _) (by omega), WP.of_le ?_, h1.2.2⟩
        have := (pk_some hp).2.1
        simp [advP] at this ⊢; omega
      · refine ⟨((ha.trans h1.1 (Int.le_refl _)).trans (failP_PT 2 _) (Int.le_refl _)).trans (advP_PT _) (by omega), ?_, ?_⟩
        · have h2 := h1.2.1.1
          refine ⟨by simp only [advP, failP_at] at h2 ⊢; omega, fun h0 => absurd h0 ?_⟩
          exact failP_err (e := 2) (by decide) (f (advP b)).1
        · have := h1.2.2
          refine this.mono ?_
          simp [advP, failP_sts]
  · split
    · have h1 := classP_ok (s := s) (b := advP b) (WP.of_le hal)
      have h2 := oneP_ok (classP s (advP b)).2 (classP s (advP b)).1
      exact ⟨(ha.trans h1.1 (Int.le_refl _)).trans h2.1 (by omega), (oneP_WP h1.2.1).weak (by omega), h2.2.1⟩
    · split
      · have h2 := oneP_ok (turnSet zeroW) (advP b)
        exact ⟨ha.trans h2.1 (by omega), oneP_WP (WP.of_le hal), h2.2.1⟩
      · split
        · split
          · have h2 := oneP_ok (addSet zeroW 0 0) (advP (failP 2 (advP b)))
            refine ⟨((ha.trans (failP_PT 2 _) (Int.le_refl _)).trans (advP_PT _) (Int.le_refl _)).trans h2.1 (by omega), ?_, h2.2.1⟩
            refine oneP_WP ⟨by simp only [advP, failP_at] at hal ⊢; omega, fun h0 => absurd h0 (failP_err (e := 2) (by decide) (advP b))⟩
          · rename_i d hd
            have h2 := oneP_ok (addSet zeroW d.toNat d.toNat) (advP (advP b))
            refine ⟨(ha.trans (advP_PT _) (Int.le_refl _)).trans h2.1 (by omega), oneP_WP (WP.of_le ?_), h2.2.1⟩
            have := (pk_some hd).2.1
            simp [advP] at this ⊢; omega
        · split
          · have h1 := oneP_ok zeroW (failP 2 (advP b))
            exact ⟨(ha.trans (failP_PT _ _) (Int.le_refl _)).trans h1.1 (by omega), oneP_WP (failP_WP (by decide) (by omega)), h1.2.1⟩
          · have h2 := oneP_ok (addSet zeroW c.toNat c.toNat) (advP b)
            exact ⟨ha.trans h2.1 (by omega), oneP_WP (WP.of_le hal), h2.2.1⟩
theorem timesP_ok {s : List UInt8} {k : Nat} {b : PB} {x : PPt} (hW : WP s k b) (hx : InP x b) : PT b (timesP s b x).1 0 ∧ WP s k (timesP s b x).1 ∧ InP (timesP s b x).2 (timesP s b x).1 := by
  unfold timesP
  split
  · exact ⟨PT.refl b, hW, hx⟩
  · rename_i c hc
    split
    · have h0 := (((((advP_PT b).trans (nodeP_PT _) (Int.le_refl _)).trans (nodeP_PT _) (Int.le_refl _)).trans (freeP_PT b.sts.length x.1 _) (Int.le_refl _)).trans (freeP_PT x.2 (b.sts.length + 1) _) (Int.le_refl _))
      have hW' : WP s k (advP b) := WP.of_le (by have := (pk_some hc).2.1; simp [advP]; omega)
      have hI : b.sts.length + 1 < (freeP x.2 (b.sts.length + 1) (freeP b.sts.length x.1 (nodeP (nodeP (advP b))))).sts.length := by
        simp only [freeP_len, nodeP_len, advP]; omega
      simp only
      have hp : ∀ (p : Prop) [Decidable p] (i j : Nat) (z : PB), WP s k z → PT z (if p then z else freeP i j z) 1 ∧ WP s k (if p then z else freeP i j z) ∧ (if p then z else freeP i j z).sts.length = z.sts.length := by
        intro p _ i j z hz
        split
        · exact ⟨(PT.refl z).weak (by omega), hz, rfl⟩
        · exact ⟨freeP_PT _ _ _, hz, freeP_len _ _ _⟩
      have h1 := hp (c = 43) b.sts.length (b.sts.length + 1) _ (show WP s k (freeP x.2 (b.sts.length + 1) (freeP b.sts.length x.1 (nodeP (nodeP (advP b))))) from hW')
      have h2 := hp (c = 63) x.2 x.1 _ h1.2.1
      refine ⟨(h0.trans h1.1 (Int.le_refl _)).trans h2.1 (by omega), h2.2.1, ?_, ?_⟩
      · rw [h2.2.2, h1.2.2]; omega
      · rw [h2.2.2, h1.2.2]; exact hI
    · exact ⟨PT.refl b, hW, hx⟩
theorem rowL_step {s : List UInt8} {sub : Option (PB → PB × PPt)} {f : Nat} {p : PPt} {b : PB} (hf : s.length ≤ f + b.at_) : rowL s sub f p b = match pkP s b with
  | none => (b, p)
  | some c => if c = 124 ∨ c = 41 then (b, p) else
      let r := atomP s sub c b
      let q := timesP s r.1 r.2
      rowL s sub (f - 1) (p.1, q.2.2) (freeP p.2 q.2.1 q.1) := by
  cases f with
  | zero =>
    rw [rowL]
    split
    · rfl
    · rename_i hc
      have := (pk_some hc).2.1
      omega
  | succ f => rfl
theorem rowL_ok {s : List UInt8} {k : Nat} {sub : Option (PB → PB × PPt)} (hs : SubP s k sub) (hk : 2 ≤ k) : ∀ (f : Nat) (p : PPt) (b : PB), WP s (k + 1) b → InP p b →
    PT b (rowL s sub f p b).1 0 ∧ WP s (k + 1) (rowL s sub f p b).1 ∧ InP (rowL s sub f p b).2 (rowL s sub f p b).1 := by
  intro f
  induction f with
  | zero => intro p b hW hI; exact ⟨PT.refl b, hW, hI⟩
  | succ f ih =>
    intro p b hW hI
    rw [rowL]
    split
    · exact ⟨PT.refl b, hW, hI⟩
    · rename_i c hc
      split
      · exact ⟨PT.refl b, hW, hI⟩
      · have h1 := atomP_ok (c := c) hs hk (pk_some hc).2.1
        have h2 := timesP_ok h1.2.1 h1.2.2
        have h3 := ih (p.1, (timesP s (atomP s sub c b).1 (atomP s sub c b).2).2.2) (freeP p.2 (timesP s (atomP s sub c b).1 (atomP s sub c b).2).2.1 (timesP s (atomP s sub c b).1 (atomP s sub c b).2).1) h2.2.1
          ⟨by rw [freeP_len]; exact Nat.lt_of_lt_of_le hI.1 (Nat.le_trans h1.1.len h2.1.len), by rw [freeP_len]; exact h2.2.2.2⟩
        exact ⟨((h1.1.trans h2.1 (Int.le_refl _)).trans (freeP_PT _ _ _) (Int.le_refl _)).trans h3.1 (by omega), h3.2⟩
theorem rowP_ok {s : List UInt8} {k : Nat} {sub : Option (PB → PB × PPt)} (hs : SubP s k sub) (hk : 2 ≤ k) {b : PB} (hW : WP s (k + 1) b) :
    PT b (rowP s sub b).1 1 ∧ WP s (k + 1) (rowP s sub b).1 ∧ InP (rowP s sub b).2 (rowP s sub b).1 := by
  have h1 := rowL_ok hs hk (s.length + 1) (b.sts.length, b.sts.length) (nodeP b) hW ⟨by rw [nodeP_len]; simp, by rw [nodeP_len]; simp⟩
  exact ⟨(nodeP_PT b).trans h1.1 (by omega), h1.2⟩
theorem eitherL_ok {s : List UInt8} {k : Nat} {sub : Option (PB → PB × PPt)} (hs : SubP s k sub) (hk : 2 ≤ k) : ∀ (f : Nat) (p : PPt) (b : PB), WP s (k + 1) b → InP p b →
    PT b (eitherL s sub f p b).1 3 ∧ WP s (k + 1) (eitherL s sub f p b).1 ∧ InP (eitherL s sub f p b).2 (eitherL s sub f p b).1 := by
  intro f
  induction f with
  | zero => intro p b hW hI; exact ⟨(PT.refl b).weak (by omega), hW, hI⟩
  | succ f ih =>
    intro p b hW hI
    rw [eitherL]
    have h1 := rowP_ok hs hk hW
    have h2 : PT b (freeP (rowP s sub b).2.2 p.2 (freeP p.1 (rowP s sub b).2.1 (rowP s sub b).1)) 3 := (h1.1.trans (freeP_PT _ _ _) (Int.le_refl _)).trans (freeP_PT _ _ _) (by omega)
    have hI2 : InP p (freeP (rowP s sub b).2.2 p.2 (freeP p.1 (rowP s sub b).2.1 (rowP s sub b).1)) := hI.mono h2.len
    split
    · rename_i hp
      have h3 := ih p (advP (freeP (rowP s sub b).2.2 p.2 (freeP p.1 (rowP s sub b).2.1 (rowP s sub b).1))) (WP.of_le (by have := (pk_some hp).2.1; simp [advP, freeP] at this ⊢; omega)) hI2
      exact ⟨(h2.trans (advP_PT _) (Int.le_refl _)).trans h3.1 (by omega), h3.2⟩
    · exact ⟨h2, h1.2.1, hI2⟩
theorem eitherP_ok (s : List UInt8) : ∀ (d : Nat) (b : PB), b.at_ ≤ s.length → PT b (eitherP s d b).1 5 ∧ WP s (3 + d) (eitherP s d b).1 ∧ InP (eitherP s d b).2 (eitherP s d b).1 := by
  have hst : ∀ (sub : Option (PB → PB × PPt)) (k : Nat) (b : PB), SubP s k sub → 2 ≤ k → b.at_ ≤ s.length → PT b (eitherL s sub (s.length + 1) (b.sts.length, b.sts.length + 1) (nodeP (nodeP b))).1 5 ∧ WP s (k + 1) (eitherL s sub (s.length + 1) (b.sts.length, b.sts.length + 1) (nodeP (nodeP b))).1 ∧ InP (eitherL s sub (s.length + 1) (b.sts.length, b.sts.length + 1) (nodeP (nodeP b))).2 (eitherL s sub (s.length + 1) (b.sts.length, b.sts.length + 1) (nodeP (nodeP b))).1 := by
    intro sub k b hs hk hb
    have h1 := eitherL_ok hs hk (s.length + 1) (b.sts.length, b.sts.length + 1) (nodeP (nodeP b)) (WP.of_le hb) ⟨by simp only [nodeP_len]; omega, by simp only [nodeP_len]; omega⟩
    exact ⟨((nodeP_PT b).trans (nodeP_PT _) (Int.le_refl _)).trans h1.1 (by omega), h1.2⟩
  intro d
  induction d with
  | zero => intro b hb; exact hst none 2 b (fun f hf => by cases hf) (by omega) hb
  | succ d ih =>
    intro b hb
    have := hst (some (eitherP s d)) (3 + d) b (fun f hf b hb => by injection hf with hf; subst hf; exact ih b hb) (by omega) hb
    exact ⟨this.1, this.2.1.weak (by omega), this.2.2⟩
end Go.Proofs.YtfoffneipdkdjaaGreatDoor
namespace Go.Proofs.YtfoffneipdkdjaaGreatDoor
open Go.RowKit

theorem T_st : SliceT Tryz.prog 209 230 3 40 := SliceT.mk' (z := .agg #[.pointer none, .int .i64 0, .slice none 0 0]) Tryz.underlying209 (by kernel_rfl) rfl (by omega)
def newSt : StX := ⟨.pointer none, 0, .slice none 0 0⟩
theorem oneSt : ∀ u ∈ encSt newSt, u.oneCell' = true := by intro u hu; simp [encSt, newSt] at hu; rcases hu with rfl | rfl | rfl <;> rfl
theorem hkSt : ∀ x, (encSt x).length = 3 := fun _ => rfl
/-- Nothing below 'base' has turned, nor any block but those of the types T. -/
structure TKeep (T : List TypeId) (base : Nat) (w w' : World) : Prop where
  below : Below base w w'
  kept : ∀ (g : Nat) (cur : Array Value) (te : TypeId) (fz : Nat × Nat), w.heap[g]? = some (Obj.cells cur te fz) → te ∉ T → w'.heap[g]? = w.heap[g]?
theorem TKeep.refl (T : List TypeId) (base : Nat) (w : World) : TKeep T base w w := ⟨Below.refl _ _, fun _ _ _ _ _ _ => rfl⟩
theorem TKeep.trans {T : List TypeId} {base : Nat} {a b c : World} (h : TKeep T base a b) (k : TKeep T base b c) : TKeep T base a c :=
  ⟨h.below.trans k.below, fun g cur te fz hg ht => (k.kept g cur te fz ((h.kept g cur te fz hg ht).trans hg) ht).trans (h.kept g cur te fz hg ht)⟩
theorem TKeep.mono {T T' : List TypeId} {base : Nat} {a b : World} (h : TKeep T base a b) (hT : ∀ t ∈ T, t ∈ T') : TKeep T' base a b :=
  ⟨h.below, fun g cur te fz hg ht => h.kept g cur te fz hg fun hh => ht (hT _ hh)⟩
theorem heap_lt {w : World} {g : Nat} {o : Obj} (h : w.heap[g]? = some o) : g < w.heap.size := (Array.getElem?_eq_some_iff.1 h).1
theorem TKeep.grows {T : List TypeId} {base : Nat} {a b : World} (hg : Grows a b) (hb : base ≤ a.heap.size) : TKeep T base a b :=
  ⟨Below.mono hg.below hb, fun g _ _ _ h _ => hg.below.block g (heap_lt h)⟩
theorem TKeep.size {T : List TypeId} {base : Nat} {a b : World} (h : TKeep T base a b) : a.heap.size ≤ b.heap.size := h.below.size
theorem TKeep.blk {T : List TypeId} {base g : Nat} {a b : World} {te : TypeId} {cs : Array Value} (h : TKeep T base a b) (hb : Blk a g te cs) (ht : te ∉ T) : Blk b g te cs := (h.kept g _ _ _ hb ht).trans hb
theorem TKeep.row {T : List TypeId} {base : Nat} {w w' : World} {row : Option Nat} (hg : w.grownBy w' row) (hb : base ≤ w.heap.size) (hr : ∀ m, row = some m → base ≤ m ∧ ∃ te cs, te ∈ T ∧ Blk w m te cs) : TKeep T base w w' := by
  refine ⟨⟨hg.os, hg.tape, hg.output, hg.size, fun k hk => hg.block k (Nat.lt_of_lt_of_le hk hb) (fun e => ?_)⟩, fun g cur te fz h ht => hg.block g (heap_lt h) (fun e => ?_)⟩
  · have := (hr k e.symm).1; omega
  · obtain ⟨_, te', cs, hT, hB⟩ := hr g e.symm
    unfold Blk at hB
    rw [h] at hB
    simp only [Option.some.injEq, Obj.cells.injEq] at hB
    exact ht (hB.2.1 ▸ hT)
theorem TKeep.setCell {T : List TypeId} {base g i : Nat} {w : World} {te : TypeId} {cs : Array Value} (hB : Blk w g te cs) (hb : base ≤ g) (ht : te ∈ T) (u : Value) : TKeep T base w (w.setCell ⟨g, i, none⟩ u) :=
  TKeep.row (grownBy_cell w ⟨g, i, none⟩ u) (by have := hB.lt; omega) (fun m hm => by injection hm with hm; subst hm; exact ⟨hb, te, cs, ht, hB⟩)
theorem Own.blk_ {α : Type} {w : World} {base k : Nat} {e : TypeId} {enc : α → List Value} {v : Value} {xs : List α} (h : Own w base e k enc v xs) : ∀ m, v.ownBlock = some m → base ≤ m ∧ ∃ cs, Blk w m e cs := fun m hm => by
  obtain ⟨cur, hc⟩ := own_block h hm
  exact ⟨(World.ownsRow.lt h m hm).1, cur, hc⟩
theorem own_form2 {α : Type} {w : World} {b0 k : Nat} {e : TypeId} {enc : α → List Value} {v : Value} {xs : List α} (h : Own w b0 e k enc v xs) (h0 : 0 < xs.length) : ∃ gb cap, v = .slice (some ⟨gb, 0, none⟩) xs.length cap := by
  rcases h.2 with ⟨_, h6⟩ | ⟨g, cap, _, h5, _⟩
  · omega
  · exact ⟨g, cap, h5⟩
/-- Rows and sets lie apart by their types. -/
theorem SetV.kept {w w' : World} {base : Nat} {v : Value} {o : Option (List Nat)} {row : Option Nat} (h : SetV w base v o) (hg : w.grownBy w' row) (hr : ∀ m, row = some m → ∃ te cs, 242 ≠ te ∧ Blk w m te cs) : SetV w' base v o := by
  cases row with
  | none =>
    cases o with
    | none => exact h
    | some ws => obtain ⟨g, h1, h2, h3⟩ := h; exact ⟨g, h1, h2, (hg.block g h3.1.lt (by simp)).trans h3.1, h3.2⟩
  | some m => obtain ⟨te, cs, hne, hB⟩ := hr m rfl; exact h.off hB hne hg
theorem Own.keptT {α : Type} {w w' : World} {base k : Nat} {e : TypeId} {enc : α → List Value} {v : Value} {xs : List α} {row : Option Nat} (h : Own w base e k enc v xs) (hg : w.grownBy w' row) (hr : ∀ m, row = some m → ∃ te cs, e ≠ te ∧ Blk w m te cs) : Own w' base e k enc v xs :=
  h.kept' hg (fun g hgm => by obtain ⟨te, cs, hne, hB⟩ := hr g hgm; exact own_ne h hB hne)
/-- One state more. -/
theorem BAt.push {w w2 : World} {base gB : Nat} {s : List UInt8} {b : PB} {xs : List StX} {sv sv' : Value} (h : BAt w base gB s b xs sv) (hO : Own w2 base 230 3 encSt sv' (xs ++ [newSt])) (hg : w.grownBy w2 sv.ownBlock) :
    BAt (w2.setCell ⟨gB, 3, none⟩ sv') base gB s (nodeP b) (xs ++ [newSt]) sv' := by
  have hrow : ∀ (e : TypeId), e ≠ 230 → ∀ m, sv.ownBlock = some m → ∃ te cs, e ≠ te ∧ Blk w m te cs := fun e he m hm => by
    obtain ⟨_, cs, hB⟩ := h.own.blk_ m hm
    exact ⟨_, cs, he, hB⟩
  have hb2 : Blk w2 gB 211 #[.string ⟨s.toArray⟩, .int .i64 (b.at_ : Int), .int .i64 (b.err : Int), sv] := (hg.block gB h.blk.lt (fun e => own_ne h.own h.blk (by decide) e.symm)).trans h.blk
  have hset := grownBy_cell w2 ⟨gB, 3, none⟩ sv'
  refine ⟨?_, h.le, own_off hO hb2 (by decide) hset, by simp [nodeP, h.len], ?_, ?_⟩
  · have := hb2.set_ 3 sv'
    simpa [nodeP] using this
  · intro i x y h1 h2
    rcases Nat.lt_or_ge i xs.length with hi | hi
    · rw [List.getElem?_append_left hi] at h1
      simp only [nodeP] at h2
      rw [List.getElem?_append_left (by rw [← h.len]; exact hi)] at h2
      obtain ⟨a1, a2, a3⟩ := h.st i x y h1 h2
      exact ⟨a1, (a2.kept hg (hrow _ (by decide))).off hb2 (by decide) hset, own_off (a3.keptT hg (hrow _ (by decide))) hb2 (by decide) hset⟩
    · have hi' : i = xs.length := by
        have := (List.getElem?_eq_some_iff.1 h1).1
        simp at this; omega
      subst hi'
      simp only [nodeP] at h2
      rw [List.getElem?_append_right (Nat.le_refl _)] at h1
      rw [h.len, List.getElem?_append_right (Nat.le_refl _)] at h2
      simp at h1 h2
      subst h1 h2
      exact ⟨rfl, rfl, Own.nil_ _ _ _ _ _⟩
  · have old : ∀ (i : Nat) x, (xs ++ [newSt])[i]? = some x → xs[i]? = some x ∨ x = newSt := fun i x h1 => by
      rcases Nat.lt_or_ge i xs.length with hi | hi
      · rw [List.getElem?_append_left hi] at h1; exact .inl h1
      · rw [List.getElem?_append_right hi] at h1
        right
        have := List.mem_of_getElem? h1
        simpa using this
    intro i j x y g h1 h2 hne hg1 hg2
    rcases old i x h1 with h1 | rfl
    · rcases old j y h2 with h2 | rfl
      · exact h.apart i j x y g h1 h2 hne hg1 hg2
      · cases hg2
    · cases hg1
/-- One cell of one state is another. -/
theorem BAt.upd {w w1 : World} {base gB g n cap i j : Nat} {s : List UInt8} {b : PB} {xs : List StX} {x x' : StX} {y y' : PSt} {u : Value} {row : Option Nat} (h : BAt w base gB s b xs (.slice (some ⟨g, 0, none⟩) n cap))
    (hx : xs[i]? = some x) (hy : b.sts[i]? = some y) (hj : j < 3) (hg : w.grownBy w1 row) (hrow : row = none ∨ row = x.fv.ownBlock)
    (hn : x'.next = y'.next) (hS : SetV w1 base x'.pv y'.set) (hO : Own w1 base 3 1 encI x'.fv y'.free) (hf : x'.fv.ownBlock = x.fv.ownBlock ∨ ∃ m, x'.fv.ownBlock = some m ∧ w.heap.size ≤ m) (henc : encSt x' = (encSt x).set j u) :
    BAt (w1.setCell ⟨g, i * 3 + j, none⟩ u) base gB s { b with sts := b.sts.set i y' } (xs.set i x') (.slice (some ⟨g, 0, none⟩) n cap) := by
  have hil : i < xs.length := (List.getElem?_eq_some_iff.1 hx).1
  obtain ⟨ax, bx, cx⟩ := h.st i x y hx hy
  have hnl := h.own.len hkSt
  have hr : ∀ (e : TypeId), e ≠ 3 → ∀ m, row = some m → ∃ te cs, e ≠ te ∧ Blk w m te cs := fun e he m hm => by
    rcases hrow with h0 | h0
    · rw [h0] at hm; cases hm
    · rw [h0] at hm
      obtain ⟨_, cs, hB⟩ := cx.blk_ m hm
      exact ⟨_, cs, he, hB⟩
  obtain ⟨_, curv, hcv⟩ := h.own.blk_ g rfl
  have hnerow : ∀ m te cs, Blk w m te cs → te ≠ 3 → some m ≠ row := fun m te cs hB ht e => by
    obtain ⟨te', cs', hne, hB'⟩ := hr te ht m e.symm
    unfold Blk at hB hB'
    rw [hB] at hB'
    simp only [Option.some.injEq, Obj.cells.injEq] at hB'
    exact hne hB'.2.1
  have hb1 : Blk w1 gB 211 #[.string ⟨s.toArray⟩, .int .i64 (b.at_ : Int), .int .i64 (b.err : Int), .slice (some ⟨g, 0, none⟩) n cap] := (hg.block gB h.blk.lt (hnerow _ _ _ h.blk (by decide))).trans h.blk
  have hcv1 : Blk w1 g 230 curv := (hg.block g hcv.lt (hnerow _ _ _ hcv (by decide))).trans hcv
  have hset := grownBy_cell w1 ⟨g, i * 3 + j, none⟩ u
  have hgB : gB ≠ g := fun e => by
    subst e
    have := h.blk
    unfold Blk at this hcv
    rw [this] at hcv
    simp only [Option.some.injEq, Obj.cells.injEq] at hcv
    exact absurd hcv.2.1 (by decide)
  have hO1 := h.own.keptT hg (hr _ (by decide))
  refine ⟨hb1.far (by simpa using hgB) u, h.le, hO1.setOne hkSt (by omega) (by omega) hj (fun z hz => by rw [hx] at hz; injection hz with hz; subst hz; exact henc), by simp [h.len], ?_, ?_⟩
  · intro k a c h1 h2
    by_cases hki : i = k
    · subst hki
      rw [List.getElem?_set_self hil] at h1
      rw [List.getElem?_set_self (by rw [← h.len]; exact hil)] at h2
      injection h1 with h1; injection h2 with h2
      subst h1 h2
      exact ⟨hn, hS.off hcv1 (by decide) hset, own_off hO hcv1 (by decide) hset⟩
    · rw [List.getElem?_set_ne hki] at h1 h2
      obtain ⟨a1, a2, a3⟩ := h.st k a c h1 h2
      refine ⟨a1, (a2.kept hg (hr _ (by decide))).off hcv1 (by decide) hset, own_off (a3.kept' hg (fun m hm hv => ?_)) hcv1 (by decide) hset⟩
      rcases hrow with h0 | h0
      · rw [h0] at hm; cases hm
      · rw [h0] at hm
        exact h.apart i k x a m hx h1 hki hm hv
  · have far : ∀ (k : Nat) a m, xs[k]? = some a → k ≠ i → x'.fv.ownBlock = some m → a.fv.ownBlock ≠ some m := fun k a m h1 hki hm hv => by
      rcases hf with h0 | ⟨m', h0, hle⟩
      · rw [h0] at hm
        exact h.apart i k x a m hx h1 (Ne.symm hki) hm hv
      · rw [h0] at hm
        injection hm with hm
        subst hm
        obtain ⟨c, hc⟩ : ∃ c, b.sts[k]? = some c := ⟨_, List.getElem?_eq_getElem (by rw [← h.len]; exact (List.getElem?_eq_some_iff.1 h1).1)⟩
        have := own_lt (h.st k a c h1 hc).2.2 hv
        omega
    intro k l a c m h1 h2 hkl hm1 hm2
    by_cases hki : i = k
    · subst hki
      rw [List.getElem?_set_self hil] at h1
      injection h1 with h1; subst h1
      rw [List.getElem?_set_ne hkl] at h2
      exact far l c m h2 (Ne.symm hkl) hm1 hm2
    · rw [List.getElem?_set_ne hki] at h1
      by_cases hli : i = l
      · subst hli
        rw [List.getElem?_set_self hil] at h2
        injection h2 with h2; subst h2
        exact far k a m h1 (Ne.symm hki) hm2 hm1
      · rw [List.getElem?_set_ne hli] at h2
        exact h.apart k l a c m h1 h2 hkl hm1 hm2
end Go.Proofs.YtfoffneipdkdjaaGreatDoor
namespace Go.Proofs.YtfoffneipdkdjaaGreatDoor
open Go.RowKit

def TB : List TypeId := [211, 230, 3]
set_option maxRecDepth 100000 in
set_option maxHeartbeats 1600000 in
theorem node_any {w : World} {base gB : Nat} {s : List UInt8} {b : PB} {xs : List StX} {sv : Value} (h : BAt w base gB s b xs sv) (hb : base ≤ w.heap.size) (hn : b.sts.length < 1000000000) :
    Calls Tryz.prog 171 #[.pointer (some ⟨gB, 0, none⟩)] w fun r w' => r = .returned (.int .i64 (b.sts.length : Int)) ∧ ∃ sv', BAt w' base gB s (nodeP b) (xs ++ [newSt]) sv' ∧ TKeep TB base w w' := by
  have c3 : w.cell? ⟨gB, 3, none⟩ = some sv := (h.blk.cell 3).trans rfl
  have f3 := h.blk.frozen 3
  have hl := h.blk.lt
  have hO := h.own
  have hlen := h.len
  replace h := Lib.hid h
  replace hO := Lib.hid hO
  go_enter Tryz.func171, Tryz.ntmps171
  have hrow : ∀ m, sv.ownBlock = some m → some gB ≠ some m := fun m hm e => by injection e with e; subst e; exact own_ne hO.out h.out.blk (by decide) hm
  replace hrow := Lib.hid hrow
  go_wp2_with (at_builtin; refine wpList_grown (x := newSt) T_st rfl (.tmp 7) (.tmp 9) rfl (hO.out.alloc _) rfl ⟨w.heap.size, 0, none⟩ rfl rfl (news_of (by exact heap_alloc_new w _)) oneSt (by simp; omega) (by unfold maxLen; omega) (by omega) (fun v8 w8 hO8 hgr hat => ?_); obtain ⟨A8, c8, rfl, -⟩ := hO8.arr hkSt; (have hP := Lib.hid (BAt.push (h.out.grows ((Grows.refl w).alloc _)) hO8 hgr)); (have hK8 := Lib.hid (TKeep.row (T := TB) (base := base) hgr (by simp; omega) (fun m hm => by obtain ⟨a1, cs, a2⟩ := (hO.out.alloc _).blk_ m hm; exact ⟨a1, _, cs, by decide, a2⟩))); (have hB8 : Blk w8 gB _ _ := (hgr.block gB (by simp; omega) (fun e => hrow.out gB e.symm rfl)).trans (h.out.blk.alloc _)); (have c8 := hB8.cell 3); (have f8 := hB8.frozen 3); (have l8 := hB8.lt); (replace hB8 := Lib.hid hB8); (replace hO8 := Lib.hid hO8); (replace hgr := Lib.hid hgr); clear hat)
  go_ret
  have hP2 := hP.out
  rw [show (xs ++ [newSt]).length = b.sts.length + 1 by simp [hlen]] at hP2
  refine ⟨by simp, _, hP2, ?_⟩
  exact ((TKeep.grows ((Grows.refl w).alloc _) hb).trans hK8.out).trans (TKeep.setCell hB8.out h.out.le (by decide) _)
/-- The one slice of ints that an append takes. -/
theorem T_int : SliceT Tryz.prog 53 3 1 8 := SliceT.mk' (z := .int .i64 0) Tryz.underlying53 (by kernel_rfl) rfl (by omega)
theorem freeP_eq {b : PB} {i j : Nat} {y : PSt} (hy : b.sts[i]? = some y) : freeP i j b = { b with sts := b.sts.set i { y with free := y.free ++ [j] } } := by
  obtain ⟨hl, rfl⟩ := List.getElem?_eq_some_iff.1 hy
  unfold freeP
  congr 1
  apply List.ext_getElem?
  intro k
  rw [List.getElem?_modify, List.getElem?_set]
  by_cases hk : i = k
  · subst hk; simp [hl]
  · simp [hk]
set_option maxRecDepth 100000 in
set_option maxHeartbeats 1600000 in
theorem free_any {w : World} {base gB i j : Nat} {s : List UInt8} {b : PB} {xs : List StX} {sv : Value} (h : BAt w base gB s b xs sv) (hb : base ≤ w.heap.size) (hi : i < b.sts.length) (hn : costP b < 1000000000) :
    Calls Tryz.prog 173 #[.pointer (some ⟨gB, 0, none⟩), .int .i64 (i : Int), .int .i64 (j : Int)] w fun r w' => r = .returned (.tuple #[]) ∧ ∃ xs', BAt w' base gB s (freeP i j b) xs' sv ∧ TKeep TB base w w' := by
  obtain ⟨y, hy⟩ : ∃ y, b.sts[i]? = some y := ⟨_, List.getElem?_eq_getElem hi⟩
  obtain ⟨x, hx⟩ : ∃ x, xs[i]? = some x := ⟨_, List.getElem?_eq_getElem (by rw [h.len]; exact hi)⟩
  have hil : i < xs.length := by rw [h.len]; exact hi
  obtain ⟨g, cap, hsv⟩ := own_form2 h.own (by omega)
  generalize hxl : xs.length = n at *
  subst hsv
  obtain ⟨x', hx', hcell, hfrz⟩ := h.own.at_ hkSt hil
  rw [hx] at hx'
  injection hx' with hx'
  subst hx'
  have c3 : w.cell? ⟨gB, 3, none⟩ = some (.slice (some ⟨g, 0, none⟩) n cap) := (h.blk.cell 3).trans rfl
  have c2 : w.cell? ⟨g, i * 3 + 2, none⟩ = some x.fv := hcell 2 _ rfl
  have hl := h.blk.lt
  have hgl := World.block_lt_of_cell? w _ c2
  simp only at hgl
  obtain ⟨hs1, hs2, hs3⟩ := h.st i x y hx hy
  have hyl : y.free.length < 1000000000 := by have := frees_get hy; unfold costP at hn; omega
  obtain ⟨curg, hcg⟩ := own_block h.own (g := g) rfl
  have hr1 : some gB ≠ x.fv.ownBlock := fun e => own_ne hs3 h.blk (by decide) e.symm
  have hr2 : some g ≠ x.fv.ownBlock := fun e => own_ne hs3 hcg (by decide) e.symm
  have hii : (i : Int) < (n : Int) := by omega
  generalize hrow : x.fv.ownBlock = row at *
  replace hrow := Lib.hid hrow
  replace hxl := Lib.hid hxl
  replace hs1 := Lib.hid hs1
  replace hs2 := Lib.hid hs2
  replace hs3 := Lib.hid hs3
  replace hyl := Lib.hid hyl
  replace hx := Lib.hid hx
  replace hy := Lib.hid hy
  replace hn := Lib.hid hn
  replace hcg := Lib.hid hcg
  replace hb := Lib.hid hb
  have hG := Lib.hid (Grows.refl w)
  replace h := Lib.hid h
  clear hcell hfrz hi hil
  go_enter Tryz.func173, Tryz.ntmps173
  go_wp2
  refine wp_region_kg (row) (by kernel_rfl) ?_
  refine wpAnyK_run (l' := #[true, true, true, true, true, true, true, true, true, true, true, true, true, true, false, false, false, false, false]) [0, 1, 2, 3, 4, 5, 6, 7, 8, 9, 10, 11, 12, 13] 5 up_grown (by kernel_rfl) (by intro c a d v w h; first | (cases d <;> exact h) | exact hQ0 _ _ _ _ _ h) rfl (by kernel_rfl) (by kernel_rfl) ?_
  iterate 14 (refine wpMixC_q rfl (fun K hK => ?_); go_simp; (try go_bits); first | (refine hK.out _ ?_; clear hK K) | (apply Exists.intro; refine ⟨fun wq hsq => ?_, hK.out _ ?_⟩; (first | (go_simp; done) | ((try go_simp); (try simp only [↓IntWalk.iteOmega]); (try go_bits); rfl) | (obtain ⟨hcq, hfq⟩ := bcellsG hsq; go_simp; done) | (obtain ⟨hcq, hfq⟩ := bcellsG hsq; (try go_simp); (try simp only [↓IntWalk.iteOmega]); (try go_bits); rfl)); clear hK K))
  refine wpMixC_nil ?_
  refine wpAnyK_alt [14] (by kernel_rfl) (by simp) (fun wN hN hS => (AllReadyK.cons rfl (fun K' hK => ?_) AllReadyK.nil))
  try replace h := Lib.hid (h.out.grows hN)
  try replace hs2 := Lib.hid (hs2.out.grows hN)
  try replace hs3 := Lib.hid (hs3.out.grows hN)
  try replace hcg := Lib.hid ((hN.below.block _ (heap_lt hcg.out)).trans hcg.out)
  try replace hG := Lib.hid (hG.out.trans hN)
  try replace hB9 := Lib.hid (hB9.out.grows hN)
  try replace hO4 := Lib.hid (hO4.out.grows hN)
  try replace hby4 := Lib.hid (grownBy_up hby4.out hN)
  clear hN
  go_simp
  refine hK.out _ _ ?_ (fun hS => ?_)
  · exact grownBy_up (by assumption) ((Grows.refl _).alloc _)
  have hB9 := Lib.hid (Blk.new wN 3 #[.int .i64 (j : Int)])
  have hgw : Grows wN (wN.alloc (.cells #[.int .i64 (j : Int)] 3)) := (Grows.refl _).alloc _
  replace h := Lib.hid (h.out.grows hgw)
  replace hs2 := Lib.hid (hs2.out.grows hgw)
  replace hs3 := Lib.hid (hs3.out.grows hgw)
  replace hcg := Lib.hid ((hgw.below.block _ (heap_lt hcg.out)).trans hcg.out)
  replace hG := Lib.hid (hG.out.trans hgw)
  clear hgw
  clear hK hS
  refine wpAnyK_alt [15] (by kernel_rfl) (by simp) (fun wN hN hS => (AllReadyK.cons rfl (fun K' hK => ?_) AllReadyK.nil))
  try replace h := Lib.hid (h.out.grows hN)
  try replace hs2 := Lib.hid (hs2.out.grows hN)
  try replace hs3 := Lib.hid (hs3.out.grows hN)
  try replace hcg := Lib.hid ((hN.below.block _ (heap_lt hcg.out)).trans hcg.out)
  try replace hG := Lib.hid (hG.out.trans hN)
  try replace hB9 := Lib.hid (hB9.out.grows hN)
  try replace hO4 := Lib.hid (hO4.out.grows hN)
  try replace hby4 := Lib.hid (grownBy_up hby4.out hN)
  clear hN
  have hbs := Nat.le_trans hb.out hG.out.size
  refine Own.grown (x := j) T_int rfl (.tmp 18) (.tmp 20) rfl hs3.out rfl ⟨_, 0, none⟩ rfl rfl (news_of hB9.out) (fun u hu => by simp [encI] at hu; subst hu; rfl) hbs (by have := hyl.out; unfold maxLen; omega) (by have := hyl.out; omega) (fun v4 w4 hO4 hby4 hv4 => ?_)
  have hrr := hs3.out.blk_
  rw [hrow.out] at hrr
  rw [hrow.out] at hby4
  obtain ⟨gb4, cap4, hv4e⟩ := own_form2 hO4 (by simp)
  obtain ⟨L4, hL4⟩ : ∃ L, L = (y.free ++ [j]).length := ⟨_, rfl⟩
  rw [← hL4] at hv4e
  subst hv4e
  clear hL4
  have hA := h
  have hsA := hs2
  have hcA := hcg
  have hGA := hG
  replace hO4 := Lib.hid hO4
  replace hv4 := Lib.hid hv4
  replace hrr := Lib.hid hrr
  clear hbs hs3 hB9 h hs2 hcg hG
  go_simp
  refine hK.out _ _ ?_ (fun hS => ?_)
  · exact World.grownBy.trans (by assumption) hby4
  replace hby4 := Lib.hid hby4
  clear hK hS
  refine wpAnyK_run (l' := #[true, true, true, true, true, true, true, true, true, true, true, true, true, true, true, true, true, true, false]) [16, 17] 1 up_grown (by kernel_rfl) (by intro c a d v w h; first | (cases d <;> exact h) | exact hQ0 _ _ _ _ _ h) rfl (by kernel_rfl) (by kernel_rfl) ?_
  iterate 2 (refine wpMixC_q rfl (fun K hK => ?_); go_simp; (try go_bits); first | (refine hK.out _ ?_; clear hK K) | (apply Exists.intro; refine ⟨fun wq hsq => ?_, hK.out _ ?_⟩; (first | (go_simp; done) | ((try go_simp); (try simp only [↓IntWalk.iteOmega]); (try go_bits); rfl) | (obtain ⟨hcq, hfq⟩ := bcellsG hsq; go_simp; done) | (obtain ⟨hcq, hfq⟩ := bcellsG hsq; (try go_simp); (try simp only [↓IntWalk.iteOmega]); (try go_bits); rfl)); clear hK K))
  refine wpMixC_nil ?_
  refine wpAnyK_last (i := 18) rfl (by kernel_rfl) (by kernel_rfl) (fun wN hN hS K' hK => ?_)
  try replace h := Lib.hid (h.out.grows hN)
  try replace hs2 := Lib.hid (hs2.out.grows hN)
  try replace hs3 := Lib.hid (hs3.out.grows hN)
  try replace hcg := Lib.hid ((hN.below.block _ (heap_lt hcg.out)).trans hcg.out)
  try replace hG := Lib.hid (hG.out.trans hN)
  try replace hB9 := Lib.hid (hB9.out.grows hN)
  try replace hO4 := Lib.hid (hO4.out.grows hN)
  try replace hby4 := Lib.hid (grownBy_up hby4.out hN)
  clear hS
  have rowN := (hby4.out.block g (heap_lt hcA.out) hr2).trans hcA.out
  have hBN : Blk wN g _ _ := rowN
  have rfN := hBN.frozen (i * 3 + 2)
  have rlN := hBN.lt
  have c2N := (World.cell?_of_block (a := ⟨g, i * 3 + 2, none⟩) (hby4.out.block g (heap_lt hcA.out) hr2)).trans (hGA.out.cell c2)
  go_simp
  refine hK.out _ _ ?_
  clear hK
  go_wp2
  go_end0
  have hgle := (hA.out.own.blk_ g rfl).1
  have hU := BAt.upd (x' := { x with fv := .slice (some ⟨gb4, 0, none⟩) L4 cap4 }) (y' := { y with free := y.free ++ [j] }) (j := 2) hA.out hx.out hy.out (by omega) hby4.out (.inr hrow.out.symm) hs1.out (hsA.out.kept hby4.out (fun m hm => by obtain ⟨_, cs, h⟩ := hrr.out m hm; exact ⟨_, cs, by decide, h⟩)) hO4.out (hv4.out.imp (fun h => h) (fun h => ⟨_, h, Nat.le_refl _⟩)) rfl
  rw [← freeP_eq hy.out] at hU
  refine ⟨rfl, _, hU, ?_⟩
  exact ((TKeep.grows hGA.out hb.out).trans (TKeep.row hby4.out (Nat.le_trans hb.out hGA.out.size) (fun m hm => by obtain ⟨h1, cs, h⟩ := hrr.out m hm; exact ⟨h1, _, cs, by decide, h⟩))).trans (TKeep.setCell hBN hgle (by decide) _)
end Go.Proofs.YtfoffneipdkdjaaGreatDoor
