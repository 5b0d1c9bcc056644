/- Small helpers for all walks: what stays known of a world that has only grown; a drawn region whose operations read and call, in one walk. -/
import Derived.Test.YtfppagcifcppaaaDoorRows
import Derived.WalkKit
import Derived.WalkSpells
import Derived.WalkLawsBesides
import Derived.WalkSmall
import Derived.BigQuiet
import Derived.Deep.QuietTactic
import Derived.Deep.RegionHeld3
import Derived.Lib.Hide
import Derived.Maps.AppendAt
namespace Go.Proofs.YtfppagcifcppaaaDoor
open Go.RowKit

theorem ret_bool {a b : Bool} (h : a = b) : Ending.returned (.bool a) = .returned (.bool b) := by rw [h]
theorem ret_int {k : IntKind} {a b : Int} (h : a = b) : Ending.returned (.int k a) = .returned (.int k b) := by rw [h]

/-- Nothing that was there has turned; there may be new blocks, and draws. -/
def Grows (w w' : World) : Prop := Below w.heap.size w w'
theorem Grows.below {w w' : World} (h : Grows w w') : Below w.heap.size w w' := h
theorem Grows.of {w w' : World} (h : Below w.heap.size w w') : Grows w w' := h
theorem Grows.size {w w' : World} (h : Grows w w') : w.heap.size ≤ w'.heap.size := Below.size h
theorem Grows.lt {w w' : World} {o : Obj} (h : Grows (w.alloc o) w') : w.heap.size < w'.heap.size := by have := Below.size h; simp at this; omega
theorem Grows.lt2 {w w' : World} {o o' : Obj} (h : Grows ((w.alloc o).alloc o') w') : w.heap.size < w'.heap.size ∧ w.heap.size + 1 < w'.heap.size := by have := Below.size h; simp at this; omega
theorem Grows.refl (w : World) : Grows w w := Below.refl _ _
theorem Grows.trans {a b c : World} (h : Grows a b) (k : Grows b c) : Grows a c := Below.trans h (Below.mono k (Below.size h))
theorem Grows.then_ {a b c : World} (h : Grows a b) (k : Below a.heap.size b c) : Grows a c := Below.trans h k
theorem Grows.drew {a b : World} (h : Grows a b) : Grows a b.drew := Below.drew h
theorem Grows.drewN {a b : World} (h : Grows a b) (n : Nat) : Grows a (b.drewN n) := below_drewN h n
theorem Grows.alloc {a b : World} (h : Grows a b) (o : Obj) : Grows a (b.alloc o) := Below.alloc h (Below.size h) o
theorem Grows.setCell {a b : World} (h : Grows a b) {p : Addr} (hp : a.heap.size ≤ p.block) (u : Value) : Grows a (b.setCell p u) := Below.setCell h hp u
theorem Grows.cell {w w' : World} (h : Grows w w') {p : Addr} {v : Value} (hv : w.cell? p = some v) : w'.cell? p = some v :=
  (Below.cell h (World.block_lt_of_cell? w p hv)).trans hv
theorem bcells {W w1 : World} (hb : Grows W w1) : (∀ b o, b < W.heap.size → w1.cell? ⟨b, o, none⟩ = W.cell? ⟨b, o, none⟩) ∧ (∀ b o, b < W.heap.size → w1.frozen? ⟨b, o, none⟩ = W.frozen? ⟨b, o, none⟩) :=
  ⟨fun b o h => Below.cell (p := ⟨b, o, none⟩) hb h, fun b o h => Below.frozen (p := ⟨b, o, none⟩) hb h⟩

theorem bcellsB {B : Nat} {W w1 : World} (hb : Below B W w1) : (∀ b o, b < B → w1.cell? ⟨b, o, none⟩ = W.cell? ⟨b, o, none⟩) ∧ (∀ b o, b < B → w1.frozen? ⟨b, o, none⟩ = W.frozen? ⟨b, o, none⟩) :=
  ⟨fun b o h => Below.cell (p := ⟨b, o, none⟩) hb h, fun b o h => Below.frozen (p := ⟨b, o, none⟩) hb h⟩
theorem Below.alloc2 {B : Nat} {x : World} {o o' : Obj} (hB : B ≤ x.heap.size) : Below B (x.alloc o) (x.alloc o') :=
  ⟨rfl, rfl, rfl, by simp, fun k hk => (Below.heap_alloc x o' k (by omega)).trans (Below.heap_alloc x o k (by omega)).symm⟩
theorem Below.alloc2t {B : Nat} {x y : World} {o o' : Obj} (h : Below B x y) (hs : x.heap.size = y.heap.size) (hB : B ≤ x.heap.size) : Below B (x.alloc o) (y.alloc o') :=
  ⟨h.os, h.tape, h.output, by simp [hs], fun k hk => (Below.heap_alloc y o' k (by omega)).trans ((h.block k hk).trans (Below.heap_alloc x o k (by omega)).symm)⟩

/-- A drawn region whose operations read, and whose calls only grow the world: one walk of the text's order. -/
theorem wp_region_bel {P : Program} {id : Nat} {Q : Exit → Act → World → Prop} {a : Act} {w : World} {l : List Oper} (hm : P.follows .mixedOrders = true) (hB : Region.lexB .any l.toArray = true)
    (h : wpQuiet P l.toArray (Grows w) (fun a' => ∀ w', Grows w w' → Q .normal a' w') l a) : (Code.region id l.toArray true).wp P Q a w :=
  wp_region_quiet (C := Grows w) hm hB (Below.refl _ _).drew (by simpa using h)

/-- A callee's contract inside such a region. -/
theorem Calls.bel {P : Program} {f : FuncId} {args : Array Value} {W w : World} {v : Value} (hw : Grows W w)
    (h : Calls P f args w fun e w' => e = .returned v ∧ Grows w w') : Calls P f args w fun e w'' => e = .returned v ∧ Grows W w'' :=
  h.mono fun _ _ ⟨he, hb⟩ => ⟨he, hw.trans hb⟩
theorem Calls.bel_same {P : Program} {f : FuncId} {args : Array Value} {W w : World} {v : Value} (hw : Grows W w)
    (h : Calls P f args w fun e w' => e = .returned v ∧ w' = w) : Calls P f args w fun e w'' => e = .returned v ∧ Grows W w'' :=
  h.mono fun _ _ ⟨he, hb⟩ => ⟨he, by rw [hb]; exact hw⟩

/-! ### A drawn region, op by op: 'quiet' ones wherever they may stand, the others one by one -/
section
variable {P : Program} {ops : Array Oper} {Q : Exit → Act → World → Prop} {S : World → Prop}
def wpMix (P : Program) (ops : Array Oper) (S : World → Prop) (Q : Exit → Act → World → Prop) : List (Nat × Bool) → Act → World → Prop
  | [], a, w => Q .normal a w
  | (i, true) :: r, a, w => ∃ o v, ops[i]? = some o ∧ YieldsIf P ops S o v a ∧ wpMix P ops S Q r (a.put o.dst v) w
  | (i, false) :: r, a, w => wpOp P ops Q i (fun a' w' => S w' ∧ wpMix P ops S Q r a' w') a w
def mixB (ops : Array Oper) : List (Nat × Bool) → Array Bool → Bool
  | [], l => (Region.ready .any ops l).isEmpty
  | (i, true) :: r, l => (Region.ready .any ops l).contains i && Region.free .any ops l i && mixB ops r (l.setIfInBounds i true)
  | (i, false) :: r, l => decide (Region.ready .any ops l = [i]) && mixB ops r (l.setIfInBounds i true)
theorem wpAnyH_of_mix (hsel : Region.noSelect ops = true) (hQ : ∀ c a d v w, Q (.panic c) (Act.put a d v) w → Q (.panic c) a w) :
    ∀ (r : List (Nat × Bool)) (n : Nat) (l : Array Bool) (a : Act) (w : World), S w → mixB ops r l = true → wpMix P ops S Q r a w → wpAnyH P .any ops Q S (r.length + n) l a w
  | [], n, l, a, w, _, hB, h => wpAnyH_done (by simpa [mixB] using hB) h _
  | (i, true) :: r, n, l, a, w, hS, hB, h => by
    simp only [mixB, Bool.and_eq_true] at hB
    obtain ⟨o, v, ho, hy, h'⟩ := h
    rw [show ((i, true) :: r).length + n = (r.length + n) + 1 by simp only [List.length_cons]; omega]
    exact wpAnyH_take ho hsel hB.1.2 hB.1.1 (fun c a w => hQ c a o.dst v w) hy hS (wpAnyH_of_mix hsel hQ r n _ _ _ hS hB.2 h')
  | (i, false) :: r, n, l, a, w, _, hB, h => by
    simp only [mixB, Bool.and_eq_true, decide_eq_true_eq] at hB
    rw [show ((i, false) :: r).length + n = (r.length + n) + 1 by simp only [List.length_cons]; omega]
    refine wpAnyH_all hB.1 (by simp) fun j hj => ?_
    have hji : j = i := by simpa using hj
    subst hji
    exact wpOp_mono (fun a' w' h' => ⟨h'.1, wpAnyH_of_mix hsel hQ r n _ _ _ h'.1 hB.2 h'.2⟩) h
/-- THE BEGINNING: 'r': the order in which the operations are taken, each with 'quiet?'. -/
theorem wp_region_mix {id : Nat} {a : Act} {w : World} {l : List Oper} (r : List (Nat × Bool)) (hm : P.follows .mixedOrders = true) (hsel : Region.noSelect l.toArray = true)
    (hlen : r.length = l.length) (hB : mixB l.toArray r (Array.replicate l.length false) = true) (hQ : ∀ c a d v w, Q (.panic c) (Act.put a d v) w → Q (.panic c) a w) (hS : S w.drew)
    (h : S w.drew → wpMix P l.toArray S Q r a w.drew) : (Code.region id l.toArray true).wp P Q a w := by
  refine wp_region_held_drew hm hS fun hS' => ?_
  have := wpAnyH_of_mix hsel hQ r 0 (Array.replicate l.length false) a w.drew hS' hB (h hS')
  simpa [hlen] using this
theorem wp_region_mixg {id : Nat} {a : Act} {w : World} {l : List Oper} (r : List (Nat × Bool)) (hm : P.follows .mixedOrders = true) (hsel : Region.noSelect l.toArray = true)
    (hlen : r.length = l.length) (hB : mixB l.toArray r (Array.replicate l.length false) = true) (hQ : ∀ c a d v w, Q (.panic c) (Act.put a d v) w → Q (.panic c) a w)
    (h : wpMix P l.toArray (Grows w) Q r a w.drew) : (Code.region id l.toArray true).wp P Q a w :=
  wp_region_mix (S := Grows w) r hm hsel hlen hB hQ (Grows.refl w).drew (fun _ => h)
theorem wp_region_mixb {id : Nat} {a : Act} {w : World} {l : List Oper} (B : Nat) (r : List (Nat × Bool)) (hm : P.follows .mixedOrders = true) (hsel : Region.noSelect l.toArray = true)
    (hlen : r.length = l.length) (hB : mixB l.toArray r (Array.replicate l.length false) = true) (hQ : ∀ c a d v w, Q (.panic c) (Act.put a d v) w → Q (.panic c) a w)
    (h : wpMix P l.toArray (Below B w) Q r a w.drew) : (Code.region id l.toArray true).wp P Q a w :=
  wp_region_mix (S := Below B w) r hm hsel hlen hB hQ (Below.refl B w).drew (fun _ => h)
theorem wpMix_q {i : Nat} {o : Oper} {r : List (Nat × Bool)} {a : Act} {w : World} (ho : ops[i]? = some o)
    (h : ∀ K : Act → Prop, (∀ a, wpMix P ops S Q r a w → K a) → if Region.wanted o (yielded ops a.tmps) = true then ∃ v, (∀ wq, S wq → (execOp a.eval o).run P wq = .ok (.value v) wq) ∧ K (a.put o.dst v) else K (a.put o.dst undef)) :
    wpMix P ops S Q ((i, true) :: r) a w := by
  have h' := h _ (fun _ h => h)
  split at h'
  · rename_i hw
    obtain ⟨v, h1, h2⟩ := h'
    exact ⟨o, v, ho, .inl ⟨hw, h1⟩, h2⟩
  · rename_i hw
    exact ⟨o, undef, ho, .inr ⟨by simpa using hw, rfl⟩, h'⟩
theorem wpMix_m {i : Nat} {o : Oper} {r : List (Nat × Bool)} {a : Act} {w : World} (ho : ops[i]? = some o)
    (h : ∀ K' : Act → World → Prop, Shut (∀ a w, S w → (S w → wpMix P ops S Q r a w) → K' a w) → if Region.wanted o (yielded ops a.tmps) = true then Oper.wp P o a w K' Q else K' (a.put o.dst undef) w) :
    wpMix P ops S Q ((i, false) :: r) a w :=
  wpOp_step ho (fun K' hK => h K' (fun a w hS hW => hK a w ⟨hS, hW hS⟩))
theorem wpMix_nil {a : Act} {w : World} (h : Q .normal a w) : wpMix P ops S Q [] a w := h
end

/-- A slice's places: n elements of k cells each, which hold what 'enc' says of xs. -/
def Arr {α : Type} (w : World) (k : Nat) (enc : α → List Value) (A : Option Addr) (n : Nat) (xs : List α) : Prop :=
  xs.length = n ∧ (0 < n → ∃ b off, A = some ⟨b, off, none⟩ ∧ b < w.heap.size ∧ ∀ i (h : i < xs.length) j u, (enc xs[i])[j]? = some u → w.cell? ⟨b, off + i * k + j, none⟩ = some u)
section
variable {α : Type} {w w' : World} {k n : Nat} {enc : α → List Value} {A : Option Addr} {xs : List α}
theorem Arr.nil_ : Arr w k enc A 0 ([] : List α) := ⟨rfl, fun h => absurd h (by omega)⟩
theorem Arr.keep (h : Arr w k enc A n xs) (hg : Grows w w') : Arr w' k enc A n xs :=
  ⟨h.1, fun hn => by
    obtain ⟨b, off, e, hb, hc⟩ := h.2 hn
    exact ⟨b, off, e, Nat.lt_of_lt_of_le hb hg.size, fun i hi j u hu => hg.cell (hc i hi j u hu)⟩⟩
theorem Arr.at_ (h : Arr w k enc A n xs) {i : Nat} (hi : i < n) : ∃ b off x, A = some ⟨b, off, none⟩ ∧ b < w.heap.size ∧ xs[i]? = some x ∧ ∀ j u, (enc x)[j]? = some u → w.cell? ⟨b, off + i * k + j, none⟩ = some u := by
  obtain ⟨b, off, e, hb, hc⟩ := h.2 (by omega)
  have hl : i < xs.length := by rw [h.1]; exact hi
  exact ⟨b, off, xs[i], e, hb, List.getElem?_eq_getElem hl, hc i hl⟩
theorem Arr.take (h : Arr w k enc A n xs) {m : Nat} (hm : m ≤ n) : Arr w k enc A m (xs.take m) :=
  ⟨by rw [List.length_take, h.1]; omega, fun hn => by
    obtain ⟨b, off, e, hb, hc⟩ := h.2 (by omega)
    exact ⟨b, off, e, hb, fun i hi j u hu => hc i (by rw [List.length_take] at hi; omega) j u (by rw [List.getElem_take] at hu; exact hu)⟩⟩
end

/-! ### Slices that the call has made itself -/
/-- What the tables say of a slice type: t is []e, an element of k cells and so many bytes. -/
structure SliceT (P : Program) (t e : TypeId) (k bytes : Nat) : Prop where
  und : P.underlying t = some (.slice e)
  info : ∃ i z, P.info? e = some i ∧ i.zero = some z ∧ i.size = k ∧ i.bytes = bytes ∧ z.cells.size = k
  pos : 0 < k
theorem SliceT.mk' {P : Program} {t e : TypeId} {k bytes : Nat} {z : Value} (h1 : P.underlying t = some (.slice e)) (h2 : (P.info? e).map (fun i => (i.zero, i.size, i.bytes)) = some (some z, k, bytes)) (h3 : z.cells.size = k) (h4 : 0 < k) : SliceT P t e k bytes := by
  refine ⟨h1, ?_, h4⟩
  cases hi : P.info? e with
  | none => rw [hi] at h2; cases h2
  | some i =>
    rw [hi] at h2
    simp only [Option.map_some, Option.some.injEq, Prod.mk.injEq] at h2
    exact ⟨i, z, rfl, h2.1, h2.2.1, h2.2.2, h3⟩
def encAll {α : Type} (enc : α → List Value) (xs : List α) : List Value := xs.flatMap enc
theorem encAll_snoc {α : Type} (enc : α → List Value) (xs : List α) (x : α) : encAll enc (xs ++ [x]) = encAll enc xs ++ enc x := by simp [encAll]
theorem encAll_length {α : Type} {enc : α → List Value} {k : Nat} (hk : ∀ x, (enc x).length = k) (xs : List α) : (encAll enc xs).length = xs.length * k := by
  induction xs with
  | nil => simp [encAll]
  | cons x xs ih => simp only [encAll, List.flatMap_cons, List.length_append, List.length_cons, hk] at ih ⊢; rw [ih, Nat.add_mul]; omega
theorem encAll_get {α : Type} {enc : α → List Value} {k : Nat} (hk : ∀ x, (enc x).length = k) : ∀ (xs : List α) (i : Nat) (h : i < xs.length) (j : Nat), j < k → (encAll enc xs)[i * k + j]? = (enc xs[i])[j]?
  | x :: xs, 0, _, j, hj => by
    simp only [encAll, List.flatMap_cons, List.getElem_cons_zero, Nat.zero_mul, Nat.zero_add]
    rw [List.getElem?_append_left (by rw [hk]; exact hj)]
  | x :: xs, i + 1, h, j, hj => by
    simp only [encAll, List.flatMap_cons, List.getElem_cons_succ]
    rw [List.getElem?_append_right (by rw [hk, Nat.add_mul]; omega), hk, show (i + 1) * k + j - k = i * k + j by rw [Nat.add_mul]; omega]
    exact encAll_get hk xs i (by simpa using h) j hj
/-- v: a slice of the call's own, in a row from block 'base' on (or nil), that holds xs. -/
def Own {α : Type} (w : World) (base : Nat) (e : TypeId) (k : Nat) (enc : α → List Value) (v : Value) (xs : List α) : Prop := w.ownsRow base e k v xs.length (encAll enc xs)
section
variable {α : Type} {w w' a : World} {base k n B : Nat} {e : TypeId} {enc : α → List Value} {v : Value} {xs : List α}
theorem Own.nil_ (w : World) (base : Nat) (e : TypeId) (k : Nat) (enc : α → List Value) : Own w base e k enc (.slice none 0 0) [] := World.ownsRow_nil w base e k
theorem Own.drew (h : Own w base e k enc v xs) : Own w.drew base e k enc v xs := h
theorem Own.drewN (h : Own w base e k enc v xs) (n : Nat) : Own (w.drewN n) base e k enc v xs := h
theorem Own.alloc (h : Own w base e k enc v xs) (o : Obj) : Own (w.alloc o) base e k enc v xs := World.ownsRow.alloc h o
theorem Own.grows (h : Own w base e k enc v xs) (hg : Grows w w') : Own w' base e k enc v xs := by
  refine ⟨h.1, ?_⟩
  rcases h.2 with h2 | ⟨g, cap, cur, hv, hb, hh, r⟩
  · exact .inl h2
  · have hlt : g < w.heap.size := by
      rcases Nat.lt_or_ge g w.heap.size with h | h
      · exact h
      · rw [Array.getElem?_eq_none h] at hh; cases hh
    exact .inr ⟨g, cap, cur, hv, hb, (hg.below.block g hlt).trans hh, r⟩
/-- Its value is a slice of just so many, which reads as xs. -/
theorem Own.arr (h : Own w base e k enc v xs) (hk : ∀ x, (enc x).length = k) : ∃ A c, v = .slice A xs.length c ∧ xs.length ≤ c ∧ c ≤ maxLen ∧ Arr w k enc A xs.length xs := by
  rcases h.2 with ⟨rfl, hn⟩ | ⟨g, cap, cur, rfl, hb, hh, hnc, hcm, hcs, ht⟩
  · refine ⟨none, 0, by rw [hn], by omega, by simp [maxLen], rfl, fun h0 => by omega⟩
  · refine ⟨some ⟨g, 0, none⟩, cap, rfl, hnc, hcm, rfl, fun _ => ⟨g, 0, rfl, ?_, fun i hi j u hu => ?_⟩⟩
    · rcases Nat.lt_or_ge g w.heap.size with h | h
      · exact h
      · rw [Array.getElem?_eq_none h] at hh; cases hh
    · have hj : j < k := by rw [← hk xs[i]]; exact (List.getElem?_eq_some_iff.1 hu).1
      have h1 := encAll_get hk xs i hi j hj
      rw [hu] at h1
      rw [← ht] at h1
      have h2 : cur.toList[i * k + j]? = some u := by
        have hlt : i * k + j < xs.length * k := by
          have := Nat.mul_le_mul_right k (show i + 1 ≤ xs.length from hi); rw [Nat.add_mul] at this; omega
        rwa [List.getElem?_take_of_lt hlt] at h1
      rw [Nat.zero_add]
      have h3 : cur[i * k + j]? = some u := by simpa using h2
      simp only [World.cell?, hh]
      simpa using h3
theorem Own.below (h : Own w base e k enc v xs) (hb : Below B a w) (hB : B ≤ base) (ha : B ≤ w.heap.size) (hg : w.grownBy w' v.ownBlock) : Below B a w' :=
  hb.grown hg ha (fun g hk => Nat.le_trans hB (World.ownsRow.lt h g hk).1)
theorem Own.grown {P : Program} {ops : Array Oper} {o : Oper} {ac : Act} {K : Act → World → Prop} {Q : Exit → Act → World → Prop} {E : Prop} {x : α} {bytes c : Nat} {t : TypeId} (T : SliceT P t e k bytes) (hgd : o.guard = none) (s y : Operand)
    (ho : o.op = .call { callee := .builtin .append, args := #[s, y], argTypes := #[t, t] }) (h : Own w base e k enc v xs) (hs : ac.eval s = v) (ad : Addr) (hy : ac.eval y = .slice (some ad) 1 c)
    (hlen : (enc x).length = k) (hnews : ∀ j u, (enc x)[j]? = some u → w.cell? (ad.add j) = some u) (h1 : ∀ u ∈ enc x, u.oneCell' = true) (hbase : base ≤ w.heap.size) (h63 : xs.length + 1 ≤ maxLen) (hbytes : (xs.length + 1) * bytes ≤ 140737488355328)
    (hK : ∀ v' w', Own w' base e k enc v' (xs ++ [x]) → w.grownBy w' v.ownBlock → (v'.ownBlock = v.ownBlock ∨ v'.ownBlock = some w.heap.size) → K (ac.put o.dst v') w') :
    if Region.wanted o (yielded ops ac.tmps) = true then Oper.wp P o ac w K Q else E := by
  rw [if_pos (by simp [Region.wanted, hgd])]
  obtain ⟨i, z, hi, hz, hsz, hby, hzs⟩ := T.info
  obtain ⟨v', w', hr, h2, h3, _, h5⟩ := run_append_own_at (P := P) w base t o.type e i z k bytes T.und hi hz hsz hby hzs T.pos v xs.length (encAll enc xs) h ad 1 c (enc x) (by rw [hlen]; omega) hnews h1 h63 hbytes hbase
  unfold Oper.wp execOp
  simp only [ho, resolve, invoke, builtin, Sem.run_bind, Sem.run_pure, Result.andThen_ok, List.map_toArray, List.map_cons, List.map_nil, hs, hy, hr]
  refine hK v' w' ?_ h3 h5
  unfold Own
  rw [encAll_snoc, List.length_append]
  exact h2
end
/-- The same outside a drawn region. -/
theorem wpList_grown {α : Type} {w : World} {base k : Nat} {e : TypeId} {enc : α → List Value} {v : Value} {xs : List α} {P : Program} {ops : Array Oper} {rest : List Oper} {o : Oper} {ac : Act} {Q : Exit → Act → World → Prop} {x : α} {bytes c : Nat} {t : TypeId} (T : SliceT P t e k bytes) (hgd : o.guard = none) (s y : Operand)
    (ho : o.op = .call { callee := .builtin .append, args := #[s, y], argTypes := #[t, t] }) (h : Own w base e k enc v xs) (hs : ac.eval s = v) (ad : Addr) (hy : ac.eval y = .slice (some ad) 1 c)
    (hlen : (enc x).length = k) (hnews : ∀ j u, (enc x)[j]? = some u → w.cell? (ad.add j) = some u) (h1 : ∀ u ∈ enc x, u.oneCell' = true) (hbase : base ≤ w.heap.size) (h63 : xs.length + 1 ≤ maxLen) (hbytes : (xs.length + 1) * bytes ≤ 140737488355328)
    (hK : ∀ v' w', Own w' base e k enc v' (xs ++ [x]) → w.grownBy w' v.ownBlock → (v'.ownBlock = v.ownBlock ∨ v'.ownBlock = some w.heap.size) → wpList P ops Q rest (ac.put o.dst v') w') : wpList P ops Q (o :: rest) ac w :=
  wpList_step fun _ hk => Own.grown (ops := ops) T hgd s y ho h hs ad hy hlen hnews h1 hbase h63 hbytes fun v' w' a b c => hk _ _ (hK v' w' a b c)
/-- A block that was just made: what stands in it. -/
theorem news_of {w : World} {g : Nat} {cs : List Value} {t : TypeId} {fr : Nat × Nat} (h : w.heap[g]? = some (.cells cs.toArray t fr)) : ∀ j u, cs[j]? = some u → w.cell? ((⟨g, 0, none⟩ : Addr).add j) = some u := by
  intro j u hu
  have : (⟨g, 0, none⟩ : Addr).add j = ⟨g, j, none⟩ := by unfold Addr.add; by_cases hj : j = 0 <;> simp [hj]
  rw [this]
  simp only [World.cell?, h]
  simpa using hu
end Go.Proofs.YtfppagcifcppaaaDoor
