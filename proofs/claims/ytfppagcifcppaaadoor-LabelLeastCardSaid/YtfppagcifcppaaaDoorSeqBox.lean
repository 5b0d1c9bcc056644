/- A range over an iterator that keeps its state in blocks of its own: a law for the caller, over the iterator's word. -/
import Derived.Test.YtfppagcifcppaaaDoorKit
import Derived.RangeFuncNested
import Derived.RangeFuncBound
import Derived.RangeFuncCalls
import Derived.RangeFuncLeaves
import Derived.Shelf.Abstract
import Derived.OwnWalkIn
import Derived.TacticsInMore
import Derived.LoopNIn
import Derived.LoopIn
namespace Go.Proofs.YtfppagcifcppaaaDoor
open Go.RowKit

/-- New blocks, and at most one block turned, none of those that are kept. -/
def Turn (keep : Nat → Prop) (A B : World) : Prop := ∃ row, A.grownBy B row ∧ ∀ r, row = some r → ¬ keep r
/-- The blocks bs are as they were. -/
def Same (bs : List Nat) (A B : World) : Prop := ∀ b ∈ bs, B.heap[b]? = A.heap[b]?
theorem Same.refl (bs : List Nat) (A : World) : Same bs A A := fun _ _ => rfl
theorem Same.trans {bs : List Nat} {A B C : World} (h : Same bs A B) (k : Same bs B C) : Same bs A C := fun b hb => (k b hb).trans (h b hb)
theorem Same.putObj {bs : List Nat} {A : World} {l : Nat} (o : Obj) (h : l ∉ bs) : Same bs A (A.putObj l o) := fun _ hb => World.putObj_heap_other (fun e => h (e ▸ hb))
theorem Turn.alloc (keep : Nat → Prop) (A : World) (o : Obj) : Turn keep A (A.alloc o) := ⟨none, World.grownBy_alloc A o none, fun r e => by cases e⟩
theorem Turn.put {keep : Nat → Prop} {l : Nat} (A : World) (o : Obj) (h : ¬ keep l) : Turn keep A (A.putObj l o) := ⟨some l, grownBy_putObj' A l o, fun r e => by cases e; exact h⟩
/-- What a predicate of the walk asks to outlast the iterator's own steps: new blocks, stores into bs. -/
def Lasts {α : Type} (bs : List Nat) (J : List α → World → Prop) : Prop := ∀ s A B row, J s A → A.grownBy B row → (∀ r, row = some r → r ∈ bs) → J s B
/-- THE ITERATOR's WORD: it hands on the elements of xs, one by one, and keeps its state in bs. -/
def SeqBox {α : Type} (P : Program) (n gf : Nat) (lb : Array Value) (encs : α → Array Value) (xs : List α) (bs : List Nat) (w : World) : Prop :=
  ∀ (l : Nat) (J Jx : List α → World → Prop) (W : World), Same bs w W → w.heap.size ≤ W.heap.size → Lasts bs J → Lasts bs Jx →
    (∀ pre x W1, J pre W1 → (pre ++ [x]) <+: xs → YieldAt Fence.wide n P l (encs x) W1 fun e W' => (e = .returned (.bool true) ∧ J (pre ++ [x]) W' ∧ Same bs W1 W') ∨ (e = .returned (.bool false) ∧ Jx (pre ++ [x]) W')) →
    J [] W → CallsIn Fence.wide (n + 1) P gf (#[.func (.yield l) #[] #[]] ++ lb) W fun e W' => (∃ v, e = .returned v) ∧ (J xs W' ∨ ∃ pre, pre <+: xs ∧ Jx pre W')
def RoundEnd {α : Type} (B : Nat) (bs : List Nat) (I Ix : List α → World → Prop) (xs : List α) (W : World) : Exit → Act → World → Prop
  | .normal, _, W' => KeepsFrom B W W' ∧ Same bs W W' ∧ I xs W'
  | .ret, _, W' => KeepsFrom B W W' ∧ Ix xs W'
  | _, _, _ => False

section
variable {P : Program} {α : Type}
/-- One round, at a record that is ready. -/
theorem yield_box {n : Nat} {W : World} {l D : Nat} {fn : FuncId} {tmps : Array Value} {ps : Array Tmp} {assign body : Code} {args : Array Value} {bs : List Nat} {B : Nat} {I Ix : List α → World → Prop} {xs : List α} {a₁ : Act} {keep : Nat → Prop}
    (hI : ∀ A C, I xs A → Turn keep A C → I xs C) (hIx : ∀ A C, Ix xs A → Turn keep A C → Ix xs C) (hB : B ≤ l) (hD : B ≤ D) (hDl : D ≠ l) (hkl : ¬ keep l) (hlb : l ∉ bs)
    (hl : W.heap[l]? = some (.loop { state := .ready, pending := none, fn, tmps, params := ps, assign, body, defers := D })) (hd : W.heap[D]? = some (.deferred (some []))) (hps : args.size = ps.size)
    (hassign : ∀ (K : Act → World → Prop), (∀ V, K a₁ V ↔ K a₁ V) → K a₁ W → assign.wpIn (Fence.wide.inRound l) n P (Exit.then K (fun _ _ _ => False)) { tmps := (ps.zip args).foldl (fun t (p, v) => t.setIfInBounds p v) tmps, defers := [] } W)
    (hbody : ∀ V, Turn keep W V → Same bs W V → body.wpIn (Fence.wide.inRound l) n P (RoundEnd B bs I Ix xs V) a₁ V) :
    YieldAt Fence.wide n P l args W fun e W' =>
      (e = .returned (.bool true) ∧ (I xs W' ∧ W'.heap[l]? = some (.loop { state := .ready, pending := none, fn, tmps, params := ps, assign, body, defers := D }) ∧ W'.heap[D]? = some (.deferred (some []))) ∧ Same bs W W') ∨
      (e = .returned (.bool false) ∧ (Ix xs W' ∧ W'.heap[l]? = some (.loop { state := .done, pending := some .ret, fn, tmps, params := ps, assign, body, defers := D }) ∧ W'.heap[D]? = some (.deferred (some [])))) := by
  have hy := run_yield (P := P) (args := args) hl hps
  refine ⟨fn, _, assign, body, hy, roundIn_of_wpIn trivial (hassign _ (fun _ => Iff.rfl) ⟨_, run_beginRound hl rfl, ?_⟩)⟩
  have hlt := (Array.getElem?_eq_some_iff.1 hl).1
  obtain ⟨V, hV⟩ : ∃ V, W.putObj l (.loop { state := .busy, pending := none, fn, tmps, params := ps, assign, body, defers := D }) = V := ⟨_, rfl⟩
  have hVl : V.heap[l]? = some (.loop { state := .busy, pending := none, fn, tmps, params := ps, assign, body, defers := D }) := by rw [← hV]; exact World.putObj_heap_same hlt
  have hVd : V.heap[D]? = some (.deferred (some [])) := by rw [← hV]; exact (World.putObj_heap_other hDl).trans hd
  have hVt : Turn keep W V := by rw [← hV]; exact Turn.put W _ hkl
  have hVs : Same bs W V := by rw [← hV]; exact Same.putObj _ hlb
  rw [hV]
  refine wpIn_mono (hbody V hVt hVs) ?_
  rintro e a3 W3 hp
  cases e with
  | normal =>
    obtain ⟨hk, hs, hi⟩ := hp
    have h3 := hk.same _ _ hB hVl rfl
    have h3d := hk.same _ _ hD hVd rfl
    have hlt3 := (Array.getElem?_eq_some_iff.1 h3).1
    exact ⟨_, _, run_endRound (P := P) none h3, .inl ⟨rfl, ⟨hI _ _ hi (Turn.put W3 _ hkl), World.putObj_heap_same hlt3, (World.putObj_heap_other hDl).trans h3d⟩, (hVs.trans hs).trans (Same.putObj _ hlb)⟩⟩
  | ret =>
    obtain ⟨hk, hi⟩ := hp
    have h3 := hk.same _ _ hB hVl rfl
    have h3d := hk.same _ _ hD hVd rfl
    have hlt3 := (Array.getElem?_eq_some_iff.1 h3).1
    exact ⟨_, _, run_endRound (P := P) (some .ret) h3, .inr ⟨rfl, hIx _ _ hi (Turn.put W3 _ hkl), World.putObj_heap_same hlt3, (World.putObj_heap_other hDl).trans h3d⟩⟩
  | exit id => exact hp.elim
  | goto t => exact hp.elim
  | panic ch => exact hp.elim
  | outgrown => exact hp.elim
/-- THE CALLER's LAW. -/
theorem range_box {n : Nat} {g : Operand} {ps : Array Tmp} {assign body : Code} {Q : Exit → Act → World → Prop} {a : Act} {w : World}
    {gf : Nat} {lb : Array Value} (hg : a.eval g = .func (.func gf) #[] lb) (eg : ∀ args w, (callFunc gf args).run P w = .ok (.enter gf args) w)
    {encs : α → Array Value} (hps : ∀ x, (encs x).size = ps.size) {xs : List α} {bs : List Nat} (hbs : ∀ b ∈ bs, b < w.heap.size) (hseq : SeqBox P n gf lb encs xs bs w)
    (keep : Nat → Prop) (hk1 : ∀ b ∈ bs, ¬ keep b) (hk2 : ∀ r, w.heap.size ≤ r → ¬ keep r)
    (I Ix : List α → World → Prop) (hI : ∀ s A B, I s A → Turn keep A B → I s B) (hIx : ∀ s A B, Ix s A → Turn keep A B → Ix s B) (h0 : I [] w) (a₁ : α → Act)
    (hassign : ∀ (l : Nat) (x : α) (W : World) (K : Act → World → Prop), K (a₁ x) W →
      assign.wpIn (Fence.wide.inRound l) n P (Exit.then K (fun _ _ _ => False)) { tmps := (ps.zip (encs x)).foldl (fun t (p, v) => t.setIfInBounds p v) a.tmps, defers := [] } W)
    (hbody : ∀ (l : Nat) (pre : List α) (x : α) (W : World), I pre W → (pre ++ [x]) <+: xs → body.wpIn (Fence.wide.inRound l) n P (RoundEnd w.heap.size bs I Ix (pre ++ [x]) W) (a₁ x) W)
    (hdone : ∀ (D : Nat) (W : World), w.heap.size ≤ D → I xs W → W.heap[D]? = some (.deferred (some [])) → Q .normal { a with defers := { target := .collected D, args := #[] } :: a.defers } W)
    (hstop : ∀ (D : Nat) (pre : List α) (W : World), w.heap.size ≤ D → pre <+: xs → Ix pre W → W.heap[D]? = some (.deferred (some [])) → Code.ret.wpIn Fence.wide (n + 2) P Q { a with defers := { target := .collected D, args := #[] } :: a.defers } W) :
    (Code.rangeFunc g ps assign body).wpIn Fence.wide (n + 2) P Q a w := by
  refine wpIn_rangeFunc ?_
  intro fn _
  obtain ⟨R, hR⟩ : ∃ R : LoopState → Option Code → Loop, R = fun st pe => { state := st, pending := pe, fn, tmps := a.tmps, params := ps, assign, body, defers := w.heap.size } := ⟨_, rfl⟩
  obtain ⟨W1, hW1⟩ : ∃ W1, (w.alloc (.deferred (some []))).alloc (.loop (R .ready none)) = W1 := ⟨_, rfl⟩
  have z1 : (w.alloc (.deferred (some []))).heap.size = w.heap.size + 1 := World.size_alloc _ _
  have hl1 : W1.heap[w.heap.size + 1]? = some (.loop (R .ready none)) := by
    rw [← hW1, ← z1]; exact heap_alloc_new _ _
  have hd1 : W1.heap[w.heap.size]? = some (.deferred (some [])) := by
    rw [← hW1]; exact (Below.heap_alloc _ _ _ (by simp)).trans (heap_alloc_new w _)
  have hI1 : I [] W1 := by rw [← hW1]; exact hI _ _ _ (hI _ _ _ h0 (Turn.alloc keep _ _)) (Turn.alloc keep _ _)
  have hs1 : Same bs w W1 := fun b hb => by
    rw [← hW1]; exact (Below.heap_alloc _ _ _ (by have := hbs b hb; simp; omega)).trans (Below.heap_alloc _ _ _ (hbs b hb))
  have hz1 : w.heap.size ≤ W1.heap.size := by rw [← hW1]; simp; omega
  have hlb : w.heap.size + 1 ∉ bs := fun h => by have := hbs _ h; omega
  have hdb : w.heap.size ∉ bs := fun h => by have := hbs _ h; omega
  have hkeepl : ∀ {A B : World} {row : Option Nat} {k : Nat} {o : Obj}, A.grownBy B row → (∀ r, row = some r → r ∈ bs) → k ∉ bs → A.heap[k]? = some o → B.heap[k]? = some o := fun hg hr hk h =>
    (hg.block _ (Array.getElem?_eq_some_iff.1 h).1 (fun e => hk (hr _ e.symm))).trans h
  have hturn : ∀ {A B : World} {row : Option Nat}, A.grownBy B row → (∀ r, row = some r → r ∈ bs) → Turn keep A B := fun hg hr => ⟨_, hg, fun r e => hk1 r (hr r e)⟩
  refine ⟨w.heap.size + 1, [{ target := .collected w.heap.size, args := #[] }], W1, { target := .fn (.func gf) lb, args := #[.func (.yield (w.heap.size + 1)) #[] #[]] }, W1, gf,
    #[.func (.yield (w.heap.size + 1)) #[] #[]] ++ lb, W1, ?_, ?_, ?_, ?_, (fun h => by cases h), ?_⟩
  · rw [← hW1, hR]; exact run_enterLoop_outer _ _ _ _ _
  · simp only [resolve, hg]
    simp [go_sem]
  · intro f' _; trivial
  · simp [invoke, go_sem, eg]
  · refine (hseq (w.heap.size + 1)
      (fun pre W => I pre W ∧ W.heap[w.heap.size + 1]? = some (.loop (R .ready none)) ∧ W.heap[w.heap.size]? = some (.deferred (some [])))
      (fun pre W => Ix pre W ∧ W.heap[w.heap.size + 1]? = some (.loop (R .done (some .ret))) ∧ W.heap[w.heap.size]? = some (.deferred (some [])))
      W1 hs1 hz1
      (fun s A B row hs hg' hr => ⟨hI s A B hs.1 (hturn hg' hr), hkeepl hg' hr hlb hs.2.1, hkeepl hg' hr hdb hs.2.2⟩)
      (fun s A B row hs hg' hr => ⟨hIx s A B hs.1 (hturn hg' hr), hkeepl hg' hr hlb hs.2.1, hkeepl hg' hr hdb hs.2.2⟩)
      ?_ ⟨hI1, hl1, hd1⟩).mono ?_
    · rintro pre x W ⟨hi, hl, hd⟩ hpx
      rw [hR] at hl ⊢
      exact yield_box (keep := keep) (B := w.heap.size) (hI _) (hIx _) (by omega) (Nat.le_refl _) (by omega) (hk2 _ (by omega)) hlb hl hd (hps x) (fun K _ hK => hassign _ x W K hK) (fun V hV _ => hbody _ pre x V (hI _ _ _ hi hV) hpx)
    · rintro e W2 ⟨⟨v, rfl⟩, (⟨hi, hl, hd⟩ | ⟨pre, hpre, hi, hl, hd⟩)⟩
      · rw [hR] at hl
        exact ⟨none, _, run_endLoop (P := P) hl (by simp), hdone _ _ (Nat.le_refl _) (hI _ _ _ hi (Turn.put W2 _ (hk2 _ (by omega)))) ((World.putObj_heap_other (by omega)).trans hd)⟩
      · rw [hR] at hl
        exact ⟨some .ret, _, run_endLoop (P := P) hl (by simp), hstop _ pre _ (Nat.le_refl _) hpre (hIx _ _ _ hi (Turn.put W2 _ (hk2 _ (by omega)))) ((World.putObj_heap_other (by omega)).trans hd)⟩
end
end Go.Proofs.YtfppagcifcppaaaDoor
