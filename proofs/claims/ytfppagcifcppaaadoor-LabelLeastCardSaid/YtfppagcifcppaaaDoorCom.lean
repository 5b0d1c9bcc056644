/- A drawn region whose calls only lay new memory, and answer alike in whatever world that has grown so: its order is nothing to them. Any of them may be taken first. -/
import Derived.Test.YtfppagcifcppaaaDoorKit
namespace Go.Proofs.YtfppagcifcppaaaDoor
open Go.RowKit

section
variable {P : Program} {ops : Array Oper} {Q : Exit → Act → World → Prop} {S : World → Prop}
def OutS (P : Program) (S : World → Prop) (v : Value) : Result Next → Prop
  | .ok (.value u) w' => u = v ∧ S w'
  | .ok (.enter f args) w' => Calls P f args w' fun e w'' => e = .returned v ∧ S w''
  | _ => False
/-- In every world that meets S the operation leaves v in its temporary, and a world that meets S. -/
def YieldsS (P : Program) (ops : Array Oper) (S : World → Prop) (o : Oper) (v : Value) (a : Act) : Prop :=
  (Region.wanted o (yielded ops a.tmps) = true ∧ ∀ w, S w → OutS P S v ((execOp a.eval o).run P w)) ∨ (Region.wanted o (yielded ops a.tmps) = false ∧ v = undef)
theorem YieldsS.wpOp {i : Nat} {o : Oper} {v : Value} {a : Act} (hi : ops[i]? = some o) (hy : YieldsS P ops S o v a) {K : Act → World → Prop} {w : World} (hS : S w) (h : ∀ w', S w' → K (a.put o.dst v) w') : wpOp P ops Q i K a w := by
  unfold Go.wpOp
  simp only [hi]
  rcases hy with ⟨hw, hv⟩ | ⟨hw, rfl⟩
  · simp only [hw, if_true]
    refine .inl ?_
    have hv := hv w hS
    unfold Oper.wp
    generalize (execOp a.eval o).run P w = r at *
    cases r with
    | ok n w' =>
      cases n with
      | value u => obtain ⟨rfl, hS'⟩ := hv; exact h w' hS'
      | enter f args => exact Calls.mono hv fun e w'' ⟨he, hS'⟩ => by subst he; exact h w'' hS'
      | _ => exact hv.elim
    | halt x w' => exact hv.elim
  · simp only [hw, Bool.false_eq_true, if_false]; exact h w hS
theorem YieldsS.of_same {o : Oper} {v : Value} {a a' : Act} (hy : YieldsS P ops S o v a) (he : execOp a'.eval o = execOp a.eval o)
    (hw : Region.wanted o (yielded ops a'.tmps) = Region.wanted o (yielded ops a.tmps)) : YieldsS P ops S o v a' := by
  unfold YieldsS at *
  rw [he, hw]
  exact hy
theorem wpOp_putS {j : Nat} {oi oj : Oper} {v : Value} (hj : ops[j]? = some oj) (hap : oi.apart ops oj = true)
    (hsi : ∀ cs b, oi.op ≠ .select cs b) (hsj : ∀ cs b, oj.op ≠ .select cs b)
    (hQ : ∀ c a w, Q (.panic c) (a.put oi.dst v) w → Q (.panic c) a w) {K : Act → World → Prop} {a : Act} {w : World}
    (hy : YieldsS P ops S oi v a) (h : wpOp P ops Q j K (a.put oi.dst v) w) :
    wpOp P ops Q j (fun a' w' => YieldsS P ops S oi v a' ∧ K (a'.put oi.dst v) w') a w := by
  obtain ⟨h1, h2, h3⟩ := Oper.apart_spec hap
  have keep : ∀ (a : Act), YieldsS P ops S oi v a → ∀ u, YieldsS P ops S oi v (a.put oj.dst u) := fun a hy u =>
    hy.of_same (execOp_put oi hsi a oj.dst u h3) (wanted_put oi a oj.dst u h3)
  have keepD : ∀ d, YieldsS P ops S oi v { a with defers := d :: a.defers } := fun d => hy.of_same rfl rfl
  unfold wpOp at *
  simp only [hj] at *
  rw [wanted_put oj a oi.dst v h1] at h
  split
  · rename_i hw
    simp only [hw, if_true] at h
    rcases h with h | ⟨hasks, hlets⟩
    case inr => exact .inr ⟨by unfold Oper.asks at *; rw [execOp_put oj hsj a oi.dst v h1] at hasks; exact hasks, hlets⟩
    refine .inl ?_
    unfold Oper.wp at *
    rw [execOp_put oj hsj a oi.dst v h1] at h
    generalize (execOp a.eval oj).run P w = r at *
    cases r with
    | ok n w' =>
      cases n <;> simp only [Oper.upon] at h ⊢
      case value u => exact ⟨keep a hy u, by rw [← Act.put_comm a v u h2]; exact h⟩
      case skip => exact ⟨keep a hy _, by rw [← Act.put_comm a v undef h2]; exact h⟩
      case defer d =>
        refine ⟨keep _ (keepD d) _, ?_⟩
        rw [← Act.put_comm _ v undef h2, ← Act.put_defers]
        exact h
      case enter f args =>
        refine Calls.mono h fun e w'' he => ?_
        cases e with
        | returned u => exact ⟨keep a hy u, by rw [← Act.put_comm a v u h2]; exact he⟩
        | panicked c => exact hQ _ _ _ he
        | outgrown => exact he
      case row row args => exact Rows.mono h fun u w'' he => ⟨keep a hy u, by rw [← Act.put_comm a v u h2]; exact he⟩
    | halt x w' =>
      cases x <;> simp only [Oper.upon] at h ⊢
      case panic u => exact hQ _ _ _ h
  · rename_i hw
    simp only [hw] at h
    exact ⟨keep a hy _, by rw [← Act.put_comm a v undef h2]; exact h⟩
/-- Whatever order is picked from here on, in whatever world that meets S. -/
def wpAnyU (P : Program) (ops : Array Oper) (Q : Exit → Act → World → Prop) (S : World → Prop) : Nat → Array Bool → Act → Prop
  | 0, listed, a => ∀ w, S w → Region.ready .any ops listed = [] ∧ Q .normal a w
  | fuel + 1, listed, a => ∀ w, S w → (Region.ready .any ops listed = [] → Q .normal a w) ∧
      ∀ i ∈ Region.ready .any ops listed, wpOp P ops Q i (fun a' w' => S w' ∧ wpAnyU P ops Q S fuel (listed.setIfInBounds i true) a') a w
theorem wpAny_of_U : ∀ (fuel : Nat) (listed : Array Bool) (a : Act) (w : World), S w → wpAnyU P ops Q S fuel listed a → wpAny P .any ops Q fuel listed a w
  | 0, _, _, w, hS, h => h w hS
  | fuel + 1, _, _, w, hS, h => ⟨(h w hS).1, fun i hi => wpOp_mono (fun a' w' h' => wpAny_of_U fuel _ a' w' h'.1 h'.2) ((h w hS).2 i hi)⟩
theorem wpAnyU_first {i : Nat} {oi : Oper} {v : Value} (hi : ops[i]? = some oi) (hsel : ∀ (j : Nat) (o : Oper) cs b, ops[j]? = some o → o.op ≠ .select cs b)
    (hQ : ∀ c a w, Q (.panic c) (a.put oi.dst v) w → Q (.panic c) a w) :
    ∀ (fuel : Nat) (listed : Array Bool) (a : Act),
      (∀ j oj, ops[j]? = some oj → j ≠ i → listed.getD j true = false → (∀ e ∈ oj.after, Region.binds .any e = true → e.on ≠ i) → oi.apart ops oj = true) →
      i ∈ Region.ready .any ops listed → YieldsS P ops S oi v a →
      wpAnyU P ops Q S fuel (listed.setIfInBounds i true) (a.put oi.dst v) → wpAnyU P ops Q S (fuel + 1) listed a := by
  intro fuel
  induction fuel with
  | zero =>
    intro listed a _ hr hy H w hS
    refine ⟨fun h => (by rw [h] at hr; cases hr), fun j hj => ?_⟩
    by_cases hji : j = i
    · subst hji; exact hy.wpOp hi hS fun w' hS' => ⟨hS', H⟩
    · have := ready_mono hj hji
      rw [(H w hS).1] at this
      cases this
  | succ fuel ih =>
    intro listed a hfree hr hy H w hS
    refine ⟨fun h => (by rw [h] at hr; cases hr), fun j hj => ?_⟩
    by_cases hji : j = i
    · subst hji; exact hy.wpOp hi hS fun w' hS' => ⟨hS', H⟩
    · have h1 := (H w hS).2 j (ready_mono hj hji)
      obtain ⟨hjun, oj, hoj, hall⟩ := mem_ready.1 hj
      have hnot : ∀ e ∈ oj.after, Region.binds .any e = true → e.on ≠ i := fun e he hb heq => by
        have h1 := hall e he hb
        have h0 := (mem_ready.1 hr).1
        rw [heq] at h1
        rcases Nat.lt_or_ge i listed.size with h' | h'
        · simp [h'] at h0 h1; rw [h0] at h1; cases h1
        · simp [Array.getElem?_eq_none h'] at h1
      have h2 := wpOp_putS hoj (hfree j oj hoj hji hjun hnot) (fun cs b => hsel i oi cs b hi) (fun cs b => hsel j oj cs b hoj) hQ hy h1
      have hfree' : ∀ k ok, ops[k]? = some ok → k ≠ i → (listed.setIfInBounds j true).getD k true = false →
          (∀ e ∈ ok.after, Region.binds .any e = true → e.on ≠ i) → oi.apart ops ok = true := fun k ok hk hki hun hno => by
        refine hfree k ok hk hki ?_ hno
        by_cases hjk : j = k
        · subst hjk; exact hjun
        · rw [getD_set_ne true hjk] at hun; exact hun
      refine wpOp_mono (fun a' w' h3 => ⟨h3.2.1, ih (listed.setIfInBounds j true) a' hfree' (ready_mono hr (Ne.symm hji)) h3.1 ?_⟩) h2
      rw [Array.setIfInBounds_comm _ _ hji]
      exact h3.2.2
def wpMixU (P : Program) (ops : Array Oper) (S : World → Prop) (K : Act → Prop) : List Nat → Act → Prop
  | [], a => K a
  | i :: r, a => ∃ o v, ops[i]? = some o ∧ YieldsS P ops S o v a ∧ wpMixU P ops S K r (a.put o.dst v)
def mixU (ops : Array Oper) : List Nat → Array Bool → Bool
  | [], l => (Region.ready .any ops l).isEmpty
  | i :: r, l => (Region.ready .any ops l).contains i && Region.free .any ops l i && mixU ops r (l.setIfInBounds i true)
theorem wpAnyU_of_mix (hsel : Region.noSelect ops = true) (hQ : ∀ c a d v w, Q (.panic c) (Act.put a d v) w → Q (.panic c) a w) :
    ∀ (r : List Nat) (l : Array Bool) (a : Act), mixU ops r l = true → wpMixU P ops S (fun a => ∀ w, S w → Q .normal a w) r a → wpAnyU P ops Q S r.length l a
  | [], l, a, hB, h => fun w hS => ⟨by simpa [mixU] using hB, h w hS⟩
  | i :: r, l, a, hB, h => by
    simp only [mixU, Bool.and_eq_true] at hB
    obtain ⟨o, v, ho, hy, h'⟩ := h
    exact wpAnyU_first ho (Region.noSelect_spec hsel) (fun c a w => hQ c a o.dst v w) r.length l a (Region.free_spec ho hB.1.2) (by simpa using hB.1.1) hy (wpAnyU_of_mix hsel hQ r _ _ hB.2 h')
theorem wp_region_u {id : Nat} {a : Act} {w : World} {l : List Oper} (r : List Nat) (hm : P.follows .mixedOrders = true) (hsel : Region.noSelect l.toArray = true)
    (hlen : r.length = l.length) (hB : mixU l.toArray r (Array.replicate l.length false) = true) (hQ : ∀ c a d v w, Q (.panic c) (Act.put a d v) w → Q (.panic c) a w)
    (h : wpMixU P l.toArray (Grows w) (fun a => ∀ w', Grows w w' → Q .normal a w') r a) : (Code.region id l.toArray true).wp P Q a w := by
  refine wp_region_any hm (wpAny_of_U (S := Grows w) _ _ _ _ (Grows.refl w).drew ?_)
  have := wpAnyU_of_mix hsel hQ r (Array.replicate l.length false) a hB h
  simpa [hlen] using this
theorem wpMixU_q {i : Nat} {o : Oper} {r : List Nat} {a : Act} {K : Act → Prop} (ho : ops[i]? = some o)
    (h : ∀ K' : Act → Prop, (∀ a, wpMixU P ops S K r a → K' a) → if Region.wanted o (yielded ops a.tmps) = true then ∃ v, (∀ wq, S wq → (execOp a.eval o).run P wq = .ok (.value v) wq) ∧ K' (a.put o.dst v) else K' (a.put o.dst undef)) :
    wpMixU P ops S K (i :: r) a := by
  have h' := h _ (fun _ h => h)
  split at h'
  · rename_i hw
    obtain ⟨v, h1, h2⟩ := h'
    exact ⟨o, v, ho, .inl ⟨hw, fun w hS => by rw [h1 w hS]; exact ⟨rfl, hS⟩⟩, h2⟩
  · rename_i hw
    exact ⟨o, undef, ho, .inr ⟨by simpa using hw, rfl⟩, h'⟩
/-- A call of the region: its value. -/
theorem wpMixU_c {i : Nat} {o : Oper} {r : List Nat} {a : Act} {K : Act → Prop} (v : Value) (ho : ops[i]? = some o) (hw : Region.wanted o (yielded ops a.tmps) = true)
    (h : ∀ wq, S wq → OutS P S v ((execOp a.eval o).run P wq)) (h2 : wpMixU P ops S K r (a.put o.dst v)) : wpMixU P ops S K (i :: r) a :=
  ⟨o, v, ho, .inl ⟨hw, h⟩, h2⟩
theorem wpMixU_off {i : Nat} {o : Oper} {r : List Nat} {a : Act} {K : Act → Prop} (ho : ops[i]? = some o) (hw : Region.wanted o (yielded ops a.tmps) = false)
    (h2 : wpMixU P ops S K r (a.put o.dst undef)) : wpMixU P ops S K (i :: r) a :=
  ⟨o, undef, ho, .inr ⟨hw, rfl⟩, h2⟩
theorem wpMixU_nil {a : Act} {K : Act → Prop} (h : K a) : wpMixU P ops S K [] a := h
end
end Go.Proofs.YtfppagcifcppaaaDoor
