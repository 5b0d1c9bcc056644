/- A drawn region in which calls that only lay new memory stand beside allocations and stores: the calls may be taken first, whatever else may come up; only what is left goes order by order. -/
import Derived.Test.YtfppagcifcppaaaDoorCom
import Derived.Test.YtfppagcifcppaaaDoorAlt
namespace Go.Proofs.YtfppagcifcppaaaDoor
open Go.RowKit

section
variable {P : Program} {ops : Array Oper} {Q : Exit → Act → World → Prop} {S : World → Prop}
def OutK (P : Program) (v : Value) (w : World) : Result Next → Prop
  | .ok (.value u) w' => u = v ∧ Grows w w'
  | .ok (.enter f args) w' => Calls P f args w' fun e w'' => e = .returned v ∧ Grows w w''
  | _ => False
/-- In every world that meets S the operation leaves v in its temporary, and only grows the world. -/
def YieldsK (P : Program) (ops : Array Oper) (S : World → Prop) (o : Oper) (v : Value) (a : Act) : Prop :=
  (Region.wanted o (yielded ops a.tmps) = true ∧ ∀ w, S w → OutK P v w ((execOp a.eval o).run P w)) ∨ (Region.wanted o (yielded ops a.tmps) = false ∧ v = undef)
theorem YieldsK.wpOp {i : Nat} {o : Oper} {v : Value} {a : Act} (hi : ops[i]? = some o) (hy : YieldsK P ops S o v a) {K : Act → World → Prop} {w : World} (hS : S w) (h : ∀ w', Grows w w' → K (a.put o.dst v) w') : wpOp P ops Q i K a w := by
  unfold Go.wpOp
  simp only [hi]
  rcases hy with ⟨hw, hv⟩ | ⟨hw, rfl⟩
  · simp only [hw, if_true]
    refine .inl ?_
    have hv := hv w hS
    unfold Oper.wp
    generalize (execOp a.eval o).run P w = r at *
    cases r with
    | ok n w' =>
      cases n with
      | value u => obtain ⟨rfl, hg⟩ := hv; exact h w' hg
      | enter f args => exact Calls.mono hv fun e w'' ⟨he, hg⟩ => by subst he; exact h w'' hg
      | _ => exact hv.elim
    | halt x w' => exact hv.elim
  · simp only [hw, Bool.false_eq_true, if_false]; exact h w (Grows.refl w)
theorem YieldsK.of_same {o : Oper} {v : Value} {a a' : Act} (hy : YieldsK P ops S o v a) (he : execOp a'.eval o = execOp a.eval o)
    (hw : Region.wanted o (yielded ops a'.tmps) = Region.wanted o (yielded ops a.tmps)) : YieldsK P ops S o v a' := by
  unfold YieldsK at *
  rw [he, hw]
  exact hy
theorem wpOp_putK {j : Nat} {oi oj : Oper} {v : Value} (hj : ops[j]? = some oj) (hap : oi.apart ops oj = true)
    (hsi : ∀ cs b, oi.op ≠ .select cs b) (hsj : ∀ cs b, oj.op ≠ .select cs b)
    (hQ : ∀ c a w, Q (.panic c) (a.put oi.dst v) w → Q (.panic c) a w) {K : Act → World → Prop} {a : Act} {w : World}
    (hy : YieldsK P ops S oi v a) (h : wpOp P ops Q j K (a.put oi.dst v) w) :
    wpOp P ops Q j (fun a' w' => YieldsK P ops S oi v a' ∧ K (a'.put oi.dst v) w') a w := by
  obtain ⟨h1, h2, h3⟩ := Oper.apart_spec hap
  have keep : ∀ (a : Act), YieldsK P ops S oi v a → ∀ u, YieldsK P ops S oi v (a.put oj.dst u) := fun a hy u =>
    hy.of_same (execOp_put oi hsi a oj.dst u h3) (wanted_put oi a oj.dst u h3)
  have keepD : ∀ d, YieldsK P ops S oi v { a with defers := d :: a.defers } := fun d => hy.of_same rfl rfl
  unfold wpOp at *
  simp only [hj] at *
  rw [wanted_put oj a oi.dst v h1] at h
  split
  · rename_i hw
    simp only [hw, if_true] at h
    rcases h with h | ⟨hasks, hlets⟩
    case inr => exact .inr ⟨by unfold Oper.asks at *; rw [execOp_put oj hsj a oi.dst v h1] at hasks; exact hasks, hlets⟩
    refine .inl ?_
    unfold Oper.wp at *
    rw [execOp_put oj hsj a oi.dst v h1] at h
    generalize (execOp a.eval oj).run P w = r at *
    cases r with
    | ok n w' =>
      cases n <;> simp only [Oper.upon] at h ⊢
      case value u => exact ⟨keep a hy u, by rw [← Act.put_comm a v u h2]; exact h⟩
      case skip => exact ⟨keep a hy _, by rw [← Act.put_comm a v undef h2]; exact h⟩
      case defer d =>
        refine ⟨keep _ (keepD d) _, ?_⟩
        rw [← Act.put_comm _ v undef h2, ← Act.put_defers]
        exact h
      case enter f args =>
        refine Calls.mono h fun e w'' he => ?_
        cases e with
        | returned u => exact ⟨keep a hy u, by rw [← Act.put_comm a v u h2]; exact he⟩
        | panicked c => exact hQ _ _ _ he
        | outgrown => exact he
      case row row args => exact Rows.mono h fun u w'' he => ⟨keep a hy u, by rw [← Act.put_comm a v u h2]; exact he⟩
    | halt x w' =>
      cases x <;> simp only [Oper.upon] at h ⊢
      case panic u => exact hQ _ _ _ h
  · rename_i hw
    simp only [hw] at h
    exact ⟨keep a hy _, by rw [← Act.put_comm a v undef h2]; exact h⟩
/-- Whatever order is picked from here on, in whatever world that has only grown from this one. -/
def wpAnyK (P : Program) (ops : Array Oper) (Q : Exit → Act → World → Prop) (S : World → Prop) : Nat → Array Bool → Act → World → Prop
  | 0, listed, a, w => ∀ w1, Grows w w1 → S w1 → Region.ready .any ops listed = [] ∧ Q .normal a w1
  | fuel + 1, listed, a, w => ∀ w1, Grows w w1 → S w1 → (Region.ready .any ops listed = [] → Q .normal a w1) ∧
      ∀ i ∈ Region.ready .any ops listed, wpOp P ops Q i (fun a' w' => S w' ∧ wpAnyK P ops Q S fuel (listed.setIfInBounds i true) a' w') a w1
theorem wpAny_of_K : ∀ (fuel : Nat) (listed : Array Bool) (a : Act) (w : World), S w → wpAnyK P ops Q S fuel listed a w → wpAny P .any ops Q fuel listed a w
  | 0, _, _, w, hS, h => h w (Grows.refl w) hS
  | fuel + 1, _, _, w, hS, h => ⟨(h w (Grows.refl w) hS).1, fun i hi => wpOp_mono (fun a' w' h' => wpAny_of_K fuel _ a' w' h'.1 h'.2) ((h w (Grows.refl w) hS).2 i hi)⟩
theorem wpAnyK_grows {fuel : Nat} {l : Array Bool} {a : Act} {w w' : World} (hg : Grows w w') (h : wpAnyK P ops Q S fuel l a w) : wpAnyK P ops Q S fuel l a w' := by
  cases fuel with
  | zero => exact fun w1 h1 => h w1 (hg.trans h1)
  | succ fuel => exact fun w1 h1 => h w1 (hg.trans h1)
theorem wpAnyK_first {i : Nat} {oi : Oper} {v : Value} (hup : ∀ w w', S w → Grows w w' → S w') (hi : ops[i]? = some oi) (hsel : ∀ (j : Nat) (o : Oper) cs b, ops[j]? = some o → o.op ≠ .select cs b)
    (hQ : ∀ c a w, Q (.panic c) (a.put oi.dst v) w → Q (.panic c) a w) :
    ∀ (fuel : Nat) (listed : Array Bool) (a : Act) (w : World),
      (∀ j oj, ops[j]? = some oj → j ≠ i → listed.getD j true = false → (∀ e ∈ oj.after, Region.binds .any e = true → e.on ≠ i) → oi.apart ops oj = true) →
      i ∈ Region.ready .any ops listed → YieldsK P ops S oi v a →
      wpAnyK P ops Q S fuel (listed.setIfInBounds i true) (a.put oi.dst v) w → wpAnyK P ops Q S (fuel + 1) listed a w := by
  intro fuel
  induction fuel with
  | zero =>
    intro listed a w _ hr hy H w1 hG hS
    refine ⟨fun h => (by rw [h] at hr; cases hr), fun j hj => ?_⟩
    by_cases hji : j = i
    · subst hji; exact hy.wpOp hi hS fun w' hg => ⟨hup _ _ hS hg, wpAnyK_grows (hG.trans hg) H⟩
    · have := ready_mono hj hji
      rw [(H w1 hG hS).1] at this
      cases this
  | succ fuel ih =>
    intro listed a w hfree hr hy H w1 hG hS
    refine ⟨fun h => (by rw [h] at hr; cases hr), fun j hj => ?_⟩
    by_cases hji : j = i
    · subst hji; exact hy.wpOp hi hS fun w' hg => ⟨hup _ _ hS hg, wpAnyK_grows (hG.trans hg) H⟩
    · have h1 := (H w1 hG hS).2 j (ready_mono hj hji)
      obtain ⟨hjun, oj, hoj, hall⟩ := mem_ready.1 hj
      have hnot : ∀ e ∈ oj.after, Region.binds .any e = true → e.on ≠ i := fun e he hb heq => by
        have h1 := hall e he hb
        have h0 := (mem_ready.1 hr).1
        rw [heq] at h1
        rcases Nat.lt_or_ge i listed.size with h' | h'
        · simp [h'] at h0 h1; rw [h0] at h1; cases h1
        · simp [Array.getElem?_eq_none h'] at h1
      have h2 := wpOp_putK hoj (hfree j oj hoj hji hjun hnot) (fun cs b => hsel i oi cs b hi) (fun cs b => hsel j oj cs b hoj) hQ hy h1
      have hfree' : ∀ k ok, ops[k]? = some ok → k ≠ i → (listed.setIfInBounds j true).getD k true = false →
          (∀ e ∈ ok.after, Region.binds .any e = true → e.on ≠ i) → oi.apart ops ok = true := fun k ok hk hki hun hno => by
        refine hfree k ok hk hki ?_ hno
        by_cases hjk : j = k
        · subst hjk; exact hjun
        · rw [getD_set_ne true hjk] at hun; exact hun
      refine wpOp_mono (fun a' w' h3 => ⟨h3.2.1, ih (listed.setIfInBounds j true) a' w' hfree' (ready_mono hr (Ne.symm hji)) h3.1 ?_⟩) h2
      rw [Array.setIfInBounds_comm _ _ hji]
      exact h3.2.2
def wpMixC (P : Program) (ops : Array Oper) (S : World → Prop) (K : Act → Prop) : List Nat → Act → Prop
  | [], a => K a
  | i :: r, a => ∃ o v, ops[i]? = some o ∧ YieldsK P ops S o v a ∧ wpMixC P ops S K r (a.put o.dst v)
def mixC (ops : Array Oper) : List Nat → Array Bool → Option (Array Bool)
  | [], l => some l
  | i :: r, l => if (Region.ready .any ops l).contains i && Region.free .any ops l i then mixC ops r (l.setIfInBounds i true) else none
theorem wpAnyK_to (hup : ∀ w w', S w → Grows w w' → S w') (hsel : Region.noSelect ops = true) (hQ : ∀ c a d v w, Q (.panic c) (Act.put a d v) w → Q (.panic c) a w) {n : Nat} {l' : Array Bool} {w : World} :
    ∀ (r : List Nat) (l : Array Bool) (a : Act), mixC ops r l = some l' → wpMixC P ops S (fun a => wpAnyK P ops Q S n l' a w) r a → wpAnyK P ops Q S (r.length + n) l a w
  | [], l, a, hB, h => by
    simp only [mixC, Option.some.injEq] at hB
    subst hB
    simpa [wpMixC] using h
  | i :: r, l, a, hB, h => by
    unfold mixC at hB
    split at hB
    · rename_i hc
      simp only [Bool.and_eq_true] at hc
      obtain ⟨o, v, ho, hy, h'⟩ := h
      rw [show (i :: r).length + n = (r.length + n) + 1 by simp only [List.length_cons]; omega]
      exact wpAnyK_first hup ho (Region.noSelect_spec hsel) (fun c a w => hQ c a o.dst v w) (r.length + n) l a w (Region.free_spec ho hc.2) (by simpa using hc.1) hy (wpAnyK_to hup hsel hQ r _ _ hB h')
    · cases hB
/-- A stretch of operations that may be taken first. -/
theorem wpAnyK_run {a : Act} {w : World} {l l' : Array Bool} {m : Nat} (r : List Nat) (n : Nat) (hup : ∀ w w', S w → Grows w w' → S w') (hsel : Region.noSelect ops = true) (hQ : ∀ c a d v w, Q (.panic c) (Act.put a d v) w → Q (.panic c) a w) (hm : m = r.length + n)
    (hB : mixC ops r l = some l') (h : wpMixC P ops S (fun a => wpAnyK P ops Q S n l' a w) r a) : wpAnyK P ops Q S m l a w := by
  subst hm; exact wpAnyK_to hup hsel hQ r _ _ hB h
theorem wpMixC_q {i : Nat} {o : Oper} {r : List Nat} {a : Act} {K : Act → Prop} (ho : ops[i]? = some o)
    (h : ∀ K' : Act → Prop, Shut (∀ a, wpMixC P ops S K r a → K' a) → if Region.wanted o (yielded ops a.tmps) = true then ∃ v, (∀ wq, S wq → (execOp a.eval o).run P wq = .ok (.value v) wq) ∧ K' (a.put o.dst v) else K' (a.put o.dst undef)) :
    wpMixC P ops S K (i :: r) a := by
  have h' := h _ (fun _ h => h)
  split at h'
  · rename_i hw
    obtain ⟨v, h1, h2⟩ := h'
    exact ⟨o, v, ho, .inl ⟨hw, fun w hS => by rw [h1 w hS]; exact ⟨rfl, Grows.refl w⟩⟩, h2⟩
  · rename_i hw
    exact ⟨o, undef, ho, .inr ⟨by simpa using hw, rfl⟩, h'⟩
theorem wpMix_s {i : Nat} {o : Oper} {r : List (Nat × Bool)} {a : Act} {w : World} (ho : ops[i]? = some o)
    (h : ∀ K : Act → Prop, Shut (∀ a, wpMix P ops S Q r a w → K a) → if Region.wanted o (yielded ops a.tmps) = true then ∃ v, (∀ wq, S wq → (execOp a.eval o).run P wq = .ok (.value v) wq) ∧ K (a.put o.dst v) else K (a.put o.dst undef)) :
    wpMix P ops S Q ((i, true) :: r) a w :=
  wpMix_q ho fun K hK => h K hK
theorem wpQuiet_s {C : World → Prop} {Q : Act → Prop} {a : Act} {o : Oper} {rest : List Oper}
    (h : ∀ K : Act → Prop, Shut (∀ a, wpQuiet P ops C Q rest a → K a) → if Region.wanted o (yielded ops a.tmps) then o.quiet P a C K else K (a.put o.dst undef)) : wpQuiet P ops C Q (o :: rest) a :=
  wpQuiet_step fun K hK => h K hK
theorem wpMixC_c {i : Nat} {o : Oper} {r : List Nat} {a : Act} {K : Act → Prop} (v : Value) (ho : ops[i]? = some o) (hw : Region.wanted o (yielded ops a.tmps) = true)
    (h : ∀ wq, S wq → OutK P v wq ((execOp a.eval o).run P wq)) (h2 : wpMixC P ops S K r (a.put o.dst v)) : wpMixC P ops S K (i :: r) a :=
  ⟨o, v, ho, .inl ⟨hw, h⟩, h2⟩
theorem wpMixC_v {i : Nat} {o : Oper} {r : List Nat} {a : Act} {K : Act → Prop} (v : Value) (ho : ops[i]? = some o) (hw : Region.wanted o (yielded ops a.tmps) = true)
    (h : ∀ wq, S wq → (execOp a.eval o).run P wq = .ok (.value v) wq) (h2 : wpMixC P ops S K r (a.put o.dst v)) : wpMixC P ops S K (i :: r) a :=
  ⟨o, v, ho, .inl ⟨hw, fun w hS => by rw [h w hS]; exact ⟨rfl, Grows.refl w⟩⟩, h2⟩
theorem wpMixC_off {i : Nat} {o : Oper} {r : List Nat} {a : Act} {K : Act → Prop} (ho : ops[i]? = some o) (hw : Region.wanted o (yielded ops a.tmps) = false)
    (h2 : wpMixC P ops S K r (a.put o.dst undef)) : wpMixC P ops S K (i :: r) a :=
  ⟨o, undef, ho, .inr ⟨hw, rfl⟩, h2⟩
theorem wpMixC_nil {a : Act} {K : Act → Prop} (h : K a) : wpMixC P ops S K [] a := h
/-- Any of several comes up. -/
def AllReadyK (P : Program) (ops : Array Oper) (Q : Exit → Act → World → Prop) (S : World → Prop) (m : Nat) (l : Array Bool) (a : Act) (w : World) (rs : List Nat) : Prop :=
  ∀ i ∈ rs, wpOp P ops Q i (fun a' w' => S w' ∧ wpAnyK P ops Q S m (l.setIfInBounds i true) a' w') a w
theorem AllReadyK.nil {m : Nat} {l : Array Bool} {a : Act} {w : World} : AllReadyK P ops Q S m l a w [] := fun _ h => by cases h
theorem AllReadyK.cons {m i : Nat} {l : Array Bool} {a : Act} {w : World} {rs : List Nat} {o : Oper} (ho : ops[i]? = some o)
    (h : ∀ K' : Act → World → Prop, Shut (∀ a w, S w → (S w → wpAnyK P ops Q S m (l.setIfInBounds i true) a w) → K' a w) → if Region.wanted o (yielded ops a.tmps) = true then Oper.wp P o a w K' Q else K' (a.put o.dst undef) w)
    (hr : AllReadyK P ops Q S m l a w rs) : AllReadyK P ops Q S m l a w (i :: rs) := fun j hj => by
  rcases List.mem_cons.1 hj with rfl | hj
  · exact wpOp_step ho (fun K' hK => h K' (fun a w hS hW => hK a w ⟨hS, hW hS⟩))
  · exact hr j hj
theorem wpAnyK_alt {a : Act} {w : World} {l : Array Bool} {m : Nat} (rs : List Nat) (hr : Region.ready .any ops l = rs) (hne : rs ≠ []) (h : ∀ w1, Grows w w1 → S w1 → AllReadyK P ops Q S m l a w1 rs) : wpAnyK P ops Q S (m + 1) l a w :=
  fun w1 hG hS => ⟨fun h0 => absurd (hr.symm.trans h0) hne, by rw [hr]; exact h w1 hG hS⟩
theorem wpAnyK_end {a : Act} {w : World} {l : Array Bool} {m : Nat} (hr : Region.ready .any ops l = []) (h : ∀ w1, Grows w w1 → S w1 → Q .normal a w1) : wpAnyK P ops Q S m l a w := by
  cases m with
  | zero => exact fun w1 hG hS => ⟨hr, h w1 hG hS⟩
  | succ m => exact fun w1 hG hS => ⟨fun _ => h w1 hG hS, fun i hi => by rw [hr] at hi; cases hi⟩
theorem wp_region_k {id : Nat} {a : Act} {w : World} {l : List Oper} (hm : P.follows .mixedOrders = true)
    (h : wpAnyK P l.toArray Q (Grows w) l.length (Array.replicate l.length false) a w) : (Code.region id l.toArray true).wp P Q a w := by
  refine wp_region_any hm (wpAny_of_K (S := Grows w) _ _ _ _ (Grows.refl w).drew ?_)
  have := wpAnyK_grows (Grows.refl w).drew h
  simpa using this
theorem wp_region_kb {id : Nat} {a : Act} {w : World} {l : List Oper} (B : Nat) (hm : P.follows .mixedOrders = true)
    (h : wpAnyK P l.toArray Q (Below B w) l.length (Array.replicate l.length false) a w) : (Code.region id l.toArray true).wp P Q a w := by
  refine wp_region_any hm (wpAny_of_K (S := Below B w) _ _ _ _ (Below.refl B w).drew ?_)
  have := wpAnyK_grows (Grows.refl w).drew h
  simpa using this
theorem up_grows {w0 : World} : ∀ w w', Grows w0 w → Grows w w' → Grows w0 w' := fun _ _ h k => h.trans k
theorem up_below {B : Nat} {w0 : World} (hB : B ≤ w0.heap.size) : ∀ w w', Below B w0 w → Grows w w' → Below B w0 w' := fun _ _ h k => Below.trans h (Below.mono k (Nat.le_trans hB (Below.size h)))
end
end Go.Proofs.YtfppagcifcppaaaDoor
