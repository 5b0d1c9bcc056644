/- A drawn region in which several operations may come up: taken apart order by order; a slice appended that may be nil. -/
import Derived.Test.YtfppagcifcppaaaDoorOwn
namespace Go.Proofs.YtfppagcifcppaaaDoor
open Go.RowKit

section
variable {P : Program} {ops : Array Oper} {Q : Exit → Act → World → Prop} {S : World → Prop} {K : Act → World → Prop}
def wpMixK (P : Program) (ops : Array Oper) (S : World → Prop) (K : Act → World → Prop) (Q : Exit → Act → World → Prop) : List (Nat × Bool) → Act → World → Prop
  | [], a, w => S w → K a w
  | (i, true) :: r, a, w => ∃ o v, ops[i]? = some o ∧ YieldsIf P ops S o v a ∧ wpMixK P ops S K Q r (a.put o.dst v) w
  | (i, false) :: r, a, w => wpOp P ops Q i (fun a' w' => S w' ∧ wpMixK P ops S K Q r a' w') a w
def mixTo (ops : Array Oper) : List (Nat × Bool) → Array Bool → Option (Array Bool)
  | [], l => some l
  | (i, true) :: r, l => if (Region.ready .any ops l).contains i && Region.free .any ops l i then mixTo ops r (l.setIfInBounds i true) else none
  | (i, false) :: r, l => if Region.ready .any ops l = [i] then mixTo ops r (l.setIfInBounds i true) else none
theorem wpAnyH_to (hsel : Region.noSelect ops = true) (hQ : ∀ c a d v w, Q (.panic c) (Act.put a d v) w → Q (.panic c) a w) {n : Nat} {l' : Array Bool} :
    ∀ (r : List (Nat × Bool)) (l : Array Bool) (a : Act) (w : World), S w → mixTo ops r l = some l' → wpMixK P ops S (wpAnyH P .any ops Q S n l') Q r a w → wpAnyH P .any ops Q S (r.length + n) l a w
  | [], l, a, w, hS, hB, h => by
    simp only [mixTo, Option.some.injEq] at hB
    subst hB
    simpa using h hS
  | (i, true) :: r, l, a, w, hS, hB, h => by
    unfold mixTo at hB
    split at hB
    · rename_i hc
      simp only [Bool.and_eq_true] at hc
      obtain ⟨o, v, ho, hy, h'⟩ := h
      rw [show ((i, true) :: r).length + n = (r.length + n) + 1 by simp only [List.length_cons]; omega]
      exact wpAnyH_take ho hsel hc.2 hc.1 (fun c a w => hQ c a o.dst v w) hy hS (wpAnyH_to hsel hQ r _ _ _ hS hB h')
    · cases hB
  | (i, false) :: r, l, a, w, _, hB, h => by
    unfold mixTo at hB
    split at hB
    · rename_i hc
      rw [show ((i, false) :: r).length + n = (r.length + n) + 1 by simp only [List.length_cons]; omega]
      refine wpAnyH_all hc (by simp) fun j hj => ?_
      have hji : j = i := by simpa using hj
      subst hji
      exact wpOp_mono (fun a' w' h' => ⟨h'.1, wpAnyH_to hsel hQ r _ _ _ h'.1 hB h'.2⟩) h
    · cases hB
theorem wp_region_alt {id : Nat} {a : Act} {w : World} {l : List Oper} (hm : P.follows .mixedOrders = true)
    (h : wpAnyH P .any l.toArray Q (Grows w) l.length (Array.replicate l.length false) a w.drew) : (Code.region id l.toArray true).wp P Q a w :=
  wp_region_held_drew (S := Grows w) hm (Grows.refl w).drew (fun _ => by simpa using h)
theorem wp_region_altb {id : Nat} {a : Act} {w : World} {l : List Oper} (B : Nat) (hm : P.follows .mixedOrders = true)
    (h : wpAnyH P .any l.toArray Q (Below B w) l.length (Array.replicate l.length false) a w.drew) : (Code.region id l.toArray true).wp P Q a w :=
  wp_region_held_drew (S := Below B w) hm (Below.refl B w).drew (fun _ => by simpa using h)
/-- A stretch of operations whose order is settled. -/
theorem wpAnyH_run {a : Act} {w : World} {l l' : Array Bool} {m : Nat} (r : List (Nat × Bool)) (n : Nat) (hsel : Region.noSelect ops = true) (hQ : ∀ c a d v w, Q (.panic c) (Act.put a d v) w → Q (.panic c) a w) (hm : m = r.length + n)
    (hB : mixTo ops r l = some l') (hS : S w) (h : wpMixK P ops S (wpAnyH P .any ops Q S n l') Q r a w) : wpAnyH P .any ops Q S m l a w := by
  subst hm; exact wpAnyH_to hsel hQ r _ _ _ hS hB h
/-- Any of several comes up. -/
theorem wpAnyH_alt {a : Act} {w : World} {l : Array Bool} {m : Nat} (rs : List Nat) (hr : Region.ready .any ops l = rs) (hne : rs ≠ []) (h : AllReadyH P .any ops Q S m l a w rs) : wpAnyH P .any ops Q S (m + 1) l a w :=
  wpAnyH_ready hr hne h
theorem wpAnyH_end {a : Act} {w : World} {l : Array Bool} {m : Nat} (hr : Region.ready .any ops l = []) (h : Q .normal a w) : wpAnyH P .any ops Q S m l a w := wpAnyH_done hr h m
theorem wpMixK_q {i : Nat} {o : Oper} {r : List (Nat × Bool)} {a : Act} {w : World} (ho : ops[i]? = some o)
    (h : ∀ K' : Act → Prop, (∀ a, wpMixK P ops S K Q r a w → K' a) → if Region.wanted o (yielded ops a.tmps) = true then ∃ v, (∀ wq, S wq → (execOp a.eval o).run P wq = .ok (.value v) wq) ∧ K' (a.put o.dst v) else K' (a.put o.dst undef)) :
    wpMixK P ops S K Q ((i, true) :: r) a w := by
  have h' := h _ (fun _ h => h)
  split at h'
  · rename_i hw
    obtain ⟨v, h1, h2⟩ := h'
    exact ⟨o, v, ho, .inl ⟨hw, h1⟩, h2⟩
  · rename_i hw
    exact ⟨o, undef, ho, .inr ⟨by simpa using hw, rfl⟩, h'⟩
theorem wpMixK_m {i : Nat} {o : Oper} {r : List (Nat × Bool)} {a : Act} {w : World} (ho : ops[i]? = some o)
    (h : ∀ K' : Act → World → Prop, Shut (∀ a w, S w → (S w → wpMixK P ops S K Q r a w) → K' a w) → if Region.wanted o (yielded ops a.tmps) = true then Oper.wp P o a w K' Q else K' (a.put o.dst undef) w) :
    wpMixK P ops S K Q ((i, false) :: r) a w :=
  wpOp_step ho (fun K' hK => h K' (fun a w hS hW => hK a w ⟨hS, hW hS⟩))
theorem wpMixK_nil {a : Act} {w : World} (h : S w → K a w) : wpMixK P ops S K Q [] a w := h
end

theorem run_append_nil {P : Program} {w : World} {base : Nat} {t ty e : TypeId} {i : TypeInfo} {k : Nat} (ht : P.underlying t = some (.slice e)) (hi : P.info? e = some i)
    {v : Value} {n : Nat} {xs : List Value} (hown : w.ownsRow base e k v n xs) (c : Nat) : (Builtin.append_ #[t, t] ty #[v, .slice none 0 c]).run P w = .ok v w := by
  rcases hown.2 with ⟨rfl, rfl⟩ | ⟨g, cap, cur, rfl, _, _, hnc, _⟩
  · simp [Builtin.append_, run_underlying ht, sizeOf, typeInfo, hi, Builtin.lenOf, Builtin.firstCells]
  · simp [Builtin.append_, run_underlying ht, sizeOf, typeInfo, hi, Builtin.lenOf, Builtin.firstCells, hnc, storeCells]
/-- A whole slice appended, nil or not. -/
theorem Own.grownOpt {α : Type} {w : World} {base k : Nat} {e : TypeId} {enc : α → List Value} {v : Value} {xs : List α} {P : Program} {ops : Array Oper} {o : Oper} {ac : Act} {K : Act → World → Prop} {Q : Exit → Act → World → Prop} {E : Prop} {ys : List α} {m bytes c : Nat} {t : TypeId} (T : SliceT P t e k bytes) (hgd : Region.wanted o (yielded ops ac.tmps) = true) (s y : Operand)
    (ho : o.op = .call { callee := .builtin .append, args := #[s, y], argTypes := #[t, t] }) (h : Own w base e k enc v xs) (hs : ac.eval s = v) {A : Option Addr} (hy : ac.eval y = .slice A m c) (harr : Arr w k enc A m ys)
    (hk : ∀ x, (enc x).length = k) (h1 : ∀ x, ∀ u ∈ enc x, u.oneCell' = true) (hbase : base ≤ w.heap.size) (h63 : xs.length + m ≤ maxLen) (hbytes : (xs.length + m) * bytes ≤ 140737488355328)
    (hK : ∀ v' w', Own w' base e k enc v' (xs ++ ys) → w.grownBy w' v.ownBlock → (v'.ownBlock = v.ownBlock ∨ v'.ownBlock = some w.heap.size) → K (ac.put o.dst v') w') :
    if Region.wanted o (yielded ops ac.tmps) = true then Oper.wp P o ac w K Q else E := by
  rw [if_pos hgd]
  obtain ⟨i, z, hi, hz, hsz, hby, hzs⟩ := T.info
  rcases A with _ | ad
  · have hm : m = 0 := by
      rcases Nat.eq_zero_or_pos m with h0 | h0
      · exact h0
      · obtain ⟨b, off, h, _⟩ := harr.2 h0
        cases h
    subst hm
    obtain rfl : ys = [] := List.eq_nil_of_length_eq_zero harr.1
    have hr := run_append_nil (P := P) (ty := o.type) T.und hi h c
    unfold Oper.wp execOp
    simp only [ho, resolve, invoke, builtin, Sem.run_bind, Sem.run_pure, Result.andThen_ok, List.map_toArray, List.map_cons, List.map_nil, hs, hy, hr]
    exact hK v w (by simpa using h) (World.grownBy.refl w _) (.inl rfl)
  · have hnews : ∀ j u, (encAll enc ys)[j]? = some u → w.cell? (ad.add j) = some u := by
      intro j u hu
      have hj := (List.getElem?_eq_some_iff.1 hu).1
      rw [encAll_length hk] at hj
      have hm : 0 < ys.length := by
        rcases Nat.eq_zero_or_pos ys.length with h0 | h0
        · rw [h0] at hj; omega
        · exact h0
      obtain ⟨b, off, e1, _, hc⟩ := harr.2 (by rw [← harr.1]; exact hm)
      have e2 : j / k * k + j % k = j := by rw [Nat.mul_comm]; exact Nat.div_add_mod j k
      have hq : j / k < ys.length := (Nat.div_lt_iff_lt_mul T.pos).2 hj
      have h2 := encAll_get hk ys _ hq _ (Nat.mod_lt j T.pos)
      rw [e2, hu] at h2
      have h3 := hc _ hq _ u h2.symm
      rw [show off + j / k * k + j % k = off + j by omega] at h3
      injection e1 with e1
      subst e1
      have : (⟨b, off, none⟩ : Addr).add j = ⟨b, off + j, none⟩ := by unfold Addr.add; by_cases hj : j = 0 <;> simp [hj]
      rw [this]; exact h3
    obtain ⟨v', w', hr, h2, h3, _, h5⟩ := run_append_own_at (P := P) w base t o.type e i z k bytes T.und hi hz hsz hby hzs T.pos v xs.length (encAll enc xs) h ad m c (encAll enc ys) (by rw [encAll_length hk, harr.1]) hnews (fun u hu => by
        simp only [encAll, List.mem_flatMap] at hu
        obtain ⟨x, _, hx⟩ := hu
        exact h1 x u hx) h63 hbytes hbase
    unfold Oper.wp execOp
    simp only [ho, resolve, invoke, builtin, Sem.run_bind, Sem.run_pure, Result.andThen_ok, List.map_toArray, List.map_cons, List.map_nil, hs, hy, hr]
    refine hK v' w' ?_ h3 h5
    unfold Own
    rw [List.length_append, harr.1]
    have : encAll enc (xs ++ ys) = encAll enc xs ++ encAll enc ys := by simp [encAll]
    rw [this]
    exact h2
/-- A part of a slice. -/
theorem Arr.one_of {α : Type} {w : World} {k n : Nat} {enc : α → List Value} {b off i : Nat} {xs : List α} (h : Arr w k enc (some ⟨b, off, none⟩) n xs) {x : α} (hx : xs[i]? = some x) : Arr w k enc (some ⟨b, off + i * k, none⟩) 1 [x] :=
  ⟨rfl, fun _ => by
    have hi := (List.getElem?_eq_some_iff.1 hx).1
    have hn := h.1
    obtain ⟨b', off', e, hb, hc⟩ := h.2 (by omega)
    simp only [Option.some.injEq, Addr.mk.injEq, and_true] at e
    obtain ⟨rfl, rfl⟩ := e
    refine ⟨_, _, rfl, hb, fun j hj q u hu => ?_⟩
    obtain rfl : j = 0 := by simpa using hj
    have hx' : xs[i] = x := (List.getElem?_eq_some_iff.1 hx).2
    rw [show off + i * k + 0 * k + q = off + i * k + q by omega]
    exact hc i hi q u (by rw [hx']; simpa using hu)⟩
end Go.Proofs.YtfppagcifcppaaaDoor
