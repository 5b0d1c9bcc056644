/- Slices of the call's own, cell by cell: a store into one, a cut, a whole slice appended, a slice cleared. -/
import Derived.Test.YtfppagcifcppaaaDoorKit
import Derived.Laws.IdiomCopy
namespace Go.Proofs.YtfppagcifcppaaaDoor
open Go.RowKit

section
variable {α : Type} {w w' a : World} {base k n B g cap : Nat} {e : TypeId} {enc : α → List Value} {v : Value} {xs : List α}
theorem Own.mk_ {cur : Array Value} (hk : ∀ x, (enc x).length = k) (hk0 : 0 < k) (hb : base ≤ g) (hh : w.heap[g]? = some (.cells cur e (0, 0))) (hnc : xs.length ≤ cap) (hcm : cap ≤ maxLen) (hcs : cur.size = cap * k)
    (hc : ∀ q (h : q < xs.length) r, r < k → cur[q * k + r]? = (enc xs[q])[r]?) : Own w base e k enc (.slice (some ⟨g, 0, none⟩) xs.length cap) xs := by
  refine ⟨encAll_length hk xs, .inr ⟨g, cap, cur, rfl, hb, hh, hnc, hcm, hcs, ?_⟩⟩
  apply List.ext_getElem?
  intro t
  by_cases ht : t < xs.length * k
  · have hq : t / k < xs.length := (Nat.div_lt_iff_lt_mul hk0).2 ht
    have hr : t % k < k := Nat.mod_lt _ hk0
    have e1 : t / k * k + t % k = t := by rw [Nat.mul_comm]; exact Nat.div_add_mod t k
    have h1 := hc _ hq _ hr
    have h2 := encAll_get hk xs _ hq _ hr
    rw [e1] at h1 h2
    rw [List.getElem?_take_of_lt ht, h2, ← h1]
    simp
  · rw [List.getElem?_eq_none (by simp [List.length_take]; omega), List.getElem?_eq_none (by rw [encAll_length hk]; omega)]
theorem Own.cells_ (h : Own w base e k enc (.slice (some ⟨g, 0, none⟩) n cap) xs) (hk : ∀ x, (enc x).length = k) : ∃ cur, xs.length = n ∧ base ≤ g ∧ w.heap[g]? = some (.cells cur e (0, 0)) ∧ n ≤ cap ∧ cap ≤ maxLen ∧ cur.size = cap * k ∧
    ∀ q (h : q < xs.length) r, r < k → cur[q * k + r]? = (enc xs[q])[r]? := by
  rcases h.2 with ⟨h1, _⟩ | ⟨g', cap', cur, hv, hb, hh, hnc, hcm, hcs, ht⟩
  · cases h1
  · simp only [Value.slice.injEq, Option.some.injEq, Addr.mk.injEq, and_true] at hv
    obtain ⟨hg', hn, hc'⟩ := hv
    subst hg'; subst hn; subst hc'
    refine ⟨cur, rfl, hb, hh, hnc, hcm, hcs, fun q hq r hr => ?_⟩
    rw [← encAll_get hk xs q hq r hr, ← ht, List.getElem?_take_of_lt (by have := Nat.mul_le_mul_right k (show q + 1 ≤ xs.length from hq); rw [Nat.add_mul] at this; omega)]
    simp
theorem Own.len (h : Own w base e k enc (.slice (some ⟨g, 0, none⟩) n cap) xs) (hk : ∀ x, (enc x).length = k) : xs.length = n := by
  obtain ⟨_, h, _⟩ := h.cells_ hk; exact h
theorem Own.at_ (h : Own w base e k enc (.slice (some ⟨g, 0, none⟩) n cap) xs) (hk : ∀ x, (enc x).length = k) {i : Nat} (hi : i < n) : ∃ x, xs[i]? = some x ∧ (∀ r u, (enc x)[r]? = some u → w.cell? ⟨g, i * k + r, none⟩ = some u) ∧ ∀ r, w.frozen? ⟨g, r, none⟩ = false := by
  obtain ⟨cur, hl, _, hh, _, _, hcs, hc⟩ := h.cells_ hk
  refine ⟨xs[i]'(by omega), List.getElem?_eq_getElem (by omega), fun r u hu => ?_, fun r => by simp [World.frozen?, hh]⟩
  have hr : r < k := by rw [← hk (xs[i]'(by omega))]; exact (List.getElem?_eq_some_iff.1 hu).1
  have e1 := hc i (by omega) r hr
  rw [hu] at e1
  simp only [World.cell?, hh]
  simpa using e1
/-- s[:i] -/
theorem Own.cut (h : Own w base e k enc (.slice (some ⟨g, 0, none⟩) n cap) xs) (hk : ∀ x, (enc x).length = k) (hk0 : 0 < k) {i : Nat} (hi : i ≤ n) : Own w base e k enc (.slice (some ⟨g, 0, none⟩) i cap) (xs.take i) := by
  obtain ⟨cur, hl, hb, hh, hnc, hcm, hcs, hc⟩ := h.cells_ hk
  have hl' : (xs.take i).length = i := by rw [List.length_take]; omega
  have := Own.mk_ (xs := xs.take i) (cap := cap) hk hk0 hb hh (by omega) hcm hcs (fun q hq r hr => by
    rw [hc q (by omega) r hr, List.getElem_take])
  rwa [hl'] at this
theorem heap_setCells (g : Nat) (e : TypeId) : ∀ (vs : List Value) (o : Nat) (w : World) (cur : Array Value), w.heap[g]? = some (.cells cur e (0, 0)) → o + vs.length ≤ cur.size →
    ∃ cur', (w.setCells g o vs).heap[g]? = some (.cells cur' e (0, 0)) ∧ cur'.size = cur.size ∧ ∀ t : Nat, cur'[t]? = if o ≤ t ∧ t < o + vs.length then vs[t - o]? else cur[t]?
  | [], o, w, cur, h, _ => ⟨cur, h, rfl, fun t => by rw [if_neg (by simp)]⟩
  | v :: r, o, w, cur, h, hl => by
    simp only [List.length_cons] at hl
    have h1 : (w.setCell ⟨g, o, none⟩ v).heap[g]? = some (.cells (cur.setIfInBounds o v) e (0, 0)) := by
      simp [World.setCell, Array.getElem?_modify, h]
    obtain ⟨cur', h2, h3, h4⟩ := heap_setCells g e r (o + 1) _ _ h1 (by simp; omega)
    refine ⟨cur', h2, by simpa using h3, fun t => ?_⟩
    rw [h4 t]
    by_cases ht : t = o
    · subst ht
      rw [if_neg (by omega), if_pos (by simp), Array.getElem?_setIfInBounds]
      simp
      omega
    · by_cases h5 : o + 1 ≤ t ∧ t < o + 1 + r.length
      · rw [if_pos h5, if_pos (by simp; omega), show t - o = (t - (o + 1)) + 1 by omega]; simp
      · rw [if_neg h5, if_neg (by simp; omega)]
        simp [Ne.symm ht]
/-- s[i] = x -/
theorem Own.set_ (h : Own w base e k enc (.slice (some ⟨g, 0, none⟩) n cap) xs) (hk : ∀ x, (enc x).length = k) (hk0 : 0 < k) {i : Nat} (hi : i < n) (x : α) :
    Own (w.setCells g (i * k) (enc x)) base e k enc (.slice (some ⟨g, 0, none⟩) n cap) (xs.set i x) := by
  obtain ⟨cur, hl, hb, hh, hnc, hcm, hcs, hc⟩ := h.cells_ hk
  have hlt : i * k + k ≤ cap * k := by have := Nat.mul_le_mul_right k (show i + 1 ≤ cap by omega); rw [Nat.add_mul] at this; omega
  obtain ⟨cur', h1, h2, h3⟩ := heap_setCells g e (enc x) (i * k) w cur hh (by rw [hk]; omega)
  have hl' : (xs.set i x).length = n := by rw [List.length_set]; exact hl
  have := Own.mk_ (xs := xs.set i x) (cap := cap) hk hk0 hb h1 (by omega) hcm (by omega) (fun q hq r hr => by
    rw [h3]
    rw [List.getElem_set]
    by_cases hq' : i = q
    · subst hq'
      rw [if_pos (by rw [hk]; omega), if_pos rfl, show i * k + r - i * k = r by omega]
    · rw [if_neg hq', if_neg (by
        rw [hk]
        rintro ⟨h4, h5⟩
        rcases Nat.lt_or_ge q i with h6 | h6
        · have := Nat.mul_le_mul_right k (show q + 1 ≤ i from h6); rw [Nat.add_mul] at this; omega
        · have := Nat.mul_le_mul_right k (show i + 1 ≤ q by omega); rw [Nat.add_mul] at this; omega)]
      exact hc q (by omega) r hr)
  rwa [hl'] at this
theorem setCells_append (g : Nat) : ∀ (a b : List Value) (o : Nat) (w : World), w.setCells g o (a ++ b) = (w.setCells g o a).setCells g (o + a.length) b
  | [], b, o, w => by simp [World.setCells]
  | x :: a, b, o, w => by simp only [List.cons_append, World.setCells, List.length_cons]; rw [setCells_append g a b, show o + 1 + a.length = o + (a.length + 1) by omega]
/-- All from place i on are overwritten by z. -/
theorem Own.clear_ (hk : ∀ x, (enc x).length = k) (hk0 : 0 < k) (z : α) : ∀ (m i : Nat) (w : World) (xs : List α), Own w base e k enc (.slice (some ⟨g, 0, none⟩) n cap) xs → i + m = n →
    ∃ ys, Own (w.setCells g (i * k) (encAll enc (List.replicate m z))) base e k enc (.slice (some ⟨g, 0, none⟩) n cap) ys ∧ ys.take i = xs.take i
  | 0, i, w, xs, h, _ => ⟨xs, by simpa [encAll, World.setCells] using h, rfl⟩
  | m + 1, i, w, xs, h, hi => by
    have h1 := h.set_ hk hk0 (i := i) (by omega) z
    obtain ⟨ys, h2, h3⟩ := Own.clear_ hk hk0 z m (i + 1) _ _ h1 (by omega)
    refine ⟨ys, ?_, ?_⟩
    · have : encAll enc (List.replicate (m + 1) z) = enc z ++ encAll enc (List.replicate m z) := by simp [encAll, List.replicate_succ]
      rw [this, setCells_append, hk, show i * k + k = (i + 1) * k by rw [Nat.add_mul]; omega]
      exact h2
    · have := congrArg (List.take i) h3
      rw [List.take_take, List.take_take, Nat.min_eq_left (by omega)] at this
      rw [this]
      rw [List.take_set_of_le (by omega)]
theorem Below.setCells {B : Nat} {a : World} {g : Nat} (hg : B ≤ g) : ∀ (vs : List Value) (o : Nat) (w : World), Below B a w → Below B a (w.setCells g o vs)
  | [], _, _, h => h
  | _ :: r, o, _, h => Below.setCells hg r (o + 1) _ (Below.setCell h (p := ⟨g, o, none⟩) hg _)
theorem zeroCells_enc {z : α} {m : Nat} (hk : ∀ x, (enc x).length = k) (hk0 : 0 < k) : (Builtin.zeroCells (enc z).toArray m).toList = encAll enc (List.replicate m z) := by
  apply List.ext_getElem?
  intro t
  have hlen := encAll_length hk (List.replicate m z)
  rw [List.length_replicate] at hlen
  by_cases ht : t < m * k
  · have hq : t / k < m := (Nat.div_lt_iff_lt_mul hk0).2 ht
    have hr : t % k < k := Nat.mod_lt _ hk0
    have e1 : t / k * k + t % k = t := by rw [Nat.mul_comm]; exact Nat.div_add_mod t k
    have h2 := encAll_get hk (List.replicate m z) (t / k) (by rw [List.length_replicate]; exact hq) _ hr
    rw [e1, List.getElem_replicate] at h2
    rw [h2]
    simp only [Builtin.zeroCells, List.size_toArray, hk, Array.toList_map, Array.toList_range, List.getElem?_map]
    rw [List.getElem?_range ht]
    simp only [Option.map_some]
    rw [List.getElem?_eq_getElem (by rw [hk]; exact hr)]
    simp [hk, hr]
  · rw [List.getElem?_eq_none (by simp [Builtin.zeroCells, hk]; omega), List.getElem?_eq_none (by omega)]
/-- clear(s[i:]) -/
theorem Own.run_clear {P : Program} {t ty : TypeId} {z : α} {zv : Value} {i c : Nat} (h : Own w base e k enc (.slice (some ⟨g, 0, none⟩) n cap) xs) (hk : ∀ x, (enc x).length = k) (hk0 : 0 < k) (h1 : ∀ x, ∀ u ∈ enc x, u.oneCell' = true)
    (ht : P.underlying t = some (.slice e)) (hz : ∀ w, (zeroValue e).run P w = .ok zv w) (hzc : zv.cells = (enc z).toArray) (hi : i < n) :
    (Builtin.clear_ #[t] ty #[.slice (some ⟨g, i * k, none⟩) (n - i) c]).run P w = .ok (.tuple #[]) (w.setCells g (i * k) (encAll enc (List.replicate (n - i) z))) := by
  obtain ⟨cur, hl, hb, hh, hnc, hcm, hcs, hc⟩ := h.cells_ hk
  have hlen := encAll_length hk (List.replicate (n - i) z)
  rw [List.length_replicate] at hlen
  have hle : i * k + (n - i) * k ≤ cur.size := by
    rw [hcs, ← Nat.add_mul]; exact Nat.mul_le_mul_right k (by omega)
  have hst := run_storeCells_cells (P := P) g (i * k) (encAll enc (List.replicate (n - i) z)) 0 w
    (fun j hj => by
      simp [World.cell?, hh]
      omega)
    (fun j hj => by simp [World.frozen?, hh])
    (fun u hu => by
      simp only [encAll, List.mem_flatMap] at hu
      obtain ⟨x, _, hx⟩ := hu
      exact h1 x u hx)
  simp only [Nat.add_zero] at hst
  obtain ⟨m, hm⟩ : ∃ m, n - i = m + 1 := ⟨n - i - 1, by omega⟩
  rw [hm] at hst ⊢
  simp only [Builtin.clear_]
  simp [run_underlying ht, hz, hzc, zeroCells_enc hk hk0, hst]
theorem Own.grownAll {P : Program} {ops : Array Oper} {o : Oper} {ac : Act} {K : Act → World → Prop} {Q : Exit → Act → World → Prop} {E : Prop} {ys : List α} {m bytes c : Nat} {t : TypeId} (T : SliceT P t e k bytes) (hgd : o.guard = none) (s y : Operand)
    (ho : o.op = .call { callee := .builtin .append, args := #[s, y], argTypes := #[t, t] }) (h : Own w base e k enc v xs) (hs : ac.eval s = v) (ad : Addr) (hy : ac.eval y = .slice (some ad) m c) (harr : Arr w k enc (some ad) m ys)
    (hk : ∀ x, (enc x).length = k) (h1 : ∀ x, ∀ u ∈ enc x, u.oneCell' = true) (hbase : base ≤ w.heap.size) (h63 : xs.length + m ≤ maxLen) (hbytes : (xs.length + m) * bytes ≤ 140737488355328)
    (hK : ∀ v' w', Own w' base e k enc v' (xs ++ ys) → w.grownBy w' v.ownBlock → (v'.ownBlock = v.ownBlock ∨ v'.ownBlock = some w.heap.size) → K (ac.put o.dst v') w') :
    if Region.wanted o (yielded ops ac.tmps) = true then Oper.wp P o ac w K Q else E := by
  rw [if_pos (by simp [Region.wanted, hgd])]
  obtain ⟨i, z, hi, hz, hsz, hby, hzs⟩ := T.info
  have hnews : ∀ j u, (encAll enc ys)[j]? = some u → w.cell? (ad.add j) = some u := by
    intro j u hu
    have hj := (List.getElem?_eq_some_iff.1 hu).1
    rw [encAll_length hk] at hj
    have hm : 0 < ys.length := by
      rcases Nat.eq_zero_or_pos ys.length with h0 | h0
      · rw [h0] at hj; omega
      · exact h0
    obtain ⟨b, off, e1, _, hc⟩ := harr.2 (by rw [← harr.1]; exact hm)
    have e2 : j / k * k + j % k = j := by rw [Nat.mul_comm]; exact Nat.div_add_mod j k
    have hq : j / k < ys.length := (Nat.div_lt_iff_lt_mul T.pos).2 hj
    have h2 := encAll_get hk ys _ hq _ (Nat.mod_lt j T.pos)
    rw [e2, hu] at h2
    have h3 := hc _ hq _ u h2.symm
    rw [show off + j / k * k + j % k = off + j by omega] at h3
    injection e1 with e1
    subst e1
    have : (⟨b, off, none⟩ : Addr).add j = ⟨b, off + j, none⟩ := by unfold Addr.add; by_cases hj : j = 0 <;> simp [hj]
    rw [this]; exact h3
  obtain ⟨v', w', hr, h2, h3, _, h5⟩ := run_append_own_at (P := P) w base t o.type e i z k bytes T.und hi hz hsz hby hzs T.pos v xs.length (encAll enc xs) h ad m c (encAll enc ys) (by rw [encAll_length hk, harr.1]) hnews (fun u hu => by
      simp only [encAll, List.mem_flatMap] at hu
      obtain ⟨x, _, hx⟩ := hu
      exact h1 x u hx) h63 hbytes hbase
  unfold Oper.wp execOp
  simp only [ho, resolve, invoke, builtin, Sem.run_bind, Sem.run_pure, Result.andThen_ok, List.map_toArray, List.map_cons, List.map_nil, hs, hy, hr]
  refine hK v' w' ?_ h3 h5
  unfold Own
  rw [List.length_append, harr.1]
  have : encAll enc (xs ++ ys) = encAll enc xs ++ encAll enc ys := by simp [encAll]
  rw [this]
  exact h2
end
theorem wpList_grownAll {α : Type} {w : World} {base k : Nat} {e : TypeId} {enc : α → List Value} {v : Value} {xs : List α} {P : Program} {ops : Array Oper} {rest : List Oper} {o : Oper} {ac : Act} {Q : Exit → Act → World → Prop} {ys : List α} {m bytes c : Nat} {t : TypeId} (T : SliceT P t e k bytes) (hgd : o.guard = none) (s y : Operand)
    (ho : o.op = .call { callee := .builtin .append, args := #[s, y], argTypes := #[t, t] }) (h : Own w base e k enc v xs) (hs : ac.eval s = v) (ad : Addr) (hy : ac.eval y = .slice (some ad) m c) (harr : Arr w k enc (some ad) m ys)
    (hk : ∀ x, (enc x).length = k) (h1 : ∀ x, ∀ u ∈ enc x, u.oneCell' = true) (hbase : base ≤ w.heap.size) (h63 : xs.length + m ≤ maxLen) (hbytes : (xs.length + m) * bytes ≤ 140737488355328)
    (hK : ∀ v' w', Own w' base e k enc v' (xs ++ ys) → w.grownBy w' v.ownBlock → (v'.ownBlock = v.ownBlock ∨ v'.ownBlock = some w.heap.size) → wpList P ops Q rest (ac.put o.dst v') w') : wpList P ops Q (o :: rest) ac w :=
  wpList_step fun _ hk' => Own.grownAll (ops := ops) T hgd s y ho h hs ad hy harr hk h1 hbase h63 hbytes fun v' w' a b c => hk' _ _ (hK v' w' a b c)

/-- A block that is known whole. -/
def Blk (w : World) (g : Nat) (t : TypeId) (cs : Array Value) : Prop := w.heap[g]? = some (.cells cs t (0, 0))
section
variable {w w' : World} {g : Nat} {t : TypeId} {cs : Array Value}
theorem Blk.lt (h : Blk w g t cs) : g < w.heap.size := by
  rcases Nat.lt_or_ge g w.heap.size with hlt | hge
  · exact hlt
  · unfold Blk at h; rw [Array.getElem?_eq_none hge] at h; cases h
theorem Blk.cell (h : Blk w g t cs) (i : Nat) : w.cell? ⟨g, i, none⟩ = cs[i]? := by unfold Blk at h; simp [World.cell?, h]
theorem Blk.frozen (h : Blk w g t cs) (i : Nat) : w.frozen? ⟨g, i, none⟩ = false := by unfold Blk at h; simp [World.frozen?, h]
theorem Blk.new (w : World) (t : TypeId) (cs : Array Value) : Blk (w.alloc (.cells cs t)) w.heap.size t cs := heap_alloc_new w _
theorem Blk.drew (h : Blk w g t cs) : Blk w.drew g t cs := h
theorem Blk.alloc (h : Blk w g t cs) (o : Obj) : Blk (w.alloc o) g t cs := (Below.heap_alloc w o g h.lt).trans h
theorem Blk.set_ (h : Blk w g t cs) (i : Nat) (u : Value) : Blk (w.setCell ⟨g, i, none⟩ u) g t (cs.setIfInBounds i u) := by
  unfold Blk at h ⊢
  simp [World.setCell, Array.getElem?_modify, h]
theorem Blk.far (h : Blk w g t cs) {p : Addr} (hp : g ≠ p.block) (u : Value) : Blk (w.setCell p u) g t cs := (Below.heap_setCell w p u g hp).trans h
theorem Blk.below {B : Nat} (h : Blk w g t cs) (hb : Below B w w') (hg : g < B) : Blk w' g t cs := (hb.block g hg).trans h
theorem Blk.grows (h : Blk w g t cs) (hb : Grows w w') : Blk w' g t cs := h.below hb.below h.lt
end
end Go.Proofs.YtfppagcifcppaaaDoor
