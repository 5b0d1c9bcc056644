/- Parts: RowB Txt RteP Dat FldA FldB FldC MapS PolA Shelf LibR Sieve PolD SlQ -/
import Derived.Laws.IdiomStrings
import Derived.Lib.AppendStr
import Derived.ArgAppend
import Derived.Test.YtfoffneipdkdjaaGreatDoorBs4
import Derived.Shelf.GgClosure.StringsIndexFunc
import Derived.Test.YtfoffneipdkdjaaGreatDoorBs1
import Derived.Test.YtfoffneipdkdjaaGreatDoorBs3
import Derived.Test.YtfoffneipdkdjaaGreatDoorBs2
import Derived.PlainAid
import Derived.Maps.OwnSet
import Derived.Maps.OwnOps
import Derived.Shelf.GgClosure.StringsIndexFuncTop
import Derived.Shelf.LaysM
import Derived.Shelf.Strconv.Itoa3
import Derived.Test.YtfoffneipdkdjaaGreatDoorProg
import Derived.Shelf.Abstract
import Derived.Lib.SliceRun
namespace Go.Proofs.YtfoffneipdkdjaaGreatDoor
open Go.RowKit

def OwnB (w : World) (base : Nat) (v : Value) (xs : List Nat) : Prop :=
  (v = .slice none 0 0 ∧ xs = []) ∨ ∃ g cap cur fz, v = .slice (some ⟨g, 0, none⟩) xs.length cap ∧ base ≤ g ∧ w.heap[g]? = some (.cells cur 5 fz) ∧ (∀ j, j < cur.size → (decide (fz.1 ≤ j) && decide (j < fz.2)) = false) ∧
    xs.length ≤ cap ∧ cap ≤ maxLen ∧ cur.size = cap ∧ ∀ i (h : i < xs.length), cur[i]? = some (.int .u8 ((xs[i] : Nat) : Int))
section
variable {w w' : World} {base : Nat} {v : Value} {xs ys : List Nat}
theorem OwnB.nil_ (w : World) (base : Nat) : OwnB w base (.slice none 0 0) [] := .inl ⟨rfl, rfl⟩
theorem OwnB.grows (h : OwnB w base v xs) (hg : Grows w w') : OwnB w' base v xs := by
  rcases h with h | ⟨g, cap, cur, fz, hv, hb, hh, r⟩
  · exact .inl h
  · exact .inr ⟨g, cap, cur, fz, hv, hb, (hg.below.block g (Array.getElem?_eq_some_iff.1 hh).1).trans hh, r⟩
theorem OwnB.alloc (h : OwnB w base v xs) (o : Obj) : OwnB (w.alloc o) base v xs := h.grows ((Grows.refl w).alloc o)
theorem OwnB.block_ge (h : OwnB w base v xs) : ∀ j, v.ownBlock = some j → base ≤ j := fun j hj => by
  rcases h with ⟨h2, _⟩ | ⟨g, cap, cur, fz, hv, hb, _⟩
  · rw [h2] at hj; cases hj
  · rw [hv] at hj
    simp only [Value.ownBlock, Option.some.injEq] at hj
    omega
theorem OwnB.of_own (h : Own w base 5 1 encB v xs) : OwnB w base v xs := by
  have h2 := h
  rcases h.2 with ⟨h3, h4⟩ | ⟨g, cap, cur, hv, hb, hh, _⟩
  · exact .inl ⟨h3, List.eq_nil_of_length_eq_zero h4⟩
  · rw [hv] at h2
    obtain ⟨cur', _, hb', hh', hnc, hcm, hcs, hc⟩ := h2.cells_ hkB
    refine .inr ⟨g, cap, cur', (0, 0), hv, hb', hh', fun j _ => by simp, hnc, hcm, by omega, fun i hi => ?_⟩
    have := hc i hi 0 (by omega)
    simpa [encB] using this
theorem OwnB.arr (h : OwnB w base v xs) : ∃ A c, v = .slice A xs.length c ∧ xs.length ≤ c ∧ c ≤ maxLen ∧ Arr w 1 encB A xs.length xs := by
  rcases h with ⟨rfl, rfl⟩ | ⟨g, cap, cur, fz, rfl, hb, hh, hfz, hnc, hcm, hcs, hc⟩
  · exact ⟨none, 0, rfl, by simp, by simp [maxLen], Arr.nil_⟩
  · refine ⟨_, _, rfl, hnc, hcm, rfl, fun _ => ⟨g, 0, rfl, (Array.getElem?_eq_some_iff.1 hh).1, fun i hi j u hu => ?_⟩⟩
    have hj : j = 0 := by have := (List.getElem?_eq_some_iff.1 hu).1; simp [encB] at this; omega
    subst hj
    simp only [World.cell?, hh]
    have := hc i hi
    simp only [encB, List.getElem?_cons_zero, Option.some.injEq] at hu
    subst hu
    simpa using this
theorem heap_setCellsF (g : Nat) (e : TypeId) (fz : Nat × Nat) : ∀ (vs : List Value) (o : Nat) (w : World) (cur : Array Value), w.heap[g]? = some (.cells cur e fz) → o + vs.length ≤ cur.size →
    ∃ cur', (w.setCells g o vs).heap[g]? = some (.cells cur' e fz) ∧ cur'.size = cur.size ∧ ∀ t : Nat, cur'[t]? = if o ≤ t ∧ t < o + vs.length then vs[t - o]? else cur[t]?
  | [], o, w, cur, h, _ => ⟨cur, h, rfl, fun t => by rw [if_neg (by simp)]⟩
  | v :: r, o, w, cur, h, hl => by
    simp only [List.length_cons] at hl
    have h1 : (w.setCell ⟨g, o, none⟩ v).heap[g]? = some (.cells (cur.setIfInBounds o v) e fz) := by
      simp [World.setCell, Array.getElem?_modify, h]
    obtain ⟨cur', h2, h3, h4⟩ := heap_setCellsF g e fz r (o + 1) _ _ h1 (by simp; omega)
    refine ⟨cur', h2, by simpa using h3, fun t => ?_⟩
    rw [h4 t]
    by_cases ht : t = o
    · subst ht
      rw [if_neg (by omega), if_pos (by simp), Array.getElem?_setIfInBounds]
      simp
      omega
    · by_cases h5 : o + 1 ≤ t ∧ t < o + 1 + r.length
      · rw [if_pos h5, if_pos (by simp; omega), show t - o = (t - (o + 1)) + 1 by omega]; simp
      · rw [if_neg h5, if_neg (by simp; omega)]
        simp [Ne.symm ht]
theorem grownBy_setCells (g : Nat) : ∀ (vs : List Value) (o : Nat) (w : World), w.grownBy (w.setCells g o vs) (some g)
  | [], _, w => World.grownBy.refl w _
  | v :: r, o, w => (grownBy_cell w ⟨g, o, none⟩ v).trans (grownBy_setCells g r (o + 1) _)
def cellsB (ys : List Nat) : List Value := ys.map fun (x : Nat) => Value.int .u8 (x : Int)
/-- Where there is room: the cells behind are written. -/
theorem OwnB.room {g cap : Nat} (h : OwnB w base (.slice (some ⟨g, 0, none⟩) xs.length cap) xs) (hroom : xs.length + ys.length ≤ cap) :
    OwnB (w.setCells g xs.length (cellsB ys)) base (.slice (some ⟨g, 0, none⟩) (xs.length + ys.length) cap) (xs ++ ys) ∧ (∀ j, j < (cellsB ys).length → (w.cell? ⟨g, xs.length + j, none⟩).isSome = true) ∧ ∀ j, j < (cellsB ys).length → w.frozen? ⟨g, xs.length + j, none⟩ = false := by
  have hcl : (cellsB ys).length = ys.length := by simp [cellsB]
  rcases h with ⟨h, _⟩ | ⟨g', cap', cur, fz, hv, hb, hh, hfz, hnc, hcm, hcs, hc⟩
  · cases h
  simp only [Value.slice.injEq, Option.some.injEq, Addr.mk.injEq, and_true, true_and] at hv
  obtain ⟨rfl, rfl⟩ := hv
  obtain ⟨cur', h1, h2, h3⟩ := heap_setCellsF g 5 fz (cellsB ys) xs.length w cur hh (by rw [hcl]; omega)
  refine ⟨.inr ⟨g, cap, cur', fz, by rw [List.length_append], hb, h1, by rw [h2]; exact hfz, by rw [List.length_append]; exact hroom, hcm, by omega, fun i hi => ?_⟩, fun j hj => ?_, fun j hj => ?_⟩
  · rw [h3]
    by_cases hi2 : i < xs.length
    · rw [if_neg (by omega), hc i hi2, List.getElem_append_left hi2]
    · rw [List.length_append] at hi
      rw [if_pos (by rw [hcl]; omega), List.getElem_append_right (by omega)]
      simp [cellsB, show i - xs.length < ys.length by omega]
  · have : xs.length + j < cur.size := by omega
    simp [World.cell?, hh, this]
  · have := hfz (xs.length + j) (by omega)
    simpa [World.frozen?, hh] using this
theorem cellsB_enc (ys : List Nat) : encAll encB ys = cellsB ys := by
  unfold encAll cellsB encB
  induction ys with
  | nil => rfl
  | cons y ys ih => simp only [List.flatMap_cons, List.map_cons, ih]; rfl
theorem cellsB_one (ys : List Nat) : ∀ u ∈ cellsB ys, u.oneCell' = true := by
  intro u hu
  simp only [cellsB, List.mem_map] at hu
  obtain ⟨x, _, rfl⟩ := hu
  rfl
theorem news_arr {ad : Addr} {m : Nat} (harr : Arr w 1 encB (some ad) m ys) : ∀ j u, (cellsB ys)[j]? = some u → w.cell? (ad.add j) = some u := by
  intro j u hu
  have hj : j < ys.length := by have := (List.getElem?_eq_some_iff.1 hu).1; simpa [cellsB] using this
  obtain ⟨b, off, e1, _, hc⟩ := harr.2 (by rw [← harr.1]; omega)
  cases e1
  have h3 := hc j hj 0 u (by rw [← hu]; simp [cellsB, encB, hj])
  have : (⟨b, off, none⟩ : Addr).add j = ⟨b, off + j, none⟩ := by unfold Addr.add; by_cases hj : j = 0 <;> simp [hj]
  rw [this]
  simpa using h3
theorem OwnB.of_row {base' n : Nat} {v' : Value} {zs : List Nat} (h : w.ownsRow base' 5 1 v' n (cellsB zs)) (hb : base ≤ base') : OwnB w base v' zs := by
  have hn : n = zs.length := by have := h.1; simp [cellsB] at this; omega
  subst hn
  rw [← cellsB_enc] at h
  have h2 : Own w base' 5 1 encB v' zs := h
  rcases OwnB.of_own h2 with h | ⟨g, cap, cur, fz, hv, hb', r⟩
  · exact .inl h
  · exact .inr ⟨g, cap, cur, fz, hv, Nat.le_trans hb hb', r⟩
theorem bb_info : ∃ i, Tryz.prog.info? 5 = some i ∧ i.zero = some (.int .u8 0) ∧ i.size = 1 ∧ i.bytes = 1 := by
  have h : (Tryz.prog.info? 5).map (fun i => (i.zero, i.size, i.bytes)) = some (some (.int .u8 0), 1, 1) := by kernel_rfl
  cases hi : Tryz.prog.info? 5 with
  | none => rw [hi] at h; cases h
  | some i =>
    rw [hi] at h
    simp only [Option.map_some, Option.some.injEq, Prod.mk.injEq] at h
    exact ⟨i, rfl, h.1, h.2.1, h.2.2⟩
/-- append(v, ys...) -/
theorem OwnB.append_run (h : OwnB w base v xs) {A : Option Addr} {m c : Nat} (harr : Arr w 1 encB A m ys) (hbase : base ≤ w.heap.size) (hlen : xs.length + m ≤ 1099511700000) (ty : TypeId) :
    ∃ v' w', (Builtin.append_ #[81, 81] ty #[v, .slice A m c]).run Tryz.prog w = .ok v' w' ∧ OwnB w' base v' (xs ++ ys) ∧ w.grownBy w' v.ownBlock := by
  obtain ⟨i, hi, hz, hsz, hby⟩ := bb_info
  have ht := Tryz.underlying81
  have hml := harr.1
  have hcl : (cellsB ys).length = m * i.size := by rw [hsz]; simp [cellsB, hml]
  have h63 : xs.length + m ≤ maxLen := by unfold maxLen; omega
  cases A with
  | none =>
    have hm : m = 0 := by
      rcases Nat.eq_zero_or_pos m with h0 | h0
      · exact h0
      · obtain ⟨b, off, h, _⟩ := harr.2 h0
        cases h
    subst hm
    obtain rfl : ys = [] := List.eq_nil_of_length_eq_zero hml
    refine ⟨v, w, ?_, by rw [List.append_nil]; exact h, World.grownBy.refl w _⟩
    rcases h with ⟨rfl, rfl⟩ | ⟨g, cap, cur, fz, rfl, _, _, _, hnc, _⟩
    · simp [Builtin.append_, run_underlying ht, sizeOf, typeInfo, hi, Builtin.lenOf, Builtin.firstCells]
    · simp [Builtin.append_, run_underlying ht, sizeOf, typeInfo, hi, Builtin.lenOf, Builtin.firstCells, hnc, storeCells]
  | some ad =>
    have hnews := news_arr harr
    have h0 := h
    rcases h with ⟨rfl, rfl⟩ | ⟨g, cap, cur, fz, rfl, hb, hh, hfz, hnc, hcm, hcs, hc⟩
    · obtain ⟨v', w', hr, h2, h3, _, _⟩ := run_append_own_at (P := Tryz.prog) w base 81 ty 5 i (.int .u8 0) 1 1 ht hi hz hsz hby rfl (by omega) (.slice none 0 0) 0 [] (World.ownsRow_nil w base _ _) ad m c (cellsB ys) (by rw [hcl, hsz]) hnews (cellsB_one ys) (by simpa using h63) (by simp at hlen; omega) hbase
      exact ⟨v', w', hr, OwnB.of_row (by simpa using h2) (Nat.le_refl _), h3⟩
    · by_cases hroom : xs.length + m ≤ cap
      · obtain ⟨hO, hcell, hfro⟩ := OwnB.room (ys := ys) h0 (by omega)
        have hr := run_append_room_cells (P := Tryz.prog) w 81 ty 5 i ht hi g 0 xs.length cap ad m c (cellsB ys) hcl hnews (cellsB_one ys) hroom (fun j hj => by rw [hsz]; have h9 := hcell j hj; rw [Nat.mul_one]; first | exact h9 | (simp only [Nat.zero_add]; exact h9)) (fun j hj => by rw [hsz]; have h9 := hfro j hj; rw [Nat.mul_one]; first | exact h9 | (simp only [Nat.zero_add]; exact h9))
        rw [hsz, Nat.mul_one, Nat.zero_add] at hr
        rw [hml] at hO
        exact ⟨_, _, hr, hO, grownBy_setCells g _ _ _⟩
      · have holds : ∀ j u, (cellsB xs)[j]? = some u → w.cell? ((⟨g, 0, none⟩ : Addr).add j) = some u := by
          obtain ⟨A', c', hv, _, _, hA⟩ := h0.arr
          cases hv
          exact news_arr hA
        obtain ⟨v', w', hr, h2, h3⟩ := run_append_arg_grows (P := Tryz.prog) w 81 ty 5 i (.int .u8 0) 1 1 ht hi hz hsz hby rfl (by omega) ⟨g, 0, none⟩ xs.length cap (cellsB xs) (by simp [cellsB]) holds ad m c (cellsB ys) (by rw [hcl, hsz]) hnews (by omega) h63 (by omega)
        refine ⟨v', w', hr, OwnB.of_row (n := xs.length + m) (by rw [show cellsB (xs ++ ys) = cellsB xs ++ cellsB ys by simp [cellsB]]; exact h2) hbase, h3.but _⟩
/-- A text's bytes, as numbers. -/
def numsB (s : ByteArray) : List Nat := s.data.toList.map (·.toNat)
theorem numsB_len (s : ByteArray) : (numsB s).length = s.size := by
  unfold numsB
  rw [List.length_map, Array.length_toList]; rfl
/-- []byte(s) -/
theorem OwnB.of_text (s : ByteArray) (w : World) (hs : s.size ≤ 1099511627776) :
    ∃ v w', (convert 9 81 (.string s)).run Tryz.prog w = .ok v w' ∧ OwnB w' w.heap.size v (numsB s) ∧ Grows w w' := by
  have hr := run_bytes_of_string (P := Tryz.prog) w 9 81 5 s Tryz.underlying9 Tryz.underlying81 Tryz.underlying5
  have hge := grownCap_ge w s.size 0 5
  have hcm := grownCap_le_maxLen w s.size 0 5 (by unfold maxLen; omega)
  have hsz : (bytesRow s (grownCap w s.size 0 5)).size = grownCap w s.size 0 5 := by
    unfold bytesRow
    rw [Array.size_append, Array.size_map, Array.size_replicate]
    have : s.data.size = s.size := rfl
    omega
  refine ⟨_, _, hr, .inr ⟨w.heap.size, _, _, _, by rw [numsB_len], Nat.le_refl _, heap_alloc_new w.drew _, fun j hj => ?_, by rw [numsB_len]; exact hge, hcm, hsz, fun i hi => ?_⟩, (Grows.refl w).drew.alloc _⟩
  · simp; omega
  · rw [numsB_len] at hi
    rw [bytesRow_at s _ i hi]
    simp [numsB]
end
end Go.Proofs.YtfoffneipdkdjaaGreatDoor
namespace Go.Proofs.YtfoffneipdkdjaaGreatDoor

theorem decode_low {s : ByteArray} {i : Nat} {b : UInt8} (hb : s.get! i = b) (h : b.toNat < 128) : Utf8.decode s i = (b.toNat, 1) := by
  unfold Utf8.decode
  simp only [Nat.add_zero, hb, h, if_true]
theorem decode_high {s : ByteArray} {i : Nat} {b : UInt8} (hb : s.get! i = b) (h : 128 ≤ b.toNat) : 128 ≤ (Utf8.decode s i).1 := by
  unfold Utf8.decode
  have h' : ¬ b.toNat < 128 := by omega
  simp only [Nat.add_zero, hb, h', if_false, Utf8.runeError]
  split
  · split <;> (try simp) <;> omega
  · split
    · split
      · rename_i hc; simp only [Bool.and_eq_true, decide_eq_true_eq] at hc; show 128 ≤ _; omega
      · simp
    · split
      · split
        · rename_i hc; simp only [Bool.and_eq_true, decide_eq_true_eq] at hc; show 128 ≤ _; omega
        · simp
      · simp
theorem idxFrom_bytes {p : Nat → Bool} {q : UInt8 → Bool} (h1 : ∀ b : UInt8, b.toNat < 128 → p b.toNat = q b) (h2 : ∀ r, 128 ≤ r → p r = true) (h3 : ∀ b : UInt8, 128 ≤ b.toNat → q b = true) (s : ByteArray) :
    ∀ (f pos : Nat), s.size ≤ pos + f → decide (0 ≤ Lib.idxFuncFrom p true s f pos) = (s.data.toList.drop pos).any q := by
  intro f
  induction f with
  | zero =>
    intro pos hf
    rw [List.drop_of_length_le (by rw [Array.length_toList]; exact hf)]
    rfl
  | succ f ih =>
    intro pos hf
    unfold Lib.idxFuncFrom
    by_cases hp : pos < s.size
    · rw [if_pos hp]
      have hl : pos < s.data.toList.length := by rw [Array.length_toList]; exact hp
      rw [List.drop_eq_getElem_cons hl, List.any_cons]
      have hg : s.get! pos = s.data.toList[pos] := by
        rw [Array.getElem_toList]
        show s.data[pos]! = _
        exact getElem!_pos s.data pos hp
      by_cases hb : (s.get! pos).toNat < 128
      · rw [decode_low rfl hb, h1 _ hb, hg]
        cases hq : q s.data.toList[pos]
        · simp only [Bool.false_eq_true, if_false, Bool.false_or]
          exact ih (pos + 1) (by omega)
        · simp
      · have h128 : 128 ≤ (s.get! pos).toNat := by omega
        rw [h2 _ (decode_high rfl h128), ← hg, h3 _ h128]
        simp
    · rw [if_neg hp, List.drop_of_length_le (by rw [Array.length_toList]; show s.size ≤ pos; omega)]
      rfl
theorem idx_bytes {p : Nat → Bool} {q : UInt8 → Bool} (h1 : ∀ b : UInt8, b.toNat < 128 → p b.toNat = q b) (h2 : ∀ r, 128 ≤ r → p r = true) (h3 : ∀ b : UInt8, 128 ≤ b.toNat → q b = true) (s : ByteArray) :
    decide (0 ≤ Lib.idxFunc p true s) = s.data.toList.any q := idxFrom_bytes h1 h2 h3 s s.size 0 (by omega)

/-! ### names -/
def lowR (r : Nat) : Bool := decide (97 ≤ r) && decide (r ≤ 122)
def digR (r : Nat) : Bool := decide (48 ≤ r) && decide (r ≤ 57)
/-- A sign that no name has, as the program asks it. -/
def oddR (r : Nat) : Bool := !(decide (r = 95)) && !(lowR r) && !(digR r)
def signB (b : UInt8) : Bool := !(oddR b.toNat)
/-- A name: 1 to 12 small letters, underlines, digits; no digit first. -/
def nameB (s : List UInt8) : Bool := decide (1 ≤ s.length) && decide (s.length ≤ 12) && !(digR (s.headD 0).toNat) && s.all signB
theorem oddR_high {r : Nat} (h : 128 ≤ r) : oddR r = true := by
  unfold oddR lowR digR
  simp
  omega
theorem name_any (s : ByteArray) : (!(decide (0 ≤ Lib.idxFunc oddR true s))) = s.data.toList.all signB := by
  rw [idx_bytes (q := fun b => oddR b.toNat) (fun _ _ => rfl) (fun _ h => oddR_high h) (fun _ h => oddR_high h) s, List.not_any_eq_all_not]
  rfl
/-- .. as the reference asks it: sign by sign; a digit only behind the first. -/
def signAt (i : Nat) (b : UInt8) : Bool := lowR b.toNat || decide (b.toNat = 95) || (digR b.toNat && decide (0 < i))
theorem signAt_succ (i : Nat) (b : UInt8) : signAt (i + 1) b = signB b := by
  unfold signAt signB oddR
  simp only [Nat.zero_lt_succ, decide_true, Bool.and_true, Bool.not_and, Bool.not_not]
  cases lowR b.toNat <;> cases decide (b.toNat = 95) <;> cases digR b.toNat <;> rfl
theorem signAt_zero (b : UInt8) : signAt 0 b = (signB b && !(digR b.toNat)) := by
  unfold signAt signB oddR
  have h : lowR b.toNat = true → digR b.toNat = false := by unfold lowR digR; simp; omega
  have h5 : decide (b.toNat = 95) = true → digR b.toNat = false := by unfold digR; simp; omega
  simp only [Nat.lt_irrefl, decide_false, Bool.and_false, Bool.or_false, Bool.not_and, Bool.not_not]
  revert h h5
  cases lowR b.toNat <;> cases decide (b.toNat = 95) <;> cases digR b.toNat <;> simp
end Go.Proofs.YtfoffneipdkdjaaGreatDoor
namespace Go.Proofs.YtfoffneipdkdjaaGreatDoor

structure Fld where
  n : List UInt8
  v : List UInt8
deriving DecidableEq
structure Nam where
  n : List UInt8
  l : Lab
deriving DecidableEq
structure Mat where
  n : List UInt8
  op : Int
  v : List UInt8
deriving DecidableEq
structure Rte where
  r : List UInt8
  by_ : List (List UInt8)
  wait : Int
  every : Int
  again : Int
  wh : List Mat
deriving DecidableEq
structure Inh where
  by_ : List (List UInt8)
  l : Lab
  from_ : List Mat
  wh : List Mat
deriving DecidableEq
structure Pol where
  sources : List Nam
  receivers : List Nam
  people : List Nam
  raises : List Nam
  routes : List Rte
  inhibits : List Inh
structure Alr where
  src : List UInt8
  fs : List Fld
  l : Lab
  f : Int
  t : Int
structure Grp where
  route : Nat
  by_ : List Fld
  key : Nat
  ids : List Nat
deriving DecidableEq

def findL (l : List Nam) (n : List UInt8) : Option Lab := (l.find? fun x => decide (x.n = n)).map (·.l)
def raisedL (p : Pol) (n : List UInt8) (l : Lab) : Lab := match findL p.raises n with
  | some r => joinL l r
  | none => l
def visibleL (p : Pol) (fs : List Fld) (l to : Lab) : List Fld := fs.filter fun f => flowsL (raisedL p f.n l) to
/-- Byte by byte. -/
def aheadB : List UInt8 → List UInt8 → Bool
  | [], [] => false
  | [], _ :: _ => true
  | _ :: _, [] => false
  | a :: x, b :: y => if a = b then aheadB x y else decide (a.toNat < b.toNat)
def ascB : List Fld → Bool
  | [] => true
  | [_] => true
  | a :: b :: l => aheadB a.n b.n && ascB (b :: l)
def fieldsB (l : List Fld) : Bool := (l.all fun f => nameB f.n && decide (f.v.length ≤ 200)) && ascB l && decide (l.length ≤ 8)
def maxTime : Int := 1099511627776
def alertB (a : Alr) : Bool := nameB a.src && decide (0 < a.fs.length) && fieldsB a.fs && labRight a.l.lv && decide (0 ≤ a.f ∧ a.f ≤ maxTime) && decide (a.t = 0 ∨ (a.f < a.t ∧ a.t ≤ maxTime))
def firesB (a : Alr) (now : Int) : Bool := decide (a.f ≤ now) && (decide (a.t = 0) || decide (now < a.t))
def cutA (p : Pol) (a : Alr) (to : Lab) : Option Alr := if (visibleL p a.fs a.l to).length = 0 ∨ flowsL a.l to = false then none else some { a with fs := visibleL p a.fs a.l to }
def seesA (p : Pol) (rec : List UInt8) (a : Alr) (now : Int) : Option Alr := match findL p.receivers rec with
  | none => none
  | some to => if alertB a && firesB a now then cutA p a to else none
def pickF (l : List Fld) (names : List (List UInt8)) : List Fld := l.filter fun f => decide (f.n ∈ names)
def partBytes (f : Fld) : List UInt8 := f.n ++ 61 :: (f.v ++ [0])
def nums (l : List UInt8) : List Nat := l.map (·.toNat)
end Go.Proofs.YtfoffneipdkdjaaGreatDoor
namespace Go.Proofs.YtfoffneipdkdjaaGreatDoor
open Go.RowKit

def sv (s : List UInt8) : Value := .string ⟨s.toArray⟩
def encF (x : Fld) : List Value := [.string ⟨x.n.toArray⟩, .string ⟨x.v.toArray⟩]
theorem hkF (x : Fld) : (encF x).length = 2 := rfl
theorem oneF (x : Fld) : ∀ u ∈ encF x, u.oneCell' = true := by intro u hu; simp [encF] at hu; rcases hu with rfl | rfl <;> rfl
theorem T_ff : SliceT Tryz.prog 22 76 2 32 := SliceT.mk' (z := .agg #[.string ⟨#[]⟩, .string ⟨#[]⟩]) Tryz.underlying22 (by kernel_rfl) rfl (by omega)
theorem numsB_nums (l : List UInt8) : numsB ⟨l.toArray⟩ = nums l := rfl
theorem bsize (l : List UInt8) : (⟨l.toArray⟩ : ByteArray).size = l.length := by show l.toArray.size = _; simp
theorem nums_len (a : List UInt8) : (nums a).length = a.length := List.length_map _
theorem nums_lt (a : List UInt8) : ∀ x ∈ nums a, x < 256 := by
  intro x hx
  simp only [nums, List.mem_map] at hx
  obtain ⟨b, _, rfl⟩ := hx
  exact b.toNat_lt
theorem wpList_val {P : Program} {ops : Array Oper} {rest : List Oper} {o : Oper} {ac : Act} {w w' : World} {v : Value} {Q : Exit → Act → World → Prop} (hgd : o.guard = none) (hr : (execOp ac.eval o).run P w = .ok (.value v) w')
    (hK : wpList P ops Q rest (ac.put o.dst v) w') : wpList P ops Q (o :: rest) ac w :=
  wpList_step fun K' hk => by
    rw [if_pos (by simp [Region.wanted, hgd])]
    unfold Oper.wp
    rw [hr]
    exact hk _ _ hK
theorem exec_append {P : Program} {o : Oper} {ac : Act} {w w' : World} {t u : TypeId} {v vy v' : Value} (s y : Operand) (ho : o.op = .call { callee := .builtin .append, args := #[s, y], argTypes := #[t, u] })
    (hs : ac.eval s = v) (hy : ac.eval y = vy) (hr : (Builtin.append_ #[t, u] o.type #[v, vy]).run P w = .ok v' w') : (execOp ac.eval o).run P w = .ok (.value v') w' := by
  unfold execOp
  simp only [ho, resolve, invoke, builtin, Sem.run_bind, Sem.run_pure, Result.andThen_ok, List.map_toArray, List.map_cons, List.map_nil, hs, hy, hr]
theorem exec_convert {P : Program} {o : Oper} {ac : Act} {w w' : World} {t u : TypeId} {vx v' : Value} (x : Operand) (ho : o.op = .convert t u x) (hx : ac.eval x = vx) (hr : (convert t u vx).run P w = .ok v' w') :
    (execOp ac.eval o).run P w = .ok (.value v') w' := by
  unfold execOp
  simp only [ho, Sem.run_bind, Sem.run_pure, Result.andThen_ok, hx, hr]
theorem wpList_appB {ops : Array Oper} {rest : List Oper} {o : Oper} {ac : Act} {w : World} {Q : Exit → Act → World → Prop} {base : Nat} {v : Value} {xs ys : List Nat} {A : Option Addr} {m c : Nat} (hgd : o.guard = none) (s y : Operand)
    (ho : o.op = .call { callee := .builtin .append, args := #[s, y], argTypes := #[81, 81] }) (hs : ac.eval s = v) (hy : ac.eval y = .slice A m c) (h : OwnB w base v xs) (harr : Arr w 1 encB A m ys) (hbase : base ≤ w.heap.size) (hlen : xs.length + m ≤ 1099511700000)
    (hK : ∀ v' w', OwnB w' base v' (xs ++ ys) → w.grownBy w' v.ownBlock → wpList Tryz.prog ops Q rest (ac.put o.dst v') w') : wpList Tryz.prog ops Q (o :: rest) ac w := by
  obtain ⟨v', w', hr, h1, h2⟩ := h.append_run harr hbase hlen o.type
  exact wpList_val hgd (exec_append s y ho hs hy hr) (hK v' w' h1 h2)
theorem wpList_conv {ops : Array Oper} {rest : List Oper} {o : Oper} {ac : Act} {w : World} {Q : Exit → Act → World → Prop} {t : ByteArray} (hgd : o.guard = none) (x : Operand)
    (ho : o.op = .convert 9 81 x) (hx : ac.eval x = .string t) (hlen : t.size ≤ 1099511627776)
    (hK : ∀ v' w', OwnB w' w.heap.size v' (numsB t) → Grows w w' → wpList Tryz.prog ops Q rest (ac.put o.dst v') w') : wpList Tryz.prog ops Q (o :: rest) ac w := by
  obtain ⟨v', w', hr, h1, h2⟩ := OwnB.of_text t w hlen
  exact wpList_val hgd (exec_convert x ho hx hr) (hK v' w' h1 h2)
theorem OwnB.base_le {w : World} {base base' : Nat} {v : Value} {xs : List Nat} (h : OwnB w base v xs) (hb : base' ≤ base) : OwnB w base' v xs := by
  rcases h with h | ⟨g, cap, cur, fz, hv, hb', r⟩
  · exact .inl h
  · exact .inr ⟨g, cap, cur, fz, hv, Nat.le_trans hb hb', r⟩
theorem Arr.bytes2 {w : World} {g : Nat} {t : TypeId} {x y : Nat} (h : Blk w g t #[.int .u8 (x : Int), .int .u8 (y : Int)]) : Arr w 1 encB (some ⟨g, 0, none⟩) 2 [x, y] := by
  refine ⟨rfl, fun _ => ⟨g, 0, rfl, h.lt, fun i hi j u hu => ?_⟩⟩
  have hj : j = 0 := by have := (List.getElem?_eq_some_iff.1 hu).1; simp [encB] at this; omega
  subst hj
  rw [h.cell]
  have hi2 : i < 2 := hi
  match i, hi2 with
  | 0, _ => exact hu
  | 1, _ => exact hu
end Go.Proofs.YtfoffneipdkdjaaGreatDoor
namespace Go.Proofs.YtfoffneipdkdjaaGreatDoor
open Go.RowKit Go.PlainAid

theorem bt_at (S : ByteArray) {k : Nat} {x : UInt8} (h : S.data.toList[k]? = some x) : bt S k = (x.toNat : Int) := by
  have hk : k < S.size := by
    have := (List.getElem?_eq_some_iff.1 h).1
    rw [Array.length_toList] at this; exact this
  rw [← get_bt S k hk]
  have h1 := (List.getElem?_eq_some_iff.1 h).2
  congr 2
theorem aheadB_cons (x y : UInt8) (r s : List UInt8) : aheadB (x :: r) (y :: s) = if x = y then aheadB r s else decide (x.toNat < y.toNat) := rfl
theorem aheadB_end {r s : List UInt8} (h : r = [] ∨ s = []) : aheadB r s = decide (r.length < s.length) := by
  rcases h with rfl | rfl
  · cases s <;> simp [aheadB]
  · cases r <;> simp [aheadB]
set_option maxRecDepth 100000 in
set_option maxHeartbeats 800000 in
theorem aheadS_any (S T : ByteArray) (hs : S.size ≤ 9223372036854775807) (ht : T.size ≤ 9223372036854775807) (w : World) :
    Calls Tryz.prog 62 #[.string S, .string T] w fun e w' => e = .returned (.bool (aheadB S.data.toList T.data.toList)) ∧ Grows w w' := by
  have hS : S.data.toList.length = S.size := Array.length_toList
  have hT : T.data.toList.length = T.size := Array.length_toList
  have hbS := get_bt S
  have hbT := get_bt T
  have hxS := fun k x => bt_at S (k := k) (x := x)
  have hxT := fun k x => bt_at T (k := k) (x := x)
  replace hxS := Lib.hid hxS
  replace hxT := Lib.hid hxT
  generalize S.data.toList = a at *
  generalize T.data.toList = b at *
  obtain ⟨R, hR⟩ : ∃ R, R = aheadB a b := ⟨_, rfl⟩
  rw [← hR]
  go_enter Tryz.func62, Tryz.ntmps62
  go_wp2
  go_loopw [5] (fun i wr => ∃ k : Nat, k ≤ S.size ∧ k ≤ T.size ∧ i = .int .i64 k ∧ Hid (R = aheadB (a.drop k) (b.drop k)) ∧ Grows w wr) (fun i _ => S.size - (intOf i).toNat)
  case atStart => exact ⟨0, by omega, by omega, rfl, hR, Grows.refl _⟩
  case round =>
    clear hR
    obtain ⟨k, hk1, hk2, rfl, hR, hG⟩ := hrel
    by_cases hks : k < S.size
    · have i1 : (k : Int) < (S.size : Int) := by omega
      by_cases hkt : k < T.size
      · have i2 : (k : Int) < (T.size : Int) := by omega
        obtain ⟨x, hx⟩ : ∃ x, a[k]? = some x := ⟨_, List.getElem?_eq_getElem (by omega)⟩
        obtain ⟨y, hy⟩ : ∃ y, b[k]? = some y := ⟨_, List.getElem?_eq_getElem (by omega)⟩
        have hbx := hbS k hks
        have hby := hbT k hkt
        rw [hxS.out k x hx] at hbx
        rw [hxT.out k y hy] at hby
        have da : a.drop k = x :: a.drop (k + 1) := by
          have h1 : k < a.length := by omega
          rw [List.drop_eq_getElem_cons h1]
          rw [List.getElem?_eq_getElem h1] at hx
          rw [Option.some.inj hx]
        have db : b.drop k = y :: b.drop (k + 1) := by
          have h1 : k < b.length := by omega
          rw [List.drop_eq_getElem_cons h1]
          rw [List.getElem?_eq_getElem h1] at hy
          rw [Option.some.inj hy]
        have hRR := hR.out
        rw [da, db, aheadB_cons] at hRR
        have hxl := x.toNat_lt
        have hyl := y.toNat_lt
        clear hbS hbT hR da db hx hy
        by_cases hxy : x = y
        · rw [if_pos hxy] at hRR
          subst hxy
          replace hRR := Lib.hid hRR
          clear hyl
          go_wp2_with fail
          refine wp_region_k (by kernel_rfl) ?_
          refine wpAnyK_run (l' := #[true, true, true, true, true, true, true]) [0, 1, 2, 3, 4, 5, 6] 0 up_grows (by kernel_rfl) (by intro c a d v w h; first | (cases d <;> exact h) | exact hQ0 _ _ _ _ _ h) rfl (by kernel_rfl) (by kernel_rfl) ?_
          iterate 7 (refine wpMixC_q rfl (fun K hK => ?_); go_simp; (try go_bits); first | (refine hK.out _ ?_; clear hK K) | (apply Exists.intro; refine ⟨fun wq hsq => ?_, hK.out _ ?_⟩; (first | (go_simp; done) | ((try go_simp); (try simp only [↓IntWalk.iteOmega]); (try go_bits); rfl) | (obtain ⟨hcq, hfq⟩ := bcells hsq; go_simp; done) | (obtain ⟨hcq, hfq⟩ := bcells hsq; (try go_simp); (try simp only [↓IntWalk.iteOmega]); (try go_bits); rfl)); clear hK K))
          refine wpMixC_nil ?_
          refine wpAnyK_end (by kernel_rfl) (fun wN hN hS => ?_)
          go_wp2
          go_roundw
          case rel => exact ⟨k + 1, by omega, by omega, by go_num, hRR, hG.trans hN⟩
          case measure => simp [intOf]; omega
        · rw [if_neg hxy] at hRR
          have hne : ¬ ((x.toNat : Int) = (y.toNat : Int)) := fun h => hxy (UInt8.toNat_inj.1 (by omega))
          generalize x.toNat = X at *
          generalize y.toNat = Y at *
          clear hxy
          replace hRR := Lib.hid hRR
          go_wp2_with fail
          refine wp_region_k (by kernel_rfl) ?_
          refine wpAnyK_run (l' := #[true, true, true, true, true, true, true]) [0, 1, 2, 3, 4, 5, 6] 0 up_grows (by kernel_rfl) (by intro c a d v w h; first | (cases d <;> exact h) | exact hQ0 _ _ _ _ _ h) rfl (by kernel_rfl) (by kernel_rfl) ?_
          iterate 7 (refine wpMixC_q rfl (fun K hK => ?_); go_simp; (try go_bits); first | (refine hK.out _ ?_; clear hK K) | (apply Exists.intro; refine ⟨fun wq hsq => ?_, hK.out _ ?_⟩; (first | (go_simp; done) | ((try go_simp); (try simp only [↓IntWalk.iteOmega]); (try go_bits); rfl) | (obtain ⟨hcq, hfq⟩ := bcells hsq; go_simp; done) | (obtain ⟨hcq, hfq⟩ := bcells hsq; (try go_simp); (try simp only [↓IntWalk.iteOmega]); (try go_bits); rfl)); clear hK K))
          refine wpMixC_nil ?_
          refine wpAnyK_end (by kernel_rfl) (fun wN hN hS => ?_)
          rename_i wOld
          replace hG := hG.trans hN
          clear hN hS
          go_wp2_with fail
          refine wp_region_k (by kernel_rfl) ?_
          refine wpAnyK_run (l' := #[true, true, true, true, true, true, true, true]) [0, 1, 2, 3, 4, 5, 6, 7] 0 up_grows (by kernel_rfl) (by intro c a d v w h; first | (cases d <;> exact h) | exact hQ0 _ _ _ _ _ h) rfl (by kernel_rfl) (by kernel_rfl) ?_
          iterate 8 (refine wpMixC_q rfl (fun K hK => ?_); go_simp; (try go_bits); first | (refine hK.out _ ?_; clear hK K) | (apply Exists.intro; refine ⟨fun wq hsq => ?_, hK.out _ ?_⟩; (first | (go_simp; done) | ((try go_simp); (try simp only [↓IntWalk.iteOmega]); (try go_bits); rfl) | (obtain ⟨hcq, hfq⟩ := bcells hsq; go_simp; done) | (obtain ⟨hcq, hfq⟩ := bcells hsq; (try go_simp); (try simp only [↓IntWalk.iteOmega]); (try go_bits); rfl)); clear hK K))
          refine wpMixC_nil ?_
          refine wpAnyK_end (by kernel_rfl) (fun wN hN hS => ?_)
          go_wp2
          go_ret
          rw [hRR.out]
          exact ⟨ret_bool (by simp), hG.trans hN⟩
      · have i2 : ¬ ((k : Int) < (T.size : Int)) := by omega
        have hRR := hR.out
        rw [aheadB_end (.inr (List.drop_of_length_le (by omega))), List.length_drop, List.length_drop] at hRR
        replace hRR := Lib.hid hRR
        clear hR hbS hbT
        go_wp2
        go_ret
        rw [hRR.out]
        refine ⟨ret_bool ?_, hG⟩
        rw [Bool.eq_iff_iff]; simp only [decide_eq_true_eq]; omega
    · have i1 : ¬ ((k : Int) < (S.size : Int)) := by omega
      have hRR := hR.out
      rw [aheadB_end (.inl (List.drop_of_length_le (by omega))), List.length_drop, List.length_drop] at hRR
      replace hRR := Lib.hid hRR
      clear hR hbS hbT
      go_wp2
      go_ret
      rw [hRR.out]
      refine ⟨ret_bool ?_, hG⟩
      rw [Bool.eq_iff_iff]; simp only [decide_eq_true_eq]; omega
theorem ahead_any (a b : List UInt8) (ha : a.length ≤ 9223372036854775807) (hb : b.length ≤ 9223372036854775807) (w : World) :
    Calls Tryz.prog 62 #[.string ⟨a.toArray⟩, .string ⟨b.toArray⟩] w fun e w' => e = .returned (.bool (aheadB a b)) ∧ Grows w w' := aheadS_any ⟨a.toArray⟩ ⟨b.toArray⟩ (by rw [bsize]; exact ha) (by rw [bsize]; exact hb) w
end Go.Proofs.YtfoffneipdkdjaaGreatDoor
namespace Go.Proofs.YtfoffneipdkdjaaGreatDoor
open Go.RowKit Go.PlainAid

theorem name_false {a : List UInt8} {k : Nat} {x : UInt8} (hx : a[k]? = some x) (h : signAt k x = false) : nameB a = false := by
  have hm := List.mem_of_getElem? hx
  have hall : signB x = false → a.all signB = false := fun h => by
    rw [← Bool.not_eq_true, List.all_eq_true]
    intro hh
    rw [hh x hm] at h; cases h
  unfold nameB
  cases k with
  | zero =>
    rw [signAt_zero] at h
    have hh : a.headD 0 = x := by cases a <;> simp_all
    rw [hh]
    cases hs : signB x
    · rw [hall hs]; simp
    · rw [hs] at h
      have : digR x.toNat = true := by simpa using h
      rw [this]; simp
  | succ k =>
    rw [signAt_succ] at h
    rw [hall h]; simp
theorem name_true {a : List UInt8} (h : ∀ j x, a[j]? = some x → signAt j x = true) : nameB a = (decide (1 ≤ a.length) && decide (a.length ≤ 12)) := by
  have h1 : a.all signB = true := by
    rw [List.all_eq_true]
    intro x hx
    obtain ⟨j, hj⟩ := List.getElem?_of_mem hx
    have := h j x hj
    cases j with
    | zero => rw [signAt_zero] at this; simp at this; exact this.1
    | succ j => rw [signAt_succ] at this; exact this
  unfold nameB
  rw [h1]
  cases a with
  | nil => simp
  | cons x r =>
    have := h 0 x rfl
    rw [signAt_zero] at this
    simp at this
    simp [this.2]
set_option maxRecDepth 100000 in
set_option maxHeartbeats 1600000 in
theorem nameS_any (S : ByteArray) (hs : S.size ≤ 9223372036854775807) (w : World) :
    Calls Tryz.prog 61 #[.string S] w fun e w' => e = .returned (.bool (nameB S.data.toList)) ∧ Grows w w' := by
  have hS : S.data.toList.length = S.size := Array.length_toList
  have hbS := get_bt S
  have hxS := fun k x => bt_at S (k := k) (x := x)
  replace hxS := Lib.hid hxS
  generalize S.data.toList = a at *
  obtain ⟨R, hR⟩ : ∃ R, R = nameB a := ⟨_, rfl⟩
  rw [← hR]
  replace hR := Lib.hid hR
  go_enter Tryz.func61, Tryz.ntmps61
  go_wp2
  go_loopw [3] (fun i wr => ∃ k : Nat, k ≤ S.size ∧ i = .int .i64 k ∧ Hid (∀ j x, j < k → a[j]? = some x → signAt j x = true) ∧ wr = w) (fun i _ => S.size - (intOf i).toNat)
  case atStart => exact ⟨0, by omega, rfl, fun _ _ h => absurd h (by omega), rfl⟩
  case round =>
    obtain ⟨k, hk1, rfl, hall, rfl⟩ := hrel
    by_cases hks : k < S.size
    · have i1 : (k : Int) < (S.size : Int) := by omega
      obtain ⟨x, hx⟩ : ∃ x, a[k]? = some x := ⟨_, List.getElem?_eq_getElem (by omega)⟩
      have hbx := hbS k hks
      rw [hxS.out k x hx] at hbx
      have hno := fun h => name_false hx h
      have hyes : signAt k x = true → Hid (∀ j y, j < k + 1 → a[j]? = some y → signAt j y = true) := fun h j y hj hy => by
        by_cases hjk : j = k
        · subst hjk; rw [hx] at hy; rw [← Option.some.inj hy]; exact h
        · exact hall.out j y (by omega) hy
      unfold signAt lowR digR at hno hyes
      clear hbS hx hall
      have hxl := x.toNat_lt
      generalize x.toNat = X at *
      have hX0 : 0 ≤ (X : Int) ∧ (X : Int) ≤ 255 := by omega
      clear hxl
      by_cases h12 : 97 ≤ X ∧ X ≤ 122
      · have hy := hyes (by simp [h12.1, h12.2])
        have g1 : (97 : Int) ≤ X := by omega
        have g2 : (X : Int) ≤ 122 := by omega
        clear hno hyes h12
        go_wp2
        go_roundw
        case rel => exact ⟨k + 1, by omega, by go_num, hy, trivial⟩
        case measure => simp [intOf]; omega
      · by_cases h3 : X = 95
        · have hy := hyes (by simp [h3])
          subst h3
          clear hno hyes h12
          go_wp2
          go_roundw
          case rel => exact ⟨k + 1, by omega, by go_num, hy, trivial⟩
          case measure => simp [intOf]; omega
        · have g3 : ¬ ((X : Int) = 95) := by omega
          by_cases h45 : 48 ≤ X ∧ X ≤ 57 ∧ 0 < k
          · have hy := hyes (by simp [h45.1, h45.2.1, h45.2.2])
            have g1 : ¬ ((97 : Int) ≤ X) := by omega
            have g4 : (48 : Int) ≤ X := by omega
            have g5 : (X : Int) ≤ 57 := by omega
            have g6 : 0 < k := h45.2.2
            clear hno hyes h12 h45
            go_wp2
            go_roundw
            case rel => exact ⟨k + 1, by omega, by go_num, hy, trivial⟩
            case measure => simp [intOf]; omega
          · have hn : nameB a = false := hno (by
              rw [Bool.or_eq_false_iff, Bool.or_eq_false_iff]
              refine ⟨⟨?_, by simp [h3]⟩, ?_⟩
              · rw [← Bool.not_eq_true]; simp; omega
              · rw [← Bool.not_eq_true]; simp; omega)
            have hfin : R = false := by rw [hR.out, hn]
            replace hfin := Lib.hid hfin
            clear hno hyes hn
            by_cases h1 : 97 ≤ X
            · have g1 : (97 : Int) ≤ X := by omega
              have g2 : ¬ ((X : Int) ≤ 122) := by omega
              have g4 : (48 : Int) ≤ X := by omega
              have g5 : ¬ ((X : Int) ≤ 57) := by omega
              clear h12 h45 h1 h3
              go_wp2
              go_ret
              exact ⟨ret_bool hfin.out.symm, Grows.refl _⟩
            · have g1 : ¬ ((97 : Int) ≤ X) := by omega
              by_cases h4 : 48 ≤ X
              · have g4 : (48 : Int) ≤ X := by omega
                by_cases h5 : X ≤ 57
                · have g5 : (X : Int) ≤ 57 := by omega
                  have g6 : ¬ (0 < k) := by omega
                  clear h12 h45 h1 h3 h4 h5
                  go_wp2
                  go_ret
                  exact ⟨ret_bool hfin.out.symm, Grows.refl _⟩
                · have g5 : ¬ ((X : Int) ≤ 57) := by omega
                  clear h12 h45 h1 h3 h4 h5
                  go_wp2
                  go_ret
                  exact ⟨ret_bool hfin.out.symm, Grows.refl _⟩
              · have g4 : ¬ ((48 : Int) ≤ X) := by omega
                clear h12 h45 h1 h3 h4
                go_wp2
                go_ret
                exact ⟨ret_bool hfin.out.symm, Grows.refl _⟩
    · obtain rfl : k = S.size := by omega
      have hfin : R = (decide (1 ≤ S.size) && decide (S.size ≤ 12)) := by
        rw [hR.out, name_true (fun j x hx => hall.out j x (by have := (List.getElem?_eq_some_iff.1 hx).1; omega) hx), hS]
      clear hbS hall
      by_cases h1 : 1 ≤ S.size
      · have g1 : (1 : Int) ≤ (S.size : Int) := by omega
        by_cases h2 : S.size ≤ 12
        · have g2 : (S.size : Int) ≤ 12 := by omega
          simp only [h1, h2, decide_true, Bool.and_self] at hfin
          replace hfin := Lib.hid hfin
          go_wp2
          go_ret
          exact ⟨ret_bool (by rw [hfin.out]), Grows.refl _⟩
        · have g2 : ¬ ((S.size : Int) ≤ 12) := by omega
          simp only [h2, decide_false, Bool.and_false] at hfin
          replace hfin := Lib.hid hfin
          go_wp2
          go_ret
          exact ⟨ret_bool (by rw [hfin.out]), Grows.refl _⟩
      · have g1 : ¬ ((1 : Int) ≤ (S.size : Int)) := by omega
        simp only [h1, decide_false, Bool.false_and] at hfin
        replace hfin := Lib.hid hfin
        go_wp2
        go_ret
        exact ⟨ret_bool (by rw [hfin.out]), Grows.refl _⟩
theorem rname_any (a : List UInt8) (ha : a.length ≤ 9223372036854775807) (w : World) :
    Calls Tryz.prog 61 #[.string ⟨a.toArray⟩] w fun e w' => e = .returned (.bool (nameB a)) ∧ Grows w w' := nameS_any ⟨a.toArray⟩ (by rw [bsize]; exact ha) w
end Go.Proofs.YtfoffneipdkdjaaGreatDoor
namespace Go.Proofs.YtfoffneipdkdjaaGreatDoor
open Go.RowKit

theorem ascB_at : ∀ {l : List Fld}, ascB l = true → ∀ {j : Nat} {e f : Fld}, l[j]? = some e → l[j + 1]? = some f → aheadB e.n f.n = true
  | [], _, _, _, _, h, _ => by simp at h
  | [_], _, _, _, _, _, h => by simp at h
  | a :: b :: l, hl, j, e, f, he, hf => by
    have h2 : aheadB a.n b.n = true ∧ ascB (b :: l) = true := by simpa [ascB] using hl
    cases j with
    | zero => simp at he hf; subst he hf; exact h2.1
    | succ j => exact ascB_at h2.2 (by simpa using he) (by simpa using hf)
theorem ascB_of : ∀ {l : List Fld}, (∀ (j : Nat) (e f : Fld), l[j]? = some e → l[j + 1]? = some f → aheadB e.n f.n = true) → ascB l = true
  | [], _ => rfl
  | [_], _ => rfl
  | a :: b :: l, h => by
    have h1 := h 0 a b rfl rfl
    have h2 := ascB_of (l := b :: l) (fun j e f he hf => h (j + 1) e f (by simpa using he) (by simpa using hf))
    show (aheadB a.n b.n && ascB (b :: l)) = true
    rw [h1, h2]; rfl
def fldB (f : Fld) : Bool := nameB f.n && decide (f.v.length ≤ 200)
theorem fieldsB_bad {l : List Fld} {k : Nat} {f : Fld} (hf : l[k]? = some f) (h : fldB f = false) : fieldsB l = false := by
  have hall : l.all (fun f => nameB f.n && decide (f.v.length ≤ 200)) = false := by
    rw [← Bool.not_eq_true, List.all_eq_true]
    intro hh
    have := hh f (List.mem_of_getElem? hf)
    unfold fldB at h
    rw [h] at this; cases this
  unfold fieldsB
  rw [hall]; rfl
theorem fieldsB_asc {l : List Fld} {k : Nat} {e f : Fld} (he : l[k]? = some e) (hf : l[k + 1]? = some f) (h : aheadB e.n f.n = false) : fieldsB l = false := by
  have hall : ascB l = false := by
    rw [← Bool.not_eq_true]
    intro hh
    rw [ascB_at hh he hf] at h; cases h
  unfold fieldsB
  rw [hall]; simp
/-- The first k fields are right, one by one and one behind the other. -/
def RightTo (l : List Fld) (k : Nat) : Prop := (∀ j f, j < k → l[j]? = some f → fldB f = true) ∧ (∀ j e f, j + 1 < k → l[j]? = some e → l[j + 1]? = some f → aheadB e.n f.n = true)
theorem RightTo.succ {l : List Fld} {k : Nat} {f : Fld} (h : RightTo l k) (hf : l[k]? = some f) (hb : fldB f = true) (ha : ∀ e, 0 < k → l[k - 1]? = some e → aheadB e.n f.n = true) : RightTo l (k + 1) := by
  refine ⟨fun j g hj hg => ?_, fun j e g hj he hg => ?_⟩
  · by_cases hjk : j = k
    · subst hjk; rw [hf] at hg; rw [← Option.some.inj hg]; exact hb
    · exact h.1 j g (by omega) hg
  · by_cases hjk : j + 1 = k
    · subst hjk; rw [hf] at hg; rw [← Option.some.inj hg]; exact ha e (by omega) (by simpa using he)
    · exact h.2 j e g (by omega) he hg
theorem RightTo.all {l : List Fld} (h : RightTo l l.length) : fieldsB l = decide (l.length ≤ 8) := by
  have h1 : l.all (fun f => nameB f.n && decide (f.v.length ≤ 200)) = true := by
    rw [List.all_eq_true]
    intro f hf
    obtain ⟨j, hj⟩ := List.getElem?_of_mem hf
    exact h.1 j f (List.getElem?_eq_some_iff.1 hj).1 hj
  have h2 : ascB l = true := ascB_of fun j e f he hf => h.2 j e f (List.getElem?_eq_some_iff.1 hf).1 he hf
  unfold fieldsB
  rw [h1, h2]; simp
set_option maxRecDepth 100000 in
set_option maxHeartbeats 1600000 in
theorem rright_any {A : Option Addr} {m c : Nat} {fs : List Fld} (w : World) (hA : Arr w 2 encF A m fs) (hm : m ≤ 9223372036854775807) (hf : ∀ f ∈ fs, f.n.length ≤ 9223372036854775807 ∧ f.v.length ≤ 9223372036854775807) :
    Calls Tryz.prog 28 #[.slice A m c] w fun e w' => e = .returned (.bool (fieldsB fs)) ∧ Grows w w' := by
  have hml := hA.1
  obtain ⟨R, hR⟩ : ∃ R, R = fieldsB fs := ⟨_, rfl⟩
  rw [← hR]
  replace hR := Lib.hid hR
  replace hA := Lib.hid hA
  replace hf := Lib.hid hf
  go_enter Tryz.func28, Tryz.ntmps28
  go_wp2
  go_loopw [3] (fun i wr => ∃ k : Nat, k ≤ m ∧ i = .int .i64 k ∧ Hid (RightTo fs k) ∧ Hid (Grows w wr)) (fun i _ => m - (intOf i).toNat)
  case atStart => exact ⟨0, by omega, rfl, ⟨fun _ _ h => absurd h (by omega), fun _ _ _ h => absurd h (by omega)⟩, Grows.refl _⟩
  case round =>
    obtain ⟨k, hk, rfl, hall, hG⟩ := hrel
    by_cases hkm : k < m
    · obtain ⟨bb, off, f, rfl, hsx, hx, hcell⟩ := (hA.out.keep hG.out).at_ hkm
      have c0 : wr.cell? ⟨bb, off + k * 2, none⟩ = some (.string ⟨f.n.toArray⟩) := by simpa using hcell 0 _ rfl
      have c1 : wr.cell? ⟨bb, off + k * 2 + 1, none⟩ = some (.string ⟨f.v.toArray⟩) := by simpa using hcell 1 _ rfl
      have hfl := hf.out f (List.mem_of_getElem? hx)
      have hfl1 := hfl.1
      have hfl2 := hfl.2
      have hki : (k : Int) < (m : Int) := by omega
      have cN := fun W => rname_any f.n hfl1 W
      have hbz := bsize f.v
      cases hnm : nameB f.n with
      | false =>
        have hfin := hR.out
        rw [fieldsB_bad hx (by unfold fldB; rw [hnm]; rfl)] at hfin
        rw [hnm] at cN
        replace hfin := Lib.hid hfin
        replace cN := Lib.hid cN
        clear hcell hx hfl hnm hall hR hbz
        go_wp2_with fail
        refine wp_region_k (by kernel_rfl) ?_
        refine wpAnyK_run (l' := #[true, true, true, true, true, true, true, true, true, true, true, true, true, true, true, true, true, true, true, true, true, true, true, true, true, true, true, true, true, true, true, true, true, true, true]) [0, 1, 2, 3, 4, 5, 6, 7, 8, 9, 10, 11, 12, 13, 14, 15, 16, 17, 18, 19, 20, 21, 22, 23, 24, 25, 26, 27, 28, 29, 30, 31, 32, 33, 34] 0 up_grows (by kernel_rfl) (by intro c a d v w h; first | (cases d <;> exact h) | exact hQ0 _ _ _ _ _ h) rfl (by kernel_rfl) (by kernel_rfl) ?_
        iterate 5 (refine wpMixC_q rfl (fun K hK => ?_); go_simp; (try go_bits); first | (refine hK.out _ ?_; clear hK K) | (apply Exists.intro; refine ⟨fun wq hsq => ?_, hK.out _ ?_⟩; (first | (go_simp; done) | ((try go_simp); (try simp only [↓IntWalk.iteOmega]); (try go_bits); rfl) | (obtain ⟨hcq, hfq⟩ := bcells hsq; go_simp; done) | (obtain ⟨hcq, hfq⟩ := bcells hsq; (try go_simp); (try simp only [↓IntWalk.iteOmega]); (try go_bits); rfl)); clear hK K))
        refine wpMixC_c (.bool false) rfl (by first | rfl | (go_simp; done)) (fun wq hsq => ?_) ?_
        · obtain ⟨hcq, hfq⟩ := bcells hsq
          go_simp
          exact Calls.mono (cN.out wq) (fun e w'' h => h)
        go_simp
        iterate 25 (refine wpMixC_q rfl (fun K hK => ?_); go_simp; (try go_bits); first | (refine hK.out _ ?_; clear hK K) | (apply Exists.intro; refine ⟨fun wq hsq => ?_, hK.out _ ?_⟩; (first | (go_simp; done) | ((try go_simp); (try simp only [↓IntWalk.iteOmega]); (try go_bits); rfl) | (obtain ⟨hcq, hfq⟩ := bcells hsq; go_simp; done) | (obtain ⟨hcq, hfq⟩ := bcells hsq; (try go_simp); (try simp only [↓IntWalk.iteOmega]); (try go_bits); rfl)); clear hK K))
        refine wpMixC_off rfl (by first | rfl | (go_simp; done)) ?_
        go_simp
        iterate 3 (refine wpMixC_q rfl (fun K hK => ?_); go_simp; (try go_bits); first | (refine hK.out _ ?_; clear hK K) | (apply Exists.intro; refine ⟨fun wq hsq => ?_, hK.out _ ?_⟩; (first | (go_simp; done) | ((try go_simp); (try simp only [↓IntWalk.iteOmega]); (try go_bits); rfl) | (obtain ⟨hcq, hfq⟩ := bcells hsq; go_simp; done) | (obtain ⟨hcq, hfq⟩ := bcells hsq; (try go_simp); (try simp only [↓IntWalk.iteOmega]); (try go_bits); rfl)); clear hK K))
        refine wpMixC_nil ?_
        refine wpAnyK_end (by kernel_rfl) (fun wN hN hS => ?_)
        go_wp2
        go_ret
        exact ⟨ret_bool (by rw [hfin.out]), hG.out.trans hN⟩
      | true =>
        rw [hnm] at cN
        replace cN := Lib.hid cN
        by_cases hv : f.v.length ≤ 200
        · have hfb : fldB f = true := by unfold fldB; rw [hnm]; simp [hv]
          have hvi : ¬ ((200 : Int) < (f.v.length : Int)) := by omega
          by_cases hk0 : 0 < k
          · obtain ⟨j, rfl⟩ : ∃ j, k = j + 1 := ⟨k - 1, by omega⟩
            obtain ⟨bb', off', e, hA', hse, he, hcelle⟩ := (hA.out.keep hG.out).at_ (show j < m by omega)
            injection hA' with hA'
            injection hA' with hb1 hb2
            subst hb1 hb2
            have c2 : wr.cell? ⟨bb, off + j * 2, none⟩ = some (.string ⟨e.n.toArray⟩) := by simpa using hcelle 0 _ rfl
            have cA := fun W => ahead_any e.n f.n (hf.out e (List.mem_of_getElem? he)).1 hfl1 W
            have i0 : (0 : Int) < ((j + 1 : Nat) : Int) := by omega
            have i1 : ((j + 1 : Nat) : Int) - 1 = (j : Int) := by omega
            have i2 : (j : Int) < (m : Int) := by omega
            cases hah : aheadB e.n f.n with
            | false =>
              rw [hah] at cA
              replace cA := Lib.hid cA
              have hfin := hR.out
              rw [fieldsB_asc he hx hah] at hfin
              replace hfin := Lib.hid hfin
              clear hcell hcelle hx he hfl hnm hall hR hfb hah
              go_wp2_with fail
              refine wp_region_k (by kernel_rfl) ?_
              refine wpAnyK_run (l' := #[true, true, true, true, true, true, true, true, true, true, true, true, true, true, true, true, true, true, true, true, true, true, true, true, true, true, true, true, true, true, true, true, true, true, true]) [0, 1, 2, 3, 4, 5, 6, 7, 8, 9, 10, 11, 12, 13, 14, 15, 16, 17, 18, 19, 20, 21, 22, 23, 24, 25, 26, 27, 28, 29, 30, 31, 32, 33, 34] 0 up_grows (by kernel_rfl) (by intro c a d v w h; first | (cases d <;> exact h) | exact hQ0 _ _ _ _ _ h) rfl (by kernel_rfl) (by kernel_rfl) ?_
              iterate 5 (refine wpMixC_q rfl (fun K hK => ?_); go_simp; (try go_bits); first | (refine hK.out _ ?_; clear hK K) | (apply Exists.intro; refine ⟨fun wq hsq => ?_, hK.out _ ?_⟩; (first | (go_simp; done) | ((try go_simp); (try simp only [↓IntWalk.iteOmega]); (try go_bits); rfl) | (obtain ⟨hcq, hfq⟩ := bcells hsq; go_simp; done) | (obtain ⟨hcq, hfq⟩ := bcells hsq; (try go_simp); (try simp only [↓IntWalk.iteOmega]); (try go_bits); rfl)); clear hK K))
              refine wpMixC_c (.bool true) rfl (by first | rfl | (go_simp; done)) (fun wq hsq => ?_) ?_
              · obtain ⟨hcq, hfq⟩ := bcells hsq
                go_simp
                exact Calls.mono (cN.out wq) (fun e w'' h => h)
              go_simp
              iterate 25 (refine wpMixC_q rfl (fun K hK => ?_); go_simp; (try go_bits); first | (refine hK.out _ ?_; clear hK K) | (apply Exists.intro; refine ⟨fun wq hsq => ?_, hK.out _ ?_⟩; (first | (go_simp; done) | ((try go_simp); (try simp only [↓IntWalk.iteOmega]); (try go_bits); rfl) | (obtain ⟨hcq, hfq⟩ := bcells hsq; go_simp; done) | (obtain ⟨hcq, hfq⟩ := bcells hsq; (try go_simp); (try simp only [↓IntWalk.iteOmega]); (try go_bits); rfl)); clear hK K))
              refine wpMixC_c (.bool false) rfl (by first | rfl | (go_simp; done)) (fun wq hsq => ?_) ?_
              · obtain ⟨hcq, hfq⟩ := bcells hsq
                go_simp
                exact Calls.mono (cA.out wq) (fun e w'' h => h)
              go_simp
              iterate 3 (refine wpMixC_q rfl (fun K hK => ?_); go_simp; (try go_bits); first | (refine hK.out _ ?_; clear hK K) | (apply Exists.intro; refine ⟨fun wq hsq => ?_, hK.out _ ?_⟩; (first | (go_simp; done) | ((try go_simp); (try simp only [↓IntWalk.iteOmega]); (try go_bits); rfl) | (obtain ⟨hcq, hfq⟩ := bcells hsq; go_simp; done) | (obtain ⟨hcq, hfq⟩ := bcells hsq; (try go_simp); (try simp only [↓IntWalk.iteOmega]); (try go_bits); rfl)); clear hK K))
              refine wpMixC_nil ?_
              refine wpAnyK_end (by kernel_rfl) (fun wN hN hS => ?_)
              go_wp2
              go_ret
              exact ⟨ret_bool (by rw [hfin.out]), hG.out.trans hN⟩
            | true =>
              rw [hah] at cA
              replace cA := Lib.hid cA
              have hnext := Lib.hid (hall.out.succ hx hfb (fun e' _ he' => by rw [show j + 1 - 1 = j from rfl, he] at he'; rw [← Option.some.inj he']; exact hah))
              clear hcell hcelle hx he hfl hnm hall hfb hah
              go_wp2_with fail
              refine wp_region_k (by kernel_rfl) ?_
              refine wpAnyK_run (l' := #[true, true, true, true, true, true, true, true, true, true, true, true, true, true, true, true, true, true, true, true, true, true, true, true, true, true, true, true, true, true, true, true, true, true, true]) [0, 1, 2, 3, 4, 5, 6, 7, 8, 9, 10, 11, 12, 13, 14, 15, 16, 17, 18, 19, 20, 21, 22, 23, 24, 25, 26, 27, 28, 29, 30, 31, 32, 33, 34] 0 up_grows (by kernel_rfl) (by intro c a d v w h; first | (cases d <;> exact h) | exact hQ0 _ _ _ _ _ h) rfl (by kernel_rfl) (by kernel_rfl) ?_
              iterate 5 (refine wpMixC_q rfl (fun K hK => ?_); go_simp; (try go_bits); first | (refine hK.out _ ?_; clear hK K) | (apply Exists.intro; refine ⟨fun wq hsq => ?_, hK.out _ ?_⟩; (first | (go_simp; done) | ((try go_simp); (try simp only [↓IntWalk.iteOmega]); (try go_bits); rfl) | (obtain ⟨hcq, hfq⟩ := bcells hsq; go_simp; done) | (obtain ⟨hcq, hfq⟩ := bcells hsq; (try go_simp); (try simp only [↓IntWalk.iteOmega]); (try go_bits); rfl)); clear hK K))
              refine wpMixC_c (.bool true) rfl (by first | rfl | (go_simp; done)) (fun wq hsq => ?_) ?_
              · obtain ⟨hcq, hfq⟩ := bcells hsq
                go_simp
                exact Calls.mono (cN.out wq) (fun e w'' h => h)
              go_simp
              iterate 25 (refine wpMixC_q rfl (fun K hK => ?_); go_simp; (try go_bits); first | (refine hK.out _ ?_; clear hK K) | (apply Exists.intro; refine ⟨fun wq hsq => ?_, hK.out _ ?_⟩; (first | (go_simp; done) | ((try go_simp); (try simp only [↓IntWalk.iteOmega]); (try go_bits); rfl) | (obtain ⟨hcq, hfq⟩ := bcells hsq; go_simp; done) | (obtain ⟨hcq, hfq⟩ := bcells hsq; (try go_simp); (try simp only [↓IntWalk.iteOmega]); (try go_bits); rfl)); clear hK K))
              refine wpMixC_c (.bool true) rfl (by first | rfl | (go_simp; done)) (fun wq hsq => ?_) ?_
              · obtain ⟨hcq, hfq⟩ := bcells hsq
                go_simp
                exact Calls.mono (cA.out wq) (fun e w'' h => h)
              go_simp
              iterate 3 (refine wpMixC_q rfl (fun K hK => ?_); go_simp; (try go_bits); first | (refine hK.out _ ?_; clear hK K) | (apply Exists.intro; refine ⟨fun wq hsq => ?_, hK.out _ ?_⟩; (first | (go_simp; done) | ((try go_simp); (try simp only [↓IntWalk.iteOmega]); (try go_bits); rfl) | (obtain ⟨hcq, hfq⟩ := bcells hsq; go_simp; done) | (obtain ⟨hcq, hfq⟩ := bcells hsq; (try go_simp); (try simp only [↓IntWalk.iteOmega]); (try go_bits); rfl)); clear hK K))
              refine wpMixC_nil ?_
              refine wpAnyK_end (by kernel_rfl) (fun wN hN hS => ?_)
              go_wp2
              go_roundw
              case rel => exact ⟨j + 1 + 1, by omega, by go_num, hnext, hG.out.trans hN⟩
              case measure => simp [intOf]; omega
          · obtain rfl : k = 0 := by omega
            simp only [Nat.zero_mul, Nat.add_zero] at c0 c1
            have hnext := Lib.hid (hall.out.succ hx hfb (fun e' h _ => absurd h (by omega)))
            clear hcell hx hfl hnm hall hfb hk0
            go_wp2_with fail
            refine wp_region_k (by kernel_rfl) ?_
            refine wpAnyK_run (l' := #[true, true, true, true, true, true, true, true, true, true, true, true, true, true, true, true, true, true, true, true, true, true, true, true, true, true, true, true, true, true, true, true, true, true, true]) [0, 1, 2, 3, 4, 5, 6, 7, 8, 9, 10, 11, 12, 13, 14, 15, 16, 17, 18, 19, 20, 21, 22, 23, 24, 25, 26, 27, 28, 29, 30, 31, 32, 33, 34] 0 up_grows (by kernel_rfl) (by intro c a d v w h; first | (cases d <;> exact h) | exact hQ0 _ _ _ _ _ h) rfl (by kernel_rfl) (by kernel_rfl) ?_
            iterate 5 (refine wpMixC_q rfl (fun K hK => ?_); go_simp; (try go_bits); first | (refine hK.out _ ?_; clear hK K) | (apply Exists.intro; refine ⟨fun wq hsq => ?_, hK.out _ ?_⟩; (first | (go_simp; done) | ((try go_simp); (try simp only [↓IntWalk.iteOmega]); (try go_bits); rfl) | (obtain ⟨hcq, hfq⟩ := bcells hsq; go_simp; done) | (obtain ⟨hcq, hfq⟩ := bcells hsq; (try go_simp); (try simp only [↓IntWalk.iteOmega]); (try go_bits); rfl)); clear hK K))
            refine wpMixC_c (.bool true) rfl (by first | rfl | (go_simp; done)) (fun wq hsq => ?_) ?_
            · obtain ⟨hcq, hfq⟩ := bcells hsq
              go_simp
              exact Calls.mono (cN.out wq) (fun e w'' h => h)
            go_simp
            iterate 25 (refine wpMixC_q rfl (fun K hK => ?_); go_simp; (try go_bits); first | (refine hK.out _ ?_; clear hK K) | (apply Exists.intro; refine ⟨fun wq hsq => ?_, hK.out _ ?_⟩; (first | (go_simp; done) | ((try go_simp); (try simp only [↓IntWalk.iteOmega]); (try go_bits); rfl) | (obtain ⟨hcq, hfq⟩ := bcells hsq; go_simp; done) | (obtain ⟨hcq, hfq⟩ := bcells hsq; (try go_simp); (try simp only [↓IntWalk.iteOmega]); (try go_bits); rfl)); clear hK K))
            refine wpMixC_off rfl (by first | rfl | (go_simp; done)) ?_
            go_simp
            iterate 3 (refine wpMixC_q rfl (fun K hK => ?_); go_simp; (try go_bits); first | (refine hK.out _ ?_; clear hK K) | (apply Exists.intro; refine ⟨fun wq hsq => ?_, hK.out _ ?_⟩; (first | (go_simp; done) | ((try go_simp); (try simp only [↓IntWalk.iteOmega]); (try go_bits); rfl) | (obtain ⟨hcq, hfq⟩ := bcells hsq; go_simp; done) | (obtain ⟨hcq, hfq⟩ := bcells hsq; (try go_simp); (try simp only [↓IntWalk.iteOmega]); (try go_bits); rfl)); clear hK K))
            refine wpMixC_nil ?_
            refine wpAnyK_end (by kernel_rfl) (fun wN hN hS => ?_)
            go_wp2
            go_roundw
            case rel => exact ⟨1, by omega, by go_num, hnext, hG.out.trans hN⟩
            case measure => simp [intOf]; omega
        · have hvi : (200 : Int) < (f.v.length : Int) := by omega
          have hfin := hR.out
          rw [fieldsB_bad hx (by unfold fldB; rw [hnm]; simp [hv])] at hfin
          replace hfin := Lib.hid hfin
          clear hcell hx hfl hnm hall hR
          go_wp2_with fail
          refine wp_region_k (by kernel_rfl) ?_
          refine wpAnyK_run (l' := #[true, true, true, true, true, true, true, true, true, true, true, true, true, true, true, true, true, true, true, true, true, true, true, true, true, true, true, true, true, true, true, true, true, true, true]) [0, 1, 2, 3, 4, 5, 6, 7, 8, 9, 10, 11, 12, 13, 14, 15, 16, 17, 18, 19, 20, 21, 22, 23, 24, 25, 26, 27, 28, 29, 30, 31, 32, 33, 34] 0 up_grows (by kernel_rfl) (by intro c a d v w h; first | (cases d <;> exact h) | exact hQ0 _ _ _ _ _ h) rfl (by kernel_rfl) (by kernel_rfl) ?_
          iterate 5 (refine wpMixC_q rfl (fun K hK => ?_); go_simp; (try go_bits); first | (refine hK.out _ ?_; clear hK K) | (apply Exists.intro; refine ⟨fun wq hsq => ?_, hK.out _ ?_⟩; (first | (go_simp; done) | ((try go_simp); (try simp only [↓IntWalk.iteOmega]); (try go_bits); rfl) | (obtain ⟨hcq, hfq⟩ := bcells hsq; go_simp; done) | (obtain ⟨hcq, hfq⟩ := bcells hsq; (try go_simp); (try simp only [↓IntWalk.iteOmega]); (try go_bits); rfl)); clear hK K))
          refine wpMixC_c (.bool true) rfl (by first | rfl | (go_simp; done)) (fun wq hsq => ?_) ?_
          · obtain ⟨hcq, hfq⟩ := bcells hsq
            go_simp
            exact Calls.mono (cN.out wq) (fun e w'' h => h)
          go_simp
          iterate 25 (refine wpMixC_q rfl (fun K hK => ?_); go_simp; (try go_bits); first | (refine hK.out _ ?_; clear hK K) | (apply Exists.intro; refine ⟨fun wq hsq => ?_, hK.out _ ?_⟩; (first | (go_simp; done) | ((try go_simp); (try simp only [↓IntWalk.iteOmega]); (try go_bits); rfl) | (obtain ⟨hcq, hfq⟩ := bcells hsq; go_simp; done) | (obtain ⟨hcq, hfq⟩ := bcells hsq; (try go_simp); (try simp only [↓IntWalk.iteOmega]); (try go_bits); rfl)); clear hK K))
          refine wpMixC_off rfl (by first | rfl | (go_simp; done)) ?_
          go_simp
          iterate 3 (refine wpMixC_q rfl (fun K hK => ?_); go_simp; (try go_bits); first | (refine hK.out _ ?_; clear hK K) | (apply Exists.intro; refine ⟨fun wq hsq => ?_, hK.out _ ?_⟩; (first | (go_simp; done) | ((try go_simp); (try simp only [↓IntWalk.iteOmega]); (try go_bits); rfl) | (obtain ⟨hcq, hfq⟩ := bcells hsq; go_simp; done) | (obtain ⟨hcq, hfq⟩ := bcells hsq; (try go_simp); (try simp only [↓IntWalk.iteOmega]); (try go_bits); rfl)); clear hK K))
          refine wpMixC_nil ?_
          refine wpAnyK_end (by kernel_rfl) (fun wN hN hS => ?_)
          go_wp2
          go_ret
          exact ⟨ret_bool (by rw [hfin.out]), hG.out.trans hN⟩
    · obtain rfl : k = m := by omega
      have hfin := hR.out
      rw [RightTo.all (by rw [hml]; exact hall.out), hml] at hfin
      by_cases h8 : k ≤ 8
      · have h8i : (k : Int) ≤ 8 := by omega
        simp only [h8, decide_true] at hfin
        replace hfin := Lib.hid hfin
        clear hR hall
        go_wp2
        go_ret
        exact ⟨ret_bool (by rw [hfin.out]), hG.out⟩
      · have h8i : ¬ ((k : Int) ≤ 8) := by omega
        simp only [h8, decide_false] at hfin
        replace hfin := Lib.hid hfin
        clear hR hall
        go_wp2
        go_ret
        exact ⟨ret_bool (by rw [hfin.out]), hG.out⟩
end Go.Proofs.YtfoffneipdkdjaaGreatDoor
namespace Go.Proofs.YtfoffneipdkdjaaGreatDoor
open Go.RowKit Go.Maps Go.WideMaps

/-- What was written last at a key. -/
def lookL : List (List UInt8 × Lit) → List UInt8 → Option Lit
  | [], _ => none
  | x :: r, s => match lookL r s with
    | some d => some d
    | none => if x.1 = s then some x.2 else none
theorem lookL_cons (x : List UInt8 × Lit) (r : List (List UInt8 × Lit)) (s : List UInt8) : lookL (x :: r) s = match lookL r s with
    | some d => some d
    | none => if x.1 = s then some x.2 else none := rfl
def putAll (l : List (List UInt8 × Lit)) (m : DataW Unit) : DataW Unit := l.foldl (fun m x => m.put (.string x.1) (.lit x.2)) m
theorem isKey_str (s : List UInt8) : WideAt.IsKeyLit (.string s) := by first | trivial | simp [WideAt.IsKeyLit] | exact ⟨⟩
theorem putAll_at (z : DataW Unit) (s : List UInt8) : ∀ (l : List (List UInt8 × Lit)) (m : DataW Unit), IsMap m → (putAll l m).atKey (.string s) z = (match lookL l s with | some d => .lit d | none => m.atKey (.string s) z)
  | [], _, _ => rfl
  | x :: r, m, h => by
    show (putAll r (m.put (.string x.1) (.lit x.2))).atKey (.string s) z = _
    rw [putAll_at z s r _ (h.put _ _)]
    rw [lookL_cons]
    cases lookL r s with
    | some d => rfl
    | none =>
      by_cases he : x.1 = s
      · subst he
        simp only [if_true]
        exact atKey_put_same h (isKey_str _) _ _
      · simp only [he, if_false]
        exact atKey_put_other (fun e => he (by injection e with e; exact e.symm)) _ _
theorem putAll_has (s : List UInt8) : ∀ (l : List (List UInt8 × Lit)) (m : DataW Unit), IsMap m → Maps.has (putAll l m) (.string s) = ((lookL l s).isSome || Maps.has m (.string s))
  | [], _, _ => rfl
  | x :: r, m, h => by
    show Maps.has (putAll r (m.put (.string x.1) (.lit x.2))) (.string s) = _
    rw [putAll_has s r _ (h.put _ _)]
    rw [lookL_cons]
    cases lookL r s with
    | some d => rfl
    | none =>
      by_cases he : x.1 = s
      · subst he
        simp only [if_true]
        rw [has_put_same h (isKey_str _)]
        rfl
      · simp only [he, if_false]
        rw [has_put_other (fun e => he (by injection e with e; exact e.symm))]
/-- Block b is a map, keyed by texts, in which l was written, in that row. -/
def MapL (P : Program) (k e : TypeId) (w : World) (b n : Nat) (l : List (List UInt8 × Lit)) : Prop := w.ownsMap (H := Unit) P k (plainElem P e) b n (putAll l (.map []))
section
variable {P : Program} {k e t : TypeId} {w : World} {b n : Nat} {l : List (List UInt8 × Lit)}
theorem MapL.made (w : World) (P : Program) (k e : TypeId) : MapL P k e (w.alloc (.map #[] 0)) w.heap.size 0 [] := World.ownsMap_made w P k _
theorem MapL.alloc (h : MapL P k e w b n l) (o : Obj) : MapL P k e (w.alloc o) b n l := World.ownsMap.alloc h o
theorem MapL.lt (h : MapL P k e w b n l) : b < w.heap.size := World.ownsMap.lt h
theorem MapL.kept {w' : World} {row : Option Nat} (h : MapL P k e w b n l) (hg : w.grownBy w' row) (hne : some b ≠ row) : MapL P k e w' b n l := World.ownsMap.kept h hg hne
theorem MapL.look_bool (h : MapL P k e w b n l) (hk : P.underlying k = some .string) (ht : P.underlying t = some (.map k e)) (he : P.underlying e = some .bool) (hz : (zeroValue e).run P w = .ok (.bool false) w) {s : List UInt8} (hs : s.length ≤ maxLen) {x : Bool} (hx : (lookL l s).getD (.bool false) = .bool x) :
    (Instr.lookup t (.map (some b)) (.string ⟨s.toArray⟩) false).run P w = .ok (.bool x) w := by
  obtain ⟨v, ps, hrun, hv⟩ := World.ownsMap.lookup h (string_keyed hk) ht hz (plainElem_bool he false) (key := .string ⟨s.toArray⟩) (kl := .string s) (by simpa using keyOf_string_mk hk (s := ⟨s.toArray⟩) (by simpa [ByteArray.size] using hs))
  rw [putAll_at _ _ _ _ isMap_empty] at hv
  have e1 : (match lookL l s with | some d => (DataW.lit d : DataW Unit) | none => (DataW.map [] : DataW Unit).atKey (.string s) (.lit (.bool false))) = .lit (.bool x) := by
    cases hl : lookL l s with
    | some d => rw [hl] at hx; simp only [Option.getD_some] at hx; rw [hx]
    | none => rw [hl] at hx; simp only [Option.getD_none] at hx; rw [← hx]; rfl
  rw [e1] at hv
  have : v = .bool x := by
    unfold plainElem at hv
    rw [he] at hv
    cases v <;> simp at hv
    rw [hv.1]
  rw [← this]
  exact hrun
theorem MapL.look_int (h : MapL P k e w b n l) (hk : P.underlying k = some .string) (ht : P.underlying t = some (.map k e)) (he : P.underlying e = some (.int .i64)) (hz : (zeroValue e).run P w = .ok (.int .i64 0) w) {s : List UInt8} (hs : s.length ≤ maxLen) {x : Int} (hx : (lookL l s).getD (.int .i64 0) = .int .i64 x) :
    (Instr.lookup t (.map (some b)) (.string ⟨s.toArray⟩) true).run P w = .ok (.tuple #[.int .i64 x, .bool (lookL l s).isSome]) w := by
  obtain ⟨v, ps, hrun, hv⟩ := World.ownsMap.look_ok h (string_keyed hk) ht hz (plainElem_int he (by decide)) (key := .string ⟨s.toArray⟩) (kl := .string s) (by simpa using keyOf_string_mk hk (s := ⟨s.toArray⟩) (by simpa [ByteArray.size] using hs))
  rw [putAll_at _ _ _ _ isMap_empty] at hv
  have e1 : (match lookL l s with | some d => (DataW.lit d : DataW Unit) | none => (DataW.map [] : DataW Unit).atKey (.string s) (.lit (.int .i64 0))) = .lit (.int .i64 x) := by
    cases hl : lookL l s with
    | some d => rw [hl] at hx; simp only [Option.getD_some] at hx; rw [hx]
    | none => rw [hl] at hx; simp only [Option.getD_none] at hx; rw [← hx]; rfl
  rw [e1] at hv
  obtain ⟨a, rfl, ha, _⟩ := plainElem_int_inv he hv
  have : x = a := by have := congrArg Prod.fst ha; simpa using this
  subst this
  rw [putAll_has _ _ _ isMap_empty] at hrun
  have e2 : ((lookL l s).isSome || Maps.has (DataW.map [] : DataW Unit) (.string s)) = (lookL l s).isSome := by
    have : Maps.has (DataW.map [] : DataW Unit) (.string s) = false := rfl
    rw [this, Bool.or_false]
  rw [e2] at hrun
  exact hrun
/-- A store, at the operation. -/
theorem wpList_putL {ops : Array Oper} {rest : List Oper} {o : Oper} {a : Act} {Q : Exit → Act → World → Prop} (h : MapL P k e w b n l)
    (hg : o.guard = none) (m x v : Operand) (hop : o.op = Op.mapUpdate t m x v) (hk : P.underlying k = some .string) (ht : P.underlying t = some (.map k e)) (hn : n < maxLen) (s : List UInt8) (hs : s.length ≤ maxLen) (val : Value) (d : Lit)
    (hm : a.eval m = .map (some b)) (hx : a.eval x = .string ⟨s.toArray⟩) (hv : a.eval v = val) (hd : plainElem (H := Unit) P e val = some (.lit d, []))
    (hK : ∀ w', MapL P k e w' b (n + 1) (l ++ [(s, d)]) → w.grownBy w' (some b) → wpList P ops Q rest (a.put o.dst undef) w') :
    wpList P ops Q (o :: rest) a w := by
  refine wpList_mapUpdate_own w hg m x v t hop k e (string_keyed hk) ht _ b n _ hm h hn _ _ (.string s) hx hv (by simpa using keyOf_string_mk hk (s := ⟨s.toArray⟩) (by simpa [ByteArray.size] using hs)) _ _ hd ?_
  intro w' h1 h2
  refine hK w' ?_ h2
  unfold MapL
  unfold putAll
  rw [List.foldl_append]
  exact h1
end
end Go.Proofs.YtfoffneipdkdjaaGreatDoor
namespace Go.Proofs.YtfoffneipdkdjaaGreatDoor
open Go.RowKit

/-- The place of the first one that is so, or -1. -/
def placeOf {α : Type} (p : α → Bool) (l : List α) : Int := match l.findIdx? p with
  | some i => (i : Int)
  | none => -1
theorem placeOf_hit {α : Type} {p : α → Bool} {l : List α} {k : Nat} {x : α} (hx : l[k]? = some x) (hp : p x = true) (hbef : ∀ j y, j < k → l[j]? = some y → p y = false) : placeOf p l = (k : Int) := by
  have : l.findIdx? p = some k := by
    rw [List.findIdx?_eq_some_iff_getElem]
    obtain ⟨h1, h2⟩ := List.getElem?_eq_some_iff.1 hx
    refine ⟨h1, by rw [h2]; exact hp, fun j hj => ?_⟩
    have := hbef j (l[j]'(by omega)) hj (List.getElem?_eq_getElem _)
    simp [this]
  unfold placeOf
  rw [this]
theorem placeOf_miss {α : Type} {p : α → Bool} {l : List α} (h : ∀ (j : Nat) (y : α), l[j]? = some y → p y = false) : placeOf p l = -1 := by
  have : l.findIdx? p = none := by
    rw [List.findIdx?_eq_none_iff]
    intro x hx
    obtain ⟨j, hj⟩ := List.getElem?_of_mem hx
    exact h j x hj
  unfold placeOf
  rw [this]
theorem placeOf_nonneg {α : Type} (p : α → Bool) (l : List α) : decide (0 ≤ placeOf p l) = l.any p := by
  unfold placeOf
  cases h : l.findIdx? p with
  | some i =>
    obtain ⟨h1, h2, _⟩ := List.findIdx?_eq_some_iff_getElem.1 h
    have : l.any p = true := List.any_eq_true.2 ⟨_, List.getElem_mem h1, h2⟩
    rw [this]; simp
  | none =>
    have h1 := List.findIdx?_eq_none_iff.1 h
    have : l.any p = false := by
      rw [← Bool.not_eq_true, List.any_eq_true]
      rintro ⟨x, hx, hp⟩
      rw [h1 x hx] at hp; cases hp
    rw [this]; simp
set_option maxRecDepth 100000 in
set_option maxHeartbeats 1600000 in
theorem indexT_any {A : Option Addr} {m c : Nat} {l : List (List UInt8)} {v : List UInt8} (w : World) (hA : Arr w 1 encS A m l) (hm : m ≤ 9223372036854775807) :
    Calls Tryz.prog 120 #[.slice A m c, .string ⟨v.toArray⟩] w fun e w' => e = .returned (.int .i64 (placeOf (fun x => v == x) l)) ∧ Grows w w' := by
  have hml := hA.1
  obtain ⟨R, hR⟩ : ∃ R, R = placeOf (fun x => v == x) l := ⟨_, rfl⟩
  rw [← hR]
  replace hR := Lib.hid hR
  replace hA := Lib.hid hA
  go_enter Tryz.func120, Tryz.ntmps120
  go_wp2
  go_loopw [4, 5, 8] (fun r _ i wr => ∃ k : Nat, k ≤ m ∧ i = .int .i64 k ∧ r = .int .i64 0 ∧ Hid (∀ j y, j < k → l[j]? = some y → (v == y) = false) ∧ wr = w) (fun _ _ i _ => m - (intOf i).toNat)
  case atStart => exact ⟨0, by omega, rfl, rfl, fun _ _ h => absurd h (by omega), rfl⟩
  case round =>
    obtain ⟨k, hk, rfl, rfl, hall, rfl⟩ := hrel
    by_cases hkm : k < m
    · obtain ⟨bb, off, x, rfl, hsx, hx, hcell⟩ := hA.out.at_ hkm
      have c0 : wr.cell? ⟨bb, off + k, none⟩ = some (.string ⟨x.toArray⟩) := by simpa using hcell 0 _ rfl
      have hki : (k : Int) < (m : Int) := by omega
      cases hvx : v == x with
      | true =>
        have hfin : Hid (R = (k : Int)) := Lib.hid (by rw [hR.out]; exact placeOf_hit hx hvx hall.out)
        clear hR hall hcell hx
        go_wp2
        go_ret
        exact ⟨by rw [hfin.out]; rfl, Grows.refl _⟩
      | false =>
        have hnext := Lib.hid (show ∀ j y, j < k + 1 → l[j]? = some y → (v == y) = false from fun j y hj hy => by
          by_cases hjk : j = k
          · subst hjk; rw [hx] at hy; rw [← Option.some.inj hy]; exact hvx
          · exact hall.out j y (by omega) hy)
        clear hR hall hcell hx
        go_wp2
        go_roundw
        case rel => exact ⟨k + 1, by omega, by go_num, rfl, hnext, trivial⟩
        case measure => simp [intOf]; omega
    · obtain rfl : k = m := by omega
      have hfin : Hid (R = -1) := Lib.hid (by rw [hR.out]; exact placeOf_miss fun j y hy => hall.out j y (by have := (List.getElem?_eq_some_iff.1 hy).1; omega) hy)
      clear hR hall
      go_wp2
      go_ret
      exact ⟨by rw [hfin.out]; rfl, Grows.refl _⟩
set_option maxRecDepth 100000 in
theorem hasT_any {A : Option Addr} {m c : Nat} {l : List (List UInt8)} {v : List UInt8} (w : World) (hA : Arr w 1 encS A m l) (hm : m ≤ 9223372036854775807) :
    Calls Tryz.prog 85 #[.slice A m c, .string ⟨v.toArray⟩] w fun e w' => e = .returned (.bool (l.any fun x => v == x)) ∧ Grows w w' := by
  have cI := indexT_any (c := c) (v := v) w hA hm
  have hp := placeOf_nonneg (fun x => v == x) l
  generalize (l.any fun x => v == x) = R at *
  generalize placeOf (fun x => v == x) l = P at *
  subst hp
  replace cI := Lib.hid cI
  clear hA
  go_enter Tryz.func85, Tryz.ntmps85
  go_wp2_with fail
  refine (cI.out).mono ?_
  rintro e w1 ⟨rfl, hg⟩
  go_wp2
  go_ret
  exact ⟨rfl, hg⟩
end Go.Proofs.YtfoffneipdkdjaaGreatDoor
namespace Go.Proofs
open Go.Shelf
def Tryz.laysM171_ren : Go.Shelf.Ren := ⟨fun | 171 => 86 | 243 => 121 | 246 => 140 | 283 => 152 | 284 => 153 | 285 => 154 | 286 => 155 | 129 => 166 | 317 => 165 | 318 => 167 | 319 => 168 | 320 => 169 | 337 => 179 | 338 => 180 | n => n, fun | 3 => 3 | 9 => 9 | 2 => 2 | 4 => 4 | 171 => 200 | 0 => 0 | 53 => 25 | 37 => 81 | 5 => 5 | 173 => 203 | 212 => 221 | 51 => 38 | 20 => 20 | 213 => 222 | 46 => 116 | 232 => 83 | 233 => 238 | n => n, fun | 17 => 0 | 18 => 1 | 19 => 2 | n => n⟩
theorem Tryz.laysM171 : Go.Proofs.LaysM.n171 Tryz.prog Tryz.laysM171_ren := {
  mixed := by kernel_rfl
  f129 := Tryz.func166.trans (congrArg some (by kernel_rfl))
  f171 := Tryz.func86.trans (congrArg some (by kernel_rfl))
  f243 := Tryz.func121.trans (congrArg some (by kernel_rfl))
  f246 := Tryz.func140.trans (congrArg some (by kernel_rfl))
  f283 := Tryz.func152.trans (congrArg some (by kernel_rfl))
  f284 := Tryz.func153.trans (congrArg some (by kernel_rfl))
  f285 := Tryz.func154.trans (congrArg some (by kernel_rfl))
  f286 := Tryz.func155.trans (congrArg some (by kernel_rfl))
  f317 := Tryz.func165.trans (congrArg some (by kernel_rfl))
  f318 := Tryz.func167.trans (congrArg some (by kernel_rfl))
  f319 := Tryz.func168.trans (congrArg some (by kernel_rfl))
  f320 := Tryz.func169.trans (congrArg some (by kernel_rfl))
  f337 := Tryz.func179.trans (congrArg some (by kernel_rfl))
  f338 := Tryz.func180.trans (congrArg some (by kernel_rfl))
  t0 := Tryz.underlying0
  a0 := Tryz.isAgg0
  z0 := Tryz.sizeOf0
  v0 := Tryz.zeroValue0
  t2 := Tryz.underlying2
  a2 := Tryz.isAgg2
  z2 := Tryz.sizeOf2
  v2 := Tryz.zeroValue2
  t3 := Tryz.underlying3
  a3 := Tryz.isAgg3
  z3 := Tryz.sizeOf3
  v3 := Tryz.zeroValue3
  t4 := Tryz.underlying4
  a4 := Tryz.isAgg4
  z4 := Tryz.sizeOf4
  v4 := Tryz.zeroValue4
  t5 := Tryz.underlying5
  a5 := Tryz.isAgg5
  z5 := Tryz.sizeOf5
  v5 := Tryz.zeroValue5
  t9 := Tryz.underlying9
  a9 := Tryz.isAgg9
  z9 := Tryz.sizeOf9
  v9 := Tryz.zeroValue9
  t20 := Tryz.underlying20
  a20 := Tryz.isAgg20
  z20 := Tryz.sizeOf20
  v20 := Tryz.zeroValue20
  t37 := Tryz.underlying81
  a37 := Tryz.isAgg81
  z37 := Tryz.sizeOf81
  v37 := Tryz.zeroValue81
  t46 := Tryz.underlying116
  a46 := Tryz.isAgg116
  z46 := Tryz.sizeOf116
  v46 := Tryz.zeroValue116
  t51 := Tryz.underlying38
  a51 := Tryz.isAgg38
  z51 := Tryz.sizeOf38
  v51 := Tryz.zeroValue38
  t53 := Tryz.underlying25
  a53 := Tryz.isAgg25
  z53 := Tryz.sizeOf25
  v53 := Tryz.zeroValue25
  t171 := Tryz.underlying200
  a171 := Tryz.isAgg200
  z171 := Tryz.sizeOf200
  v171 := Tryz.zeroValue200
  t173 := Tryz.underlying203
  a173 := Tryz.isAgg203
  z173 := Tryz.sizeOf203
  v173 := Tryz.zeroValue203
  t212 := Tryz.underlying221
  a212 := Tryz.isAgg221
  z212 := Tryz.sizeOf221
  v212 := Tryz.zeroValue221
  t213 := Tryz.underlying222
  a213 := Tryz.isAgg222
  z213 := Tryz.sizeOf222
  t232 := Tryz.underlying83
  a232 := Tryz.isAgg83
  z232 := Tryz.sizeOf83
  v232 := Tryz.zeroValue83
  t233 := Tryz.underlying238
  a233 := Tryz.isAgg238
  z233 := Tryz.sizeOf238
  v233 := Tryz.zeroValue238
  g17 := by kernel_rfl
  g18 := by kernel_rfl
  g19 := by kernel_rfl
  i0 := by kernel_rfl
  i2 := by kernel_rfl
  i3 := by kernel_rfl
  i4 := by kernel_rfl
  i5 := by kernel_rfl
  i9 := by kernel_rfl
  i20 := by kernel_rfl
  i37 := by kernel_rfl
  i46 := by kernel_rfl
  i51 := by kernel_rfl
  i53 := by kernel_rfl
  i171 := by kernel_rfl
  i173 := by kernel_rfl
  i212 := by kernel_rfl
  i232 := by kernel_rfl
  i233 := by kernel_rfl
  m17 := by kernel_rfl
  m18 := by kernel_rfl
  m19 := by kernel_rfl }
def Tryz.laysGw17_ren : Go.Shelf.Ren := ⟨fun | 17 => 110 | 15 => 134 | 20 => 148 | n => n, fun | 9 => 9 | 23 => 159 | 4 => 4 | 3 => 3 | 0 => 0 | 21 => 21 | n => n, fun | n => n⟩
theorem Tryz.laysGw17 : Go.Proofs.LaysGw.n17 Tryz.prog Tryz.laysGw17_ren := {
  mixed := by kernel_rfl
  f15 := Tryz.func134.trans (congrArg some (by kernel_rfl))
  f17 := Tryz.func110.trans (congrArg some (by kernel_rfl))
  f20 := Tryz.func148.trans (congrArg some (by kernel_rfl))
  t0 := Tryz.underlying0
  a0 := Tryz.isAgg0
  z0 := Tryz.sizeOf0
  v0 := Tryz.zeroValue0
  i0 := by kernel_rfl
  t3 := Tryz.underlying3
  a3 := Tryz.isAgg3
  z3 := Tryz.sizeOf3
  v3 := Tryz.zeroValue3
  i3 := by kernel_rfl
  t4 := Tryz.underlying4
  a4 := Tryz.isAgg4
  z4 := Tryz.sizeOf4
  v4 := Tryz.zeroValue4
  i4 := by kernel_rfl
  t9 := Tryz.underlying9
  a9 := Tryz.isAgg9
  z9 := Tryz.sizeOf9
  v9 := Tryz.zeroValue9
  i9 := by kernel_rfl
  t21 := Tryz.underlying21
  a21 := Tryz.isAgg21
  z21 := Tryz.sizeOf21
  v21 := Tryz.zeroValue21
  i21 := by kernel_rfl
  t23 := Tryz.underlying159
  a23 := Tryz.isAgg159
  z23 := Tryz.sizeOf159
  v23 := Tryz.zeroValue159
  i23 := by kernel_rfl }
end Go.Proofs
namespace Go.Proofs.YtfoffneipdkdjaaGreatDoor
open Go.RowKit Go.PlainAid

theorem var?_grows {P : Program} {w w' : World} {nm : String} {g : Nat} {cs : Array Value} (h : Grows w w') (hg : P.globalNamed nm = some g) (hv : w.var? P nm = some cs) (hlt : g < w.heap.size) : w'.var? P nm = some cs := var?_below h hg hlt hv
/-- What start-up lays, as far as the library's functions read it. -/
structure LibEnv (w : World) : Prop where
  pow : Lib.TabIs Tryz.prog w "internal/strconv.uint64pow10" .u64 Lib.pow10Tab
  powg : 0 < w.heap.size
theorem LibEnv.grows {w w' : World} (h : LibEnv w) (hg : Grows w w') : LibEnv w' where
  pow := var?_grows hg (by kernel_rfl) h.pow h.powg
  powg := Nat.lt_of_lt_of_le h.powg hg.size
theorem grow_grows (w : World) (k : Nat) (os : Array Obj) : Grows w (Go.Sort.grow (w.drewN k) os) :=
  ⟨rfl, rfl, rfl, by show w.heap.size ≤ (w.heap ++ os).size; simp, fun j hj => by show (w.heap ++ os)[j]? = _; rw [Array.getElem?_append_left hj]⟩
theorem itoa_any (n : Int) (h0 : -9223372036854775808 ≤ n) (h1 : n ≤ 9223372036854775807) (w : World) (he : LibEnv w) :
    Calls Tryz.prog 86 #[.int .i64 n] w fun e w' => e = .returned (.string ⟨(Lib.itoa n).toArray⟩) ∧ Grows w w' :=
  (Any.strconv_Itoa Tryz.laysM171 n h0 h1 w he.pow).mono fun _ _ ⟨e, k, os, hw⟩ => ⟨e, by rw [hw]; exact grow_grows w k os⟩
set_option maxHeartbeats 800000 in
theorem nameC_any (w : World) : PredAt Tryz.prog 132 #[] encR oddR w := fun W r _ => by
  unfold FnGives
  obtain ⟨R, hR⟩ : ∃ R, R = oddR r := ⟨_, rfl⟩
  rw [← hR]
  unfold oddR lowR digR at hR
  by_cases h1 : r = 95
  · subst h1
    replace hR : R = false := by rw [hR]; decide
    subst hR
    go_enter Tryz.func132, Tryz.ntmps132
    go_wp2
    go_ret
    exact ⟨rfl, 0, rfl⟩
  · have h1' : ((r : Int) != 95) = true := by simp; omega
    by_cases h2 : r < 48
    · replace hR : R = true := by rw [hR]; simp; omega
      subst hR
      have h3 : (r : Int) < 97 := by omega
      have h4 : (r : Int) < 48 := by omega
      go_enter Tryz.func132, Tryz.ntmps132
      go_wp2
      go_ret
      exact ⟨rfl, 0, rfl⟩
    · by_cases h3 : r ≤ 57
      · replace hR : R = false := by rw [hR]; simp; omega
        subst hR
        have h3 : (r : Int) < 97 := by omega
        have h4 : ¬ (r : Int) < 48 := by omega
        have h5 : ¬ 57 < (r : Int) := by omega
        go_enter Tryz.func132, Tryz.ntmps132
        go_wp2
        go_ret
        exact ⟨rfl, 0, rfl⟩
      · have h5 : 57 < (r : Int) := by omega
        have h4 : ¬ (r : Int) < 48 := by omega
        by_cases h6 : r < 97
        · replace hR : R = true := by rw [hR]; simp; omega
          subst hR
          have h7 : (r : Int) < 97 := by omega
          go_enter Tryz.func132, Tryz.ntmps132
          go_wp2
          go_ret
          exact ⟨rfl, 0, rfl⟩
        · have h7 : ¬ (r : Int) < 97 := by omega
          by_cases h8 : 122 < r
          · replace hR : R = true := by rw [hR]; simp; omega
            subst hR
            have h9 : 122 < (r : Int) := by omega
            go_enter Tryz.func132, Tryz.ntmps132
            go_wp2
            go_ret
            exact ⟨rfl, 0, rfl⟩
          · replace hR : R = false := by rw [hR]; simp; omega
            subst hR
            have h9 : ¬ 122 < (r : Int) := by omega
            go_enter Tryz.func132, Tryz.ntmps132
            go_wp2
            go_ret
            exact ⟨rfl, 0, rfl⟩
theorem nameB_high {s : List UInt8} (h : 12 < s.length) : nameB s = false := by
  unfold nameB
  rw [decide_eq_false (show ¬ s.length ≤ 12 by omega)]
  simp
theorem nameB_dig {b : UInt8} {r : List UInt8} (h : digR b.toNat = true) : nameB (b :: r) = false := by
  unfold nameB
  simp [h]
theorem nameB_rest {b : UInt8} {r : List UInt8} (h : digR b.toNat = false) (hl : (b :: r).length ≤ 12) : nameB (b :: r) = (b :: r).all signB := by
  unfold nameB
  rw [decide_eq_true hl]
  simp [h]
set_option maxRecDepth 100000 in
set_option maxHeartbeats 800000 in
theorem nameP_any (S : ByteArray) (w : World) : Calls Tryz.prog 105 #[.string S] w fun e w' => e = .returned (.bool (nameB S.data.toList)) ∧ Grows w w' := by
  have hS : S.data.toList.length = S.size := Array.length_toList
  have cC := fun W => Any.strings_ContainsFunc Tryz.laysGw17 132 #[] (enters_of Tryz.func132 (by kernel_rfl) rfl) oddR S W (nameC_any W)
  have hna := name_any S
  change ∀ W, Calls Tryz.prog 110 _ W _ at cC
  generalize decide (0 ≤ Lib.idxFunc oddR true S) = D at *
  obtain ⟨R, hR⟩ : ∃ R, R = nameB S.data.toList := ⟨_, rfl⟩
  rw [← hR]
  replace cC := Lib.hid cC
  by_cases h0 : S.size = 0
  · have hSe : S = ⟨#[]⟩ := by
      apply ByteArray.ext
      exact Array.eq_empty_of_size_eq_zero h0
    subst hSe
    replace hR : R = false := by rw [hR]; rfl
    subst hR
    clear hS hna cC h0
    go_enter Tryz.func105, Tryz.ntmps105
    go_wp2
    go_ret
    exact ⟨rfl, Grows.refl _⟩
  · have hne1 : ¬ S.toList = [] := fun h => h0 (by rw [(toList_nil_iff_emptyBytes S).1 h]; rfl)
    have hne2 : S.toList.isEmpty = false := by rw [← Bool.not_eq_true, List.isEmpty_iff]; exact hne1
    have hp0 : 0 < S.size := by omega
    have hb0 := get_bt S 0 hp0
    have hx0 := fun x => bt_at S (k := 0) (x := x)
    cases hl : S.data.toList with
    | nil => rw [hl] at hS; simp at hS; omega
    | cons b r =>
      rw [hl] at hR hna hS hx0
      rw [hx0 b rfl] at hb0
      have hhi := nameB_high (s := b :: r)
      have hdi := nameB_dig (b := b) (r := r)
      have hre := nameB_rest (b := b) (r := r)
      rw [hS] at hhi hre
      rw [← hna] at hre
      have hbl := b.toNat_lt
      unfold digR at hdi hre
      clear hna hl hx0 hS
      generalize b.toNat = X at *
      have hX0 : 0 ≤ (X : Int) ∧ (X : Int) ≤ 255 := by omega
      clear hbl h0
      generalize nameB (b :: r) = B at *
      subst hR
      by_cases h12 : 12 < S.size
      · have hB := hhi h12
        subst hB
        have g0 : (12 : Int) < (S.size : Int) := by omega
        clear hhi hdi hre cC
        go_enter Tryz.func105, Tryz.ntmps105
        go_wp2
        go_ret
        exact ⟨rfl, Grows.refl _⟩
      · have g0 : ¬ (12 : Int) < (S.size : Int) := by omega
        clear hhi
        by_cases hd : 48 ≤ X ∧ X ≤ 57
        · have hB := hdi (by simp [hd.1, hd.2])
          subst hB
          have g1 : (48 : Int) ≤ X := by omega
          have g2 : (X : Int) ≤ 57 := by omega
          clear hdi hre cC hd
          go_enter Tryz.func105, Tryz.ntmps105
          go_wp2
          go_ret
          exact ⟨rfl, Grows.refl _⟩
        · have hB := hre (by simp; omega) (by omega)
          subst hB
          clear hdi hre
          by_cases h48 : 48 ≤ X
          · have g1 : (48 : Int) ≤ X := by omega
            have g2 : ¬ (X : Int) ≤ 57 := by omega
            clear hd h48
            go_enter Tryz.func105, Tryz.ntmps105
            go_wp2_with fail
            refine (cC.out _).mono ?_
            rintro e w1 ⟨rfl, hb⟩
            go_wp2
            go_ret
            exact ⟨rfl, hb⟩
          · have g1 : ¬ (48 : Int) ≤ X := by omega
            clear hd h48
            go_enter Tryz.func105, Tryz.ntmps105
            go_wp2_with fail
            refine (cC.out _).mono ?_
            rintro e w1 ⟨rfl, hb⟩
            go_wp2
            go_ret
            exact ⟨rfl, hb⟩
theorem name_any1 (s : List UInt8) (w : World) : Calls Tryz.prog 105 #[.string ⟨s.toArray⟩] w fun e w' => e = .returned (.bool (nameB s)) ∧ Grows w w' := nameP_any ⟨s.toArray⟩ w
end Go.Proofs.YtfoffneipdkdjaaGreatDoor
namespace Go.Proofs.YtfoffneipdkdjaaGreatDoor
open Go.RowKit

/-- A closure that answers p of each element of l, in every later world. -/
def PredM {α : Type} (P : Program) (g : FuncId) (lb : Array Value) (val : α → Value) (p : α → Bool) (l : List α) (w : World) : Prop :=
  ∀ x ∈ l, ∀ (W : World), Grows w W → Calls P g (#[val x] ++ lb) W fun e w' => e = .returned (.bool (p x)) ∧ Grows W w'
/-- .. while blocks from B on are written. -/
def PredB {α : Type} (P : Program) (g : FuncId) (lb : Array Value) (val : α → Value) (p : α → Bool) (B : Nat) (l : List α) (w : World) : Prop :=
  ∀ x ∈ l, ∀ (W : World), Below B w W → Calls P g (#[val x] ++ lb) W fun e w' => e = .returned (.bool (p x)) ∧ Grows W w'
theorem Arr.nilOf {α : Type} {w : World} {k : Nat} {enc : α → List Value} {m : Nat} {l : List α} (h : Arr w k enc none m l) : l = [] ∧ m = 0 := by
  rcases Nat.eq_zero_or_pos m with h0 | h0
  · exact ⟨List.eq_nil_of_length_eq_zero (by rw [h.1, h0]), h0⟩
  · obtain ⟨b, off, e, _⟩ := h.2 h0; cases e
theorem filter_not_of_any {α : Type} {p : α → Bool} : ∀ {xs : List α}, xs.any p = false → (xs.filter fun x => !p x) = xs
  | [], _ => rfl
  | x :: r, h => by
    simp only [List.any_cons, Bool.or_eq_false_iff] at h
    simp [h.1, filter_not_of_any h.2]
theorem placeOf_spec {α : Type} (p : α → Bool) (xs : List α) : (placeOf p xs = -1 ∧ xs.any p = false) ∨ ∃ (i : Nat) (x : α), placeOf p xs = i ∧ xs[i]? = some x ∧ p x = true ∧ (xs.take i).any p = false := by
  unfold placeOf
  cases h : xs.findIdx? p with
  | none =>
    refine .inl ⟨rfl, ?_⟩
    rw [← Bool.not_eq_true, List.any_eq_true]
    rintro ⟨x, hx, hp⟩
    rw [List.findIdx?_eq_none_iff.1 h x hx] at hp; cases hp
  | some i =>
    obtain ⟨h1, h2, h3⟩ := List.findIdx?_eq_some_iff_getElem.1 h
    refine .inr ⟨i, xs[i], rfl, List.getElem?_eq_getElem h1, h2, ?_⟩
    rw [← Bool.not_eq_true, List.any_eq_true]
    rintro ⟨x, hx, hp⟩
    obtain ⟨j, hj, rfl⟩ := List.getElem_of_mem hx
    rw [List.getElem_take] at hp
    exact h3 j (by simp at hj; omega) hp

/-- The state of the sieve: of the first j elements those that stay stand in front. -/
structure Sieve {α : Type} (p : α → Bool) (xs ys : List α) (i j : Nat) : Prop where
  len : ys.length = xs.length
  lt : i < j
  le : j ≤ xs.length
  front : ys.take i = (xs.take j).filter fun x => !p x
  back : ys.drop j = xs.drop j
theorem Sieve.start {α : Type} {p : α → Bool} {xs : List α} {i : Nat} {x : α} (h1 : xs[i]? = some x) (h2 : p x = true) (h3 : (xs.take i).any p = false) : Sieve p xs xs i (i + 1) := by
  have hi : i < xs.length := (List.getElem?_eq_some_iff.1 h1).1
  refine ⟨rfl, by omega, by omega, ?_, rfl⟩
  rw [List.take_add_one, List.filter_append, filter_not_of_any h3, h1]
  simp [h2]
theorem Sieve.get {α : Type} {p : α → Bool} {xs ys : List α} {i j : Nat} (h : Sieve p xs ys i j) {x : α} (hx : xs[j]? = some x) : ys[j]? = some x := by
  have := congrArg (fun l => l[0]?) h.back
  simp only [List.getElem?_drop, Nat.add_zero] at this
  rw [this, hx]
theorem Sieve.drop_ {α : Type} {p : α → Bool} {xs ys : List α} {i j : Nat} (h : Sieve p xs ys i j) {x : α} (hx : xs[j]? = some x) (hp : p x = true) : Sieve p xs ys i (j + 1) := by
  have hj : j < xs.length := (List.getElem?_eq_some_iff.1 hx).1
  refine ⟨h.len, by have := h.lt; omega, by omega, ?_, ?_⟩
  · rw [List.take_add_one, List.filter_append, ← h.front, hx]; simp [hp]
  · have := congrArg (List.drop 1) h.back
    simpa [List.drop_drop] using this
theorem Sieve.keep_ {α : Type} {p : α → Bool} {xs ys : List α} {i j : Nat} (h : Sieve p xs ys i j) {x : α} (hx : xs[j]? = some x) (hp : p x = false) : Sieve p xs (ys.set i x) (i + 1) (j + 1) := by
  have hj : j < xs.length := (List.getElem?_eq_some_iff.1 hx).1
  have hlt := h.lt
  have hl := h.len
  refine ⟨by simp [hl], by omega, by omega, ?_, ?_⟩
  · rw [List.take_add_one, List.take_add_one, List.filter_append, ← h.front, hx, List.take_set_of_le (by omega), List.getElem?_set_self (by omega)]
    simp [hp]
  · rw [List.drop_set_of_lt (by omega)]
    have := congrArg (List.drop 1) h.back
    simpa [List.drop_drop] using this
end Go.Proofs.YtfoffneipdkdjaaGreatDoor
namespace Go.Proofs.YtfoffneipdkdjaaGreatDoor
open Go.RowKit

def encN (x : Nam) : List Value := [.string ⟨x.n.toArray⟩, .int .i64 x.l.lv, .int .u32 (x.l.c : Int)]
def valN (x : Nam) : Value := .agg #[.string ⟨x.n.toArray⟩, .int .i64 x.l.lv, .int .u32 (x.l.c : Int)]
theorem hkN (x : Nam) : (encN x).length = 3 := rfl
def encM (x : Mat) : List Value := [.string ⟨x.n.toArray⟩, .int .i64 x.op, .string ⟨x.v.toArray⟩]
def valM (x : Mat) : Value := .agg #[.string ⟨x.n.toArray⟩, .int .i64 x.op, .string ⟨x.v.toArray⟩]
def valF (x : Fld) : Value := .agg #[.string ⟨x.n.toArray⟩, .string ⟨x.v.toArray⟩]
theorem T_F : SliceT Tryz.prog 22 76 2 32 := T_ff

/-- A list of named labels, where it lies. -/
structure NamsX where
  l : List Nam
  A : Option Addr
  m : Nat
  k : Nat
def NamsX.val (x : NamsX) : Value := .slice x.A x.m x.k
structure NamsX.At (x : NamsX) (w : World) : Prop where
  arr : Arr w 3 encN x.A x.m x.l
  le : x.m ≤ 9223372036854775807
  lab : ∀ y ∈ x.l, y.l.ok
  txt : ∀ y ∈ x.l, y.n.length ≤ 9223372036854775807
def encQ (x : NamsX) : List Value := [.slice x.A x.m x.k]
def valQ (x : NamsX) : Value := .slice x.A x.m x.k
/-- Matchers, where they lie. -/
structure RteX where
  r : Rte
  bA : Option Addr
  bm : Nat
  bk : Nat
  wA : Option Addr
  wm : Nat
  wk : Nat
structure RteX.At (x : RteX) (w : World) : Prop where
  by_ : Arr w 1 encS x.bA x.bm x.r.by_
  byle : x.bm ≤ 9223372036854775807
  bytxt : ∀ y ∈ x.r.by_, y.length ≤ 9223372036854775807
  wh : Arr w 3 encM x.wA x.wm x.r.wh
  whle : x.wm ≤ 9223372036854775807
def encR (x : RteX) : List Value := [.string ⟨x.r.r.toArray⟩, .slice x.bA x.bm x.bk, .int .i64 x.r.wait, .int .i64 x.r.every, .int .i64 x.r.again, .slice x.wA x.wm x.wk]
def valR (x : RteX) : Value := .agg #[.string ⟨x.r.r.toArray⟩, .slice x.bA x.bm x.bk, .int .i64 x.r.wait, .int .i64 x.r.every, .int .i64 x.r.again, .slice x.wA x.wm x.wk]
structure InhX where
  i : Inh
  bA : Option Addr
  bm : Nat
  bk : Nat
  fA : Option Addr
  fm : Nat
  fk : Nat
  wA : Option Addr
  wm : Nat
  wk : Nat
structure InhX.At (x : InhX) (w : World) : Prop where
  by_ : Arr w 1 encS x.bA x.bm x.i.by_
  byle : x.bm ≤ 9223372036854775807
  bytxt : ∀ y ∈ x.i.by_, y.length ≤ 9223372036854775807
  fr : Arr w 3 encM x.fA x.fm x.i.from_
  frle : x.fm ≤ 9223372036854775807
  wh : Arr w 3 encM x.wA x.wm x.i.wh
  whle : x.wm ≤ 9223372036854775807
  lab : x.i.l.ok
def encH (x : InhX) : List Value := [.slice x.bA x.bm x.bk, .int .i64 x.i.l.lv, .int .u32 (x.i.l.c : Int), .slice x.fA x.fm x.fk, .slice x.wA x.wm x.wk]
def valH (x : InhX) : Value := .agg #[.slice x.bA x.bm x.bk, .int .i64 x.i.l.lv, .int .u32 (x.i.l.c : Int), .slice x.fA x.fm x.fk, .slice x.wA x.wm x.wk]
/-- A policy, where it lies. -/
structure PolX where
  s : NamsX
  r : NamsX
  e : NamsX
  a : NamsX
  o : List RteX
  oA : Option Addr
  om : Nat
  ok : Nat
  i : List InhX
  iA : Option Addr
  im : Nat
  ik : Nat
def PolX.pol (x : PolX) : Pol := ⟨x.s.l, x.r.l, x.e.l, x.a.l, x.o.map (·.r), x.i.map (·.i)⟩
def PolX.cells (x : PolX) : List Value := [.slice x.s.A x.s.m x.s.k, .slice x.r.A x.r.m x.r.k, .slice x.e.A x.e.m x.e.k, .slice x.a.A x.a.m x.a.k, .slice x.oA x.om x.ok, .slice x.iA x.im x.ik]
def PolX.val (x : PolX) : Value := .agg #[.slice x.s.A x.s.m x.s.k, .slice x.r.A x.r.m x.r.k, .slice x.e.A x.e.m x.e.k, .slice x.a.A x.a.m x.a.k, .slice x.oA x.om x.ok, .slice x.iA x.im x.ik]
structure PolX.At (x : PolX) (w : World) : Prop where
  s : x.s.At w
  r : x.r.At w
  e : x.e.At w
  a : x.a.At w
  o : Arr w 6 encR x.oA x.om x.o
  ole : x.om ≤ 9223372036854775807
  oAt : ∀ y ∈ x.o, y.At w
  i : Arr w 5 encH x.iA x.im x.i
  ile : x.im ≤ 9223372036854775807
  iAt : ∀ y ∈ x.i, y.At w
theorem NamsX.At.keep {x : NamsX} {w w' : World} (h : x.At w) (hg : Grows w w') : x.At w' := ⟨h.arr.keep hg, h.le, h.lab, h.txt⟩
theorem RteX.At.keep {x : RteX} {w w' : World} (h : x.At w) (hg : Grows w w') : x.At w' := ⟨h.by_.keep hg, h.byle, h.bytxt, h.wh.keep hg, h.whle⟩
theorem InhX.At.keep {x : InhX} {w w' : World} (h : x.At w) (hg : Grows w w') : x.At w' := ⟨h.by_.keep hg, h.byle, h.bytxt, h.fr.keep hg, h.frle, h.wh.keep hg, h.whle, h.lab⟩
theorem PolX.At.keep {x : PolX} {w w' : World} (h : x.At w) (hg : Grows w w') : x.At w' := ⟨h.s.keep hg, h.r.keep hg, h.e.keep hg, h.a.keep hg, h.o.keep hg, h.ole, fun y hy => (h.oAt y hy).keep hg, h.i.keep hg, h.ile, fun y hy => (h.iAt y hy).keep hg⟩
/-- An alert, where it lies. -/
structure AlrX where
  a : Alr
  A : Option Addr
  m : Nat
  k : Nat
def encA (x : AlrX) : List Value := [.string ⟨x.a.src.toArray⟩, .slice x.A x.m x.k, .int .i64 x.a.l.lv, .int .u32 (x.a.l.c : Int), .int .i64 x.a.f, .int .i64 x.a.t]
def valA (x : AlrX) : Value := .agg #[.string ⟨x.a.src.toArray⟩, .slice x.A x.m x.k, .int .i64 x.a.l.lv, .int .u32 (x.a.l.c : Int), .int .i64 x.a.f, .int .i64 x.a.t]
structure AlrX.At (x : AlrX) (w : World) : Prop where
  arr : Arr w 2 encF x.A x.m x.a.fs
  le : x.m ≤ 1000
  lab : x.a.l.ok
theorem AlrX.At.keep {x : AlrX} {w w' : World} (h : x.At w) (hg : Grows w w') : x.At w' := ⟨h.arr.keep hg, h.le, h.lab⟩
/-- What the program answers for a matcher, alone: is it fine; does it fit fields. -/
def FineOK (fb : Mat → Bool) (x : Mat) : Prop := ∀ W : World, Calls Tryz.prog 109 #[valM x] W fun e w' => e = .returned (.bool (fb x)) ∧ Grows W w'
def FitsOK (ft : List Fld → Mat → Bool) (x : Mat) : Prop := ∀ (A : Option Addr) (m c : Nat) (l : List Fld) (W : World), Arr W 2 encF A m l → m ≤ 9223372036854775807 → Calls Tryz.prog 118 #[.slice A m c, valM x] W fun e w' => e = .returned (.bool (ft l x)) ∧ Grows W w'
end Go.Proofs.YtfoffneipdkdjaaGreatDoor
namespace Go.Proofs.YtfoffneipdkdjaaGreatDoor
open Go.RowKit

set_option maxRecDepth 100000 in
set_option maxHeartbeats 1600000 in
theorem idxQ_any (g : FuncId) (lb : Array Value) (eg : Enters Tryz.prog g) (p : NamsX → Bool) (A : Option Addr) (m c : Nat) (l : List NamsX) (w : World) (h : Arr w 1 encQ A m l) (hm : m ≤ 9223372036854775807) (hp : PredM Tryz.prog g lb valQ p l w) :
    Calls Tryz.prog 113 #[.slice A m c, .func (.func g) #[] lb] w fun e w' => e = .returned (.int .i64 (placeOf p l)) ∧ Grows w w' := by
  have hlen := h.1
  unfold Enters at eg
  obtain ⟨R, hR⟩ : ∃ R, R = placeOf p l := ⟨_, rfl⟩
  rw [← hR]
  replace hR := Lib.hid hR
  replace hp := Lib.hid hp
  replace h := Lib.hid h
  go_enter Tryz.func113, Tryz.ntmps113
  go_wp2
  go_loopw [5, 8] (fun _ i wr => ∃ k : Nat, k ≤ m ∧ i = .int .i64 k ∧ Hid (∀ j y, j < k → l[j]? = some y → p y = false) ∧ Hid (Grows w wr)) (fun _ i _ => m - (intOf i).toNat)
  case atStart => exact ⟨0, by omega, rfl, fun _ _ h => absurd h (by omega), Grows.refl _⟩
  case round =>
    obtain ⟨k, hk, rfl, hall, hg⟩ := hrel
    by_cases hlt : k < m
    · obtain ⟨b, off, x, rfl, _, hx, hcell⟩ := (h.out.keep hg.out).at_ hlt
      have c0 : wr.cell? ⟨b, off + k, none⟩ = some (.slice x.A x.m x.k) := by simpa using hcell 0 _ rfl
      have hki : (k : Int) < (m : Int) := by omega
      have cI := hp.out x (List.mem_of_getElem? hx) wr hg.out
      unfold valQ at cI
      cases hq : p x with
      | false =>
        rw [hq] at cI
        replace cI := Lib.hid cI
        have hnext := Lib.hid (show ∀ j y, j < k + 1 → l[j]? = some y → p y = false from fun j y hj hy => by
          by_cases hjk : j = k
          · subst hjk; rw [hx] at hy; rw [← Option.some.inj hy]; exact hq
          · exact hall.out j y (by omega) hy)
        clear hcell hq hx hall hR
        go_wp2_with fail
        refine (cI.out).mono ?_
        rintro e w1 ⟨rfl, hb⟩
        have hg1 := Lib.hid (hg.out.trans hb)
        go_wp2
        go_roundw
        case rel => exact ⟨k + 1, by omega, by go_num, hnext, hg1⟩
        case measure => simp [intOf]; omega
      | true =>
        rw [hq] at cI
        have hfin : Hid (R = (k : Int)) := Lib.hid (by rw [hR.out]; exact placeOf_hit hx hq hall.out)
        replace cI := Lib.hid cI
        clear hcell hq hx hall hR
        go_wp2_with fail
        refine (cI.out).mono ?_
        rintro e w1 ⟨rfl, hb⟩
        have hg1 := Lib.hid (hg.out.trans hb)
        go_wp2
        go_ret
        exact ⟨by rw [hfin.out]; rfl, hg1.out⟩
    · obtain rfl : k = m := by omega
      have hfin : Hid (R = -1) := Lib.hid (by rw [hR.out]; exact placeOf_miss fun j y hy => hall.out j y (by have := (List.getElem?_eq_some_iff.1 hy).1; omega) hy)
      clear hall hR
      go_wp2
      go_ret
      exact ⟨by rw [hfin.out]; rfl, hg.out⟩
set_option maxHeartbeats 400000 in
theorem conQ_any (g : FuncId) (lb : Array Value) (eg : Enters Tryz.prog g) (p : NamsX → Bool) (A : Option Addr) (m c : Nat) (l : List NamsX) (w : World) (h : Arr w 1 encQ A m l) (hm : m ≤ 9223372036854775807) (hp : PredM Tryz.prog g lb valQ p l w) :
    Calls Tryz.prog 77 #[.slice A m c, .func (.func g) #[] lb] w fun e w' => e = .returned (.bool (l.any p)) ∧ Grows w w' := by
  have cI := idxQ_any (c := c) g lb eg p A m l w h hm hp
  replace cI := Lib.hid cI
  have hfin := Lib.hid (placeOf_nonneg p l)
  clear h hp
  go_enter Tryz.func77, Tryz.ntmps77
  go_wp2_with fail
  refine cI.out.mono ?_
  rintro e w1 ⟨rfl, hb⟩
  go_wp2
  go_ret
  exact ⟨ret_bool hfin.out, hb⟩
end Go.Proofs.YtfoffneipdkdjaaGreatDoor
