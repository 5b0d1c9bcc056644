/- Parts: RowR RowP RowQ RowS PatT PatV PatF PatG PatH -/
import Derived.Test.YtfoffneipdkdjaaGreatDoorCards
import Derived.Test.YtfoffneipdkdjaaGreatDoorTie
import Derived.ProofKit
import Derived.OpenShut
import Derived.LaidMore
import Derived.Deep.DeepHandedRow
import Derived.Deep.DeepWitnessRowRef
import Derived.Lib.LaidTab
import Derived.Stop.LaidErr
import Derived.Shelf.Vars
import Derived.SevenTiedAt
import Derived.Carry
import Derived.Deep.Slices
import Derived.Deep.Fields
import Derived.Lib.SmallJoins
import Derived.ChangeMaps5
import Derived.Laws.IdiomArrays
import Derived.Lay
import Derived.Test.YtfoffneipdkdjaaGreatDoorBs5
import Derived.Test.YtfoffneipdkdjaaGreatDoorBs3
import Derived.Test.YtfoffneipdkdjaaGreatDoorBs9
import Derived.Test.YtfoffneipdkdjaaGreatDoorBs12
import Derived.Test.YtfoffneipdkdjaaGreatDoorBs11
import Derived.Defers
namespace Go.Proofs.YtfoffneipdkdjaaGreatDoor
open Go.ChangeShapes Go.WideShapes Go.ChangeAt Go.RowKit Go.Deep Go.Joins

theorem own : ownKnob Tryz.prog.godebug = none := by kernel_rfl
def laidR : List (String × DataW Unit) := Rows.routeKeysRow.laid
theorem gPow : Tryz.prog.globalNamed "internal/strconv.uint64pow10" = some 0 := by kernel_rfl
theorem gPowT : (Tryz.prog.globals[0]?).map (·.type) = some 221 := by kernel_rfl
theorem env_ofR {W : World} (hL : laidMetH Tryz.prog laidR W) : LibEnv W := by
  rw [MakeChecks.laidMetH_plain _ _ _ (by kernel_rfl)] at hL
  have h3 := hL.tail.tail
  have hp := Lib.tabIs_of_head (k := .u64) (zs := Lib.pow10Tab) gPow gPowT Tryz.underlying221 Tryz.underlying25 (by kernel_rfl) (by kernel_rfl) h3
  exact ⟨hp, World.block_lt_of_cell? W _ (Lib.TabIs.cell hp gPow 0 (by decide))⟩
theorem lay_met (os : Os) (args : Array Value) : laidMetH Tryz.prog laidR ((World.laidAll Tryz.prog os laidR).forCall (fun _ _ => 0) ⟨#[], args, []⟩).memory := by
  rw [MakeChecks.laidMetH_plain _ _ _ (by kernel_rfl)]
  exact laidMet_laidAll _ (by kernel_rfl) (by kernel_rfl)
theorem lay_shaped (os : Os) (args : Array Value) : ((World.laidAll Tryz.prog os laidR).forCall (fun _ _ => 0) ⟨#[], args, []⟩).variablesRefB Tryz.prog = true := by kernel_rfl

section
variable {H : Type} {enc : TypeId × Value → H} {P : Program}
theorem trodAll_same (hl : laidOutB P = true) {W W' : World} {sp : Nat → Bool} : ∀ {ts : List TypeId} {vs : List Value} {ds : List (DataW H)} {ps : List MemPlace}, (∀ t ∈ ts, P.readableRec t = true ∧ t < P.types.size) →
    DataW.TrodAll enc P W 0 (fun _ => true) true ts vs ds ps → (∀ p ∈ ps, W.sameAt W' p) → (∀ p ∈ ps, sp p.block = true) → DataW.TrodAll enc P W' 0 sp true ts vs ds ps
  | [], _, _, _, _, h, _, _ => by
    obtain ⟨rfl, rfl, rfl⟩ := trodAll_nil h
    exact trodAll_mk0
  | t :: ts, _, _, _, hr, h, h1, h2 => by
    obtain ⟨v, vs1, d, ds1, a, b, rfl, rfl, rfl, h3, h4⟩ := trodAll_cons h
    have ht := hr t (by simp)
    exact trodAll_cons_mk (WideElems.Trod_stays hl ht.1 ht.2 h3 (fun p hp => h1 p (by simp [hp])) (fun p hp => h2 p (by simp [hp])))
      (trodAll_same hl (fun t' ht' => hr t' (by simp [ht'])) h4 (fun p hp => h1 p (by simp [hp])) (fun p hp => h2 p (by simp [hp])))
/-- A law that answers 'true' and turns nothing that was there. -/
theorem post_true {f : Func} {s : ChangeSpec} {apart fresh handsOn again : Bool} {W W' : World} {args : Array Value} {ds : List (DataW H)} {before : List MemPlace} {tb : TypeId} (hl : laidOutB P = true)
    (hP : ∀ t ∈ f.params.toList, P.readableRec t = true ∧ t < P.types.size) (hv : s.vars = []) (hW : DataW.Whole enc P f.params.toList s.vars apart W args.toList ds [] before)
    (hfn : s.fn H ds = { results := [.lit (.bool true)], args := ds }) (hr : f.resultTypes = #[tb]) (hb : P.underlying tb = some .bool) (hg : Grows W W') :
    s.post enc P f apart fresh handsOn again W args (.bool true) W' := by
  have hlt := hW.lt
  have hW0 := hW
  obtain ⟨p, q, hA, hV, e, hz, hn⟩ := hW
  rw [hv] at hV
  obtain ⟨_, rfl⟩ := trodVars_none hV
  obtain rfl : before = p := by rw [e]; simp
  have hsame : ∀ x ∈ before, W.sameAt W' x := fun x hx => hg.below.same (hlt x hx)
  have hargs : ∀ sp : Nat → Bool, (∀ x ∈ before, sp x.block = true) → DataW.TrodAll enc P W' 0 sp true f.params.toList args.toList ds before := fun sp h => trodAll_same hl hP hA hsame h
  have hres : ∀ (b : Nat) (sp : Nat → Bool) (hd : Bool), DataW.TrodAll enc P W' b sp hd f.resultTypes.toList ((Value.bool true).resultList f.resultTypes.size) [.lit (.bool true)] [] := fun b sp hd => by
    rw [hr]; exact trodAll_mk1 (shut_bool hb _)
  have hold : ∀ x ∈ before, (fun b => decide (b < W.heap.size)) x.block = true := fun x hx => by simpa using hlt x hx
  have hfn' : s.fn H (ds ++ []) = { results := [.lit (.bool true)], args := ds } := by rw [List.append_nil]; exact hfn
  refine ⟨ds, [], before, [], before, [], hW0, ?_, ?_, ?_, ?_, fun _ => ⟨ok_one hr rfl (okWide_bool_mk hb _), _, _, ([] ++ before) ++ [], ⟨[] ++ before, [], trodAll_append (hargs _ (fun _ _ => rfl)) (hres _ _ _), by rw [hv]; exact (show DataW.TrodVars enc P W' (fun _ => true) [] ([] : List (DataW H)) [] from rfl), rfl, ?_, ?_⟩, ?_⟩⟩
  · rw [hfn']; exact hres _ _ _
  · rw [hfn']; exact hargs _ hold
  · rw [hfn', hv]; exact hV
  · exact hg.below.frame _
  · intro b off hp
    have hm : MemPlace.cell b off ∈ before := by simpa using hp
    rw [hg.below.frozen (p := ⟨b, off, none⟩) (hlt _ hm)]
    exact hz b off hm
  · intro ha
    simpa using hn ha
  · intro x hx _
    simpa using hx
theorem open_str {t : TypeId} {W : World} {base : Nat} {v : Value} {d : DataW H} {p : List MemPlace} (ht : P.underlying t = some .string)
    (hv : Value.okWide P W .any base t v) (h : DataW.Trod enc P W 0 (fun _ => true) true t v d p) : ∃ l : List UInt8, v = .string ⟨l.toArray⟩ ∧ l.length ≤ maxLen := by
  obtain ⟨s, rfl, _, _, hm⟩ := Go.ChangeMaps.open_string ht hv h
  exact ⟨s.data.toList, by simp, by rw [Array.length_toList]; exact hm⟩
end
end Go.Proofs.YtfoffneipdkdjaaGreatDoor
namespace Go.Proofs.YtfoffneipdkdjaaGreatDoor
open Go.ChangeShapes Go.WideShapes Go.ChangeAt Go.RowKit Go.Deep Go.Joins

section
variable {H : Type} {enc : TypeId × Value → H} {W : World}
/-- Cells that read as data of type t are what 'e' says of some y of which Q holds. -/
def OpensC (enc : TypeId × Value → H) (W : World) (t : TypeId) {α : Type} (e : α → List Value) (Q : α → Prop) : Prop :=
  ∀ (fuel : Nat) (cs : List Value) (x : DataW H × List MemPlace), DataW.trod enc Tryz.prog W 0 (fun _ => true) true fuel t cs = some x → ∃ y, cs = e y ∧ Q y
theorem opens_str {t : TypeId} (ht : Tryz.prog.underlying t = some .string) : OpensC enc W t (fun (l : List UInt8) => [.string ⟨l.toArray⟩]) (fun l => l.length ≤ maxLen) := by
  intro fuel cs x h
  obtain ⟨n0, e0, _, m0⟩ := DataW.trod_string ht h
  exact ⟨n0.data.toList, by rw [e0], by show n0.data.toList.length ≤ maxLen; rw [Array.length_toList]; exact m0⟩
theorem opens_int {t : TypeId} (ht : Tryz.prog.underlying t = some (.int .i64)) : OpensC enc W t (fun (n : Int) => [.int .i64 n]) (fun n => -9223372036854775808 ≤ n ∧ n ≤ 9223372036854775807) := by
  intro fuel cs x h
  obtain ⟨n0, e0, _, w1⟩ := DataW.trod_int ht h
  refine ⟨n0, e0, ?_⟩
  have e1 : IntKind.min .i64 = -9223372036854775808 := by decide
  have e2 : IntKind.max .i64 = 9223372036854775807 := by decide
  simp [Lit.wf, e1, e2] at w1
  exact w1
theorem opens_u32 {t : TypeId} (ht : Tryz.prog.underlying t = some (.int .u32)) : OpensC enc W t (fun (n : Nat) => [.int .u32 (n : Int)]) (fun n => n < 4294967296) := by
  intro fuel cs x h
  obtain ⟨n0, e0, _, w1⟩ := DataW.trod_int ht h
  have e1 : IntKind.min .u32 = 0 := by decide
  have e2 : IntKind.max .u32 = 4294967295 := by decide
  simp [Lit.wf, e1, e2] at w1
  refine ⟨n0.toNat, ?_, by omega⟩
  show cs = [.int .u32 ((n0.toNat : Nat) : Int)]
  rw [e0, show ((n0.toNat : Nat) : Int) = n0 by omega]
/-- A slice, where it lies. -/
structure SlX (α : Type) where
  l : List α
  A : Option Addr
  m : Nat
  k : Nat
theorem opens_slice {α : Type} [Inhabited α] {t e : TypeId} {k : Nat} {ec : α → List Value} {Q : α → Prop} (ht : Tryz.prog.underlying t = some (.slice e)) (hC : Tryz.prog.cellsOf e = k) (hk : ∀ x, (ec x).length = k) (hk0 : 0 < k) (he : OpensC enc W e ec Q) :
    OpensC enc W t (fun (y : SlX α) => [.slice y.A y.m y.k]) (fun y => y.m ≤ y.k ∧ y.k ≤ maxLen ∧ Arr W k ec y.A y.m y.l ∧ ∀ x ∈ y.l, Q x) := by
  intro fuel cs x h
  rcases Deep.open_slice ht h with ⟨rfl, _⟩ | ⟨a, len, cap, mm, n, D, Pl, rfl, _, hl, hm, hmm, _, hel⟩
  · exact ⟨⟨[], none, 0, 0⟩, rfl, Nat.le_refl _, Nat.zero_le _, Arr.nil_, by simp⟩
  · simp only [if_true] at hmm
    have hw : ∀ i, i < len → ∃ x : α, Q x ∧ ∀ j u, (ec x)[j]? = some u → W.cell? (a.add (i * k + j)) = some u := fun i hi => by
      obtain ⟨cs, hc, hd⟩ := hel i (by omega)
      rw [hC] at hc
      obtain ⟨y, rfl, hQ⟩ := he _ _ _ hd
      obtain ⟨_, hl3, hat⟩ := World.cells?_some hc
      refine ⟨y, hQ, fun j u hu => ?_⟩
      have hj : j < k := by rw [← hk y]; exact (List.getElem?_eq_some_iff.1 hu).1
      have := hat j hj
      rw [← Go.Deep.add_add, this]
      exact hu
    obtain ⟨X, hX⟩ := choose_lt (α := α) (p := fun i x => Q x ∧ ∀ j u, (ec x)[j]? = some u → W.cell? (a.add (i * k + j)) = some u) hw
    refine ⟨⟨(List.range len).map X, some a, len, cap⟩, rfl, hl, hm, ⟨by simp, fun hpos => ?_⟩, fun x hx => ?_⟩
    · obtain ⟨u0, hu0⟩ : ∃ u, (ec (X 0))[0]? = some u := ⟨_, List.getElem?_eq_getElem (by rw [hk]; exact hk0)⟩
      have hc0 := (hX 0 hpos).2 0 _ hu0
      obtain ⟨b, off, spot⟩ := a
      have hs := World.cell?_spot hc0
      have hsp : spot = none := by simpa [Addr.add] using hs
      subst hsp
      refine ⟨b, off, rfl, ?_, fun i hi j u hu => ?_⟩
      · have := World.block_lt_of_cell? W _ hc0
        simpa [Addr.add] using this
      · have hi' : i < len := by simpa using hi
        have := (hX i hi').2 j u (by simpa using hu)
        have e : ∀ k, (⟨b, off, none⟩ : Addr).add k = ⟨b, off + k, none⟩ := fun k => by unfold Addr.add; by_cases h : k = 0 <;> simp [h]
        rw [e, ← Nat.add_assoc] at this
        exact this
    · obtain ⟨i, hi, rfl⟩ := List.mem_map.1 hx
      exact (hX i (List.mem_range.1 hi)).1
/-- A struct's field. -/
theorem opens_field {t : TypeId} {fs : Array Field} {α : Type} {ec : α → List Value} {Q : α → Prop} {cs : List Value} {x : DataW H × List MemPlace} {fuel : Nat} (ht : Tryz.prog.underlying t = some (.struct fs)) (h : DataW.trod enc Tryz.prog W 0 (fun _ => true) true fuel t cs = some x)
    (i : Nat) {f : Field} (hf : fs[i]? = some f) (o k : Nat) (ho : f.offset = o) (hk : Tryz.prog.cellsOf f.type = k) (he : OpensC enc W f.type ec Q) : ∃ y, (cs.drop o).take k = ec y ∧ Q y := by
  subst ho hk
  obtain ⟨xs, n, _, _, _, hlen, hg⟩ := DataW.trod_struct ht h
  have hi : i < fs.size := (Array.getElem?_eq_some_iff.1 hf).1
  have := hg i f hf
  rw [List.getElem?_eq_getElem (by omega)] at this
  exact he _ _ _ this
theorem struct_len {t : TypeId} {fs : Array Field} {cs : List Value} {x : DataW H × List MemPlace} {fuel : Nat} (ht : Tryz.prog.underlying t = some (.struct fs)) (h : DataW.trod enc Tryz.prog W 0 (fun _ => true) true fuel t cs = some x) : cs.length = Tryz.prog.cellsOf t := by
  obtain ⟨xs, n, _, _, hl, _, _⟩ := DataW.trod_struct ht h
  exact hl
def encLab (x : Lab) : List Value := [.int .i64 x.lv, .int .u32 (x.c : Int)]
theorem opens_lab : OpensC enc W 40 encLab Lab.ok := by
  intro fuel cs x h
  have hl := struct_len Tryz.underlying40 h
  rw [show Tryz.prog.cellsOf 40 = 2 by kernel_rfl] at hl
  obtain ⟨y0, h0, _⟩ := opens_field Tryz.underlying40 h 0 rfl 0 1 rfl (by kernel_rfl) (opens_int (by kernel_rfl))
  obtain ⟨y1, h1, q1⟩ := opens_field Tryz.underlying40 h 1 rfl 1 1 rfl (by kernel_rfl) (opens_u32 (by kernel_rfl))
  match cs, hl with
  | [c0, c1], _ =>
    simp at h0 h1
    subst h0 h1
    exact ⟨⟨y0, y1⟩, rfl, q1⟩
theorem opens_nam : OpensC enc W 42 encN (fun y => y.n.length ≤ maxLen ∧ y.l.ok) := by
  intro fuel cs x h
  have hl := struct_len Tryz.underlying42 h
  rw [show Tryz.prog.cellsOf 42 = 3 by kernel_rfl] at hl
  obtain ⟨y0, h0, q0⟩ := opens_field Tryz.underlying42 h 0 rfl 0 1 rfl (by kernel_rfl) (opens_str (by kernel_rfl))
  obtain ⟨y1, h1, q1⟩ := opens_field Tryz.underlying42 h 1 rfl 1 2 rfl (by kernel_rfl) opens_lab
  match cs, hl with
  | [c0, c1, c2], _ =>
    simp [encLab] at h0 h1
    obtain ⟨rfl, rfl⟩ := h1
    subst h0
    exact ⟨⟨y0, y1⟩, rfl, q0, q1⟩
theorem opens_mat : OpensC enc W 147 encM (fun y => y.n.length ≤ maxLen ∧ y.v.length ≤ maxLen) := by
  intro fuel cs x h
  have hl := struct_len Tryz.underlying147 h
  rw [show Tryz.prog.cellsOf 147 = 3 by kernel_rfl] at hl
  obtain ⟨y0, h0, q0⟩ := opens_field Tryz.underlying147 h 0 rfl 0 1 rfl (by kernel_rfl) (opens_str (by kernel_rfl))
  obtain ⟨y1, h1, _⟩ := opens_field Tryz.underlying147 h 1 rfl 1 1 rfl (by kernel_rfl) (opens_int (by kernel_rfl))
  obtain ⟨y2, h2, q2⟩ := opens_field Tryz.underlying147 h 2 rfl 2 1 rfl (by kernel_rfl) (opens_str (by kernel_rfl))
  match cs, hl with
  | [c0, c1, c2], _ =>
    simp at h0 h1 h2
    subst h0 h1 h2
    exact ⟨⟨y0, y1, y2⟩, rfl, q0, q2⟩
theorem opens_fld : OpensC enc W 76 encF (fun y => y.n.length ≤ maxLen ∧ y.v.length ≤ maxLen) := by
  intro fuel cs x h
  have hl := struct_len Tryz.underlying76 h
  rw [show Tryz.prog.cellsOf 76 = 2 by kernel_rfl] at hl
  obtain ⟨y0, h0, q0⟩ := opens_field Tryz.underlying76 h 0 rfl 0 1 rfl (by kernel_rfl) (opens_str (by kernel_rfl))
  obtain ⟨y1, h1, q1⟩ := opens_field Tryz.underlying76 h 1 rfl 1 1 rfl (by kernel_rfl) (opens_str (by kernel_rfl))
  match cs, hl with
  | [c0, c1], _ =>
    simp at h0 h1
    subst h0 h1
    exact ⟨⟨y0, y1⟩, rfl, q0, q1⟩
def QSl {α : Type} (W : World) (k : Nat) (ec : α → List Value) (Q : α → Prop) (y : SlX α) : Prop := y.m ≤ y.k ∧ y.k ≤ maxLen ∧ Arr W k ec y.A y.m y.l ∧ ∀ x ∈ y.l, Q x
instance : Inhabited Nam := ⟨⟨[], ⟨0, 0⟩⟩⟩
instance : Inhabited Mat := ⟨⟨[], 0, []⟩⟩
instance : Inhabited Fld := ⟨⟨[], []⟩⟩
theorem opens_strs : OpensC enc W 56 (fun (y : SlX (List UInt8)) => [.slice y.A y.m y.k]) (QSl W 1 encS (fun l => l.length ≤ maxLen)) :=
  opens_slice Tryz.underlying56 (by kernel_rfl) (fun _ => rfl) (by omega) (opens_str Tryz.underlying9)
theorem opens_nams : OpensC enc W 28 (fun (y : SlX Nam) => [.slice y.A y.m y.k]) (QSl W 3 encN (fun y => y.n.length ≤ maxLen ∧ y.l.ok)) :=
  opens_slice Tryz.underlying28 (by kernel_rfl) (fun _ => rfl) (by omega) opens_nam
theorem opens_mats : OpensC enc W 57 (fun (y : SlX Mat) => [.slice y.A y.m y.k]) (QSl W 3 encM (fun y => y.n.length ≤ maxLen ∧ y.v.length ≤ maxLen)) :=
  opens_slice Tryz.underlying57 (by kernel_rfl) (fun _ => rfl) (by omega) opens_mat
theorem opens_flds : OpensC enc W 22 (fun (y : SlX Fld) => [.slice y.A y.m y.k]) (QSl W 2 encF (fun y => y.n.length ≤ maxLen ∧ y.v.length ≤ maxLen)) :=
  opens_slice Tryz.underlying22 (by kernel_rfl) (fun _ => rfl) (by omega) opens_fld
end
end Go.Proofs.YtfoffneipdkdjaaGreatDoor
namespace Go.Proofs.YtfoffneipdkdjaaGreatDoor
open Go.ChangeShapes Go.WideShapes Go.ChangeAt Go.RowKit Go.Deep Go.Joins

section
variable {H : Type} {enc : TypeId × Value → H} {W : World}
instance : Inhabited RteX := ⟨⟨⟨[], [], 0, 0, 0, []⟩, none, 0, 0, none, 0, 0⟩⟩
instance : Inhabited InhX := ⟨⟨⟨[], ⟨0, 0⟩, [], []⟩, none, 0, 0, none, 0, 0, none, 0, 0⟩⟩
instance : Inhabited AlrX := ⟨⟨⟨[], [], ⟨0, 0⟩, 0, 0⟩, none, 0, 0⟩⟩
theorem opens_rte : OpensC enc W 59 encR (fun y => y.At W) := by
  intro fuel cs x h
  have hl := struct_len Tryz.underlying59 h
  rw [show Tryz.prog.cellsOf 59 = 6 by kernel_rfl] at hl
  obtain ⟨y0, h0, q0⟩ := opens_field Tryz.underlying59 h 0 rfl 0 1 rfl (by kernel_rfl) (opens_str (by kernel_rfl))
  obtain ⟨y1, h1, q1⟩ := opens_field Tryz.underlying59 h 1 rfl 1 1 rfl (by kernel_rfl) opens_strs
  obtain ⟨y2, h2, _⟩ := opens_field Tryz.underlying59 h 2 rfl 2 1 rfl (by kernel_rfl) (opens_int (by kernel_rfl))
  obtain ⟨y3, h3, _⟩ := opens_field Tryz.underlying59 h 3 rfl 3 1 rfl (by kernel_rfl) (opens_int (by kernel_rfl))
  obtain ⟨y4, h4, _⟩ := opens_field Tryz.underlying59 h 4 rfl 4 1 rfl (by kernel_rfl) (opens_int (by kernel_rfl))
  obtain ⟨y5, h5, q5⟩ := opens_field Tryz.underlying59 h 5 rfl 5 1 rfl (by kernel_rfl) opens_mats
  match cs, hl with
  | [c0, c1, c2, c3, c4, c5], _ =>
    simp at h0 h1 h2 h3 h4 h5
    subst h0 h1 h2 h3 h4 h5
    obtain ⟨a1, a2, a3, a4⟩ := q1
    obtain ⟨b1, b2, b3, b4⟩ := q5
    unfold maxLen at *
    exact ⟨⟨⟨y0, y1.l, y2, y3, y4, y5.l⟩, y1.A, y1.m, y1.k, y5.A, y5.m, y5.k⟩, rfl, a3, by simp only; omega, fun y hy => by have := a4 y hy; omega, b3, by simp only; omega⟩
theorem opens_inh : OpensC enc W 129 encH (fun y => y.At W) := by
  intro fuel cs x h
  have hl := struct_len Tryz.underlying129 h
  rw [show Tryz.prog.cellsOf 129 = 5 by kernel_rfl] at hl
  obtain ⟨y0, h0, q0⟩ := opens_field Tryz.underlying129 h 0 rfl 0 1 rfl (by kernel_rfl) opens_strs
  obtain ⟨y1, h1, q1⟩ := opens_field Tryz.underlying129 h 1 rfl 1 2 rfl (by kernel_rfl) opens_lab
  obtain ⟨y2, h2, q2⟩ := opens_field Tryz.underlying129 h 2 rfl 3 1 rfl (by kernel_rfl) opens_mats
  obtain ⟨y3, h3, q3⟩ := opens_field Tryz.underlying129 h 3 rfl 4 1 rfl (by kernel_rfl) opens_mats
  match cs, hl with
  | [c0, c1, c2, c3, c4], _ =>
    simp [encLab] at h0 h1 h2 h3
    obtain ⟨rfl, rfl⟩ := h1
    subst h0 h2 h3
    obtain ⟨a1, a2, a3, a4⟩ := q0
    obtain ⟨b1, b2, b3, b4⟩ := q2
    obtain ⟨d1, d2, d3, d4⟩ := q3
    unfold maxLen at *
    exact ⟨⟨⟨y0.l, y1, y2.l, y3.l⟩, y0.A, y0.m, y0.k, y2.A, y2.m, y2.k, y3.A, y3.m, y3.k⟩, rfl, a3, by simp only; omega, fun y hy => by have := a4 y hy; omega, b3, by simp only; omega, d3, by simp only; omega, q1⟩
theorem opens_rtes : OpensC enc W 29 (fun (y : SlX RteX) => [.slice y.A y.m y.k]) (QSl W 6 encR (fun y => y.At W)) :=
  opens_slice Tryz.underlying29 (by kernel_rfl) (fun _ => rfl) (by omega) opens_rte
theorem opens_inhs : OpensC enc W 30 (fun (y : SlX InhX) => [.slice y.A y.m y.k]) (QSl W 5 encH (fun y => y.At W)) :=
  opens_slice Tryz.underlying30 (by kernel_rfl) (fun _ => rfl) (by omega) opens_inh
theorem nams_at {y : SlX Nam} (q : QSl W 3 encN (fun y => y.n.length ≤ maxLen ∧ y.l.ok) y) : NamsX.At ⟨y.l, y.A, y.m, y.k⟩ W := by
  obtain ⟨a1, a2, a3, a4⟩ := q
  unfold maxLen at *
  exact ⟨a3, by simp only; omega, fun y hy => (a4 y hy).2, fun y hy => (a4 y hy).1⟩
theorem opens_pol : OpensC enc W 32 PolX.cells (fun y => y.At W ∧ y.Caps) := by
  intro fuel cs x h
  have hl := struct_len Tryz.underlying32 h
  rw [show Tryz.prog.cellsOf 32 = 6 by kernel_rfl] at hl
  obtain ⟨y0, h0, q0⟩ := opens_field Tryz.underlying32 h 0 rfl 0 1 rfl (by kernel_rfl) opens_nams
  obtain ⟨y1, h1, q1⟩ := opens_field Tryz.underlying32 h 1 rfl 1 1 rfl (by kernel_rfl) opens_nams
  obtain ⟨y2, h2, q2⟩ := opens_field Tryz.underlying32 h 2 rfl 2 1 rfl (by kernel_rfl) opens_nams
  obtain ⟨y3, h3, q3⟩ := opens_field Tryz.underlying32 h 3 rfl 3 1 rfl (by kernel_rfl) opens_nams
  obtain ⟨y4, h4, q4⟩ := opens_field Tryz.underlying32 h 4 rfl 4 1 rfl (by kernel_rfl) opens_rtes
  obtain ⟨y5, h5, q5⟩ := opens_field Tryz.underlying32 h 5 rfl 5 1 rfl (by kernel_rfl) opens_inhs
  match cs, hl with
  | [c0, c1, c2, c3, c4, c5], _ =>
    simp at h0 h1 h2 h3 h4 h5
    subst h0 h1 h2 h3 h4 h5
    have n0 := nams_at q0
    have n1 := nams_at q1
    have n2 := nams_at q2
    have n3 := nams_at q3
    obtain ⟨a1, a2, _⟩ := q0
    obtain ⟨b1, b2, _⟩ := q1
    obtain ⟨d1, d2, _⟩ := q2
    obtain ⟨e1, e2, _⟩ := q3
    obtain ⟨f1, f2, f3, f4⟩ := q4
    obtain ⟨g1, g2, g3, g4⟩ := q5
    unfold maxLen at *
    refine ⟨⟨⟨y0.l, y0.A, y0.m, y0.k⟩, ⟨y1.l, y1.A, y1.m, y1.k⟩, ⟨y2.l, y2.A, y2.m, y2.k⟩, ⟨y3.l, y3.A, y3.m, y3.k⟩, y4.l, y4.A, y4.m, y4.k, y5.l, y5.A, y5.m, y5.k⟩, rfl, ⟨n0, n1, n2, n3, f3, by simp only; omega, f4, g3, by simp only; omega, g4⟩, ⟨a1, b1, d1, e1, f1, g1, by simp only; omega, by simp only; omega, by simp only; omega, by simp only; omega, by simp only; omega, by simp only; omega⟩⟩
/-- An alert of the reference's. -/
def QAl (W : World) (y : AlrX) : Prop := y.m ≤ y.k ∧ y.k ≤ maxLen ∧ Arr W 2 encF y.A y.m y.a.fs ∧ y.a.l.ok
/-- An argument that is one cell. -/
theorem open_one {α : Type} {t : TypeId} {e : α → Value} {Q : α → Prop} {v : Value} {d : DataW H} {p : List MemPlace} (he : OpensC enc W t (fun y => [e y]) Q) (hv : v.cells = #[v]) (h : DataW.Trod enc Tryz.prog W 0 (fun _ => true) true t v d p) : ∃ y, v = e y ∧ Q y := by
  obtain ⟨fuel, hf⟩ := h
  obtain ⟨y, hy, q⟩ := he _ _ _ hf
  rw [hv] at hy
  simp at hy
  exact ⟨y, hy, q⟩
set_option maxRecDepth 100000 in
/-- An argument that is a struct. -/
theorem open_agg {α : Type} {t : TypeId} {fs : Array Field} {e : α → List Value} {Q : α → Prop} {v : Value} {d : DataW H} {p : List MemPlace} {base : Nat} (ht : Tryz.prog.underlying t = some (.struct fs)) (he : OpensC enc W t e Q) (hv : Value.okWide Tryz.prog W .any base t v) (h : DataW.Trod enc Tryz.prog W 0 (fun _ => true) true t v d p) : ∃ y, v = .agg (e y).toArray ∧ Q y := by
  obtain ⟨cs, rfl, _⟩ := okWide_struct ht hv
  obtain ⟨fuel, hf⟩ := h
  obtain ⟨y, hy, q⟩ := he _ _ _ hf
  refine ⟨y, ?_, q⟩
  rw [← hy]
  simp [Value.cells]
set_option maxRecDepth 100000 in
/-- An array of two numbers. -/
theorem opens_two {t e : TypeId} (ht : Tryz.prog.underlying t = some (.array 2 e)) (he : Tryz.prog.underlying e = some (.int .i64)) (hC : Tryz.prog.cellsOf e = 1) (hT : Tryz.prog.cellsOf t = 2) : OpensC enc W t (fun (y : Int × Int) => [.int .i64 y.1, .int .i64 y.2]) (fun _ => True) := by
  intro fuel cs x h
  obtain ⟨xs, m, _, _, hl, hlen, hg⟩ := DataW.trod_array ht h
  have g0 := hg 0 (by omega)
  have g1 := hg 1 (by omega)
  rw [hC] at g0 g1
  rw [List.getElem?_eq_getElem (by omega)] at g0 g1
  obtain ⟨n0, e0, _, _⟩ := DataW.trod_int he g0
  obtain ⟨n1, e1, _, _⟩ := DataW.trod_int he g1
  rw [hT] at hl
  match cs, hl with
  | [c0, c1], _ =>
    simp at e0 e1
    subst e0 e1
    exact ⟨(n0, n1), rfl, trivial⟩
end
end Go.Proofs.YtfoffneipdkdjaaGreatDoor
namespace Go.Proofs.YtfoffneipdkdjaaGreatDoor
open Go.ChangeShapes Go.WideShapes Go.ChangeAt Go.RowKit Go.Deep Go.Joins

section
variable {H : Type} {enc : TypeId × Value → H} {W : World}
set_option maxRecDepth 100000 in
theorem open_two2 {t e : TypeId} {v : Value} {d : DataW H} {p : List MemPlace} {base : Nat} (ht : Tryz.prog.underlying t = some (.array 2 e)) (he : Tryz.prog.underlying e = some (.int .i64)) (hC : Tryz.prog.cellsOf e = 1) (hT : Tryz.prog.cellsOf t = 2)
    (hv : Value.okWide Tryz.prog W .any base t v) (h : DataW.Trod enc Tryz.prog W 0 (fun _ => true) true t v d p) : ∃ a b : Int, v = .agg #[.int .i64 a, .int .i64 b] := by
  obtain ⟨cs, rfl⟩ : ∃ cs, v = .agg cs := by
    simp only [Value.okWide, ht] at hv
    obtain ⟨cs, h1, _⟩ := hv
    exact ⟨cs, h1⟩
  obtain ⟨fuel, hf⟩ := h
  obtain ⟨y, hy, _⟩ := opens_two (enc := enc) (W := W) ht he hC hT _ _ _ hf
  refine ⟨y.1, y.2, ?_⟩
  have h2 : (Value.agg cs).cells.toList = [Value.int .i64 y.1, .int .i64 y.2] := hy
  simp only [Value.cells] at h2
  rw [← Array.toArray_toList (xs := cs), h2]
end
end Go.Proofs.YtfoffneipdkdjaaGreatDoor
namespace Go.Proofs.YtfoffneipdkdjaaGreatDoor

def VPs (l : List PSt) : Prop := ∀ y ∈ l, (∀ j ∈ y.free, j < l.length) ∧ y.next < l.length
theorem VPs.node {l : List PSt} (h : VPs l) : VPs (l ++ [emptySt]) := by
  intro y hy
  rw [List.length_append]
  rcases List.mem_append.1 hy with h1 | h1
  · exact ⟨fun j hj => Nat.lt_of_lt_of_le ((h y h1).1 j hj) (by simp), Nat.lt_of_lt_of_le (h y h1).2 (by simp)⟩
  · rw [List.mem_singleton] at h1
    subst h1
    exact ⟨fun j hj => by simp [emptySt] at hj, by simp [emptySt]⟩
theorem VPs.mod {l : List PSt} {i : Nat} {f : PSt → PSt} (h : VPs l) (hf : ∀ y ∈ l, (∀ j ∈ (f y).free, j < l.length) ∧ (f y).next < l.length) : VPs (l.modify i f) := by
  intro y hy
  rw [List.length_modify]
  obtain ⟨k, hk, rfl⟩ := List.mem_iff_getElem.1 hy
  rw [List.getElem_modify]
  rw [List.length_modify] at hk
  split
  · exact hf _ (List.getElem_mem hk)
  · exact h _ (List.getElem_mem hk)
theorem nodeP_VP {b : PB} (h : VPs b.sts) : VPs (nodeP b).sts := h.node
theorem freeP_VP {b : PB} {i j : Nat} (h : VPs b.sts) (hj : j < b.sts.length) : VPs (freeP i j b).sts :=
  VPs.mod h fun y hy => ⟨fun k hk => by
    rcases List.mem_append.1 hk with h1 | h1
    · exact (h y hy).1 k h1
    · rw [List.mem_singleton] at h1; subst h1; exact hj, (h y hy).2⟩
theorem oneP_VP {ws : List Nat} {b : PB} (h : VPs b.sts) : VPs (oneP ws b).1.sts := by
  have h2 : VPs (nodeP (nodeP b)).sts := nodeP_VP (nodeP_VP h)
  refine VPs.mod h2 fun y hy => ⟨(h2 y hy).1, ?_⟩
  show b.sts.length + 1 < _
  rw [nodeP_len, nodeP_len]
  omega
def SubV (s : List UInt8) (sub : Option (PB → PB × PPt)) : Prop := ∀ f, sub = some f → ∀ b, b.at_ ≤ s.length → VPs b.sts → VPs (f b).1.sts
theorem atomP_VP {s : List UInt8} {sub : Option (PB → PB × PPt)} {c : UInt8} {b : PB} (hs : SubV s sub) (hb : b.at_ < s.length) (h : VPs b.sts) : VPs (atomP s sub c b).1.sts := by
  have hal : (advP b).at_ ≤ s.length := by simp [advP]; omega
  have ha : VPs (advP b).sts := h
  unfold atomP
  split
  · split
    · exact oneP_VP (by rw [failP_sts]; exact ha)
    · rename_i f
      have h1 := hs f rfl (advP b) hal ha
      simp only
      split
      · exact h1
      · show VPs (failP 2 (f (advP b)).1).sts
        rw [failP_sts]; exact h1
  · split
    · refine oneP_VP ?_
      rw [(classP_ok (s := s) (b := advP b) (WP.of_le hal)).2.2]
      exact ha
    · split
      · exact oneP_VP ha
      · split
        · split
          · refine oneP_VP ?_
            show VPs (failP 2 (advP b)).sts
            rw [failP_sts]; exact ha
          · exact oneP_VP ha
        · split
          · exact oneP_VP (by rw [failP_sts]; exact ha)
          · exact oneP_VP ha
theorem timesP_VP {s : List UInt8} {b : PB} {x : PPt} (hx : InP x b) (h : VPs b.sts) : VPs (timesP s b x).1.sts := by
  unfold timesP
  split
  · exact h
  · rename_i c hc
    split
    · have hl : (nodeP (nodeP (advP b))).sts.length = b.sts.length + 2 := by simp [nodeP, advP]
      have h0 : VPs (nodeP (nodeP (advP b))).sts := nodeP_VP (nodeP_VP h)
      have hx1 := hx.1
      have h1 : VPs (freeP b.sts.length x.1 (nodeP (nodeP (advP b)))).sts := freeP_VP h0 (by omega)
      have h2 : VPs (freeP x.2 (b.sts.length + 1) (freeP b.sts.length x.1 (nodeP (nodeP (advP b))))).sts := freeP_VP h1 (by rw [freeP_len]; omega)
      have hp : ∀ (p : Prop) [Decidable p] (i j : Nat) (z : PB), VPs z.sts → j < z.sts.length → VPs (if p then z else freeP i j z).sts ∧ (if p then z else freeP i j z).sts.length = z.sts.length := by
        intro p _ i j z hz hj
        split
        · exact ⟨hz, rfl⟩
        · exact ⟨freeP_VP hz hj, freeP_len _ _ _⟩
      have h3 := hp (c = 43) b.sts.length (b.sts.length + 1) _ h2 (by rw [freeP_len, freeP_len]; omega)
      have h4 := hp (c = 63) x.2 x.1 _ h3.1 (by rw [h3.2, freeP_len, freeP_len]; omega)
      exact h4.1
    · exact h
theorem rowL_VP {s : List UInt8} {k : Nat} {sub : Option (PB → PB × PPt)} (hv : SubV s sub) (hs : SubP s k sub) (hk : 2 ≤ k) : ∀ (f : Nat) (p : PPt) (b : PB), WP s (k + 1) b → InP p b → VPs b.sts → VPs (rowL s sub f p b).1.sts := by
  intro f
  induction f with
  | zero => intro p b _ _ h; exact h
  | succ f ih =>
    intro p b hW hI h
    rw [rowL]
    split
    · exact h
    · rename_i c hc
      split
      · exact h
      · have h1 := atomP_ok (c := c) hs hk (pk_some hc).2.1
        have h2 := timesP_ok h1.2.1 h1.2.2
        have v1 := atomP_VP (c := c) hv (pk_some hc).2.1 h
        have v2 := timesP_VP (s := s) h1.2.2 v1
        have v3 : VPs (freeP p.2 (timesP s (atomP s sub c b).1 (atomP s sub c b).2).2.1 (timesP s (atomP s sub c b).1 (atomP s sub c b).2).1).sts := freeP_VP v2 h2.2.2.1
        exact ih (p.1, (timesP s (atomP s sub c b).1 (atomP s sub c b).2).2.2) _ h2.2.1
          ⟨by rw [freeP_len]; exact Nat.lt_of_lt_of_le hI.1 (Nat.le_trans h1.1.len h2.1.len), by rw [freeP_len]; exact h2.2.2.2⟩ v3
theorem rowP_VP {s : List UInt8} {k : Nat} {sub : Option (PB → PB × PPt)} (hv : SubV s sub) (hs : SubP s k sub) (hk : 2 ≤ k) {b : PB} (hW : WP s (k + 1) b) (h : VPs b.sts) : VPs (rowP s sub b).1.sts :=
  rowL_VP hv hs hk _ _ (nodeP b) hW ⟨by rw [nodeP_len]; simp, by rw [nodeP_len]; simp⟩ (nodeP_VP h)
theorem eitherL_VP {s : List UInt8} {k : Nat} {sub : Option (PB → PB × PPt)} (hv : SubV s sub) (hs : SubP s k sub) (hk : 2 ≤ k) : ∀ (f : Nat) (p : PPt) (b : PB), WP s (k + 1) b → InP p b → VPs b.sts → VPs (eitherL s sub f p b).1.sts := by
  intro f
  induction f with
  | zero => intro p b _ _ h; exact h
  | succ f ih =>
    intro p b hW hI h
    rw [eitherL]
    have h1 := rowP_ok hs hk hW
    have v1 := rowP_VP hv hs hk hW h
    have v2 : VPs (freeP p.1 (rowP s sub b).2.1 (rowP s sub b).1).sts := freeP_VP v1 h1.2.2.1
    have v3 : VPs (freeP (rowP s sub b).2.2 p.2 (freeP p.1 (rowP s sub b).2.1 (rowP s sub b).1)).sts := freeP_VP v2 (by rw [freeP_len]; exact Nat.lt_of_lt_of_le hI.2 h1.1.len)
    have hI2 : InP p (freeP (rowP s sub b).2.2 p.2 (freeP p.1 (rowP s sub b).2.1 (rowP s sub b).1)) := hI.mono (by rw [freeP_len, freeP_len]; exact h1.1.len)
    split
    · rename_i hp
      exact ih p (advP (freeP (rowP s sub b).2.2 p.2 (freeP p.1 (rowP s sub b).2.1 (rowP s sub b).1))) (WP.of_le (by have := (pk_some hp).2.1; simp [advP, freeP] at this ⊢; omega)) hI2 v3
    · exact v3
theorem eitherP_VP (s : List UInt8) : ∀ (d : Nat) (b : PB), b.at_ ≤ s.length → VPs b.sts → VPs (eitherP s d b).1.sts := by
  have hst : ∀ (sub : Option (PB → PB × PPt)) (k : Nat) (b : PB), SubV s sub → SubP s k sub → 2 ≤ k → b.at_ ≤ s.length → VPs b.sts → VPs (eitherL s sub (s.length + 1) (b.sts.length, b.sts.length + 1) (nodeP (nodeP b))).1.sts := by
    intro sub k b hv hs hk hb h
    exact eitherL_VP hv hs hk (s.length + 1) (b.sts.length, b.sts.length + 1) (nodeP (nodeP b)) (WP.of_le hb) ⟨by simp only [nodeP_len]; omega, by simp only [nodeP_len]; omega⟩ (nodeP_VP (nodeP_VP h))
  intro d
  induction d with
  | zero => intro b hb h; exact hst none 2 b (fun f hf => by cases hf) (fun f hf => by cases hf) (by omega) hb h
  | succ d ih =>
    intro b hb h
    refine hst (some (eitherP s d)) (3 + d) b (fun f hf b hb h => by injection hf with hf; subst hf; exact ih b hb h) (fun f hf b hb => by injection hf with hf; subst hf; exact eitherP_ok s d b hb) (by omega) hb h
/-- A pattern that was read: its states, its ends. -/
structure PatOK (p : PPat) : Prop where
  vp : VPs p.sts
  start : p.start < p.sts.length
  stop : p.stop < p.sts.length
  len : p.sts.length ≤ 10000
  fr : frees p.sts ≤ 10000
theorem patOf_ok {s : List UInt8} {p : PPat} (h : patOf s = some p) : PatOK p := by
  unfold patOf at h
  split at h
  · cases h
  · rename_i hn
    injection h with h
    have hsl : s.length ≤ 100 := by
      have : ¬ 100 < s.length := fun hh => hn (.inl hh)
      omega
    have h1 := eitherP_ok s 8 ⟨0, 0, []⟩ (Nat.zero_le _)
    have h2 := eitherP_VP s 8 ⟨0, 0, []⟩ (Nat.zero_le _) (fun y hy => by simp at hy)
    have h3 : (readB s).1.sts = (eitherP s 8 ⟨0, 0, []⟩).1.sts := by
      unfold readB
      simp only
      split
      · exact failP_sts _ _
      · rfl
    have hc := h1.1.cost
    have hw := h1.2.1.1
    have hcost : costP (eitherP s 8 ⟨0, 0, []⟩).1 ≤ 10000 := by
      have h0 : costP ⟨0, 0, []⟩ = 0 := rfl
      rw [h0] at hc
      simp only at hc
      omega
    unfold costP at hcost
    subst h
    refine ⟨?_, ?_, ?_, ?_, ?_⟩ <;> simp only [h3]
    · exact h2
    · exact h1.2.2.1
    · exact h1.2.2.2
    · omega
    · omega
end Go.Proofs.YtfoffneipdkdjaaGreatDoor
namespace Go.Proofs.YtfoffneipdkdjaaGreatDoor

def freeOf (sts : List PSt) (k : Nat) : List Nat := match sts[k]? with | some y => y.free | none => []
def restG (g : PSt → Nat) (out : List Nat) : Nat → List PSt → Nat
  | _, [] => 0
  | i, y :: r => (if i ∈ out then 0 else g y) + restG g out (i + 1) r
theorem restG_low {g : PSt → Nat} {out : List Nat} {k : Nat} : ∀ (r : List PSt) (i : Nat), k < i → restG g (out ++ [k]) i r = restG g out i r
  | [], _, _ => rfl
  | y :: r, i, h => by
    have hne : i ≠ k := by omega
    unfold restG
    rw [restG_low r (i + 1) (by omega)]
    simp [hne]
theorem restG_snoc {g : PSt → Nat} {out : List Nat} {k : Nat} {y : PSt} (hk : k ∉ out) : ∀ (r : List PSt) (i : Nat), i ≤ k → r[k - i]? = some y → restG g (out ++ [k]) i r + g y = restG g out i r
  | [], _, _, h => by simp at h
  | z :: r, i, hi, h => by
    by_cases he : i = k
    · subst he
      rw [Nat.sub_self] at h
      simp only [List.getElem?_cons_zero, Option.some.injEq] at h
      subst h
      unfold restG
      rw [restG_low r (i + 1) (by omega)]
      simp [hk]
      omega
    · have h1 : k - i = (k - (i + 1)) + 1 := by omega
      rw [h1, List.getElem?_cons_succ] at h
      have ih := restG_snoc (g := g) hk r (i + 1) (by omega) h
      unfold restG
      simp only [List.mem_append, List.mem_singleton, he, or_false]
      omega
theorem restG_frees : ∀ (r : List PSt) (i : Nat), restG (fun y => y.free.length) [] i r = frees r
  | [], _ => rfl
  | y :: r, i => by
    have := restG_frees r (i + 1)
    unfold restG
    rw [this]
    simp [frees]
theorem restG_one : ∀ (r : List PSt) (i : Nat), restG (fun _ => 1) [] i r = r.length
  | [], _ => rfl
  | y :: r, i => by
    have := restG_one r (i + 1)
    unfold restG
    rw [this]
    simp; omega
/-- How much is left to do. -/
def workN (sts : List PSt) (todo out : List Nat) : Nat := todo.length + restG (fun y => y.free.length) out 0 sts
def reachL (sts : List PSt) : Nat → List Nat → List Nat → List Nat
  | 0, _, out => out
  | f + 1, todo, out => match todo.getLast? with
    | none => out
    | some k => if k ∈ out then reachL sts f todo.dropLast out else reachL sts f (todo.dropLast ++ freeOf sts k) (out ++ [k])
theorem reachL_step {sts : List PSt} {f : Nat} {todo out : List Nat} (hf : workN sts todo out ≤ f) : reachL sts f todo out = match todo.getLast? with
    | none => out
    | some k => if k ∈ out then reachL sts (f - 1) todo.dropLast out else reachL sts (f - 1) (todo.dropLast ++ freeOf sts k) (out ++ [k]) := by
  cases f with
  | zero =>
    have : todo = [] := by
      unfold workN at hf
      exact List.length_eq_zero_iff.1 (by omega)
    subst this
    rfl
  | succ f => rfl
theorem work_seen {sts : List PSt} {todo out : List Nat} (h : todo ≠ []) : workN sts todo.dropLast out + 1 = workN sts todo out := by
  have := List.length_pos_iff.2 h
  unfold workN
  rw [List.length_dropLast]
  omega
theorem work_new {sts : List PSt} {todo out : List Nat} {k : Nat} (h : todo ≠ []) (hk : k ∉ out) (hn : k < sts.length) : workN sts (todo.dropLast ++ freeOf sts k) (out ++ [k]) + 1 = workN sts todo out := by
  have h0 := List.length_pos_iff.2 h
  have hy : sts[k]? = some sts[k] := List.getElem?_eq_getElem hn
  have := restG_snoc (g := fun y => y.free.length) hk sts 0 (Nat.zero_le _) (by rw [Nat.sub_zero]; exact hy)
  unfold workN freeOf
  rw [hy, List.length_append, List.length_dropLast]
  simp only at *
  omega
theorem one_new {sts : List PSt} {out : List Nat} {k : Nat} (hk : k ∉ out) (hn : k < sts.length) (h : out.length + restG (fun _ => 1) out 0 sts = sts.length) : (out ++ [k]).length + restG (fun _ => 1) (out ++ [k]) 0 sts = sts.length := by
  have hy : sts[k]? = some sts[k] := List.getElem?_eq_getElem hn
  have := restG_snoc (g := fun _ => 1) hk sts 0 (Nat.zero_le _) (by rw [Nat.sub_zero]; exact hy)
  rw [List.length_append, List.length_singleton]
  omega
theorem freeOf_lt {sts : List PSt} (hv : VPs sts) {k : Nat} : ∀ j ∈ freeOf sts k, j < sts.length := by
  intro j hj
  unfold freeOf at hj
  cases hy : sts[k]? with
  | none => rw [hy] at hj; simp at hj
  | some y => rw [hy] at hj; exact (hv y (List.mem_of_getElem? hy)).1 j hj
def reachR (sts : List PSt) (l : List Nat) : List Nat := reachL sts (l.length + frees sts) l []
theorem reachL_ok {sts : List PSt} (hv : VPs sts) : ∀ (f : Nat) (todo out : List Nat), (∀ k ∈ todo, k < sts.length) → (∀ k ∈ out, k < sts.length) → out.length + restG (fun _ => 1) out 0 sts = sts.length →
    (∀ k ∈ reachL sts f todo out, k < sts.length) ∧ (reachL sts f todo out).length ≤ sts.length := by
  intro f
  induction f with
  | zero => intro todo out _ h2 h3; exact ⟨h2, by show out.length ≤ _; omega⟩
  | succ f ih =>
    intro todo out h1 h2 h3
    rw [reachL]
    split
    · exact ⟨h2, by omega⟩
    · rename_i k hk
      have hkm : k ∈ todo := List.mem_of_getLast? hk
      have hd : ∀ j ∈ todo.dropLast, j < sts.length := fun j hj => h1 j ((List.dropLast_sublist todo).subset hj)
      split
      · exact ih _ _ hd h2 h3
      · rename_i hno
        refine ih _ _ ?_ ?_ (one_new hno (h1 k hkm) h3)
        · intro j hj
          rcases List.mem_append.1 hj with hj | hj
          · exact hd j hj
          · exact freeOf_lt hv j hj
        · intro j hj
          rcases List.mem_append.1 hj with hj | hj
          · exact h2 j hj
          · rw [List.mem_singleton] at hj; subst hj; exact h1 _ hkm
theorem reachR_ok {sts : List PSt} (hv : VPs sts) {l : List Nat} (hl : ∀ k ∈ l, k < sts.length) : (∀ k ∈ reachR sts l, k < sts.length) ∧ (reachR sts l).length ≤ sts.length :=
  reachL_ok hv _ _ _ hl (fun k hk => by simp at hk) (by rw [restG_one]; simp)
def stepOne (sts : List PSt) (c : Nat) (out : List Nat) (k : Nat) : List Nat := match sts[k]? with
  | none => out
  | some y => match y.set with
    | none => out
    | some ws => if hasSet ws c then out ++ [y.next] else out
def stepS (sts : List PSt) (c : Nat) (l : List Nat) : List Nat := l.foldl (stepOne sts c) []
theorem stepOne_ok {sts : List PSt} (hv : VPs sts) {c : Nat} {out : List Nat} {k : Nat} (h : ∀ j ∈ out, j < sts.length) : (∀ j ∈ stepOne sts c out k, j < sts.length) ∧ (stepOne sts c out k).length ≤ out.length + 1 := by
  unfold stepOne
  split
  · exact ⟨h, by omega⟩
  · rename_i y hy
    split
    · exact ⟨h, by omega⟩
    · split
      · refine ⟨fun j hj => ?_, by simp⟩
        rcases List.mem_append.1 hj with hj | hj
        · exact h j hj
        · rw [List.mem_singleton] at hj; subst hj; exact (hv y (List.mem_of_getElem? hy)).2
      · exact ⟨h, by omega⟩
theorem stepF_ok {sts : List PSt} (hv : VPs sts) {c : Nat} : ∀ (l out : List Nat), (∀ j ∈ out, j < sts.length) → (∀ j ∈ l.foldl (stepOne sts c) out, j < sts.length) ∧ (l.foldl (stepOne sts c) out).length ≤ out.length + l.length
  | [], out, h => ⟨h, by simp⟩
  | k :: l, out, h => by
    have h1 := stepOne_ok hv (c := c) (k := k) h
    have h2 := stepF_ok hv (c := c) l _ h1.1
    exact ⟨h2.1, by rw [List.length_cons]; have := h2.2; simp only [List.foldl_cons]; omega⟩
theorem stepS_ok {sts : List PSt} (hv : VPs sts) {c : Nat} (l : List Nat) : (∀ j ∈ stepS sts c l, j < sts.length) ∧ (stepS sts c l).length ≤ l.length := by
  have := stepF_ok hv (c := c) l [] (fun j hj => by simp at hj)
  exact ⟨this.1, by have := this.2; simp at this; exact this⟩
end Go.Proofs.YtfoffneipdkdjaaGreatDoor
namespace Go.Proofs.YtfoffneipdkdjaaGreatDoor
open Go.RowKit

def partV (p : PPt) : Value := .agg #[.int .i64 (p.1 : Int), .int .i64 (p.2 : Int)]
/-- What a function of the builder hands back that reads a part. -/
def PartPost (base gB : Nat) (s : List UInt8) (w : World) (r : PB × PPt) (e : Ending) (w' : World) : Prop :=
  e = .returned (partV r.2) ∧ ∃ xs' sv', BAt w' base gB s r.1 xs' sv' ∧ TKeep TB base w w'
theorem TKeep.setNew {T : List TypeId} {base g i : Nat} {w w5 : World} (h : TKeep T base w w5) (hg : w.heap.size ≤ g) (hb : base ≤ w.heap.size) (u : Value) : TKeep T base w (w5.setCell ⟨g, i, none⟩ u) :=
  ⟨h.below.setCell (by simp; omega) u, fun k cur te fz hk ht => by
    have hlt := heap_lt hk
    rw [Below.heap_setCell _ _ _ _ (by simp; omega)]
    exact h.kept k cur te fz hk ht⟩
/-- A block of another type is written. -/
theorem BAt.far {w w' : World} {base gB m : Nat} {s : List UInt8} {b : PB} {xs : List StX} {sv : Value} {te : TypeId} {cs : Array Value} (h : BAt w base gB s b xs sv) (hm : Blk w m te cs) (ht : te ∉ (242 :: TB)) (hg : w.grownBy w' (some m)) : BAt w' base gB s b xs sv := by
  simp only [TB, List.mem_cons, List.not_mem_nil, or_false, not_or] at ht
  obtain ⟨t1, t2, t3, t4⟩ := ht
  refine ⟨(hg.block gB h.blk.lt (fun e => ?_)).trans h.blk, h.le, own_off h.own hm (Ne.symm t3) hg, h.len, ?_, h.apart⟩
  · injection e with e
    subst e
    have h1 := h.blk
    unfold Blk at h1 hm
    rw [hm] at h1
    simp only [Option.some.injEq, Obj.cells.injEq] at h1
    exact t2 h1.2.1
  · intro i x y h1 h2
    obtain ⟨a1, a2, a3⟩ := h.st i x y h1 h2
    exact ⟨a1, a2.off hm (Ne.symm t1) hg, own_off a3 hm (Ne.symm t4) hg⟩
theorem oneP_eq {ws : List Nat} {b : PB} : (oneP ws b).1 = { (nodeP (nodeP b)) with sts := ((nodeP (nodeP b)).sts.set b.sts.length ⟨some ws, 0, []⟩).set b.sts.length ⟨some ws, b.sts.length + 1, []⟩ } := by
  unfold oneP nodeP
  simp only
  congr 1
  apply List.ext_getElem?
  intro k
  rw [List.set_set, List.getElem?_modify, List.getElem?_set]
  by_cases hk : b.sts.length = k
  · subst hk; simp [emptySt]
  · simp [hk]
set_option maxRecDepth 100000 in
set_option maxHeartbeats 1600000 in
theorem one_any {w : World} {base gB gs : Nat} {s : List UInt8} {b : PB} {ws : List Nat} {xs : List StX} {sv : Value} (h : BAt w base gB s b xs sv) (hS : SetAt w gs ws) (hgs : base ≤ gs) (hb : base ≤ w.heap.size) (hn : b.sts.length < 100000000) :
    Calls Tryz.prog 191 #[.pointer (some ⟨gB, 0, none⟩), .pointer (some ⟨gs, 0, none⟩)] w (PartPost base gB s w (oneP ws b)) := by
  replace h := Lib.hid h
  replace hS := Lib.hid hS
  replace hgs := Lib.hid hgs
  replace hb := Lib.hid hb
  replace hn := Lib.hid hn
  go_enter Tryz.func191, Tryz.ntmps191
  have hR0 := Blk.new w 213 #[.int .i64 0, .int .i64 0]
  have hS0 := hS.out.grows ((Grows.refl w).alloc (.cells #[.int .i64 0, .int .i64 0] 213))
  go_wp2_with fail
  refine (node_any (h.out.grows ((Grows.refl w).alloc _)) (by have := hb.out; simp; omega) (by have := hn.out; omega)).mono ?_
  rintro e w1 ⟨rfl, sv1, h1, hk1⟩
  replace hR0 := hk1.blk hR0 (by decide)
  replace hS0 : SetAt w1 gs ws := ⟨hk1.blk hS0.1 (by decide), hS0.2⟩
  replace hk1 := Lib.hid ((TKeep.grows ((Grows.refl w).alloc _) hb.out).trans hk1)
  replace h1 := Lib.hid h1
  replace hR0 := Lib.hid hR0
  replace hS0 := Lib.hid hS0
  go_wp2_with fail
  refine (node_any h1.out (Nat.le_trans hb.out hk1.out.size) (by have := hn.out; simp [nodeP]; omega)).mono ?_
  rintro e w2 ⟨rfl, sv2, h2, hk2⟩
  replace hR0 := hk2.blk hR0.out (by decide)
  replace hS0 : SetAt w2 gs ws := ⟨hk2.blk hS0.out.1 (by decide), hS0.out.2⟩
  replace hk2 := hk1.out.trans hk2
  clear h1 hk1
  rw [nodeP_len]
  have hP := Blk.new w2 213 #[.int .i64 (b.sts.length : Int), .int .i64 ((b.sts.length : Int) + 1)]
  have hgw : Grows w2 (w2.alloc (.cells #[.int .i64 (b.sts.length : Int), .int .i64 ((b.sts.length : Int) + 1)] 213)) := (Grows.refl _).alloc _
  replace hR0 := Lib.hid (hR0.grows hgw)
  replace hS0 := Lib.hid (hS0.grows hgw)
  replace h2 := h2.grows hgw
  have hb2 := Nat.le_trans hb.out hk2.size
  replace hk2 := Lib.hid (hk2.trans (TKeep.grows hgw hb2))
  clear hgw
  replace hP := Lib.hid hP
  replace h2 := Lib.hid h2
  replace hb2 := Lib.hid hb2
  go_wp2_with fail
  generalize w2.alloc (.cells #[.int .i64 (b.sts.length : Int), .int .i64 ((b.sts.length : Int) + 1)] 213) = w3 at *
  generalize w2.heap.size = gp at *
  replace hb2 : Hid (base ≤ w3.heap.size) := Lib.hid (Nat.le_trans hb.out hk2.out.size)
  generalize hgr : w.heap.size = gr at *
  have hlx : xs.length = b.sts.length := h.out.len
  obtain ⟨g, cap, hsv⟩ := own_form2 h2.out.own (by simp)
  obtain ⟨n, hnl⟩ : ∃ n, n = (xs ++ [newSt] ++ [newSt]).length := ⟨_, rfl⟩
  rw [← hnl] at hsv
  subst hsv
  have hnl2 : n = b.sts.length + 2 := by simp at hnl; omega
  have hx : (xs ++ [newSt] ++ [newSt])[b.sts.length]? = some newSt := by rw [← hlx]; simp
  have hy : (nodeP (nodeP b)).sts[b.sts.length]? = some emptySt := by simp [nodeP]
  generalize hxx : xs ++ [newSt] ++ [newSt] = xx at *
  have hii : (b.sts.length : Int) < (n : Int) := by omega
  generalize hN : b.sts.length = N at *
  obtain ⟨curg, hcg⟩ := own_block h2.out.own (g := g) rfl
  have c3 : w3.cell? ⟨gB, 3, none⟩ = some (.slice (some ⟨g, 0, none⟩) n cap) := (h2.out.blk.cell 3).trans rfl
  have cp0 : w3.cell? ⟨gp, 0, none⟩ = some (.int .i64 (N : Int)) := hP.out.cell 0
  have cp1 : w3.cell? ⟨gp, 1, none⟩ = some (.int .i64 ((N : Int) + 1)) := hP.out.cell 1
  have hl3 := h2.out.blk.lt
  have hlp := hP.out.lt
  have hlg := heap_lt hcg
  have hr1 : some gB ≠ some g := fun e => own_ne h2.out.own h2.out.blk (by decide) e.symm
  have hr2 : some gp ≠ some g := fun e => own_ne h2.out.own hP.out (by decide) e.symm
  replace hcg := Lib.hid hcg
  replace hx := Lib.hid hx
  replace hy := Lib.hid hy
  replace hxx := Lib.hid hxx
  replace hN := Lib.hid hN
  replace hnl := Lib.hid hnl
  replace hnl2 := Lib.hid hnl2
  replace hlx := Lib.hid hlx
  replace hgr := Lib.hid hgr
  refine wp_region_kg ((some g)) (by kernel_rfl) ?_
  refine wpAnyK_run (l' := #[true, true, true, true, true, true, true, true, true, true, true, true, true, true, true, true, true, false, false, false, false]) [0, 1, 2, 3, 4, 5, 6, 7, 8, 9, 10, 11, 12, 13, 14, 15, 16] 4 up_grown (by kernel_rfl) (by intro c a d v w h; first | (cases d <;> exact h) | exact hQ0 _ _ _ _ _ h) rfl (by kernel_rfl) (by kernel_rfl) ?_
  iterate 17 (refine wpMixC_q rfl (fun K hK => ?_); go_simp; (try go_bits); first | (refine hK.out _ ?_; clear hK K) | (apply Exists.intro; refine ⟨fun wq hsq => ?_, hK.out _ ?_⟩; (first | (go_simp; done) | ((try go_simp); (try simp only [↓IntWalk.iteOmega]); (try go_bits); rfl) | (obtain ⟨hcq, hfq⟩ := bcellsG hsq; go_simp; done) | (obtain ⟨hcq, hfq⟩ := bcellsG hsq; (try go_simp); (try simp only [↓IntWalk.iteOmega]); (try go_bits); rfl)); clear hK K))
  refine wpMixC_nil ?_
  refine wpAnyK_alt [17] (by kernel_rfl) (by simp) (fun wN hN hS => (AllReadyK.cons rfl (fun K' hK => ?_) AllReadyK.nil))
  try replace h2 := Lib.hid (h2.out.grows hN)
  try replace hU := Lib.hid (hU.out.grows hN)
  replace hS0 := Lib.hid (hS0.out.grows hN)
  replace hP := Lib.hid (hP.out.grows hN)
  replace hR0 := Lib.hid (hR0.out.grows hN)
  replace hk2 := Lib.hid (hk2.out.trans (TKeep.grows hN hb2.out))
  replace hb2 := Lib.hid (Nat.le_trans hb2.out hN.size)
  clear hN
  obtain ⟨x1, hx1, hc1, hf1⟩ := h2.out.own.at_ hkSt (i := N) (by have := hnl2.out; omega)
  rw [hx.out] at hx1
  injection hx1 with hx1
  subst hx1
  have rcN : wN.cell? ⟨g, N * 3, none⟩ = some (.pointer none) := hc1 0 _ rfl
  have rfN : wN.frozen? ⟨g, N * 3, none⟩ = false := hf1 _
  have rlN := World.block_lt_of_cell? wN _ rcN
  simp only at rlN
  have hU := Lib.hid (BAt.upd (x' := ⟨.pointer (some ⟨gs, 0, none⟩), 0, .slice none 0 0⟩) (y' := ⟨some ws, 0, []⟩) (u := .pointer (some ⟨gs, 0, none⟩)) (j := 0) h2.out hx.out hy.out (by omega) (World.grownBy.refl wN none) (.inl rfl) rfl ⟨gs, rfl, hgs.out, hS0.out⟩ (Own.nil_ _ _ _ _ _) (.inl rfl) rfl)
  obtain ⟨hgle, cg, hBg⟩ := h2.out.own.blk_ g rfl
  have hkk : TKeep TB base wN (wN.setCell ⟨g, N * 3, none⟩ (.pointer (some ⟨gs, 0, none⟩))) := TKeep.setCell hBg hgle (by decide) _
  replace hS0 : Hid (SetAt (wN.setCell ⟨g, N * 3, none⟩ (.pointer (some ⟨gs, 0, none⟩))) gs ws) := Lib.hid ⟨hkk.blk hS0.out.1 (by decide), hS0.out.2⟩
  replace hP := Lib.hid (hkk.blk hP.out (by decide))
  replace hR0 := Lib.hid (hkk.blk hR0.out (by decide))
  replace hb2 := Lib.hid (Nat.le_trans hb2.out hkk.size)
  replace hk2 := Lib.hid (hk2.out.trans hkk)
  clear h2 hkk hc1 hf1 hBg
  go_simp
  refine hK.out _ _ ?_ (fun hS => ?_)
  · exact World.grownBy.trans (by assumption) (grownBy_cell wN ⟨g, N * 3, none⟩ _)
  clear rcN rfN rlN
  clear hK hS
  refine wpAnyK_run (l' := #[true, true, true, true, true, true, true, true, true, true, true, true, true, true, true, true, true, true, true, true, false]) [18, 19] 1 up_grown (by kernel_rfl) (by intro c a d v w h; first | (cases d <;> exact h) | exact hQ0 _ _ _ _ _ h) rfl (by kernel_rfl) (by kernel_rfl) ?_
  iterate 2 (refine wpMixC_q rfl (fun K hK => ?_); go_simp; (try go_bits); first | (refine hK.out _ ?_; clear hK K) | (apply Exists.intro; refine ⟨fun wq hsq => ?_, hK.out _ ?_⟩; (first | (go_simp; done) | ((try go_simp); (try simp only [↓IntWalk.iteOmega]); (try go_bits); rfl) | (obtain ⟨hcq, hfq⟩ := bcellsG hsq; go_simp; done) | (obtain ⟨hcq, hfq⟩ := bcellsG hsq; (try go_simp); (try simp only [↓IntWalk.iteOmega]); (try go_bits); rfl)); clear hK K))
  refine wpMixC_nil ?_
  refine wpAnyK_last (i := 20) rfl (by kernel_rfl) (by kernel_rfl) (fun wN hN hS K' hK => ?_)
  try replace h2 := Lib.hid (h2.out.grows hN)
  try replace hU := Lib.hid (hU.out.grows hN)
  replace hS0 := Lib.hid (hS0.out.grows hN)
  replace hP := Lib.hid (hP.out.grows hN)
  replace hR0 := Lib.hid (hR0.out.grows hN)
  replace hk2 := Lib.hid (hk2.out.trans (TKeep.grows hN hb2.out))
  replace hb2 := Lib.hid (Nat.le_trans hb2.out hN.size)
  clear hS
  have hx2 : (xx.set N ⟨.pointer (some ⟨gs, 0, none⟩), 0, .slice none 0 0⟩)[N]? = some (⟨.pointer (some ⟨gs, 0, none⟩), 0, .slice none 0 0⟩ : StX) := List.getElem?_set_self (List.getElem?_eq_some_iff.1 hx.out).1
  have hy2 : ((nodeP (nodeP b)).sts.set N ⟨some ws, 0, []⟩)[N]? = some (⟨some ws, 0, []⟩ : PSt) := List.getElem?_set_self (List.getElem?_eq_some_iff.1 hy.out).1
  obtain ⟨x1, hx1, hc1, hf1⟩ := hU.out.own.at_ hkSt (i := N) (by have := hnl2.out; omega)
  rw [hx2] at hx1
  injection hx1 with hx1
  subst hx1
  have rcN : wN.cell? ⟨g, N * 3 + 1, none⟩ = some (.int .i64 0) := hc1 1 _ rfl
  have rfN : wN.frozen? ⟨g, N * 3 + 1, none⟩ = false := hf1 _
  have rlN := World.block_lt_of_cell? wN _ rcN
  simp only at rlN
  have hV := Lib.hid (BAt.upd (x' := ⟨.pointer (some ⟨gs, 0, none⟩), N + 1, .slice none 0 0⟩) (y' := ⟨some ws, N + 1, []⟩) (u := .int .i64 ((N : Int) + 1)) (j := 1) hU.out hx2 hy2 (by omega) (World.grownBy.refl wN none) (.inl rfl) rfl ⟨gs, rfl, hgs.out, hS0.out⟩ (Own.nil_ _ _ _ _ _) (.inl rfl) (by simp [encSt]))
  obtain ⟨hgle, cg, hBg⟩ := hU.out.own.blk_ g rfl
  have hkk : TKeep TB base wN (wN.setCell ⟨g, N * 3 + 1, none⟩ (.int .i64 ((N : Int) + 1))) := TKeep.setCell hBg hgle (by decide) _
  replace hP := Lib.hid (hkk.blk hP.out (by decide))
  replace hR0 := Lib.hid (hkk.blk hR0.out (by decide))
  replace hk2 := Lib.hid (hk2.out.trans hkk)
  clear hU hS0 hkk hc1 hf1 hBg hx2 hy2 hb2
  go_simp
  refine hK.out _ _ ?_
  clear hK
  clear rcN rfN rlN c3 cp0 cp1 hl3 hlp hlg hr1 hr2 hN
  generalize wN.setCell ⟨g, N * 3 + 1, none⟩ (.int .i64 ((N : Int) + 1)) = w5 at *
  have dp0 : w5.cell? ⟨gp, 0, none⟩ = some (.int .i64 (N : Int)) := hP.out.cell 0
  have dp1 : w5.cell? ⟨gp, 1, none⟩ = some (.int .i64 ((N : Int) + 1)) := hP.out.cell 1
  have dr0 : w5.cell? ⟨gr, 0, none⟩ = some (.int .i64 0) := hR0.out.cell 0
  have dr1 : w5.cell? ⟨gr, 1, none⟩ = some (.int .i64 0) := hR0.out.cell 1
  have fr0 := hR0.out.frozen 0
  have fr1 := hR0.out.frozen 1
  have lp := hP.out.lt
  have lr := hR0.out.lt
  have hgrle := Lib.hid (hgr.out ▸ hb.out : base ≤ gr)
  go_wp2
  have hBz := hR0.out.set_ 0 (.int .i64 (N : Int))
  have hBy := hBz.set_ 1 (.int .i64 ((N : Int) + 1))
  have hke := (hk2.out.setNew (g := gr) (i := 0) (by rw [hgr.out]; exact Nat.le_refl _) (by rw [hgr.out]; exact hb.out) (.int .i64 (N : Int))).setNew (g := gr) (i := 1) (by rw [hgr.out]; exact Nat.le_refl _) (by rw [hgr.out]; exact hb.out) (.int .i64 ((N : Int) + 1))
  have hBf := (hV.out.far hR0.out (by decide) (grownBy_cell w5 ⟨gr, 0, none⟩ (.int .i64 (N : Int)))).far hBz (by decide) (grownBy_cell _ ⟨gr, 1, none⟩ (.int .i64 ((N : Int) + 1)))
  clear dr0 dr1 fr0 fr1 dp0 dp1 lp lr hR0 hP hV hk2 hBz
  generalize (w5.setCell ⟨gr, 0, none⟩ (.int .i64 (N : Int))).setCell ⟨gr, 1, none⟩ (.int .i64 ((N : Int) + 1)) = w7 at *
  have e0 : w7.cell? ⟨gr, 0, none⟩ = some (.int .i64 (N : Int)) := hBy.cell 0
  have e1 : w7.cell? ⟨gr, 1, none⟩ = some (.int .i64 ((N : Int) + 1)) := hBy.cell 1
  refine bodyPost_ret (v := partV (oneP ws b).2) ?_ rfl ⟨rfl, ?_⟩
  · simp [partV, oneP, hN.out, results, Tryz.results191, go_sem, e0, e1]
  · have e2 := oneP_eq (ws := ws) (b := b)
    rw [hN.out] at e2
    rw [← e2] at hBf
    exact ⟨_, _, hBf, hke⟩
end Go.Proofs.YtfoffneipdkdjaaGreatDoor
namespace Go.Proofs.YtfoffneipdkdjaaGreatDoor
open Go.RowKit

/-- What moves in the builder's own cells alone. -/
def OwnPost (base gB : Nat) (s : List UInt8) (xs : List StX) (sv : Value) (w : World) (v : Value) (b : PB) (e : Ending) (w' : World) : Prop :=
  e = .returned v ∧ BAt w' base gB s b xs sv ∧ TKeep [211] base w w'
theorem BAt.adv {w : World} {base gB : Nat} {s : List UInt8} {b : PB} {xs : List StX} {sv : Value} (h : BAt w base gB s b xs sv) : BAt (w.setCell ⟨gB, 1, none⟩ (.int .i64 ((b.at_ : Int) + 1))) base gB s (advP b) xs sv := by
  refine h.turn (grownBy_cell w _ _) rfl ?_
  have := h.blk.set_ 1 (.int .i64 ((b.at_ : Int) + 1))
  simpa [advP] using this
theorem TKeep.own {w w' : World} {base gB : Nat} {s : List UInt8} {b : PB} {xs : List StX} {sv : Value} (h : BAt w base gB s b xs sv) (hg : w.grownBy w' (some gB)) : TKeep [211] base w w' :=
  TKeep.row hg (by have := h.blk.lt; have := h.le; omega) (fun m hm => by injection hm with hm; subst hm; exact ⟨h.le, _, _, by simp, h.blk⟩)
set_option maxRecDepth 100000 in
set_option maxHeartbeats 1600000 in
theorem sign_any {w : World} {base gB : Nat} {s : List UInt8} {b : PB} {xs : List StX} {sv : Value} (h : BAt w base gB s b xs sv) (hb : base ≤ w.heap.size) (ha : b.at_ < 1000000) :
    Calls Tryz.prog 203 #[.pointer (some ⟨gB, 0, none⟩)] w (OwnPost base gB s xs sv w (.int .u8 ((signP s b).2.toNat : Int)) (signP s b).1) := by
  replace hb := Lib.hid hb
  have hb0 := hb
  have hTC : Hid (∀ t ∈ [211], t ∈ [211]) := Lib.hid (fun _ h => h)
  have hG := Lib.hid (TKeep.refl [211] base w)
  replace h := Lib.hid h
  cases hp : pkP s b with
  | none =>
    have hsg : signP s b = (failP 2 (advP b), 0) := by unfold signP; rw [hp]; rfl
    have hpv : pkV s b = .tuple #[.int .u8 0, .bool false] := by simp only [pkV, hp]
    replace hsg := Lib.hid hsg
    clear hp
    go_enter Tryz.func203, Tryz.ntmps203
    go_wp2_with fail
    refine (peek_any h.out).mono ?_
    rintro e w1 ⟨rfl, hgw1⟩
    replace h := Lib.hid (h.out.grows hgw1)
    replace hG := Lib.hid (hG.out.trans (TKeep.grows hgw1 hb.out))
    replace hb := Lib.hid (Nat.le_trans hb.out hgw1.size)
    (try replace hset := Lib.hid (hset.out.grows hgw1))
    (try replace hX := Lib.hid (hX.out.grows hgw1))
    (try replace hP := Lib.hid (hP.out.grows hgw1))
    (try replace hR := Lib.hid (hR.out.grows hgw1))
    clear hgw1
    rw [hpv]
    clear hpv
    have c1 : w1.cell? ⟨gB, 1, none⟩ = some (.int .i64 ((b).at_ : Int)) := (h.out.blk.cell 1).trans rfl
    have f1 := h.out.blk.frozen 1
    have l1 := h.out.blk.lt
    have i1 : -9223372036854775808 ≤ ((b).at_ : Int) + 1 ∧ ((b).at_ : Int) + 1 ≤ 9223372036854775807 := by first | omega | (simp only [advP]; omega)
    have hA := Lib.hid h.out.adv
    have hGA := Lib.hid (hG.out.trans ((TKeep.own h.out (grownBy_cell w1 ⟨gB, 1, none⟩ (.int .i64 (((b).at_ : Int) + 1)))).mono hTC.out))
    have hsz : Hid ((w1.setCell ⟨gB, 1, none⟩ (.int .i64 (((b).at_ : Int) + 1))).heap.size = w1.heap.size) := Lib.hid (by simp)
    go_wp2_with fail
    (try replace hset := Lib.hid (hset.out.tk (TKeep.own h.out (grownBy_cell w1 ⟨gB, 1, none⟩ (.int .i64 (((b).at_ : Int) + 1)))) (by decide)))
    (try replace hX := Lib.hid ((TKeep.own h.out (grownBy_cell w1 ⟨gB, 1, none⟩ (.int .i64 (((b).at_ : Int) + 1)))).blk hX.out (by decide)))
    (try replace hP := Lib.hid ((TKeep.own h.out (grownBy_cell w1 ⟨gB, 1, none⟩ (.int .i64 (((b).at_ : Int) + 1)))).blk hP.out (by decide)))
    (try replace hR := Lib.hid ((TKeep.own h.out (grownBy_cell w1 ⟨gB, 1, none⟩ (.int .i64 (((b).at_ : Int) + 1)))).blk hR.out (by decide)))
    clear c1 f1 l1 i1 h hG
    generalize w1.setCell ⟨gB, 1, none⟩ (.int .i64 (((b).at_ : Int) + 1)) = w2 at *
    have h := hA
    have hG := hGA
    clear hA hGA
    replace hb := Lib.hid (Nat.le_trans hb0.out hG.out.size)
    refine (fail_any2 h.out).mono ?_
    rintro e w3 ⟨rfl, hBw3, hgw3⟩
    (try replace hset := Lib.hid (hset.out.tk (TKeep.own h.out hgw3) (by decide)))
    (try replace hX := Lib.hid ((TKeep.own h.out hgw3).blk hX.out (by decide)))
    (try replace hP := Lib.hid ((TKeep.own h.out hgw3).blk hP.out (by decide)))
    (try replace hR := Lib.hid ((TKeep.own h.out hgw3).blk hR.out (by decide)))
    replace hG := Lib.hid (hG.out.trans ((TKeep.own h.out hgw3).mono hTC.out))
    replace h := Lib.hid hBw3
    replace hb := Lib.hid (Nat.le_trans hb0.out hG.out.size)
    clear hBw3 hgw3
    go_wp2_with fail
    go_ret
    rw [hsg.out]
    exact ⟨rfl, h.out, hG.out⟩
  | some c =>
    have hcl := c.toNat_lt
    by_cases hc : c = 92
    · subst hc
      have hpv : pkV s b = .tuple #[.int .u8 92, .bool true] := by simp only [pkV, hp]; rfl
      cases hq : pkP s (advP b) with
      | none =>
        have hsg : signP s b = (failP 2 (advP (advP b)), 0) := by unfold signP; rw [hp, if_pos rfl, hq]
        have hqv : pkV s (advP b) = .tuple #[.int .u8 0, .bool false] := by simp only [pkV, hq]
        replace hsg := Lib.hid hsg
        clear hp hq hcl
        go_enter Tryz.func203, Tryz.ntmps203
        go_wp2_with fail
        refine (peek_any h.out).mono ?_
        rintro e w1 ⟨rfl, hgw1⟩
        replace h := Lib.hid (h.out.grows hgw1)
        replace hG := Lib.hid (hG.out.trans (TKeep.grows hgw1 hb.out))
        replace hb := Lib.hid (Nat.le_trans hb.out hgw1.size)
        (try replace hset := Lib.hid (hset.out.grows hgw1))
        (try replace hX := Lib.hid (hX.out.grows hgw1))
        (try replace hP := Lib.hid (hP.out.grows hgw1))
        (try replace hR := Lib.hid (hR.out.grows hgw1))
        clear hgw1
        rw [hpv]
        clear hpv
        have c1 : w1.cell? ⟨gB, 1, none⟩ = some (.int .i64 ((b).at_ : Int)) := (h.out.blk.cell 1).trans rfl
        have f1 := h.out.blk.frozen 1
        have l1 := h.out.blk.lt
        have i1 : -9223372036854775808 ≤ ((b).at_ : Int) + 1 ∧ ((b).at_ : Int) + 1 ≤ 9223372036854775807 := by first | omega | (simp only [advP]; omega)
        have hA := Lib.hid h.out.adv
        have hGA := Lib.hid (hG.out.trans ((TKeep.own h.out (grownBy_cell w1 ⟨gB, 1, none⟩ (.int .i64 (((b).at_ : Int) + 1)))).mono hTC.out))
        have hsz : Hid ((w1.setCell ⟨gB, 1, none⟩ (.int .i64 (((b).at_ : Int) + 1))).heap.size = w1.heap.size) := Lib.hid (by simp)
        go_wp2_with fail
        (try replace hset := Lib.hid (hset.out.tk (TKeep.own h.out (grownBy_cell w1 ⟨gB, 1, none⟩ (.int .i64 (((b).at_ : Int) + 1)))) (by decide)))
        (try replace hX := Lib.hid ((TKeep.own h.out (grownBy_cell w1 ⟨gB, 1, none⟩ (.int .i64 (((b).at_ : Int) + 1)))).blk hX.out (by decide)))
        (try replace hP := Lib.hid ((TKeep.own h.out (grownBy_cell w1 ⟨gB, 1, none⟩ (.int .i64 (((b).at_ : Int) + 1)))).blk hP.out (by decide)))
        (try replace hR := Lib.hid ((TKeep.own h.out (grownBy_cell w1 ⟨gB, 1, none⟩ (.int .i64 (((b).at_ : Int) + 1)))).blk hR.out (by decide)))
        clear c1 f1 l1 i1 h hG
        generalize w1.setCell ⟨gB, 1, none⟩ (.int .i64 (((b).at_ : Int) + 1)) = w2 at *
        have h := hA
        have hG := hGA
        clear hA hGA
        replace hb := Lib.hid (Nat.le_trans hb0.out hG.out.size)
        go_wp2_with fail
        refine (peek_any h.out).mono ?_
        rintro e w3 ⟨rfl, hgw3⟩
        replace h := Lib.hid (h.out.grows hgw3)
        replace hG := Lib.hid (hG.out.trans (TKeep.grows hgw3 hb.out))
        replace hb := Lib.hid (Nat.le_trans hb.out hgw3.size)
        (try replace hset := Lib.hid (hset.out.grows hgw3))
        (try replace hX := Lib.hid (hX.out.grows hgw3))
        (try replace hP := Lib.hid (hP.out.grows hgw3))
        (try replace hR := Lib.hid (hR.out.grows hgw3))
        clear hgw3
        rw [hqv]
        clear hqv
        have c1 : w3.cell? ⟨gB, 1, none⟩ = some (.int .i64 (((advP b)).at_ : Int)) := (h.out.blk.cell 1).trans rfl
        have f1 := h.out.blk.frozen 1
        have l1 := h.out.blk.lt
        have i1 : -9223372036854775808 ≤ (((advP b)).at_ : Int) + 1 ∧ (((advP b)).at_ : Int) + 1 ≤ 9223372036854775807 := by first | omega | (simp only [advP]; omega)
        have hA := Lib.hid h.out.adv
        have hGA := Lib.hid (hG.out.trans ((TKeep.own h.out (grownBy_cell w3 ⟨gB, 1, none⟩ (.int .i64 ((((advP b)).at_ : Int) + 1)))).mono hTC.out))
        have hsz : Hid ((w3.setCell ⟨gB, 1, none⟩ (.int .i64 ((((advP b)).at_ : Int) + 1))).heap.size = w3.heap.size) := Lib.hid (by simp)
        go_wp2_with fail
        (try replace hset := Lib.hid (hset.out.tk (TKeep.own h.out (grownBy_cell w3 ⟨gB, 1, none⟩ (.int .i64 ((((advP b)).at_ : Int) + 1)))) (by decide)))
        (try replace hX := Lib.hid ((TKeep.own h.out (grownBy_cell w3 ⟨gB, 1, none⟩ (.int .i64 ((((advP b)).at_ : Int) + 1)))).blk hX.out (by decide)))
        (try replace hP := Lib.hid ((TKeep.own h.out (grownBy_cell w3 ⟨gB, 1, none⟩ (.int .i64 ((((advP b)).at_ : Int) + 1)))).blk hP.out (by decide)))
        (try replace hR := Lib.hid ((TKeep.own h.out (grownBy_cell w3 ⟨gB, 1, none⟩ (.int .i64 ((((advP b)).at_ : Int) + 1)))).blk hR.out (by decide)))
        clear c1 f1 l1 i1 h hG
        generalize w3.setCell ⟨gB, 1, none⟩ (.int .i64 ((((advP b)).at_ : Int) + 1)) = w4 at *
        have h := hA
        have hG := hGA
        clear hA hGA
        replace hb := Lib.hid (Nat.le_trans hb0.out hG.out.size)
        refine (fail_any2 h.out).mono ?_
        rintro e w5 ⟨rfl, hBw5, hgw5⟩
        (try replace hset := Lib.hid (hset.out.tk (TKeep.own h.out hgw5) (by decide)))
        (try replace hX := Lib.hid ((TKeep.own h.out hgw5).blk hX.out (by decide)))
        (try replace hP := Lib.hid ((TKeep.own h.out hgw5).blk hP.out (by decide)))
        (try replace hR := Lib.hid ((TKeep.own h.out hgw5).blk hR.out (by decide)))
        replace hG := Lib.hid (hG.out.trans ((TKeep.own h.out hgw5).mono hTC.out))
        replace h := Lib.hid hBw5
        replace hb := Lib.hid (Nat.le_trans hb0.out hG.out.size)
        clear hBw5 hgw5
        go_wp2_with fail
        go_ret
        rw [hsg.out]
        exact ⟨rfl, h.out, hG.out⟩
      | some d =>
        have hsg : signP s b = (advP (advP b), d) := by unfold signP; rw [hp, if_pos rfl, hq]
        have hqv : pkV s (advP b) = .tuple #[.int .u8 (d.toNat : Int), .bool true] := by simp only [pkV, hq]
        replace hsg := Lib.hid hsg
        clear hp hq hcl
        go_enter Tryz.func203, Tryz.ntmps203
        go_wp2_with fail
        refine (peek_any h.out).mono ?_
        rintro e w1 ⟨rfl, hgw1⟩
        replace h := Lib.hid (h.out.grows hgw1)
        replace hG := Lib.hid (hG.out.trans (TKeep.grows hgw1 hb.out))
        replace hb := Lib.hid (Nat.le_trans hb.out hgw1.size)
        (try replace hset := Lib.hid (hset.out.grows hgw1))
        (try replace hX := Lib.hid (hX.out.grows hgw1))
        (try replace hP := Lib.hid (hP.out.grows hgw1))
        (try replace hR := Lib.hid (hR.out.grows hgw1))
        clear hgw1
        rw [hpv]
        clear hpv
        have c1 : w1.cell? ⟨gB, 1, none⟩ = some (.int .i64 ((b).at_ : Int)) := (h.out.blk.cell 1).trans rfl
        have f1 := h.out.blk.frozen 1
        have l1 := h.out.blk.lt
        have i1 : -9223372036854775808 ≤ ((b).at_ : Int) + 1 ∧ ((b).at_ : Int) + 1 ≤ 9223372036854775807 := by first | omega | (simp only [advP]; omega)
        have hA := Lib.hid h.out.adv
        have hGA := Lib.hid (hG.out.trans ((TKeep.own h.out (grownBy_cell w1 ⟨gB, 1, none⟩ (.int .i64 (((b).at_ : Int) + 1)))).mono hTC.out))
        have hsz : Hid ((w1.setCell ⟨gB, 1, none⟩ (.int .i64 (((b).at_ : Int) + 1))).heap.size = w1.heap.size) := Lib.hid (by simp)
        go_wp2_with fail
        (try replace hset := Lib.hid (hset.out.tk (TKeep.own h.out (grownBy_cell w1 ⟨gB, 1, none⟩ (.int .i64 (((b).at_ : Int) + 1)))) (by decide)))
        (try replace hX := Lib.hid ((TKeep.own h.out (grownBy_cell w1 ⟨gB, 1, none⟩ (.int .i64 (((b).at_ : Int) + 1)))).blk hX.out (by decide)))
        (try replace hP := Lib.hid ((TKeep.own h.out (grownBy_cell w1 ⟨gB, 1, none⟩ (.int .i64 (((b).at_ : Int) + 1)))).blk hP.out (by decide)))
        (try replace hR := Lib.hid ((TKeep.own h.out (grownBy_cell w1 ⟨gB, 1, none⟩ (.int .i64 (((b).at_ : Int) + 1)))).blk hR.out (by decide)))
        clear c1 f1 l1 i1 h hG
        generalize w1.setCell ⟨gB, 1, none⟩ (.int .i64 (((b).at_ : Int) + 1)) = w2 at *
        have h := hA
        have hG := hGA
        clear hA hGA
        replace hb := Lib.hid (Nat.le_trans hb0.out hG.out.size)
        go_wp2_with fail
        refine (peek_any h.out).mono ?_
        rintro e w3 ⟨rfl, hgw3⟩
        replace h := Lib.hid (h.out.grows hgw3)
        replace hG := Lib.hid (hG.out.trans (TKeep.grows hgw3 hb.out))
        replace hb := Lib.hid (Nat.le_trans hb.out hgw3.size)
        (try replace hset := Lib.hid (hset.out.grows hgw3))
        (try replace hX := Lib.hid (hX.out.grows hgw3))
        (try replace hP := Lib.hid (hP.out.grows hgw3))
        (try replace hR := Lib.hid (hR.out.grows hgw3))
        clear hgw3
        rw [hqv]
        clear hqv
        have c1 : w3.cell? ⟨gB, 1, none⟩ = some (.int .i64 (((advP b)).at_ : Int)) := (h.out.blk.cell 1).trans rfl
        have f1 := h.out.blk.frozen 1
        have l1 := h.out.blk.lt
        have i1 : -9223372036854775808 ≤ (((advP b)).at_ : Int) + 1 ∧ (((advP b)).at_ : Int) + 1 ≤ 9223372036854775807 := by first | omega | (simp only [advP]; omega)
        have hA := Lib.hid h.out.adv
        have hGA := Lib.hid (hG.out.trans ((TKeep.own h.out (grownBy_cell w3 ⟨gB, 1, none⟩ (.int .i64 ((((advP b)).at_ : Int) + 1)))).mono hTC.out))
        have hsz : Hid ((w3.setCell ⟨gB, 1, none⟩ (.int .i64 ((((advP b)).at_ : Int) + 1))).heap.size = w3.heap.size) := Lib.hid (by simp)
        go_wp2_with fail
        (try replace hset := Lib.hid (hset.out.tk (TKeep.own h.out (grownBy_cell w3 ⟨gB, 1, none⟩ (.int .i64 ((((advP b)).at_ : Int) + 1)))) (by decide)))
        (try replace hX := Lib.hid ((TKeep.own h.out (grownBy_cell w3 ⟨gB, 1, none⟩ (.int .i64 ((((advP b)).at_ : Int) + 1)))).blk hX.out (by decide)))
        (try replace hP := Lib.hid ((TKeep.own h.out (grownBy_cell w3 ⟨gB, 1, none⟩ (.int .i64 ((((advP b)).at_ : Int) + 1)))).blk hP.out (by decide)))
        (try replace hR := Lib.hid ((TKeep.own h.out (grownBy_cell w3 ⟨gB, 1, none⟩ (.int .i64 ((((advP b)).at_ : Int) + 1)))).blk hR.out (by decide)))
        clear c1 f1 l1 i1 h hG
        generalize w3.setCell ⟨gB, 1, none⟩ (.int .i64 ((((advP b)).at_ : Int) + 1)) = w4 at *
        have h := hA
        have hG := hGA
        clear hA hGA
        replace hb := Lib.hid (Nat.le_trans hb0.out hG.out.size)
        go_ret
        rw [hsg.out]
        exact ⟨rfl, h.out, hG.out⟩
    · have hci : ¬ (c.toNat : Int) = 92 := fun e => hc (UInt8.toNat_inj.1 (by show c.toNat = 92; omega))
      have hpv : pkV s b = .tuple #[.int .u8 (c.toNat : Int), .bool true] := by simp only [pkV, hp]
      have hsg : signP s b = (advP b, c) := by unfold signP; rw [hp, if_neg (by simpa using hc)]
      replace hsg := Lib.hid hsg
      clear hp hc hcl
      go_enter Tryz.func203, Tryz.ntmps203
      go_wp2_with fail
      refine (peek_any h.out).mono ?_
      rintro e w1 ⟨rfl, hgw1⟩
      replace h := Lib.hid (h.out.grows hgw1)
      replace hG := Lib.hid (hG.out.trans (TKeep.grows hgw1 hb.out))
      replace hb := Lib.hid (Nat.le_trans hb.out hgw1.size)
      (try replace hset := Lib.hid (hset.out.grows hgw1))
      (try replace hX := Lib.hid (hX.out.grows hgw1))
      (try replace hP := Lib.hid (hP.out.grows hgw1))
      (try replace hR := Lib.hid (hR.out.grows hgw1))
      clear hgw1
      rw [hpv]
      clear hpv
      have c1 : w1.cell? ⟨gB, 1, none⟩ = some (.int .i64 ((b).at_ : Int)) := (h.out.blk.cell 1).trans rfl
      have f1 := h.out.blk.frozen 1
      have l1 := h.out.blk.lt
      have i1 : -9223372036854775808 ≤ ((b).at_ : Int) + 1 ∧ ((b).at_ : Int) + 1 ≤ 9223372036854775807 := by first | omega | (simp only [advP]; omega)
      have hA := Lib.hid h.out.adv
      have hGA := Lib.hid (hG.out.trans ((TKeep.own h.out (grownBy_cell w1 ⟨gB, 1, none⟩ (.int .i64 (((b).at_ : Int) + 1)))).mono hTC.out))
      have hsz : Hid ((w1.setCell ⟨gB, 1, none⟩ (.int .i64 (((b).at_ : Int) + 1))).heap.size = w1.heap.size) := Lib.hid (by simp)
      go_wp2_with fail
      (try replace hset := Lib.hid (hset.out.tk (TKeep.own h.out (grownBy_cell w1 ⟨gB, 1, none⟩ (.int .i64 (((b).at_ : Int) + 1)))) (by decide)))
      (try replace hX := Lib.hid ((TKeep.own h.out (grownBy_cell w1 ⟨gB, 1, none⟩ (.int .i64 (((b).at_ : Int) + 1)))).blk hX.out (by decide)))
      (try replace hP := Lib.hid ((TKeep.own h.out (grownBy_cell w1 ⟨gB, 1, none⟩ (.int .i64 (((b).at_ : Int) + 1)))).blk hP.out (by decide)))
      (try replace hR := Lib.hid ((TKeep.own h.out (grownBy_cell w1 ⟨gB, 1, none⟩ (.int .i64 (((b).at_ : Int) + 1)))).blk hR.out (by decide)))
      clear c1 f1 l1 i1 h hG
      generalize w1.setCell ⟨gB, 1, none⟩ (.int .i64 (((b).at_ : Int) + 1)) = w2 at *
      have h := hA
      have hG := hGA
      clear hA hGA
      replace hb := Lib.hid (Nat.le_trans hb0.out hG.out.size)
      go_ret
      rw [hsg.out]
      exact ⟨rfl, h.out, hG.out⟩
end Go.Proofs.YtfoffneipdkdjaaGreatDoor
namespace Go.Proofs.YtfoffneipdkdjaaGreatDoor
open Go.RowKit

set_option maxRecDepth 100000 in
set_option maxHeartbeats 1600000 in
theorem turnSet_def {w : World} {g : Nat} {ws : List Nat} {u : FrameMode} (h : SetAt w g ws) :
    CallsD Tryz.prog 189 #[.pointer (some ⟨g, 0, none⟩)] u w fun e u' w' => u' = u ∧ (e = .returned (.tuple #[]) ∧ SetAt w' g (turnSet ws) ∧ w.grownBy w' (some g)) := by
  have hl : g < w.heap.size := World.block_lt_of_cell? w _ (h.cell (i := 0) (List.getElem?_eq_getElem (by rw [h.2.1]; omega)))
  have hwl := Lib.hid h.2.1
  replace h := Lib.hid h
  go_enter_d Tryz.func189, Tryz.ntmps189
  go_wp2
  go_loopw [3] (fun i wr => ∃ k : Nat, k ≤ 4 ∧ i = .int .i64 (k : Int) ∧ SetAt wr g (turnTo k ws) ∧ w.grownBy wr (some g)) (fun i _ => 4 - (intOf i).toNat)
  case atStart => exact ⟨0, by omega, rfl, by simpa [turnTo] using h.out, World.grownBy.refl _ _⟩
  case round =>
    obtain ⟨k, hk, rfl, hs, hg⟩ := hrel
    by_cases hlt : k < 4
    · obtain ⟨x, hx⟩ : ∃ x, ws[k]? = some x := ⟨_, List.getElem?_eq_getElem (by rw [hwl.out]; omega)⟩
      have hfold := turnTo_succ hx
      rw [← turnTo_get] at hx
      have hxl := hs.2.2 x (List.mem_of_getElem? hx)
      have c0 := hs.cell hx
      have hlw := World.block_lt_of_cell? wr _ c0
      simp only at hlw
      have hki : (k : Int) < 4 := by omega
      have hnot : ((18446744073709551615 - x : Nat) : Int) = 18446744073709551615 - (x : Int) := by omega
      have hyl : 18446744073709551615 - x < 18446744073709551616 := by omega
      replace hfold := Lib.hid hfold
      replace hs := Lib.hid hs
      replace hk := Lib.hid hk
      replace hnot := Lib.hid hnot
      have hX : bits BinOp.xor IntKind.u64 (if IntKind.u64.signed = true then -1 else IntKind.u64.max) (x : Int) = ((18446744073709551615 - x : Nat) : Int) := by
        rw [← xor_all hxl]
        exact u64_xor_nat 18446744073709551615 x (by decide) hxl
      replace hX := Lib.hid hX
      go_wp2
      refine wp_region_k (by kernel_rfl) ?_
      refine wpAnyK_run (l' := #[true, true, true, true, true, true, true, true, true, true, false]) [0, 1, 2, 3, 4, 5, 6, 7, 8, 9] 1 up_grows (by kernel_rfl) (by intro c a d v w h; first | (cases d <;> exact h) | exact hQ0 _ _ _ _ _ h) rfl (by kernel_rfl) (by kernel_rfl) ?_
      iterate 10 (refine wpMixC_q rfl (fun K hK => ?_); go_simp; (try go_bits); first | (refine hK.out _ ?_; clear hK K) | (apply Exists.intro; refine ⟨fun wq hsq => ?_, hK.out _ ?_⟩; (first | (go_simp; done) | ((try go_simp); (try simp only [↓IntWalk.iteOmega]); (try go_bits); rfl) | (obtain ⟨hcq, hfq⟩ := bcells hsq; go_simp; done) | (obtain ⟨hcq, hfq⟩ := bcells hsq; (try go_simp); (try simp only [↓IntWalk.iteOmega]); (try go_bits); rfl)); clear hK K))
      refine wpMixC_nil ?_
      refine wpAnyK_last (i := 10) rfl (by kernel_rfl) (by kernel_rfl) (fun wN hN hS K' hK => ?_)
      clear hS
      have hsN : SetAt wN g _ := ⟨(hN.below.block g hlw).trans hs.out.1, hs.out.2⟩
      have c0N := hsN.cell hx
      have f0N := hsN.1.frozen k
      have rlN := World.block_lt_of_cell? wN _ c0N
      simp only at rlN
      have hput := hsN.put (i := k) hyl
      rw [← hfold.out] at hput
      replace hput := Lib.hid hput
      have hgN : Hid (w.grownBy _ (some g)) := Lib.hid ((hg.trans (hN.by_none (some g))).trans (grownBy_cell wN ⟨g, k, none⟩ (.int .u64 ((18446744073709551615 - x : Nat) : Int))))
      clear hsN
      go_simp
      refine hK.out _ _ ?_
      clear hK
      go_wp2
      go_roundw
      case rel => exact ⟨k + 1, by omega, by simp, by rw [hX.out]; exact hput.out, by rw [hX.out]; exact hgN.out⟩
      case measure => simp [intOf]; omega
    · have hlt' : ¬ (k : Int) < 4 := by omega
      have hke : k = 4 := by omega
      replace hk := Lib.hid hk
      replace hlt := Lib.hid hlt
      replace hke := Lib.hid hke
      go_wp2
      go_end0
      refine ⟨rfl, ?_, hg⟩
      have : turnTo k ws = turnSet ws := by
        rw [hke.out, turnTo, turnSet, List.take_of_length_le (by rw [hwl.out]; omega), List.drop_of_length_le (by rw [hwl.out]; omega), List.append_nil]
      rw [← this]
      exact hs
end Go.Proofs.YtfoffneipdkdjaaGreatDoor
