/- What a row of this seat gives a walk: what start-up lays, and a world that fits. -/
import Derived.Test.YtfppagcifcppaaaDoorLib
import Derived.Test.YtfppagcifcppaaaDoorWinB
import Derived.Test.YtfppagcifcppaaaDoorCards
import Derived.Test.YtfppagcifcppaaaDoorTie
import Derived.ProofKit
import Derived.OpenShut
import Derived.LaidMore
import Derived.Deep.DeepHandedRow
import Derived.Deep.DeepWitnessRowRef
import Derived.Lib.LaidTab
import Derived.Stop.LaidErr
import Derived.Shelf.Vars
import Derived.SevenTiedAt
import Derived.Carry
import Derived.Deep.Slices
import Derived.Deep.Fields
import Derived.Lib.SmallJoins
namespace Go.Proofs.YtfppagcifcppaaaDoor
open Go.ChangeShapes Go.WideShapes Go.ChangeAt Go.RowKit Go.Deep Go.Joins

theorem own : ownKnob Tryd.prog.godebug = none := by kernel_rfl
def laidA : List (String × DataW Unit) := Rows.windowPlansRow.laid
theorem gPow : Tryd.prog.globalNamed "internal/strconv.uint64pow10" = some 3 := by kernel_rfl
theorem gPowT : (Tryd.prog.globals[3]?).map (·.type) = some 140 := by kernel_rfl
theorem gRng : Tryd.prog.globalNamed "strconv.ErrRange" = some 2 := by kernel_rfl
theorem gRngT : (Tryd.prog.globals[2]?).map (·.type) = some 92 := by kernel_rfl
theorem gSyn : Tryd.prog.globalNamed "strconv.ErrSyntax" = some 1 := by kernel_rfl
theorem gSynT : (Tryd.prog.globals[1]?).map (·.type) = some 92 := by kernel_rfl
theorem starE : "*" ++ "errors.errorString" = "*errors.errorString" := by decide
theorem rowE (u : TypeId) (h : Tryd.prog.typeName? 3 u = some "*errors.errorString") : u = 146 :=
  typeName_ptr_named (nm := "errors.errorString") (by rw [starE]; kernel_rfl) (by kernel_rfl) (by decide) u (by rw [starE]; exact h)
/-- What the row's list, and the world's shape, give the library's contracts. -/
theorem env_of {W : World} (hL : laidMetH Tryd.prog laidA W) (hs : W.ShapedOpen Tryd.prog) : LibEnv W := by
  rw [MakeChecks.laidMetH_plain _ _ _ (by kernel_rfl)] at hL
  have h3 := hL.tail.tail
  have hp := Lib.tabIs_of_head (k := .u64) (zs := Lib.pow10Tab) gPow gPowT Tryd.underlying140 Tryd.underlying124 (by kernel_rfl) (by kernel_rfl) h3
  obtain ⟨a0, s0, hv0, _⟩ := laid_sentinel h3.tail gRng gRngT Tryd.underlying92 rowE Tryd.underlying146 Tryd.underlying148 rfl rfl Tryd.underlying9 (by kernel_rfl) (by kernel_rfl)
  obtain ⟨a1, s1, hv1, _⟩ := laid_sentinel h3.tail.tail gSyn gSynT Tryd.underlying92 rowE Tryd.underlying146 Tryd.underlying148 rfl rfl Tryd.underlying9 (by kernel_rfl) (by kernel_rfl)
  refine ⟨hp, ?_, Go.Proofs.cell_of_shapedOpen_int (zero := #[.int .i64 0]) (t := 3) hs (of_decide_eq_true (by kernel_rfl)) (by kernel_rfl) rfl (by kernel_rfl) (by kernel_rfl) Tryd.underlying3, ?_, ?_⟩
  · exact World.block_lt_of_cell? W _ (Lib.TabIs.cell hp gPow 0 (by decide))
  · exact ⟨_, by simpa using World.var?_cell gSyn hv1 0, .inr ⟨_, _, rfl⟩⟩
  · exact ⟨_, by simpa using World.var?_cell gRng hv0 0, .inr ⟨_, _, rfl⟩⟩
/-- The heap that the door's own run leaves meets the list. -/
theorem door_met (os : Os) (args : Array Value) : laidMetH Tryd.prog laidA ((World.doorLaid Tryd.prog 4000 os).forCall (fun _ _ => 0) ⟨#[], args, []⟩).memory :=
  laidMetH_of_parts3 (fuel := 8) (laidMet_of_run' 8 (by kernel_rfl) (by kernel_rfl)) (by kernel_rfl) (by kernel_rfl)
theorem door_shaped (os : Os) (args : Array Value) : ((World.doorLaid Tryd.prog 4000 os).forCall (fun _ _ => 0) ⟨#[], args, []⟩).variablesRefB Tryd.prog = true := by kernel_rfl

section
variable {H : Type} {enc : TypeId × Value → H} {P : Program}
theorem trodAll_same (hl : laidOutB P = true) {W W' : World} {sp : Nat → Bool} : ∀ {ts : List TypeId} {vs : List Value} {ds : List (DataW H)} {ps : List MemPlace}, (∀ t ∈ ts, P.readableRec t = true ∧ t < P.types.size) →
    DataW.TrodAll enc P W 0 (fun _ => true) true ts vs ds ps → (∀ p ∈ ps, W.sameAt W' p) → (∀ p ∈ ps, sp p.block = true) → DataW.TrodAll enc P W' 0 sp true ts vs ds ps
  | [], _, _, _, _, h, _, _ => by
    obtain ⟨rfl, rfl, rfl⟩ := trodAll_nil h
    exact trodAll_mk0
  | t :: ts, _, _, _, hr, h, h1, h2 => by
    obtain ⟨v, vs1, d, ds1, a, b, rfl, rfl, rfl, h3, h4⟩ := trodAll_cons h
    have ht := hr t (by simp)
    exact trodAll_cons_mk (WideElems.Trod_stays hl ht.1 ht.2 h3 (fun p hp => h1 p (by simp [hp])) (fun p hp => h2 p (by simp [hp])))
      (trodAll_same hl (fun t' ht' => hr t' (by simp [ht'])) h4 (fun p hp => h1 p (by simp [hp])) (fun p hp => h2 p (by simp [hp])))
/-- A law that answers 'true' and turns nothing that was there. -/
theorem post_true {f : Func} {s : ChangeSpec} {apart fresh handsOn again : Bool} {W W' : World} {args : Array Value} {ds : List (DataW H)} {before : List MemPlace} {tb : TypeId} (hl : laidOutB P = true)
    (hP : ∀ t ∈ f.params.toList, P.readableRec t = true ∧ t < P.types.size) (hv : s.vars = []) (hW : DataW.Whole enc P f.params.toList s.vars apart W args.toList ds [] before)
    (hfn : s.fn H ds = { results := [.lit (.bool true)], args := ds }) (hr : f.resultTypes = #[tb]) (hb : P.underlying tb = some .bool) (hg : Grows W W') :
    s.post enc P f apart fresh handsOn again W args (.bool true) W' := by
  have hlt := hW.lt
  have hW0 := hW
  obtain ⟨p, q, hA, hV, e, hz, hn⟩ := hW
  rw [hv] at hV
  obtain ⟨_, rfl⟩ := trodVars_none hV
  obtain rfl : before = p := by rw [e]; simp
  have hsame : ∀ x ∈ before, W.sameAt W' x := fun x hx => hg.below.same (hlt x hx)
  have hargs : ∀ sp : Nat → Bool, (∀ x ∈ before, sp x.block = true) → DataW.TrodAll enc P W' 0 sp true f.params.toList args.toList ds before := fun sp h => trodAll_same hl hP hA hsame h
  have hres : ∀ (b : Nat) (sp : Nat → Bool) (hd : Bool), DataW.TrodAll enc P W' b sp hd f.resultTypes.toList ((Value.bool true).resultList f.resultTypes.size) [.lit (.bool true)] [] := fun b sp hd => by
    rw [hr]; exact trodAll_mk1 (shut_bool hb _)
  have hold : ∀ x ∈ before, (fun b => decide (b < W.heap.size)) x.block = true := fun x hx => by simpa using hlt x hx
  have hfn' : s.fn H (ds ++ []) = { results := [.lit (.bool true)], args := ds } := by rw [List.append_nil]; exact hfn
  refine ⟨ds, [], before, [], before, [], hW0, ?_, ?_, ?_, ?_, fun _ => ⟨ok_one hr rfl (okWide_bool_mk hb _), _, _, ([] ++ before) ++ [], ⟨[] ++ before, [], trodAll_append (hargs _ (fun _ _ => rfl)) (hres _ _ _), by rw [hv]; exact (show DataW.TrodVars enc P W' (fun _ => true) [] ([] : List (DataW H)) [] from rfl), rfl, ?_, ?_⟩, ?_⟩⟩
  · rw [hfn']; exact hres _ _ _
  · rw [hfn']; exact hargs _ hold
  · rw [hfn', hv]; exact hV
  · exact hg.below.frame _
  · intro b off hp
    have hm : MemPlace.cell b off ∈ before := by simpa using hp
    rw [hg.below.frozen (p := ⟨b, off, none⟩) (hlt _ hm)]
    exact hz b off hm
  · intro ha
    simpa using hn ha
  · intro x hx _
    simpa using hx
/-- A slice of structs of three numbers, as the walks have it. -/
theorem open_wins {t e : TypeId} {f0 f1 f2 : Field} {W : World} {base : Nat} {v : Value} {d : DataW H} {p : List MemPlace} (ht : P.underlying t = some (.slice e)) (he : P.underlying e = some (.struct #[f0, f1, f2])) (hone : oneCellFields P #[f0, f1, f2] = true) (hC : P.cellsOf e = 3)
    (h0 : P.underlying f0.type = some (.int .i64)) (h1 : P.underlying f1.type = some (.int .i64)) (h2 : P.underlying f2.type = some (.int .i64))
    (hv : Value.okWide P W .any base t v) (h : DataW.Trod enc P W 0 (fun _ => true) true t v d p) :
    ∃ (A : Option Addr) (m c : Nat) (ws : List Win), v = .slice A m c ∧ m ≤ c ∧ c ≤ maxLen ∧ Arr W 3 encW A m ws := by
  obtain ⟨A, m, c, rfl⟩ := okWide_slice ht hv
  obtain ⟨fuel, hf⟩ := h
  rcases Deep.open_slice ht hf with ⟨hcs, _⟩ | ⟨a, len, cap, mm, n, D, Pl, hcs, _, hl, hm, hmm, _, hel⟩
  · have : Value.slice A m c = .slice none 0 0 := by simpa [Value.cells] using hcs
    cases this
    exact ⟨none, 0, 0, [], rfl, by omega, by simp [maxLen], Arr.nil_⟩
  · have : Value.slice A m c = .slice (some a) len cap := by simpa [Value.cells] using hcs
    cases this
    simp only [if_true] at hmm
    have hw : ∀ i, i < m → ∃ x : Win, ∀ j u, (encW x)[j]? = some u → W.cell? (a.add (i * 3 + j)) = some u := fun i hi => by
      obtain ⟨cs, hc, hd⟩ := hel i (by omega)
      rw [hC] at hc
      obtain ⟨xs, n', _, _, _, hlen, hg⟩ := DataW.trod_struct he hd
      obtain ⟨o0, k0⟩ := hone_of hone 0 f0 rfl
      obtain ⟨o1, k1⟩ := hone_of hone 1 f1 rfl
      obtain ⟨o2, k2⟩ := hone_of hone 2 f2 rfl
      obtain ⟨_, hl3, hat⟩ := World.cells?_some hc
      match cs, hl3 with
      | [c0, c1, c2], _ =>
        have g0 := hg 0 f0 rfl
        have g1 := hg 1 f1 rfl
        have g2 := hg 2 f2 rfl
        rw [o0, k0, List.getElem?_eq_getElem (by simp at hlen; omega)] at g0
        rw [o1, k1, List.getElem?_eq_getElem (by simp at hlen; omega)] at g1
        rw [o2, k2, List.getElem?_eq_getElem (by simp at hlen; omega)] at g2
        obtain ⟨n0, e0, _, _⟩ := DataW.trod_int h0 g0
        obtain ⟨n1, e1, _, _⟩ := DataW.trod_int h1 g1
        obtain ⟨n2, e2, _, _⟩ := DataW.trod_int h2 g2
        simp at e0 e1 e2
        subst e0 e1 e2
        refine ⟨⟨n0, n1, n2⟩, fun j u hu => ?_⟩
        have hj : j < 3 := (List.getElem?_eq_some_iff.1 hu).1
        have := hat j hj
        rw [← Go.Deep.add_add, this]
        exact hu
    haveI : Inhabited Win := ⟨⟨0, 0, 0⟩⟩
    obtain ⟨X, hX⟩ := choose_lt (α := Win) (p := fun i x => ∀ j u, (encW x)[j]? = some u → W.cell? (a.add (i * 3 + j)) = some u) hw
    refine ⟨some a, m, c, (List.range m).map X, rfl, hl, hm, by simp, fun hpos => ?_⟩
    have hc0 := hX 0 hpos 0 _ rfl
    obtain ⟨b, off, spot⟩ := a
    have hs := World.cell?_spot hc0
    have hsp : spot = none := by simpa [Addr.add] using hs
    subst hsp
    refine ⟨b, off, rfl, ?_, fun i hi j u hu => ?_⟩
    · have := World.block_lt_of_cell? W _ hc0
      simpa [Addr.add] using this
    · have hi' : i < m := by simpa using hi
      have := hX i hi' j u (by simpa using hu)
      have e : ∀ k, (⟨b, off, none⟩ : Addr).add k = ⟨b, off + k, none⟩ := fun k => by unfold Addr.add; by_cases h : k = 0 <;> simp [h]
      rw [e, ← Nat.add_assoc] at this
      exact this
end
end Go.Proofs.YtfppagcifcppaaaDoor
