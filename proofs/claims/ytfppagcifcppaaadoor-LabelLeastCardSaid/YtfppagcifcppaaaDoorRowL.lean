/- What a row on labels gives a walk: what start-up lays, and a world that fits; labels as arguments. -/
import Derived.Test.YtfppagcifcppaaaDoorRow2
import Derived.Test.YtfppagcifcppaaaDoorLabE
import Derived.Lay
namespace Go.Proofs.YtfppagcifcppaaaDoor
open Go.ChangeShapes Go.WideShapes Go.ChangeAt Go.RowKit Go.Deep Go.Joins

def laidL : List (String × DataW Unit) := Rows.labelTextsRow.laid
theorem env_ofL {W : World} (hL : laidMetH Tryd.prog laidL W) (hs : W.ShapedOpen Tryd.prog) : LibEnv W := by
  rw [MakeChecks.laidMetH_plain _ _ _ (by kernel_rfl)] at hL
  have h3 := hL.tail.tail
  have hp := Lib.tabIs_of_head (k := .u64) (zs := Lib.pow10Tab) gPow gPowT Tryd.underlying140 Tryd.underlying124 (by kernel_rfl) (by kernel_rfl) h3
  obtain ⟨a0, s0, hv0, _⟩ := laid_sentinel h3.tail.tail gRng gRngT Tryd.underlying92 rowE Tryd.underlying146 Tryd.underlying148 rfl rfl Tryd.underlying9 (by kernel_rfl) (by kernel_rfl)
  obtain ⟨a1, s1, hv1, _⟩ := laid_sentinel h3.tail.tail.tail gSyn gSynT Tryd.underlying92 rowE Tryd.underlying146 Tryd.underlying148 rfl rfl Tryd.underlying9 (by kernel_rfl) (by kernel_rfl)
  refine ⟨hp, ?_, Go.Proofs.cell_of_shapedOpen_int (zero := #[.int .i64 0]) (t := 3) hs (of_decide_eq_true (by kernel_rfl)) (by kernel_rfl) rfl (by kernel_rfl) (by kernel_rfl) Tryd.underlying3, ?_, ?_⟩
  · exact World.block_lt_of_cell? W _ (Lib.TabIs.cell hp gPow 0 (by decide))
  · exact ⟨_, by simpa using World.var?_cell gSyn hv1 0, .inr ⟨_, _, rfl⟩⟩
  · exact ⟨_, by simpa using World.var?_cell gRng hv0 0, .inr ⟨_, _, rfl⟩⟩
theorem lay_met (os : Os) (args : Array Value) : laidMetH Tryd.prog laidL ((World.laidAll Tryd.prog os laidL).forCall (fun _ _ => 0) ⟨#[], args, []⟩).memory := by
  rw [MakeChecks.laidMetH_plain _ _ _ (by kernel_rfl)]
  exact laidMet_laidAll _ (by kernel_rfl) (by kernel_rfl)
theorem lay_shaped (os : Os) (args : Array Value) : ((World.laidAll Tryd.prog os laidL).forCall (fun _ _ => 0) ⟨#[], args, []⟩).variablesRefB Tryd.prog = true := by kernel_rfl
section
variable {H : Type} {enc : TypeId × Value → H} {P : Program}
theorem open_u8 {t : TypeId} {W : World} {base : Nat} {v : Value} {d : DataW H} {p : List MemPlace} (ht : P.underlying t = some (.int .u8))
    (hv : Value.okWide P W .any base t v) (h : DataW.Trod enc P W 0 (fun _ => true) true t v d p) : ∃ b : UInt8, v = .int .u8 (b.toNat : Int) := by
  obtain ⟨n, rfl, _, _, w1⟩ := open_int ht hv h
  have e1 : IntKind.min .u8 = 0 := by decide
  have e2 : IntKind.max .u8 = 255 := by decide
  have h2 : 0 ≤ n ∧ n < 256 := by
    simp [Lit.wf, e1, e2] at w1
    omega
  exact ⟨UInt8.ofNat n.toNat, by
    have : (UInt8.ofNat n.toNat).toNat = n.toNat := by simp; omega
    rw [this]
    show Value.int .u8 n = .int .u8 ((n.toNat : Nat) : Int)
    rw [show ((n.toNat : Nat) : Int) = n by omega]⟩
theorem lab_of {n : Int} {c : Int} (h : (Lit.int .u32 c).wf = true) : ∃ x : Lab, x.ok ∧ x.lv = n ∧ (x.c : Int) = c := by
  have h2 : 0 ≤ c ∧ c < 4294967296 := by
    have := h
    have e1 : IntKind.min .u32 = 0 := by decide
    have e2 : IntKind.max .u32 = 4294967295 := by decide
    simp [Lit.wf, e1, e2] at this
    omega
  exact ⟨⟨n, c.toNat⟩, by show c.toNat < 4294967296; omega, rfl, by show ((c.toNat : Nat) : Int) = c; omega⟩
theorem open_lab {t : TypeId} {f0 f1 : Field} {W : World} {base : Nat} {v : Value} {d : DataW H} {p : List MemPlace} (hs : P.underlying t = some (.struct #[f0, f1])) (hone : oneCellFields P #[f0, f1] = true) (hC : P.cellsOf t = 2)
    (h0 : P.underlying f0.type = some (.int .i64)) (h1 : P.underlying f1.type = some (.int .u32))
    (hv : Value.okWide P W .any base t v) (h : DataW.Trod enc P W 0 (fun _ => true) true t v d p) : ∃ x : Lab, v = .agg #[.int .i64 x.lv, .int .u32 (x.c : Int)] ∧ x.ok := by
  obtain ⟨v0, v1, y0, y1, n, rfl, _, _, g0, g1⟩ := open_agg2 hs hone hC hv h
  obtain ⟨n0, e0, _, _⟩ := DataW.trod_int h0 g0
  obtain ⟨n1, e1, _, w1⟩ := DataW.trod_int h1 g1
  simp at e0 e1
  subst e0 e1
  obtain ⟨x, hx, hx1, hx2⟩ := lab_of (n := n0) w1
  exact ⟨x, by rw [hx1, hx2], hx⟩
theorem open_labs {t e : TypeId} {f0 f1 : Field} {W : World} {base : Nat} {v : Value} {d : DataW H} {p : List MemPlace} (ht : P.underlying t = some (.slice e)) (he : P.underlying e = some (.struct #[f0, f1])) (hone : oneCellFields P #[f0, f1] = true) (hC : P.cellsOf e = 2)
    (h0 : P.underlying f0.type = some (.int .i64)) (h1 : P.underlying f1.type = some (.int .u32))
    (hv : Value.okWide P W .any base t v) (h : DataW.Trod enc P W 0 (fun _ => true) true t v d p) :
    ∃ (A : Option Addr) (m c : Nat) (ws : List Lab), v = .slice A m c ∧ m ≤ c ∧ c ≤ maxLen ∧ Arr W 2 encL A m ws ∧ ∀ x ∈ ws, x.ok := by
  obtain ⟨A, m, c, rfl⟩ := okWide_slice ht hv
  obtain ⟨fuel, hf⟩ := h
  rcases Deep.open_slice ht hf with ⟨hcs, _⟩ | ⟨a, len, cap, mm, n, D, Pl, hcs, _, hl, hm, hmm, _, hel⟩
  · have : Value.slice A m c = .slice none 0 0 := by simpa [Value.cells] using hcs
    cases this
    exact ⟨none, 0, 0, [], rfl, by omega, by simp [maxLen], Arr.nil_, by simp⟩
  · have : Value.slice A m c = .slice (some a) len cap := by simpa [Value.cells] using hcs
    cases this
    simp only [if_true] at hmm
    have hw : ∀ i, i < m → ∃ x : Lab, x.ok ∧ ∀ j u, (encL x)[j]? = some u → W.cell? (a.add (i * 2 + j)) = some u := fun i hi => by
      obtain ⟨cs, hc, hd⟩ := hel i (by omega)
      rw [hC] at hc
      obtain ⟨xs, n', _, _, _, hlen, hg⟩ := DataW.trod_struct he hd
      obtain ⟨o0, k0⟩ := hone_of hone 0 f0 rfl
      obtain ⟨o1, k1⟩ := hone_of hone 1 f1 rfl
      obtain ⟨_, hl3, hat⟩ := World.cells?_some hc
      match cs, hl3 with
      | [c0, c1], _ =>
        have g0 := hg 0 f0 rfl
        have g1 := hg 1 f1 rfl
        rw [o0, k0, List.getElem?_eq_getElem (by simp at hlen; omega)] at g0
        rw [o1, k1, List.getElem?_eq_getElem (by simp at hlen; omega)] at g1
        obtain ⟨n0, e0, _, _⟩ := DataW.trod_int h0 g0
        obtain ⟨n1, e1, _, w1⟩ := DataW.trod_int h1 g1
        simp at e0 e1
        subst e0 e1
        obtain ⟨x, hx, hx1, hx2⟩ := lab_of (n := n0) w1
        refine ⟨x, hx, fun j u hu => ?_⟩
        unfold encL at hu
        rw [hx1, hx2] at hu
        have hj : j < 2 := (List.getElem?_eq_some_iff.1 hu).1
        have := hat j hj
        rw [← Go.Deep.add_add, this]
        exact hu
    haveI : Inhabited Lab := ⟨⟨0, 0⟩⟩
    obtain ⟨X, hX⟩ := choose_lt (α := Lab) (p := fun i x => x.ok ∧ ∀ j u, (encL x)[j]? = some u → W.cell? (a.add (i * 2 + j)) = some u) hw
    refine ⟨some a, m, c, (List.range m).map X, rfl, hl, hm, ⟨by simp, fun hpos => ?_⟩, fun x hx => ?_⟩
    · have hc0 := (hX 0 hpos).2 0 _ rfl
      obtain ⟨b, off, spot⟩ := a
      have hs := World.cell?_spot hc0
      have hsp : spot = none := by simpa [Addr.add] using hs
      subst hsp
      refine ⟨b, off, rfl, ?_, fun i hi j u hu => ?_⟩
      · have := World.block_lt_of_cell? W _ hc0
        simpa [Addr.add] using this
      · have hi' : i < m := by simpa using hi
        have := (hX i hi').2 j u (by simpa using hu)
        have e : ∀ k, (⟨b, off, none⟩ : Addr).add k = ⟨b, off + k, none⟩ := fun k => by unfold Addr.add; by_cases h : k = 0 <;> simp [h]
        rw [e, ← Nat.add_assoc] at this
        exact this
    · obtain ⟨i, hi, rfl⟩ := List.mem_map.1 hx
      exact (hX i (List.mem_range.1 hi)).1
end
end Go.Proofs.YtfppagcifcppaaaDoor
