/- Arguments of a row, opened: a struct of three numbers, a text, an array of three numbers. -/
import Derived.Test.YtfppagcifcppaaaDoorRow
import Derived.ChangeMaps5
import Derived.Laws.IdiomArrays
namespace Go.Proofs.YtfppagcifcppaaaDoor
open Go.ChangeShapes Go.WideShapes Go.ChangeAt Go.RowKit Go.Deep Go.Joins

section
variable {H : Type} {enc : TypeId × Value → H} {P : Program}
theorem open_win {t : TypeId} {f0 f1 f2 : Field} {W : World} {base : Nat} {v : Value} {d : DataW H} {p : List MemPlace} (hs : P.underlying t = some (.struct #[f0, f1, f2])) (hone : oneCellFields P #[f0, f1, f2] = true) (hC : P.cellsOf t = 3)
    (h0 : P.underlying f0.type = some (.int .i64)) (h1 : P.underlying f1.type = some (.int .i64)) (h2 : P.underlying f2.type = some (.int .i64))
    (hv : Value.okWide P W .any base t v) (h : DataW.Trod enc P W 0 (fun _ => true) true t v d p) : ∃ x : Win, v = .agg #[.int .i64 x.p, .int .i64 x.f, .int .i64 x.l] := by
  obtain ⟨v0, v1, v2, y0, y1, y2, n, rfl, _, _, g0, g1, g2⟩ := open_agg3 hs hone hC hv h
  obtain ⟨n0, e0, _, _⟩ := DataW.trod_int h0 g0
  obtain ⟨n1, e1, _, _⟩ := DataW.trod_int h1 g1
  obtain ⟨n2, e2, _, _⟩ := DataW.trod_int h2 g2
  simp at e0 e1 e2
  subst e0 e1 e2
  exact ⟨⟨n0, n1, n2⟩, rfl⟩
theorem open_str {t : TypeId} {W : World} {base : Nat} {v : Value} {d : DataW H} {p : List MemPlace} (ht : P.underlying t = some .string)
    (hv : Value.okWide P W .any base t v) (h : DataW.Trod enc P W 0 (fun _ => true) true t v d p) : ∃ l : List UInt8, v = .string ⟨l.toArray⟩ ∧ l.length ≤ maxLen := by
  obtain ⟨s, rfl, _, _, hm⟩ := Go.ChangeMaps.open_string ht hv h
  exact ⟨s.data.toList, by simp, by rw [Array.length_toList]; exact hm⟩
theorem open_arr3 {t e : TypeId} {W : World} {base : Nat} {v : Value} {d : DataW H} {p : List MemPlace} (ht : P.underlying t = some (.array 3 e)) (he : P.underlying e = some (.int .i64)) (hC : P.cellsOf t = 3) (hCe : P.cellsOf e = 1)
    (hv : Value.okWide P W .any base t v) (h : DataW.Trod enc P W 0 (fun _ => true) true t v d p) : ∃ x y z : Int, v = .agg #[.int .i64 x, .int .i64 y, .int .i64 z] := by
  obtain ⟨cs, rfl, hsz⟩ : ∃ cs, v = .agg cs ∧ cs.size = P.cellsOf t := by
    simp only [Value.okWide, ht] at hv
    obtain ⟨cs, h1, h2, _⟩ := hv
    exact ⟨cs, h1, h2⟩
  obtain ⟨c0, c1, c2, rfl⟩ := array3 (hsz.trans hC)
  obtain ⟨fuel, hf⟩ := h
  obtain ⟨y0, y1, y2, n, _, g0, g1, g2⟩ := trod_array3 ht hCe (by simpa [Value.cells] using hf)
  obtain ⟨n0, e0, _, _⟩ := DataW.trod_int he g0
  obtain ⟨n1, e1, _, _⟩ := DataW.trod_int he g1
  obtain ⟨n2, e2, _, _⟩ := DataW.trod_int he g2
  simp at e0 e1 e2
  subst e0 e1 e2
  exact ⟨n0, n1, n2, rfl⟩
end
end Go.Proofs.YtfppagcifcppaaaDoor
