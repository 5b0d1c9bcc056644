/- The library's functions by their contracts: numbers to text and back, cutting. -/
import Derived.Test.YtfppagcifcppaaaDoorKit
import Derived.Test.YtfppagcifcppaaaDoorShelf
import Derived.Test.YtfppagcifcppaaaDoorNum
namespace Go.Proofs.YtfppagcifcppaaaDoor
open Go.RowKit

theorem var?_grows {P : Program} {w w' : World} {nm : String} {g : Nat} {cs : Array Value} (h : Grows w w') (hg : P.globalNamed nm = some g) (hv : w.var? P nm = some cs) (hlt : g < w.heap.size) : w'.var? P nm = some cs := var?_below h hg hlt hv
/-- What start-up lays, as far as the library's functions read it. -/
structure LibEnv (w : World) : Prop where
  pow : Lib.TabIs Tryd.prog w "internal/strconv.uint64pow10" .u64 Lib.pow10Tab
  powg : 3 < w.heap.size
  most : ∃ m, w.cell? ⟨0, 0, none⟩ = some (.int .i64 m)
  syn : ∃ ev, w.cell? ⟨1, 0, none⟩ = some ev ∧ (ev = .nilIface ∨ ∃ te pe, ev = .iface te pe)
  rng : ∃ ev, w.cell? ⟨2, 0, none⟩ = some ev ∧ (ev = .nilIface ∨ ∃ te pe, ev = .iface te pe)
theorem LibEnv.grows {w w' : World} (h : LibEnv w) (hg : Grows w w') : LibEnv w' where
  pow := var?_grows hg (by kernel_rfl) h.pow h.powg
  powg := Nat.lt_of_lt_of_le h.powg hg.size
  most := by obtain ⟨m, hm⟩ := h.most; exact ⟨m, hg.cell hm⟩
  syn := by obtain ⟨m, hm, h2⟩ := h.syn; exact ⟨m, hg.cell hm, h2⟩
  rng := by obtain ⟨m, hm, h2⟩ := h.rng; exact ⟨m, hg.cell hm, h2⟩

theorem grow_grows (w : World) (k : Nat) (os : Array Obj) : Grows w (Go.Sort.grow (w.drewN k) os) :=
  ⟨rfl, rfl, rfl, by show w.heap.size ≤ (w.heap ++ os).size; simp, fun j hj => by show (w.heap ++ os)[j]? = _; rw [Array.getElem?_append_left hj]⟩
theorem itoa_any (n : Int) (h0 : -9223372036854775808 ≤ n) (h1 : n ≤ 9223372036854775807) (w : World) (he : LibEnv w) :
    Calls Tryd.prog 62 #[.int .i64 n] w fun e w' => e = .returned (.string ⟨(Lib.itoa n).toArray⟩) ∧ Grows w w' :=
  (Any.strconv_Itoa Tryd.laysM171 n h0 h1 w he.pow).mono fun _ _ ⟨e, k, os, hw⟩ => ⟨e, by rw [hw]; exact grow_grows w k os⟩
def ErrIs (ok : Bool) (ev : Value) : Prop := (ok = true ∧ ev = .nilIface) ∨ (ok = false ∧ ∃ N, ev = .iface 116 (.pointer (some ⟨N, 0, none⟩)))
def AtoiPost (l : List UInt8) (w : World) (e : Ending) (w' : World) : Prop := ∃ ev, e = .returned (.tuple #[.int .i64 (atoiV l), ev]) ∧ ErrIs (atoiOk l) ev ∧ Grows w w'
theorem atoi_any (s : ByteArray) (hs : s.size ≤ 281474976710656) (w : World) (he : LibEnv w) : Calls Tryd.prog 64 #[.string s] w (AtoiPost s.data.toList w) := by
  cases h : Lib.atoiAll s.data.toList
  case ok v =>
    refine (Any.strconv_Atoi_ok Tryd.laysC172 s (by omega) v h w).mono fun e w' ⟨e1, hw⟩ => ⟨.nilIface, ?_, .inl ⟨?_, rfl⟩, ?_⟩
    · rw [e1]; unfold atoiV; rw [h]
    · unfold atoiOk; rw [h]
    · rcases hw with rfl | ⟨t, rfl⟩
      · exact Grows.refl _
      · exact Lib.bytesWorld_below w _ t
  case range =>
    obtain ⟨ev, hv, hev⟩ := he.rng
    refine (Any.strconv_Atoi_range Tryd.laysC172 s hs h ev w hv hev).mono fun e w' ⟨N, e1, _, _, hb⟩ => ⟨_, by rw [e1]; unfold atoiV; rw [h]; rfl, .inr ⟨by unfold atoiOk; rw [h], N, rfl⟩, hb⟩
  all_goals
    obtain ⟨ev, hv, hev⟩ := he.syn
    refine (Any.strconv_Atoi_syntax Tryd.laysC172 s hs h ev w hv hev).mono fun e w' ⟨N, e1, _, _, hb⟩ => ⟨_, by rw [e1]; unfold atoiV; rw [h]; rfl, .inr ⟨by unfold atoiOk; rw [h], N, rfl⟩, hb⟩
theorem cut_any (s sep : ByteArray) (hs : s.size < 4294967281) (w : World) (he : LibEnv w) :
    Calls Tryd.prog 63 #[.string s, .string sep] w fun e w' => e = .returned (.tuple #[.string ⟨(Lib.cut s.data.toList sep.data.toList).1.toArray⟩, .string ⟨(Lib.cut s.data.toList sep.data.toList).2.1.toArray⟩, .bool (Lib.cut s.data.toList sep.data.toList).2.2]) ∧ Grows w w' := by
  obtain ⟨m, hm⟩ := he.most
  exact (Any.strings_Cut Tryd.lays145 s sep m w hs hm).mono fun e w' ⟨e1, k, hw⟩ => ⟨e1, by rw [hw]; exact (Grows.refl w).drewN k⟩
end Go.Proofs.YtfppagcifcppaaaDoor
