/- Short names for what recurs. -/
import Derived.KernelRfl
import Derived.Lib.Hide
import Derived.WalkKit
import Derived.Deep.RegionHeld
namespace Go.RowKit
theorem Hid.o {p : Prop} (h : Hid p) : p := h.out
end Go.RowKit
namespace Go
theorem Shut.o {p : Prop} (h : Shut p) : p := h.out
end Go
namespace Go.Proofs
open Go.RowKit
theorem ζ {p : Prop} (h : p) : Hid p := Lib.hid h
theorem κ.{u} {α : Sort u} {a b : α} (h : a = b := by kernel_rfl) : a = b := h
theorem χ.{u} {α : Sort u} {a b : α} (h : a = b := by first | rfl | (go_simp; done)) : a = b := h
theorem ω {p : Prop} (h : p := by omega) : p := h
theorem ν {p : Prop} (h : p := by go_num) : p := h
theorem ψ {p : Prop} (h : p := by simp [intOf]; omega) : p := h
theorem δ {p : Prop} (h : p := by decide) : p := h
theorem σ {p : Prop} (h : p := by simp) : p := h
def μ (l f : List Nat) : List (Nat × Bool) := l.map fun i => (i, !f.contains i)
def τ (n k : Nat) : Array Bool := ((List.range n).map fun i => k / 2 ^ i % 2 == 1).toArray
end Go.Proofs
