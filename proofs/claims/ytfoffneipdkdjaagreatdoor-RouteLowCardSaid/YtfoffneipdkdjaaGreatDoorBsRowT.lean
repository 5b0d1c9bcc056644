/- Arguments opened: a list of alerts, with the bounds of their texts. -/
import Derived.Test.YtfoffneipdkdjaaGreatDoorBs15
namespace Go.Proofs.YtfoffneipdkdjaaGreatDoor
open Go.ChangeShapes Go.WideShapes Go.ChangeAt Go.RowKit Go.Deep Go.Joins

section
variable {H : Type} {enc : TypeId × Value → H} {W : World}
/-- An alert of the reference's, with the bounds of its texts. -/
def QAlT (W : World) (y : AlrX) : Prop := QAl W y ∧ ∀ f ∈ y.a.fs, f.n.length ≤ maxLen ∧ f.v.length ≤ maxLen
theorem opens_alrT : OpensC enc W 62 encA (QAlT W) := by
  intro fuel cs x h
  have hl := struct_len Tryz.underlying62 h
  rw [show Tryz.prog.cellsOf 62 = 6 by kernel_rfl] at hl
  obtain ⟨y0, h0, q0⟩ := opens_field Tryz.underlying62 h 0 rfl 0 1 rfl (by kernel_rfl) (opens_str (by kernel_rfl))
  obtain ⟨y1, h1, q1⟩ := opens_field Tryz.underlying62 h 1 rfl 1 1 rfl (by kernel_rfl) opens_flds
  obtain ⟨y2, h2, q2⟩ := opens_field Tryz.underlying62 h 2 rfl 2 2 rfl (by kernel_rfl) opens_lab
  obtain ⟨y3, h3, _⟩ := opens_field Tryz.underlying62 h 3 rfl 4 1 rfl (by kernel_rfl) (opens_int (by kernel_rfl))
  obtain ⟨y4, h4, _⟩ := opens_field Tryz.underlying62 h 4 rfl 5 1 rfl (by kernel_rfl) (opens_int (by kernel_rfl))
  match cs, hl with
  | [c0, c1, c2, c3, c4, c5], _ =>
    simp [encLab] at h0 h1 h2 h3 h4
    obtain ⟨rfl, rfl⟩ := h2
    subst h0 h1 h3 h4
    exact ⟨⟨⟨y0, y1.l, y2, y3, y4⟩, y1.A, y1.m, y1.k⟩, rfl, ⟨q1.1, q1.2.1, q1.2.2.1, q2⟩, q1.2.2.2⟩
theorem opens_alrsT : OpensC enc W 33 (fun (y : SlX AlrX) => [.slice y.A y.m y.k]) (QSl W 6 encA (QAlT W)) :=
  opens_slice Tryz.underlying33 (by kernel_rfl) (fun _ => rfl) (by omega) opens_alrT
end
end Go.Proofs.YtfoffneipdkdjaaGreatDoor
