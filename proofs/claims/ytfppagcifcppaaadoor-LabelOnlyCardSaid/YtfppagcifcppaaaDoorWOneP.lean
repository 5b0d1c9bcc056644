/- Windows: one window handed to the laws' helpers. -/
import Derived.Test.YtfppagcifcppaaaDoorWinL
import Derived.Test.YtfppagcifcppaaaDoorWinM
import Derived.Test.YtfppagcifcppaaaDoorAlt
namespace Go.Proofs.YtfppagcifcppaaaDoor
open Go.RowKit

def OneAt (x : Win) (w : World) (e : Ending) (w' : World) : Prop := ∃ b off c, e = .returned (.slice (some ⟨b, off, none⟩) 1 c) ∧ w'.cell? ⟨b, off, none⟩ = some (.int .i64 x.p) ∧ w'.cell? ⟨b, off + 1, none⟩ = some (.int .i64 x.f) ∧ w'.cell? ⟨b, off + 2, none⟩ = some (.int .i64 x.l) ∧ Arr w' 3 encW (some ⟨b, off, none⟩) 1 [x] ∧ 1 ≤ c ∧ c ≤ maxLen ∧ Grows w w'
theorem one_at {x : Win} {w w' : World} {base : Nat} {e : TypeId} {v : Value} (h : Own w' base e 3 encW v [x]) (hg : Grows w w') : OneAt x w (.returned v) w' := by
  obtain ⟨A, c, rfl, hc, hcm, harr⟩ : ∃ A c, v = .slice A 1 c ∧ 1 ≤ c ∧ c ≤ maxLen ∧ Arr w' 3 encW A 1 [x] := h.arr hkW
  obtain ⟨b, off, y, rfl, _, hy, hcell⟩ := harr.at_ (i := 0) (by omega)
  obtain rfl : x = y := by simpa using hy
  refine ⟨b, off, c, rfl, ?_, ?_, ?_, harr, hc, hcm, hg⟩
  · simpa using hcell 0 _ rfl
  · simpa using hcell 1 _ rfl
  · simpa using hcell 2 _ rfl
theorem back_one (A : Option Addr) (c : Nat) (x : Win) (w : World) (h : Arr w 3 encW A 1 [x]) : Calls Tryd.prog 19 #[.slice A 1 c] w (OneAt x w) :=
  (back_any A 1 c [x] w h (by simp [maxLen])).mono fun _ _ ⟨_, he, ho, hg⟩ => by rw [he]; exact one_at ho hg
theorem good_one (A : Option Addr) (c : Nat) (x : Win) (w : World) (h : Arr w 3 encW A 1 [x]) : Calls Tryd.prog 24 #[.slice A 1 c] w (OneAt (goodW x) w) :=
  (good_any A 1 c [x] w h (by simp [maxLen])).mono fun _ _ ⟨_, he, ho, hg⟩ => by rw [he]; exact one_at ho hg
theorem ext_take (s : List UInt8) (M : Nat) : (⟨s.toArray⟩ : ByteArray).extract 0 M = ⟨(s.take M).toArray⟩ := ByteArray.ext (by simp)
theorem win_eq {x y : Win} : (x = y) ↔ (x.p = y.p ∧ x.f = y.f ∧ x.l = y.l) := by
  cases x; cases y; simp
end Go.Proofs.YtfppagcifcppaaaDoor
