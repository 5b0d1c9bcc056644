/- A cut that forgets what some slots hold: the walk goes on with any values in them that R tells of. -/
import Derived.Test.YtfppagcifcppaaaDoorCut
import Derived.Test.YtfppagcifcppaaaDoorCom
namespace Go.Proofs.YtfppagcifcppaaaDoor
open Go.RowKit

def resetAll (is : List Nat) (a : Act) : Act := is.foldl (fun a i => a.put (some i) undef) a
def fillAll (f : Nat → Value) (is : List Nat) (a : Act) : Act := is.foldl (fun a i => a.put (some i) (f i)) a
theorem size_reset : ∀ (is : List Nat) (a : Act), (resetAll is a).tmps.size = a.tmps.size ∧ (resetAll is a).defers = a.defers
  | [], _ => ⟨rfl, rfl⟩
  | i :: is, a => by
    have h := size_reset is (a.put (some i) undef)
    exact ⟨h.1.trans (by simp [Act.put]), h.2.trans rfl⟩
theorem size_fill (f : Nat → Value) : ∀ (is : List Nat) (a : Act), (fillAll f is a).tmps.size = a.tmps.size ∧ (fillAll f is a).defers = a.defers
  | [], _ => ⟨rfl, rfl⟩
  | i :: is, a => by
    have h := size_fill f is (a.put (some i) (f i))
    exact ⟨h.1.trans (by simp [Act.put]), h.2.trans rfl⟩
theorem at_reset : ∀ (is : List Nat) (a : Act) (j : Nat), j ∉ is → (resetAll is a).tmps[j]? = a.tmps[j]?
  | [], _, _, _ => rfl
  | i :: is, a, j, h => by
    have h1 := at_reset is (a.put (some i) undef) j (fun hj => h (List.mem_cons_of_mem _ hj))
    have hij : i ≠ j := fun e => h (by simp [e])
    exact h1.trans (by simp [Act.put, hij])
theorem at_fill_no (f : Nat → Value) : ∀ (is : List Nat) (a : Act) (j : Nat), j ∉ is → (fillAll f is a).tmps[j]? = a.tmps[j]?
  | [], _, _, _ => rfl
  | i :: is, a, j, h => by
    have h1 := at_fill_no f is (a.put (some i) (f i)) j (fun hj => h (List.mem_cons_of_mem _ hj))
    have hij : i ≠ j := fun e => h (by simp [e])
    exact h1.trans (by simp [Act.put, hij])
theorem at_fill_yes (f : Nat → Value) : ∀ (is : List Nat) (a : Act) (j : Nat), j ∈ is → j < a.tmps.size → (fillAll f is a).tmps[j]? = some (f j)
  | [], _, _, h, _ => by simp at h
  | i :: is, a, j, h, hj => by
    by_cases hm : j ∈ is
    · exact at_fill_yes f is (a.put (some i) (f i)) j hm (by simpa [Act.put] using hj)
    · have hij : i = j := by
        rcases List.mem_cons.1 h with e | e
        · exact e.symm
        · exact absurd e hm
      subst hij
      exact (at_fill_no f is (a.put (some i) (f i)) i hm).trans (by simp [Act.put, hj])
theorem fill_reset (is : List Nat) (a : Act) : a = fillAll (fun i => a.tmps.getD i undef) is (resetAll is a) := by
  obtain ⟨s1, d1⟩ := size_reset is a
  obtain ⟨s2, d2⟩ := size_fill (fun i => a.tmps.getD i undef) is (resetAll is a)
  have ht : a.tmps = (fillAll (fun i => a.tmps.getD i undef) is (resetAll is a)).tmps := by
    apply Array.ext_getElem?
    intro j
    by_cases hj : j < a.tmps.size
    · by_cases hm : j ∈ is
      · rw [at_fill_yes _ is _ j hm (by rw [s1]; exact hj)]
        simp [hj]
      · rw [at_fill_no _ is _ j hm, at_reset is a j hm]
    · rw [Array.getElem?_eq_none (by omega), Array.getElem?_eq_none (by rw [s2, s1]; omega)]
  have hd : a.defers = (fillAll (fun i => a.tmps.getD i undef) is (resetAll is a)).defers := (d2.trans d1).symm
  cases a
  generalize fillAll _ _ _ = b at *
  cases b
  simp only at ht hd
  subst ht hd
  rfl
def AfterToS (is : List Nat) (F : Act) (R : (Nat → Value) → World → Prop) (e : Exit) (a : Act) (w : World) : Prop := match e with
  | .normal => resetAll is a = F ∧ R (fun i => a.tmps.getD i undef) w
  | _ => False
theorem wp_cutS {P : Program} {c : Code} {Q : Exit → Act → World → Prop} {a : Act} {w : World} (is : List Nat) (F : Act) (R : (Nat → Value) → World → Prop) (h1 : c.wp P (AfterToS is F R) a w) (h2 : ∀ f w', R f w' → Q .normal (fillAll f is F) w') : c.wp P Q a w :=
  Code.wp_mono (fun e a' w' h => by
    cases e with
    | normal =>
      obtain ⟨rfl, h⟩ := h
      have := h2 _ w' h
      rwa [← fill_reset] at this
    | _ => exact h.elim) h1
end Go.Proofs.YtfppagcifcppaaaDoor
