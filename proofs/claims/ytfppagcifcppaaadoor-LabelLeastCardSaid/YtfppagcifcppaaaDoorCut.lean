/- A piece of code whose ways meet again: what holds after it is told once, and its temporaries are left to unification. -/
import Derived.Test.YtfppagcifcppaaaDoorLLaw
import Derived.Test.YtfppagcifcppaaaDoorAlt
namespace Go.Proofs.YtfppagcifcppaaaDoor
open Go.RowKit

def AfterTo (F : Act) (R : World → Prop) (e : Exit) (a : Act) (w : World) : Prop := match e with
  | .normal => a = F ∧ R w
  | _ => False
def AfterTo2 (F : Nat → Nat → Act) (R : Nat → Nat → World → Prop) (e : Exit) (a : Act) (w : World) : Prop := match e with
  | .normal => ∃ g h, a = F g h ∧ R g h w
  | _ => False
theorem wp_cut {P : Program} {c : Code} {Q : Exit → Act → World → Prop} {a : Act} {w : World} (F : Act) (R : World → Prop) (h1 : c.wp P (AfterTo F R) a w) (h2 : ∀ w', R w' → Q .normal F w') : c.wp P Q a w :=
  Code.wp_mono (fun e a' w' h => by
    cases e with
    | normal => obtain ⟨rfl, h⟩ := h; exact h2 w' h
    | _ => exact h.elim) h1
theorem wp_cut2 {P : Program} {c : Code} {Q : Exit → Act → World → Prop} {a : Act} {w : World} (F : Nat → Nat → Act) (R : Nat → Nat → World → Prop) (h1 : c.wp P (AfterTo2 F R) a w) (h2 : ∀ g h w', R g h w' → Q .normal (F g h) w') : c.wp P Q a w :=
  Code.wp_mono (fun e a' w' h => by
    cases e with
    | normal => obtain ⟨g, g', rfl, h⟩ := h; exact h2 g g' w' h
    | _ => exact h.elim) h1
end Go.Proofs.YtfppagcifcppaaaDoor
