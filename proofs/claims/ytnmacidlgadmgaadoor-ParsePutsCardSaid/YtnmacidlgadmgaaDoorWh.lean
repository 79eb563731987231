/- Walks of the layer 'wide', seventh part: the quotient, bit by bit. -/
import Derived.Test.YtnmacidlgadmgaaDoorWc
import Derived.Scope
import Derived.ScopeJumps
namespace Go.Proofs.YtnmacidlgadmgaaDoor
open Go.RowKit
attribute [local go_sem] nlt2 nlt3 nlt4 nlt5 nlt6 nlt7 nlt8 nlt9 nlt10 nlt11 nlt12

theorem jump_mono {l : Nat} {J J' : Act → World → Prop} {Q : Exit → Act → World → Prop} (h : ∀ a w, J' a w → J a w) : ∀ e a w, Exit.jump l J' Q e a w → Exit.jump l J Q e a w := by
  intro e a w hh
  cases e <;> first | exact hh | exact ⟨hh.1, h _ _ hh.2⟩

theorem skip_seq {P : Program} {y : Code} {Q : Exit → Act → World → Prop} {a : Act} {w : World} (h : y.wp P Q a w) : (Code.seq .skip y).wp P Q a w := wp_seq (wp_skip h)

/-- A body whose label is gone back to: what goes on from the label serves for the first time as for each other. -/
theorem scope_again {P : Program} {c y : Code} {Q : Exit → Act → World → Prop} {a : Act} {w : World} (l : Nat) (J : Act → World → Prop) (μ : Act → World → Nat) (hf : findLabel c l = some (.seq .skip y))
    (first : (∀ a w, J a w → y.wp P (Exit.jump l J Q) a w) → c.wp P (Exit.jump l J Q) a w)
    (pass : ∀ a w, J a w → y.wp P (Exit.jump l (fun a' w' => J a' w' ∧ μ a' w' < μ a w) Q) a w) : (Code.scope c).wp P Q a w :=
  wp_scope_jumps l J μ hf (first (fun a w h => Code.wp_mono (jump_mono (fun _ _ k => k.1)) (pass a w h))) (fun a w h => skip_seq (pass a w h))

end Go.Proofs.YtnmacidlgadmgaaDoor
