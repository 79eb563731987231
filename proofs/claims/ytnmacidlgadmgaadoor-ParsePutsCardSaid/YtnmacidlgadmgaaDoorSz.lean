/- A big number's sign. -/
import Derived.WalkKit
namespace Go.Proofs.YtnmacidlgadmgaaDoor
/-- A number's sign, as the reference keeps it. -/
def sg (z : Int) : Bool := decide (z < 0)
theorem sg_true {z : Int} : sg z = true ↔ z < 0 := decide_eq_true_iff
theorem sg_false {z : Int} : sg z = false ↔ ¬ z < 0 := decide_eq_false_iff_not
end Go.Proofs.YtnmacidlgadmgaaDoor
