/- Plain words of layer 2 (fix). No Go in sight. -/
/- Plain words of layer 4 (vec). No Go in sight. -/
/- Plain words of layer 13 (conf): the rules. No Go in sight. -/
import Derived.Test.YtfbhcaocfajjpaaDoorQWp
import Derived.Test.YtfbhcaocfajjpaaDoorQWa
namespace Go.Proofs.YtfbhcaocfajjpaaDoor

/-- Does a number fit? -/
def fitB (x : Int) : Bool := decide (-288230376151711744 ≤ x ∧ x ≤ 288230376151711744)
theorem fitB_true {x : Int} : fitB x = true ↔ -288230376151711744 ≤ x ∧ x ≤ 288230376151711744 := decide_eq_true_iff
theorem fitB_false {x : Int} : fitB x = false ↔ ¬ (-288230376151711744 ≤ x ∧ x ≤ 288230376151711744) := decide_eq_false_iff_not
theorem fitB_i64 {x : Int} (h : fitB x = true) : I64 x := by have := fitB_true.1 h; unfold I64; omega
/-- A whole number that fits; the error's number. -/
def toV (z : Int) : Int := if fitB z then z else 0
def toE (z : Int) : Int := if fitB z then 0 else 3
theorem to_fit {z : Int} (h : fitB z = true) : toV z = z ∧ toE z = 0 := by simp [toV, toE, h]
theorem to_not {z : Int} (h : fitB z = false) : toV z = 0 ∧ toE z = 3 := by simp [toV, toE, h]
/-- Of two numbers that fit. -/
def bothV (a b z : Int) : Int := if fitB a && fitB b then toV z else 0
def bothE (a b z : Int) : Int := if fitB a && fitB b then toE z else 1
def clampZ (x m : Int) : Int := if m < 0 then 0 else if m < x then m else if x < -m then -m else x
theorem both_no1 {a b z : Int} (h : fitB a = false) : bothV a b z = 0 ∧ bothE a b z = 1 := by simp [bothV, bothE, h]
theorem both_no2 {a b z : Int} (h : fitB b = false) : bothV a b z = 0 ∧ bothE a b z = 1 := by simp [bothV, bothE, h]
theorem both_yes {a b z : Int} (h : fitB a = true) (h2 : fitB b = true) : bothV a b z = toV z ∧ bothE a b z = toE z := by simp [bothV, bothE, h, h2]
end Go.Proofs.YtfbhcaocfajjpaaDoor

namespace Go.Proofs.YtfbhcaocfajjpaaDoor
set_option linter.unusedSimpArgs false
set_option linter.unusedVariables false
def fits3 (a : Nat → Int) : Bool := fitB (a 0) && (fitB (a 1) && fitB (a 2))
theorem clamp_fit {x : Int} : clampZ x 288230376151711744 = x ↔ fitB x = true := by
  rw [fitB_true]; unfold clampZ; split
  · omega
  · split
    · omega
    · split <;> omega
theorem clamp3_fit {a b c : Int} : ([a, b, c] == [clampZ a 288230376151711744, clampZ b 288230376151711744, clampZ c 288230376151711744]) = (fitB a && (fitB b && fitB c)) := by
  rw [Bool.eq_iff_iff]
  simp only [beq_iff_eq, List.cons.injEq, and_true, Bool.and_eq_true, ← clamp_fit]
  constructor
  · rintro ⟨h1, h2, h3⟩; exact ⟨h1.symm, h2.symm, h3.symm⟩
  · rintro ⟨h1, h2, h3⟩; exact ⟨h1.symm, h2.symm, h3.symm⟩
end Go.Proofs.YtfbhcaocfajjpaaDoor

namespace Go.Proofs.YtfbhcaocfajjpaaDoor

end Go.Proofs.YtfbhcaocfajjpaaDoor
