/- Plain words of layer 2 (fix). No Go in sight. -/
import Derived.Test.YtlinfennhfphiaaDoorWp
namespace Go.Proofs.YtlinfennhfphiaaDoor

/-- Does a number fit? -/
def fitB (x : Int) : Bool := decide (-288230376151711744 ≤ x ∧ x ≤ 288230376151711744)
theorem fitB_true {x : Int} : fitB x = true ↔ -288230376151711744 ≤ x ∧ x ≤ 288230376151711744 := decide_eq_true_iff
theorem fitB_false {x : Int} : fitB x = false ↔ ¬ (-288230376151711744 ≤ x ∧ x ≤ 288230376151711744) := decide_eq_false_iff_not
theorem fitB_i64 {x : Int} (h : fitB x = true) : I64 x := by have := fitB_true.1 h; unfold I64; omega
/-- A whole number that fits; the error's number. -/
def toV (z : Int) : Int := if fitB z then z else 0
def toE (z : Int) : Int := if fitB z then 0 else 3
theorem to_fit {z : Int} (h : fitB z = true) : toV z = z ∧ toE z = 0 := by simp [toV, toE, h]
theorem to_not {z : Int} (h : fitB z = false) : toV z = 0 ∧ toE z = 3 := by simp [toV, toE, h]
/-- Of two numbers that fit. -/
def bothV (a b z : Int) : Int := if fitB a && fitB b then toV z else 0
def bothE (a b z : Int) : Int := if fitB a && fitB b then toE z else 1
def divV (a b z : Int) : Int := if fitB a && fitB b then (if b = 0 then 0 else toV z) else 0
def divE (a b z : Int) : Int := if fitB a && fitB b then (if b = 0 then 4 else toE z) else 1
def mulZ (a b : Int) : Int := evP (a * b) (pow2 40)
def divZ (a b : Int) : Int := ev (a * pow2 40) b
def clampZ (x m : Int) : Int := if m < 0 then 0 else if m < x then m else if x < -m then -m else x
def outZ (x : Int) : Int := evP x (pow2 24)
theorem both_no1 {a b z : Int} (h : fitB a = false) : bothV a b z = 0 ∧ bothE a b z = 1 := by simp [bothV, bothE, h]
theorem both_no2 {a b z : Int} (h : fitB b = false) : bothV a b z = 0 ∧ bothE a b z = 1 := by simp [bothV, bothE, h]
theorem both_yes {a b z : Int} (h : fitB a = true) (h2 : fitB b = true) : bothV a b z = toV z ∧ bothE a b z = toE z := by simp [bothV, bothE, h, h2]
theorem div_no1 {a b z : Int} (h : fitB a = false) : divV a b z = 0 ∧ divE a b z = 1 := by simp [divV, divE, h]
theorem div_no2 {a b z : Int} (h : fitB b = false) : divV a b z = 0 ∧ divE a b z = 1 := by simp [divV, divE, h]
theorem div_zero {a z : Int} (h : fitB a = true) : divV a 0 z = 0 ∧ divE a 0 z = 4 := by
  have : fitB 0 = true := by decide
  simp [divV, divE, h, this]
theorem div_yes {a b z : Int} (h : fitB a = true) (h2 : fitB b = true) (h3 : b ≠ 0) : divV a b z = toV z ∧ divE a b z = toE z := by simp [divV, divE, h, h2, h3]
theorem fit_prod {a b : Int} (h : fitB a = true) (h2 : fitB b = true) : ((a * b).natAbs : Int) ≤ 83076749736557242056487941267521536 := by
  have h1 := fitB_true.1 h
  have h2 := fitB_true.1 h2
  have := mul_le_mul' (a := (a.natAbs : Int)) (b := b.natAbs) 288230376151711744 (by omega) (by omega) (by omega) (by omega)
  rw [prod_abs] at this
  omega
theorem pow2_40 : pow2 40 = 1099511627776 := by decide
theorem up_40 {a : Int} (h : fitB a = true) : W128 (a * pow2 40) := by
  have := fitB_true.1 h
  rw [pow2_40]; unfold W128; omega
theorem out_i64 {x : Int} (h : I64 x) : I64 (outZ x) := by
  have e : pow2 24 = 16777216 := by decide
  unfold outZ evP; rw [e]; unfold I64 at *; split <;> omega
end Go.Proofs.YtlinfennhfphiaaDoor
