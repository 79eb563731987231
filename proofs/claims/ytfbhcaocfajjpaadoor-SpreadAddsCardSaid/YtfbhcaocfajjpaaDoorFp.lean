/- Plain words of layer 2 (fix). No Go in sight. -/
/- Plain words of layer 4 (vec). No Go in sight. -/
/- Plain words of layer 13 (conf): the rules. No Go in sight. -/
import Derived.Test.YtfbhcaocfajjpaaDoorWp
import Derived.Test.YtfbhcaocfajjpaaDoorWa
namespace Go.Proofs.YtfbhcaocfajjpaaDoor

/-- Does a number fit? -/
def fitB (x : Int) : Bool := decide (-288230376151711744 ≤ x ∧ x ≤ 288230376151711744)
theorem fitB_true {x : Int} : fitB x = true ↔ -288230376151711744 ≤ x ∧ x ≤ 288230376151711744 := decide_eq_true_iff
theorem fitB_false {x : Int} : fitB x = false ↔ ¬ (-288230376151711744 ≤ x ∧ x ≤ 288230376151711744) := decide_eq_false_iff_not
theorem fitB_i64 {x : Int} (h : fitB x = true) : I64 x := by have := fitB_true.1 h; unfold I64; omega
/-- A whole number that fits; the error's number. -/
def toV (z : Int) : Int := if fitB z then z else 0
def toE (z : Int) : Int := if fitB z then 0 else 3
theorem to_fit {z : Int} (h : fitB z = true) : toV z = z ∧ toE z = 0 := by simp [toV, toE, h]
theorem to_not {z : Int} (h : fitB z = false) : toV z = 0 ∧ toE z = 3 := by simp [toV, toE, h]
/-- Of two numbers that fit. -/
def bothV (a b z : Int) : Int := if fitB a && fitB b then toV z else 0
def bothE (a b z : Int) : Int := if fitB a && fitB b then toE z else 1
def divV (a b z : Int) : Int := if fitB a && fitB b then (if b = 0 then 0 else toV z) else 0
def divE (a b z : Int) : Int := if fitB a && fitB b then (if b = 0 then 4 else toE z) else 1
def mulZ (a b : Int) : Int := evP (a * b) (pow2 40)
def divZ (a b : Int) : Int := ev (a * pow2 40) b
def clampZ (x m : Int) : Int := if m < 0 then 0 else if m < x then m else if x < -m then -m else x
def outZ (x : Int) : Int := evP x (pow2 24)
theorem both_no1 {a b z : Int} (h : fitB a = false) : bothV a b z = 0 ∧ bothE a b z = 1 := by simp [bothV, bothE, h]
theorem both_no2 {a b z : Int} (h : fitB b = false) : bothV a b z = 0 ∧ bothE a b z = 1 := by simp [bothV, bothE, h]
theorem both_yes {a b z : Int} (h : fitB a = true) (h2 : fitB b = true) : bothV a b z = toV z ∧ bothE a b z = toE z := by simp [bothV, bothE, h, h2]
theorem div_no1 {a b z : Int} (h : fitB a = false) : divV a b z = 0 ∧ divE a b z = 1 := by simp [divV, divE, h]
theorem div_no2 {a b z : Int} (h : fitB b = false) : divV a b z = 0 ∧ divE a b z = 1 := by simp [divV, divE, h]
theorem div_zero {a z : Int} (h : fitB a = true) : divV a 0 z = 0 ∧ divE a 0 z = 4 := by
  have : fitB 0 = true := by decide
  simp [divV, divE, h, this]
theorem div_yes {a b z : Int} (h : fitB a = true) (h2 : fitB b = true) (h3 : b ≠ 0) : divV a b z = toV z ∧ divE a b z = toE z := by simp [divV, divE, h, h2, h3]
theorem fit_prod {a b : Int} (h : fitB a = true) (h2 : fitB b = true) : ((a * b).natAbs : Int) ≤ 83076749736557242056487941267521536 := by
  have h1 := fitB_true.1 h
  have h2 := fitB_true.1 h2
  have := mul_le_mul' (a := (a.natAbs : Int)) (b := b.natAbs) 288230376151711744 (by omega) (by omega) (by omega) (by omega)
  rw [prod_abs] at this
  omega
theorem pow2_40 : pow2 40 = 1099511627776 := by decide
theorem up_40 {a : Int} (h : fitB a = true) : W128 (a * pow2 40) := by
  have := fitB_true.1 h
  rw [pow2_40]; unfold W128; omega
theorem out_i64 {x : Int} (h : I64 x) : I64 (outZ x) := by
  have e : pow2 24 = 16777216 := by decide
  unfold outZ evP; rw [e]; unfold I64 at *; split <;> omega
end Go.Proofs.YtfbhcaocfajjpaaDoor

namespace Go.Proofs.YtfbhcaocfajjpaaDoor
set_option linter.unusedSimpArgs false
set_option linter.unusedVariables false
def fits3 (a : Nat → Int) : Bool := fitB (a 0) && (fitB (a 1) && fitB (a 2))
/-- The first error of three; a number, if there is none. -/
def eE (e0 e1 e2 : Int) : Int := if e0 = 0 then (if e1 = 0 then e2 else e1) else e0
def eV (e0 e1 e2 x : Int) : Int := if e0 = 0 ∧ e1 = 0 ∧ e2 = 0 then x else 0
theorem each_1 {e0 e1 e2 : Int} (h : ¬ e0 = 0) : eE e0 e1 e2 = e0 ∧ ∀ x, eV e0 e1 e2 x = 0 := by
  refine ⟨by simp [eE, h], fun x => by simp [eV, h]⟩
theorem each_2 {e0 e1 e2 : Int} (h0 : e0 = 0) (h : ¬ e1 = 0) : eE e0 e1 e2 = e1 ∧ ∀ x, eV e0 e1 e2 x = 0 := by
  refine ⟨by simp [eE, h0, h], fun x => by simp [eV, h]⟩
theorem each_3 {e0 e1 e2 : Int} (h0 : e0 = 0) (h1 : e1 = 0) (h : ¬ e2 = 0) : eE e0 e1 e2 = e2 ∧ ∀ x, eV e0 e1 e2 x = 0 := by
  refine ⟨by simp [eE, h0, h1], fun x => by simp [eV, h]⟩
theorem each_4 {e0 e1 e2 : Int} (h0 : e0 = 0) (h1 : e1 = 0) (h2 : e2 = 0) : eE e0 e1 e2 = 0 ∧ ∀ x, eV e0 e1 e2 x = x := by
  refine ⟨by simp [eE, h0, h1, h2], fun x => by simp [eV, h0, h1, h2]⟩
theorem clamp_fit {x : Int} : clampZ x 288230376151711744 = x ↔ fitB x = true := by
  rw [fitB_true]; unfold clampZ; split
  · omega
  · split
    · omega
    · split <;> omega
theorem clamp3_fit {a b c : Int} : ([a, b, c] == [clampZ a 288230376151711744, clampZ b 288230376151711744, clampZ c 288230376151711744]) = (fitB a && (fitB b && fitB c)) := by
  rw [Bool.eq_iff_iff]
  simp only [beq_iff_eq, List.cons.injEq, and_true, Bool.and_eq_true, ← clamp_fit]
  constructor
  · rintro ⟨h1, h2, h3⟩; exact ⟨h1.symm, h2.symm, h3.symm⟩
  · rintro ⟨h1, h2, h3⟩; exact ⟨h1.symm, h2.symm, h3.symm⟩
/-- The rows' sum; a row times a number; the dot. -/
def vaddX (a b : Nat → Int) (i : Nat) : Int := bothV (a i) (b i) (a i + b i)
def vaddY (a b : Nat → Int) (i : Nat) : Int := bothE (a i) (b i) (a i + b i)
def vaddV (a b : Nat → Int) (i : Nat) : Int := if fits3 a && fits3 b then eV (vaddY a b 0) (vaddY a b 1) (vaddY a b 2) (vaddX a b i) else 0
def vaddE (a b : Nat → Int) : Int := if fits3 a && fits3 b then eE (vaddY a b 0) (vaddY a b 1) (vaddY a b 2) else 1
def vscX (a : Nat → Int) (k : Int) (i : Nat) : Int := bothV (a i) k (mulZ (a i) k)
def vscY (a : Nat → Int) (k : Int) (i : Nat) : Int := bothE (a i) k (mulZ (a i) k)
def vscV (a : Nat → Int) (k : Int) (i : Nat) : Int := if fits3 a && fitB k then eV (vscY a k 0) (vscY a k 1) (vscY a k 2) (vscX a k i) else 0
def vscE (a : Nat → Int) (k : Int) : Int := if fits3 a && fitB k then eE (vscY a k 0) (vscY a k 1) (vscY a k 2) else 1
def dotS (a b : Nat → Int) : Int := a 0 * b 0 + a 1 * b 1 + a 2 * b 2
def dotV (a b : Nat → Int) : Int := if fits3 a && fits3 b then toV (evP (dotS a b) (pow2 40)) else 0
def dotE (a b : Nat → Int) : Int := if fits3 a && fits3 b then toE (evP (dotS a b) (pow2 40)) else 1
theorem vadd_no {a b : Nat → Int} (h : (fits3 a && fits3 b) = false) : vaddE a b = 1 ∧ ∀ i, vaddV a b i = 0 := ⟨by simp [vaddE, h], fun i => by simp [vaddV, h]⟩
theorem vadd_yes {a b : Nat → Int} (h : fits3 a = true) (h2 : fits3 b = true) : vaddE a b = eE (vaddY a b 0) (vaddY a b 1) (vaddY a b 2) ∧ ∀ i, vaddV a b i = eV (vaddY a b 0) (vaddY a b 1) (vaddY a b 2) (vaddX a b i) :=
  ⟨by simp [vaddE, h, h2], fun i => by simp [vaddV, h, h2]⟩
theorem vsc_no {a : Nat → Int} {k : Int} (h : (fits3 a && fitB k) = false) : vscE a k = 1 ∧ ∀ i, vscV a k i = 0 := ⟨by simp [vscE, h], fun i => by simp [vscV, h]⟩
theorem vsc_yes {a : Nat → Int} {k : Int} (h : fits3 a = true) (h2 : fitB k = true) : vscE a k = eE (vscY a k 0) (vscY a k 1) (vscY a k 2) ∧ ∀ i, vscV a k i = eV (vscY a k 0) (vscY a k 1) (vscY a k 2) (vscX a k i) :=
  ⟨by simp [vscE, h, h2], fun i => by simp [vscV, h, h2]⟩
theorem dot_no {a b : Nat → Int} (h : (fits3 a && fits3 b) = false) : dotV a b = 0 ∧ dotE a b = 1 := by simp [dotV, dotE, h]
theorem dot_yes {a b : Nat → Int} (h : fits3 a = true) (h2 : fits3 b = true) : dotV a b = toV (evP (dotS a b) (pow2 40)) ∧ dotE a b = toE (evP (dotS a b) (pow2 40)) := by simp [dotV, dotE, h, h2]
theorem fits3_at {a : Nat → Int} (h : fits3 a = true) : fitB (a 0) = true ∧ fitB (a 1) = true ∧ fitB (a 2) = true := by
  unfold fits3 at h; simp only [Bool.and_eq_true] at h; exact h
end Go.Proofs.YtfbhcaocfajjpaaDoor

namespace Go.Proofs.YtfbhcaocfajjpaaDoor

/-- Is a number from one to another one? -/
def wiB (x lo hi : Int) : Bool := decide (lo ≤ x ∧ x ≤ hi)
theorem wiB_true {x lo hi : Int} : wiB x lo hi = true ↔ lo ≤ x ∧ x ≤ hi := decide_eq_true_iff
theorem wiB_false {x lo hi : Int} : wiB x lo hi = false ↔ ¬ (lo ≤ x ∧ x ≤ hi) := decide_eq_false_iff_not
/-- The rules of a configuration, whose numbers stand in the order of its fields: Q 0, Loose 3, R 6, RGround 7, Start 8, Floor 11, Ceil 14, Bound 17, Gate 20, Table 21, Scale 24, Rest 25, Clip 26, Hold 27, Coast 28, Out 29, Band 30. -/
def may1 (f g : Int) : Bool := decide (0 ≤ f ∧ f ≤ g ∧ g ≤ 288230376151711744)
def mayB (f g : Nat → Int) : Bool := may1 (f 0) (g 0) && (may1 (f 1) (g 1) && may1 (f 2) (g 2))
def ruleB (c : Nat → Int) : Nat → Bool
  | 1 => wiB (c 0) 0 1125899906842624 && (wiB (c 1) 0 1125899906842624 && wiB (c 2) 0 1125899906842624)
  | 2 => wiB (c 3) (c 0) 1125899906842624 && (wiB (c 4) (c 1) 1125899906842624 && wiB (c 5) (c 2) 1125899906842624)
  | 3 => wiB (c 6) 274877906944 1125899906842624
  | 4 => wiB (c 7) (c 6) 1125899906842624
  | 5 => mayB (fun i => c (11 + i)) (fun i => c (14 + i)) && (decide (c 14 ≤ 72057594037927936) && (decide (c 15 ≤ 72057594037927936) && decide (c 16 ≤ 72057594037927936)))
  | 6 => wiB (c 8) (c 11) (c 14) && (wiB (c 9) (c 12) (c 15) && wiB (c 10) (c 13) (c 16))
  | 7 => wiB (c 17) 0 72057594037927936 && (wiB (c 18) 0 72057594037927936 && wiB (c 19) 0 72057594037927936) && decide (18014398509481984 ≤ c 17)
  | 8 => wiB (c 20) 1 1000
  | 9 => wiB (c 21) (-4398046511104) 4398046511104 && (wiB (c 22) (-4398046511104) 4398046511104 && wiB (c 23) (-4398046511104) 4398046511104) && wiB (c 21) 0 1099511627776
  | 10 => wiB (c 24) 1 1099511627776
  | 11 => wiB (c 26) 1 131072 && (decide (-c 26 < c 25) && decide (c 25 < c 26))
  | 12 => wiB (c 27) 0 1000
  | 13 => wiB (c 28) 1 (c 29) && decide (c 29 ≤ 100000)
  | 14 => wiB (c 30) 0 400000
  | _ => true
/-- The first rule that isn't kept, from the k-th one on; n are left. -/
def firstC (c : Nat → Int) : Nat → Nat → Int
  | 0, _ => 0
  | n + 1, k => if ruleB c k then firstC c n (k + 1) else k
def ckC (c : Nat → Int) : Int := firstC c 14 1
end Go.Proofs.YtfbhcaocfajjpaaDoor
