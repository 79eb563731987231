/- Plain laws of the reference's quotient, bit by bit. -/
import Derived.Test.YtgodfbhjfhdihaaDoorRs
import Derived.Test.YtgodfbhjfhdihaaDoorWp
namespace Go.Proofs.YtgodfbhjfhdihaaDoor
open Go.RowKit

/-- A number's size, without its lowest k bits. -/
def up2 (a : Int) (k : Nat) : Int := (a.natAbs : Int) / pow2 k
theorem pow2_nat (k : Nat) : pow2 k = ((2 ^ k : Nat) : Int) := by
  induction k with
  | zero => rfl
  | succ k ih => rw [pow2_succ, ih, Nat.pow_succ, Int.natCast_mul, Int.mul_comm]; rfl
theorem up2_nat (a : Int) (k : Nat) : up2 a k = ((a.natAbs / 2 ^ k : Nat) : Int) := by unfold up2; rw [pow2_nat]; rfl
theorem up2_zero (a : Int) : up2 a 0 = a.natAbs := by simp [up2, pow2]
theorem up2_nonneg (a : Int) (k : Nat) : 0 ≤ up2 a k := by rw [up2_nat]; exact Int.natCast_nonneg _
theorem up2_top (a : Int) : up2 a (16 * nd a) = 0 := by
  have h := nd_lt a
  have e : pow2 (16 * nd a) = pB (nd a) := by unfold pow2 pB; rw [Int.pow_mul]; rfl
  unfold up2; rw [e]
  exact Int.ediv_eq_zero_of_lt (by omega) h
/-- The bit at a place, as the code takes it out of the digits. -/
theorem bit_digit (a : Int) (m : Nat) : ((digs a.natAbs).getD (m / 16) 0) / pow2 (m % 16) % 2 = up2 a m % 2 := by
  rw [digs_getD, pow2_nat, up2_nat]
  have h1 : a.natAbs / 2 ^ m = a.natAbs / 65536 ^ (m / 16) / 2 ^ (m % 16) := by
    rw [Nat.div_div_eq_div_mul]
    congr 1
    rw [show (65536 : Nat) = 2 ^ 16 from rfl, ← Nat.pow_mul, ← Nat.pow_add]
    congr 1; omega
  have h2 : (a.natAbs / 65536 ^ (m / 16) % 65536) / 2 ^ (m % 16) % 2 = a.natAbs / 65536 ^ (m / 16) / 2 ^ (m % 16) % 2 := by
    have e : (65536 : Nat) = 2 ^ (m % 16) * 2 ^ (16 - m % 16) := by
      rw [← Nat.pow_add, show m % 16 + (16 - m % 16) = 16 from by omega]
    generalize a.natAbs / 65536 ^ (m / 16) = X
    rw [e, Nat.mod_mul_right_div_self]
    exact Nat.mod_mod_of_dvd _ ⟨2 ^ (15 - m % 16), by rw [← Nat.pow_succ']; congr 1; omega⟩
  rw [h1]
  exact (congrArg (fun n : Nat => (n : Int)) h2 :)
theorem up2_step (a : Int) (m : Nat) : up2 a m = 2 * up2 a (m + 1) + up2 a m % 2 := by
  have : up2 a (m + 1) = up2 a m / 2 := by
    rw [up2_nat, up2_nat, Nat.pow_succ, ← Nat.div_div_eq_div_mul]; rfl
  omega
/-- One bit more: what is left, and the quotient. -/
theorem down_step {X Y bit b : Int} (hb : 0 < b) (h : X = 2 * Y + bit) (hbit : bit = 0 ∨ bit = 1) :
    (2 * (Y % b) + bit < b → X % b = 2 * (Y % b) + bit ∧ X / b = 2 * (Y / b)) ∧ (¬ 2 * (Y % b) + bit < b → X % b = 2 * (Y % b) + bit - b ∧ X / b = 2 * (Y / b) + 1) := by
  have h1 := Int.mul_ediv_add_emod Y b
  have h2 := Int.emod_nonneg Y (show b ≠ 0 by omega)
  have h3 := Int.emod_lt_of_pos Y hb
  have e : b * (2 * (Y / b)) = 2 * (b * (Y / b)) := Int.mul_left_comm ..
  refine ⟨fun hl => ?_, fun hl => ?_⟩
  · have := (Int.ediv_emod_unique hb (a := X) (r := 2 * (Y % b) + bit) (q := 2 * (Y / b))).2 ⟨by rw [e]; omega, by omega, by omega⟩
    exact ⟨this.2, this.1⟩
  · have e2 : b * (2 * (Y / b) + 1) = 2 * (b * (Y / b)) + b := by rw [Int.mul_add, e, Int.mul_one]
    have := (Int.ediv_emod_unique hb (a := X) (r := 2 * (Y % b) + bit - b) (q := 2 * (Y / b) + 1)).2 ⟨by rw [e2]; omega, by omega, by omega⟩
    exact ⟨this.2, this.1⟩
end Go.Proofs.YtgodfbhjfhdihaaDoor
