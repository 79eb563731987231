/- Plain laws of halving and of quotients rounded to even. No Go in sight. -/
import Derived.Test.YtfbhcaocfajjpaaDoorQWa
import Derived.Laws.Bits64b
namespace Go.Proofs.YtfbhcaocfajjpaaDoor
open Go.RowKit

theorem and_one (x : Int) (h0 : 0 ≤ x) (h : x < 18446744073709551616) : bits .and .u64 x 1 = x % 2 := by
  obtain ⟨n, rfl⟩ := Int.eq_ofNat_of_zero_le h0
  have := bits_and_u64_nat n 1 (by omega) (by omega)
  rw [Nat.and_one_is_mod] at this
  exact this.trans (by omega)
theorem or_high (x b : Int) (h0 : 0 ≤ x) (h : x < 9223372036854775808) (hb : b = 0 ∨ b = 1) : bits .or .u64 x (b * 9223372036854775808) = x + b * 9223372036854775808 := by
  obtain ⟨n, rfl⟩ := Int.eq_ofNat_of_zero_le h0
  have hn : n < 9223372036854775808 := by omega
  rcases hb with rfl | rfl
  · have := bits_or_u64_nat n 0 (by omega) (by omega)
    simpa using this
  · have k := bits_or_u64_nat n 9223372036854775808 (by omega) (by omega)
    have e : n ||| 9223372036854775808 = n + 9223372036854775808 := by
      have := Nat.two_pow_add_eq_or_of_lt (i := 63) (b := n) (by omega) 1
      rw [Nat.or_comm]
      simpa [Nat.add_comm] using this.symm
    rw [e] at k
    simpa using k
theorem or_01 (x y : Int) (hx : x = 0 ∨ x = 1) (hy : y = 0 ∨ y = 1) : bits .or .u64 x y = if x = 1 ∨ y = 1 then 1 else 0 := by
  rcases hx with rfl | rfl <;> rcases hy with rfl | rfl <;> rfl

theorem down_hi (a : Int) : whi a / 2 = whi (a / 2) := by unfold whi; omega
theorem down_lo (a : Int) : bits .or .u64 (wlo a / 2) (IntKind.u64.wrap (IntKind.u64.wrap (whi a) * 9223372036854775808)) = wlo (a / 2) := by
  have e : IntKind.u64.wrap (IntKind.u64.wrap (whi a) * 9223372036854775808) = (whi a % 2) * 9223372036854775808 := by simp only [IntKind.wrap_u64]; omega
  rw [e, or_high _ _ (by unfold wlo; omega) (by unfold wlo; omega) (by omega)]
  unfold whi wlo; omega
theorem down_rest (a : Int) : bits .and .u64 (wlo a) 1 = a % 2 := by
  rw [and_one _ (wlo_u64 a).1 (wlo_u64 a).2]; unfold wlo; omega

/-! Halving so often: the last bit that fell, and whether one below it did. -/
def pow2 (k : Nat) : Int := 2 ^ k
theorem pow2_pos (k : Nat) : 0 < pow2 k := Int.pow_pos (by omega)
theorem pow2_succ (k : Nat) : pow2 (k + 1) = 2 * pow2 k := by unfold pow2; rw [Int.pow_succ]; omega
def dn (a : Int) (k : Nat) : Int := a / pow2 k
theorem dn_zero (a : Int) : dn a 0 = a := by simp [dn, pow2]
theorem dn_succ (a : Int) (k : Nat) : dn a (k + 1) = dn a k / 2 := by
  unfold dn; rw [pow2_succ, Int.mul_comm, ← Int.ediv_ediv_of_nonneg (by have := pow2_pos k; omega)]
def lastS (a : Int) : Nat → Int
  | 0 => 0
  | k + 1 => dn a k % 2
def restS (a : Int) : Nat → Int
  | 0 => 0
  | k + 1 => if restS a k = 1 ∨ lastS a k = 1 then 1 else 0
theorem lastS_01 (a : Int) (k : Nat) : lastS a k = 0 ∨ lastS a k = 1 := by
  cases k with
  | zero => exact .inl rfl
  | succ k => show dn a k % 2 = 0 ∨ dn a k % 2 = 1; omega
theorem restS_01 (a : Int) (k : Nat) : restS a k = 0 ∨ restS a k = 1 := by
  cases k with
  | zero => exact .inl rfl
  | succ k => show (if _ then (1 : Int) else 0) = 0 ∨ (if _ then (1 : Int) else 0) = 1; split <;> simp
theorem rest_or (a : Int) (k : Nat) : bits .or .u64 (restS a k) (lastS a k) = restS a (k + 1) := or_01 _ _ (restS_01 a k) (lastS_01 a k)

/-- A quotient by a number above 0, rounded to even. -/
def evP (a b : Int) : Int := if 2 * (a % b) > b ∨ 2 * (a % b) = b ∧ (a / b) % 2 = 1 then a / b + 1 else a / b

theorem mod_succ (a : Int) (k : Nat) : a % pow2 (k + 1) = a % pow2 k + pow2 k * (dn a k % 2) := by
  have hp := pow2_pos k
  have h1 := Int.mul_ediv_add_emod a (pow2 (k + 1))
  have h2 := Int.mul_ediv_add_emod a (pow2 k)
  have h3 := dn_succ a k
  have h4 := Int.mul_ediv_add_emod (dn a k) 2
  unfold dn at h3 h4 ⊢
  rw [pow2_succ] at h1 h3 ⊢
  rw [h3] at h1
  have h5 : 2 * pow2 k * (a / pow2 k / 2) = pow2 k * (2 * (a / pow2 k / 2)) := by rw [Int.mul_comm 2, Int.mul_assoc]
  have h6 : pow2 k * (a / pow2 k) = pow2 k * (2 * (a / pow2 k / 2)) + pow2 k * (a / pow2 k % 2) := by rw [← Int.mul_add, h4]
  omega
theorem restS_iff (a : Int) (k : Nat) : restS a (k + 1) = 1 ↔ a % pow2 k ≠ 0 := by
  induction k with
  | zero => simp [restS, lastS, pow2]
  | succ k ih =>
    have e : restS a (k + 1 + 1) = if restS a (k + 1) = 1 ∨ lastS a (k + 1) = 1 then 1 else 0 := rfl
    have hl : lastS a (k + 1) = dn a k % 2 := rfl
    have hm := mod_succ a k
    have hp := pow2_pos k
    have hn := Int.emod_nonneg a (show pow2 k ≠ 0 by omega)
    rw [e, hl]
    have e2 : (restS a (k + 1) = 1 ∨ dn a k % 2 = 1) ↔ a % pow2 (k + 1) ≠ 0 := by
      rw [ih, hm]
      have h2 : dn a k % 2 = 0 ∨ dn a k % 2 = 1 := by omega
      rcases h2 with h2 | h2 <;> rw [h2]
      · simp
      · simp; omega
    by_cases c : restS a (k + 1) = 1 ∨ dn a k % 2 = 1
    · simp only [if_pos c, true_iff]; exact e2.1 c
    · simp only [if_neg c]; constructor
      · intro h; omega
      · intro h; exact absurd (e2.2 h) c
/-- What the code tells of the number halved so often is the quotient, rounded to even. -/
theorem half_even (a : Int) (n : Nat) : evP a (pow2 n) = if lastS a n = 1 ∧ (restS a n = 1 ∨ dn a n % 2 = 1) then dn a n + 1 else dn a n := by
  cases n with
  | zero => simp [evP, lastS, pow2, dn]
  | succ k =>
    have hm := mod_succ a k
    have hp := pow2_pos k
    have hn := Int.emod_nonneg a (show pow2 k ≠ 0 by omega)
    have hlt := Int.emod_lt_of_pos a hp
    have hs := pow2_succ k
    have hl : lastS a (k + 1) = dn a k % 2 := rfl
    unfold evP
    rw [show a / pow2 (k + 1) = dn a (k + 1) from rfl, hl]
    have hr := restS_iff a k
    have h2 : dn a k % 2 = 0 ∨ dn a k % 2 = 1 := by omega
    have key : (2 * (a % pow2 (k + 1)) > pow2 (k + 1) ∨ 2 * (a % pow2 (k + 1)) = pow2 (k + 1) ∧ dn a (k + 1) % 2 = 1) ↔ (dn a k % 2 = 1 ∧ (restS a (k + 1) = 1 ∨ dn a (k + 1) % 2 = 1)) := by
      rw [hr]
      rcases h2 with h2 | h2 <;> rw [h2] at hm ⊢ <;> omega
    by_cases c : dn a k % 2 = 1 ∧ (restS a (k + 1) = 1 ∨ dn a (k + 1) % 2 = 1)
    · rw [if_pos (key.2 c), if_pos c]
    · rw [if_neg (fun h => c (key.1 h)), if_neg c]
theorem dn_W128 {a : Int} (h : W128 a) (k : Nat) : W128 (dn a k) := by
  induction k with
  | zero => rw [dn_zero]; exact h
  | succ k ih => rw [dn_succ]; unfold W128 at *; omega
theorem dn_inc_W128 {a : Int} (h : W128 a) (k : Nat) (hk : lastS a k = 1) : W128 (dn a k + 1) := by
  cases k with
  | zero => simp [lastS] at hk
  | succ k => have := dn_W128 h k; rw [dn_succ]; unfold W128 at *; omega

/-- What is left of the number, shifted so often; the bit that falls next. -/
def sh (A : Int) : Nat → Int
  | 0 => A
  | k + 1 => (2 * sh A k) % 340282366920938463463374607431768211456
def bt (A : Int) (k : Nat) : Int := sh A k / 170141183460469231731687303715884105728
def rs (A b : Int) : Nat → Int
  | 0 => 0
  | k + 1 => if 2 * rs A b k + bt A k ≥ b then 2 * rs A b k + bt A k - b else 2 * rs A b k + bt A k
/-! The quotient rounded down, by any number but 0; what is left, through the other one's size. -/
def fl (a b : Int) : Int := if b < 0 then (-a) / (-b) else a / b
def ev (a b : Int) : Int := if b < 0 then evP (-a) (-b) else evP a b
theorem neg_div (A B : Int) (hB : 0 < B) : (-A) / B = (if A % B > 0 then -(A / B) - 1 else -(A / B)) ∧ (-A) % B = (if A % B > 0 then B - A % B else A % B) := by
  have h1 := Int.mul_ediv_add_emod A B
  have h2 := Int.emod_nonneg A (show B ≠ 0 by omega)
  have h3 := Int.emod_lt_of_pos A hB
  by_cases h : A % B > 0
  · rw [if_pos h, if_pos h]
    refine (Int.ediv_emod_unique hB).2 ⟨?_, by omega, by omega⟩
    have e : B * (-(A / B) - 1) = -(B * (A / B)) - B := by rw [Int.mul_sub, Int.mul_neg, Int.mul_one]
    omega
  · rw [if_neg h, if_neg h]
    refine (Int.ediv_emod_unique hB).2 ⟨?_, by omega, by omega⟩
    have e : B * (-(A / B)) = -(B * (A / B)) := Int.mul_neg _ _
    omega
end Go.Proofs.YtfbhcaocfajjpaaDoor
