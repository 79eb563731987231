/- Plain laws of halving and of quotients rounded to even. No Go in sight. -/
import Derived.Test.YtnmacidlgadmgaaDoorWa
import Derived.Laws.Bits64b
namespace Go.Proofs.YtnmacidlgadmgaaDoor
open Go.RowKit

theorem and_one (x : Int) (h0 : 0 ≤ x) (h : x < 18446744073709551616) : bits .and .u64 x 1 = x % 2 := by
  obtain ⟨n, rfl⟩ := Int.eq_ofNat_of_zero_le h0
  have := bits_and_u64_nat n 1 (by omega) (by omega)
  rw [Nat.and_one_is_mod] at this
  exact this.trans (by omega)
theorem or_high (x b : Int) (h0 : 0 ≤ x) (h : x < 9223372036854775808) (hb : b = 0 ∨ b = 1) : bits .or .u64 x (b * 9223372036854775808) = x + b * 9223372036854775808 := by
  obtain ⟨n, rfl⟩ := Int.eq_ofNat_of_zero_le h0
  have hn : n < 9223372036854775808 := by omega
  rcases hb with rfl | rfl
  · have := bits_or_u64_nat n 0 (by omega) (by omega)
    simpa using this
  · have k := bits_or_u64_nat n 9223372036854775808 (by omega) (by omega)
    have e : n ||| 9223372036854775808 = n + 9223372036854775808 := by
      have := Nat.two_pow_add_eq_or_of_lt (i := 63) (b := n) (by omega) 1
      rw [Nat.or_comm]
      simpa [Nat.add_comm] using this.symm
    rw [e] at k
    simpa using k
theorem or_01 (x y : Int) (hx : x = 0 ∨ x = 1) (hy : y = 0 ∨ y = 1) : bits .or .u64 x y = if x = 1 ∨ y = 1 then 1 else 0 := by
  rcases hx with rfl | rfl <;> rcases hy with rfl | rfl <;> rfl

theorem down_hi (a : Int) : whi a / 2 = whi (a / 2) := by unfold whi; omega
theorem down_lo (a : Int) : bits .or .u64 (wlo a / 2) (IntKind.u64.wrap (IntKind.u64.wrap (whi a) * 9223372036854775808)) = wlo (a / 2) := by
  have e : IntKind.u64.wrap (IntKind.u64.wrap (whi a) * 9223372036854775808) = (whi a % 2) * 9223372036854775808 := by simp only [IntKind.wrap_u64]; omega
  rw [e, or_high _ _ (by unfold wlo; omega) (by unfold wlo; omega) (by omega)]
  unfold whi wlo; omega
theorem down_rest (a : Int) : bits .and .u64 (wlo a) 1 = a % 2 := by
  rw [and_one _ (wlo_u64 a).1 (wlo_u64 a).2]; unfold wlo; omega

/-! Halving so often: the last bit that fell, and whether one below it did. -/
def pow2 (k : Nat) : Int := 2 ^ k
theorem pow2_pos (k : Nat) : 0 < pow2 k := Int.pow_pos (by omega)
theorem pow2_succ (k : Nat) : pow2 (k + 1) = 2 * pow2 k := by unfold pow2; rw [Int.pow_succ]; omega
theorem up_eq (a : Int) (k : Nat) : up a k = a * pow2 k := rfl
def dn (a : Int) (k : Nat) : Int := a / pow2 k
theorem dn_zero (a : Int) : dn a 0 = a := by simp [dn, pow2]
theorem dn_succ (a : Int) (k : Nat) : dn a (k + 1) = dn a k / 2 := by
  unfold dn; rw [pow2_succ, Int.mul_comm, ← Int.ediv_ediv_of_nonneg (by have := pow2_pos k; omega)]
def lastS (a : Int) : Nat → Int
  | 0 => 0
  | k + 1 => dn a k % 2
def restS (a : Int) : Nat → Int
  | 0 => 0
  | k + 1 => if restS a k = 1 ∨ lastS a k = 1 then 1 else 0
theorem lastS_01 (a : Int) (k : Nat) : lastS a k = 0 ∨ lastS a k = 1 := by
  cases k with
  | zero => exact .inl rfl
  | succ k => show dn a k % 2 = 0 ∨ dn a k % 2 = 1; omega
theorem restS_01 (a : Int) (k : Nat) : restS a k = 0 ∨ restS a k = 1 := by
  cases k with
  | zero => exact .inl rfl
  | succ k => show (if _ then (1 : Int) else 0) = 0 ∨ (if _ then (1 : Int) else 0) = 1; split <;> simp
theorem rest_or (a : Int) (k : Nat) : bits .or .u64 (restS a k) (lastS a k) = restS a (k + 1) := or_01 _ _ (restS_01 a k) (lastS_01 a k)

/-- A quotient by a number above 0, rounded to even. -/
def evP (a b : Int) : Int := if 2 * (a % b) > b ∨ 2 * (a % b) = b ∧ (a / b) % 2 = 1 then a / b + 1 else a / b

theorem mod_succ (a : Int) (k : Nat) : a % pow2 (k + 1) = a % pow2 k + pow2 k * (dn a k % 2) := by
  have hp := pow2_pos k
  have h1 := Int.mul_ediv_add_emod a (pow2 (k + 1))
  have h2 := Int.mul_ediv_add_emod a (pow2 k)
  have h3 := dn_succ a k
  have h4 := Int.mul_ediv_add_emod (dn a k) 2
  unfold dn at h3 h4 ⊢
  rw [pow2_succ] at h1 h3 ⊢
  rw [h3] at h1
  have h5 : 2 * pow2 k * (a / pow2 k / 2) = pow2 k * (2 * (a / pow2 k / 2)) := by rw [Int.mul_comm 2, Int.mul_assoc]
  have h6 : pow2 k * (a / pow2 k) = pow2 k * (2 * (a / pow2 k / 2)) + pow2 k * (a / pow2 k % 2) := by rw [← Int.mul_add, h4]
  omega
theorem restS_iff (a : Int) (k : Nat) : restS a (k + 1) = 1 ↔ a % pow2 k ≠ 0 := by
  induction k with
  | zero => simp [restS, lastS, pow2]
  | succ k ih =>
    have e : restS a (k + 1 + 1) = if restS a (k + 1) = 1 ∨ lastS a (k + 1) = 1 then 1 else 0 := rfl
    have hl : lastS a (k + 1) = dn a k % 2 := rfl
    have hm := mod_succ a k
    have hp := pow2_pos k
    have hn := Int.emod_nonneg a (show pow2 k ≠ 0 by omega)
    rw [e, hl]
    have e2 : (restS a (k + 1) = 1 ∨ dn a k % 2 = 1) ↔ a % pow2 (k + 1) ≠ 0 := by
      rw [ih, hm]
      have h2 : dn a k % 2 = 0 ∨ dn a k % 2 = 1 := by omega
      rcases h2 with h2 | h2 <;> rw [h2]
      · simp
      · simp; omega
    by_cases c : restS a (k + 1) = 1 ∨ dn a k % 2 = 1
    · simp only [if_pos c, true_iff]; exact e2.1 c
    · simp only [if_neg c]; constructor
      · intro h; omega
      · intro h; exact absurd (e2.2 h) c
/-- What the code tells of the number halved so often is the quotient, rounded to even. -/
theorem half_even (a : Int) (n : Nat) : evP a (pow2 n) = if lastS a n = 1 ∧ (restS a n = 1 ∨ dn a n % 2 = 1) then dn a n + 1 else dn a n := by
  cases n with
  | zero => simp [evP, lastS, pow2, dn]
  | succ k =>
    have hm := mod_succ a k
    have hp := pow2_pos k
    have hn := Int.emod_nonneg a (show pow2 k ≠ 0 by omega)
    have hlt := Int.emod_lt_of_pos a hp
    have hs := pow2_succ k
    have hl : lastS a (k + 1) = dn a k % 2 := rfl
    unfold evP
    rw [show a / pow2 (k + 1) = dn a (k + 1) from rfl, hl]
    have hr := restS_iff a k
    have h2 : dn a k % 2 = 0 ∨ dn a k % 2 = 1 := by omega
    have key : (2 * (a % pow2 (k + 1)) > pow2 (k + 1) ∨ 2 * (a % pow2 (k + 1)) = pow2 (k + 1) ∧ dn a (k + 1) % 2 = 1) ↔ (dn a k % 2 = 1 ∧ (restS a (k + 1) = 1 ∨ dn a (k + 1) % 2 = 1)) := by
      rw [hr]
      rcases h2 with h2 | h2 <;> rw [h2] at hm ⊢ <;> omega
    by_cases c : dn a k % 2 = 1 ∧ (restS a (k + 1) = 1 ∨ dn a (k + 1) % 2 = 1)
    · rw [if_pos (key.2 c), if_pos c]
    · rw [if_neg (fun h => c (key.1 h)), if_neg c]
theorem dn_W128 {a : Int} (h : W128 a) (k : Nat) : W128 (dn a k) := by
  induction k with
  | zero => rw [dn_zero]; exact h
  | succ k ih => rw [dn_succ]; unfold W128 at *; omega
theorem dn_inc_W128 {a : Int} (h : W128 a) (k : Nat) (hk : lastS a k = 1) : W128 (dn a k + 1) := by
  cases k with
  | zero => simp [lastS] at hk
  | succ k => have := dn_W128 h k; rw [dn_succ]; unfold W128 at *; omega

/-! The quotient, bit by bit. -/
theorem or_low (x b : Int) (h0 : 0 ≤ x) (h : 2 * x < 18446744073709551616) (hb : b = 0 ∨ b = 1) : bits .or .u64 (2 * x) b = 2 * x + b := by
  obtain ⟨n, rfl⟩ := Int.eq_ofNat_of_zero_le h0
  rcases hb with rfl | rfl
  · have := bits_or_u64_nat (2 * n) 0 (by omega) (by omega)
    simpa using this
  · have k := bits_or_u64_nat (2 * n) 1 (by omega) (by omega)
    have e : 2 * n ||| 1 = 2 * n + 1 := by
      have := Nat.two_pow_add_eq_or_of_lt (i := 1) (b := 1) (by omega) n
      simpa using this.symm
    rw [e] at k
    simpa using k
/-- What is left of the number, shifted so often; the bit that falls next. -/
def sh (A : Int) : Nat → Int
  | 0 => A
  | k + 1 => (2 * sh A k) % 340282366920938463463374607431768211456
def bt (A : Int) (k : Nat) : Int := sh A k / 170141183460469231731687303715884105728
def rs (A b : Int) : Nat → Int
  | 0 => 0
  | k + 1 => if 2 * rs A b k + bt A k ≥ b then 2 * rs A b k + bt A k - b else 2 * rs A b k + bt A k
def qs (A b : Int) : Nat → Int
  | 0 => 0
  | k + 1 => if 2 * rs A b k + bt A k ≥ b then 2 * qs A b k + 1 else 2 * qs A b k
def shi (A : Int) (k : Nat) : Int := sh A k / 18446744073709551616
def slo (A : Int) (k : Nat) : Int := sh A k % 18446744073709551616
def SA (A : Int) : Prop := 0 ≤ A ∧ A < 340282366920938463463374607431768211456
theorem sh_bd {A : Int} (h : SA A) (k : Nat) : SA (sh A k) := by
  cases k with
  | zero => exact h
  | succ k => unfold SA; show 0 ≤ (2 * sh A k) % _ ∧ (2 * sh A k) % _ < _; omega
theorem bt_01 {A : Int} (h : SA A) (k : Nat) : bt A k = 0 ∨ bt A k = 1 := by have := sh_bd h k; unfold SA at this; unfold bt; omega
theorem rs_bd {A b : Int} (h : SA A) (hb : 0 < b) (k : Nat) : 0 ≤ rs A b k ∧ rs A b k < b := by
  induction k with
  | zero => exact ⟨Int.le_refl 0, hb⟩
  | succ k ih =>
    have := bt_01 h k
    have er : rs A b (k + 1) = if 2 * rs A b k + bt A k ≥ b then 2 * rs A b k + bt A k - b else 2 * rs A b k + bt A k := rfl
    rw [er]
    split <;> omega
theorem shi_bd {A : Int} (h : SA A) (k : Nat) : 0 ≤ shi A k ∧ shi A k < 18446744073709551616 := by have := sh_bd h k; unfold SA at this; unfold shi; omega
theorem slo_bd (A : Int) (k : Nat) : 0 ≤ slo A k ∧ slo A k < 18446744073709551616 := by unfold slo; omega
theorem sh_hi {A : Int} (h : SA A) (k : Nat) : bits .or .u64 (IntKind.u64.wrap (shi A k * 2)) (slo A k / 9223372036854775808) = shi A (k + 1) := by
  have := sh_bd h k
  have e : IntKind.u64.wrap (shi A k * 2) = 2 * (shi A k % 9223372036854775808) := by rw [IntKind.wrap_u64]; omega
  rw [e, or_low _ _ (by omega) (by omega) (by unfold slo; omega)]
  unfold shi slo
  show _ = (2 * sh A k) % _ / _
  unfold SA at this
  omega
theorem sh_lo (A : Int) (k : Nat) : IntKind.u64.wrap (slo A k * 2) = slo A (k + 1) := by
  rw [IntKind.wrap_u64]; unfold slo; show _ = (2 * sh A k) % _ % _; omega
theorem rs_step {A b : Int} (h : SA A) (hb : 0 < b) (hb2 : b ≤ 9223372036854775808) (k : Nat) : bits .or .u64 (IntKind.u64.wrap (rs A b k * 2)) (shi A k / 9223372036854775808) = 2 * rs A b k + bt A k := by
  have h1 := rs_bd h hb k
  have h2 := bt_01 h k
  have e : IntKind.u64.wrap (rs A b k * 2) = 2 * rs A b k := by rw [IntKind.wrap_u64]; omega
  have e2 : shi A k / 9223372036854775808 = bt A k := by unfold shi bt; omega
  rw [e, e2, or_low _ _ h1.1 (by omega) h2]
theorem qs_inv {A : Int} (b : Int) (h : SA A) (k : Nat) (hk : k ≤ 128) : A / pow2 (128 - k) = qs A b k * b + rs A b k ∧ sh A k = (A % pow2 (128 - k)) * pow2 k := by
  induction k with
  | zero =>
    have e : pow2 (128 - 0) = 340282366920938463463374607431768211456 := by decide
    rw [e]
    unfold SA at h
    refine ⟨?_, ?_⟩
    · show _ = 0 * b + 0; omega
    · show A = _ * 2 ^ 0; omega
  | succ k ih =>
    obtain ⟨i1, i2⟩ := ih (by omega)
    obtain ⟨j, hj⟩ : ∃ j, 128 - k = j + 1 := ⟨127 - k, by omega⟩
    have hj2 : 128 - (k + 1) = j := by omega
    have hpk : pow2 (j + 1) * pow2 k = 340282366920938463463374607431768211456 := by
      unfold pow2; rw [← Int.pow_add, show j + 1 + k = 128 from by omega]; decide
    rw [hj] at i1 i2
    rw [hj2]
    have hp := pow2_pos j
    have hs := pow2_succ j
    have hm := mod_succ A j
    have hd := dn_succ A j
    have hkp := pow2_pos k
    have hks := pow2_succ k
    unfold dn at hm hd
    have h2 : A / pow2 j % 2 = 0 ∨ A / pow2 j % 2 = 1 := by omega
    have hn := Int.emod_nonneg A (show pow2 j ≠ 0 by omega)
    have hl := Int.emod_lt_of_pos A hp
    -- the bit
    have hjk : 2 * (pow2 j * pow2 k) = 340282366920938463463374607431768211456 := by rw [← hpk, hs, Int.mul_assoc]
    have hx : 0 ≤ (A % pow2 j) * pow2 k := Int.mul_nonneg hn (by omega)
    have hy : (A % pow2 j) * pow2 k < pow2 j * pow2 k := Int.mul_lt_mul_of_pos_right hl hkp
    have hsh : sh A k = (A % pow2 j) * pow2 k + (A / pow2 j % 2) * (pow2 j * pow2 k) := by
      rw [i2, hm, Int.add_mul]
      congr 1
      rw [Int.mul_comm (pow2 j), Int.mul_assoc]
    have hbt : bt A k = A / pow2 j % 2 := by
      unfold bt
      rcases h2 with h2 | h2 <;> rw [h2] at hsh ⊢ <;> omega
    have hq : A / pow2 j = 2 * (A / pow2 (j + 1)) + bt A k := by rw [hbt, hd]; omega
    refine ⟨?_, ?_⟩
    · rw [hq, i1]
      have er : rs A b (k + 1) = if 2 * rs A b k + bt A k ≥ b then 2 * rs A b k + bt A k - b else 2 * rs A b k + bt A k := rfl
      have eq : qs A b (k + 1) = if 2 * rs A b k + bt A k ≥ b then 2 * qs A b k + 1 else 2 * qs A b k := rfl
      have em : 2 * (qs A b k * b) = 2 * qs A b k * b := by rw [Int.mul_assoc]
      rw [er, eq]
      split
      · rw [Int.add_mul, ← em]; omega
      · rw [← em]; omega
    · have e1 : sh A (k + 1) = (2 * sh A k) % 340282366920938463463374607431768211456 := rfl
      have e2 : (A % pow2 j) * pow2 (k + 1) = 2 * ((A % pow2 j) * pow2 k) := by rw [hks, Int.mul_left_comm]
      rw [e1, e2, hsh]
      rcases h2 with h2 | h2 <;> rw [h2] <;> omega
theorem qs_end {A b : Int} (h : SA A) (hb : 0 < b) : qs A b 128 = A / b ∧ rs A b 128 = A % b := by
  have h1 := (qs_inv b h 128 (Nat.le_refl _)).1
  have h2 := rs_bd h hb 128
  have e : pow2 (128 - 128) = 1 := rfl
  rw [e, Int.ediv_one] at h1
  have h3 := Int.mul_ediv_add_emod A b
  have hu : qs A b 128 = A / b ∧ rs A b 128 = A % b := by
    have := (Int.ediv_emod_unique hb (a := A) (r := rs A b 128) (q := qs A b 128)).2 ⟨by rw [Int.add_comm, Int.mul_comm]; exact h1.symm, h2.1, h2.2⟩
    exact ⟨this.1.symm, this.2.symm⟩
  exact hu
/-- Sums of what is wrapped. -/
theorem wrapW_add (a b : Int) : wrapW (wrapW a + wrapW b) = wrapW (a + b) := by unfold wrapW; omega
theorem wrapW_add' (a b : Int) : wrapW (wrapW a + b) = wrapW (a + b) := by unfold wrapW; omega
theorem wrapW_sub' (a b : Int) : wrapW (a - wrapW b) = wrapW (a - b) := by unfold wrapW; omega
/-- The size of a wide number, word by word. -/
theorem size_pos {a : Int} (ha : W128 a) (h : ¬ a < 0) : SA a.natAbs ∧ IntKind.u64.wrap (whi a) = shi a.natAbs 0 ∧ wlo a = slo a.natAbs 0 := by
  unfold W128 at ha
  refine ⟨by unfold SA; omega, ?_, ?_⟩
  · rw [IntKind.wrap_u64]; unfold shi whi; show _ = (a.natAbs : Int) / _; omega
  · unfold slo wlo; show _ = (a.natAbs : Int) % _; omega
theorem size_neg {a : Int} (ha : W128 a) (h : a < 0) : SA a.natAbs ∧ IntKind.u64.wrap (whi (wrapW (-a))) = shi a.natAbs 0 ∧ wlo (wrapW (-a)) = slo a.natAbs 0 := by
  unfold W128 at ha
  refine ⟨by unfold SA; omega, ?_, ?_⟩
  · rw [IntKind.wrap_u64]; unfold shi whi wrapW; show _ = (a.natAbs : Int) / _; omega
  · unfold slo wlo wrapW; show _ = (a.natAbs : Int) % _; omega

/-! The quotient rounded down, by any number but 0; what is left, through the other one's size. -/
def fl (a b : Int) : Int := if b < 0 then (-a) / (-b) else a / b
def rm (a b : Int) : Int := if b < 0 then (-a) % (-b) else a % b
def ev (a b : Int) : Int := if b < 0 then evP (-a) (-b) else evP a b
theorem neg_div (A B : Int) (hB : 0 < B) : (-A) / B = (if A % B > 0 then -(A / B) - 1 else -(A / B)) ∧ (-A) % B = (if A % B > 0 then B - A % B else A % B) := by
  have h1 := Int.mul_ediv_add_emod A B
  have h2 := Int.emod_nonneg A (show B ≠ 0 by omega)
  have h3 := Int.emod_lt_of_pos A hB
  by_cases h : A % B > 0
  · rw [if_pos h, if_pos h]
    refine (Int.ediv_emod_unique hB).2 ⟨?_, by omega, by omega⟩
    have e : B * (-(A / B) - 1) = -(B * (A / B)) - B := by rw [Int.mul_sub, Int.mul_neg, Int.mul_one]
    omega
  · rw [if_neg h, if_neg h]
    refine (Int.ediv_emod_unique hB).2 ⟨?_, by omega, by omega⟩
    have e : B * (-(A / B)) = -(B * (A / B)) := Int.mul_neg _ _
    omega
theorem fl_same {a b : Int} (_hb : b ≠ 0) (h : (decide (a < 0) != decide (b < 0)) = false) : fl a b = a.natAbs / b.natAbs ∧ rm a b = a.natAbs % b.natAbs := by
  have h' : a < 0 ↔ b < 0 := by simpa using h
  unfold fl rm
  by_cases hn : b < 0
  · rw [if_pos hn, if_pos hn, show ((a.natAbs : Int)) = -a from by have := h'.2 hn; omega, show ((b.natAbs : Int)) = -b from by omega]; exact ⟨rfl, rfl⟩
  · rw [if_neg hn, if_neg hn, show ((a.natAbs : Int)) = a from by have : ¬ a < 0 := fun k => hn (h'.1 k); omega, show ((b.natAbs : Int)) = b from by omega]; exact ⟨rfl, rfl⟩
theorem fl_other {a b : Int} (hb : b ≠ 0) (h : (decide (a < 0) != decide (b < 0)) = true) :
    fl a b = (if (a.natAbs : Int) % b.natAbs > 0 then -((a.natAbs : Int) / b.natAbs) - 1 else -((a.natAbs : Int) / b.natAbs)) ∧ rm a b = (if (a.natAbs : Int) % b.natAbs > 0 then (b.natAbs : Int) - (a.natAbs : Int) % b.natAbs else (a.natAbs : Int) % b.natAbs) := by
  have h' : ¬ (a < 0 ↔ b < 0) := by simpa using h
  have k := neg_div (a.natAbs : Int) b.natAbs (by omega)
  unfold fl rm
  by_cases hn : b < 0
  · rw [if_pos hn, if_pos hn, show -a = -(a.natAbs : Int) from by omega, show -b = (b.natAbs : Int) from by omega]; exact k
  · rw [if_neg hn, if_neg hn, show a / b = (-(a.natAbs : Int)) / (b.natAbs : Int) from by rw [show -(a.natAbs : Int) = a from by omega, show (b.natAbs : Int) = b from by omega], show a % b = (-(a.natAbs : Int)) % (b.natAbs : Int) from by rw [show -(a.natAbs : Int) = a from by omega, show (b.natAbs : Int) = b from by omega]]; exact k
theorem quo_bd {a b : Int} (_ha : W128 a) (_hb : b ≠ 0) : 0 ≤ (a.natAbs : Int) / b.natAbs ∧ (a.natAbs : Int) / b.natAbs ≤ a.natAbs :=
  ⟨Int.ediv_nonneg (by omega) (by omega), Int.ediv_le_self _ (by omega)⟩
theorem rem_bd {a b : Int} (_hb : b ≠ 0) : 0 ≤ (a.natAbs : Int) % b.natAbs ∧ (a.natAbs : Int) % b.natAbs < b.natAbs :=
  ⟨Int.emod_nonneg _ (by omega), Int.emod_lt_of_pos _ (by omega)⟩
/-- All quotients fit but one. -/
theorem quo_fits {a b : Int} (ha : W128 a) (hb : b ≠ 0) (h : (decide (a < 0) != decide (b < 0)) = false) (hx : ¬ (a = -170141183460469231731687303715884105728 ∧ b = -1)) : W128 ((a.natAbs : Int) / b.natAbs) := by
  have h' : a < 0 ↔ b < 0 := by simpa using h
  have k := quo_bd ha hb
  unfold W128 at *
  by_cases hm : a = -170141183460469231731687303715884105728
  · subst hm
    have hb2 : (2 : Int) ≤ b.natAbs := by have := h'.1 (by omega); omega
    have e := Int.mul_ediv_add_emod ((-170141183460469231731687303715884105728 : Int).natAbs : Int) b.natAbs
    have r := rem_bd (a := -170141183460469231731687303715884105728) hb
    have := Int.mul_le_mul_of_nonneg_right hb2 k.1
    omega
  · omega
theorem quo_turn {a b : Int} (ha : W128 a) (hb : b ≠ 0) : W128 (-((a.natAbs : Int) / b.natAbs)) := by
  have k := quo_bd ha hb
  unfold W128 at *; omega
theorem quo_turn_less {a b : Int} (ha : W128 a) (hb : b ≠ 0) (h : (decide (a < 0) != decide (b < 0)) = true) (hr : (a.natAbs : Int) % b.natAbs > 0) : W128 (-((a.natAbs : Int) / b.natAbs) - 1) := by
  have k := quo_bd ha hb
  have h' : ¬ (a < 0 ↔ b < 0) := by simpa using h
  unfold W128 at *
  have hb2 : (2 : Int) ≤ b.natAbs := by
    by_cases e : (b.natAbs : Int) = 1
    · rw [e] at hr; omega
    · omega
  have e := Int.mul_ediv_add_emod (a.natAbs : Int) b.natAbs
  have := Int.mul_le_mul_of_nonneg_right hb2 k.1
  omega
theorem fl_W128 {a b : Int} (ha : W128 a) (hb : b ≠ 0) (hx : ¬ (a = -170141183460469231731687303715884105728 ∧ b = -1)) : W128 (fl a b) := by
  cases h : (decide (a < 0) != decide (b < 0))
  · rw [(fl_same hb h).1]; exact quo_fits ha hb h hx
  · rw [(fl_other hb h).1]
    split
    · exact quo_turn_less ha hb h (by assumption)
    · exact quo_turn ha hb
theorem fl_beyond : ¬ W128 (fl (-170141183460469231731687303715884105728) (-1)) := by decide
theorem ev_beyond : ¬ W128 (ev (-170141183460469231731687303715884105728) (-1)) := by decide
theorem ev_eq (a b : Int) : ev a b = if 2 * rm a b > (b.natAbs : Int) ∨ 2 * rm a b = (b.natAbs : Int) ∧ fl a b % 2 = 1 then fl a b + 1 else fl a b := by
  unfold ev rm fl evP
  by_cases hn : b < 0
  · simp only [if_pos hn, show (b.natAbs : Int) = -b from by omega]
  · simp only [if_neg hn, show (b.natAbs : Int) = b from by omega]
theorem rm_bd {a b : Int} (_hb : b ≠ 0) : 0 ≤ rm a b ∧ rm a b < b.natAbs := by
  unfold rm
  split
  · exact ⟨Int.emod_nonneg _ (by omega), by have := Int.emod_lt_of_pos (-a) (show 0 < -b by omega); omega⟩
  · exact ⟨Int.emod_nonneg _ (by omega), by have := Int.emod_lt_of_pos a (show 0 < b by omega); omega⟩
theorem least_words {a : Int} (_ha : W128 a) : (whi a == -9223372036854775808 && wlo a == 0) = decide (a = -170141183460469231731687303715884105728) := by
  rw [Bool.eq_iff_iff]; simp only [Bool.and_eq_true, beq_iff_eq, decide_eq_true_eq]; unfold W128 at _ha; unfold whi wlo; omega
end Go.Proofs.YtnmacidlgadmgaaDoor
