/- Plain words for the layer 'wide': a number of 128 bits as one whole number. No Go in sight. -/
import Derived.WalkKit
namespace Go.Proofs.YtnmacidlgadmgaaDoor
open Go.RowKit

/-- The high word and the low word of a whole number. -/
def whi (z : Int) : Int := z / 18446744073709551616
def wlo (z : Int) : Int := z % 18446744073709551616
def I64 (x : Int) : Prop := -9223372036854775808 ≤ x ∧ x ≤ 9223372036854775807
def U64 (x : Int) : Prop := 0 ≤ x ∧ x < 18446744073709551616
def W128 (z : Int) : Prop := -170141183460469231731687303715884105728 ≤ z ∧ z < 170141183460469231731687303715884105728
instance (z : Int) : Decidable (W128 z) := by unfold W128; infer_instance
instance (z : Int) : Decidable (I64 z) := by unfold I64; infer_instance
instance (z : Int) : Decidable (U64 z) := by unfold U64; infer_instance
/-- What is left where what is beyond 128 bits is dropped. -/
def wrapW (z : Int) : Int := (z + 170141183460469231731687303715884105728) % 340282366920938463463374607431768211456 - 170141183460469231731687303715884105728
def fitW (z : Int) : Int := if W128 z then z else 0
def errW (z : Int) : Int := if W128 z then 0 else 3

theorem whi_i64 {z : Int} (h : W128 z) : I64 (whi z) := by unfold W128 at h; unfold I64 whi; omega
theorem wlo_u64 (z : Int) : U64 (wlo z) := by unfold U64 wlo; omega
theorem W128_wrapW (z : Int) : W128 (wrapW z) := by unfold W128 wrapW; omega
theorem wrapW_of {z : Int} (h : W128 z) : wrapW z = z := by unfold W128 at h; unfold wrapW; omega
theorem whi_neg (z : Int) : whi z < 0 ↔ z < 0 := by unfold whi; omega
theorem i64_W128 {x : Int} (h : I64 x) : W128 x := by unfold I64 at h; unfold W128; omega
theorem whi_of_i64 {x : Int} (h : I64 x) : whi x = x / 9223372036854775808 := by unfold I64 at h; unfold whi; omega
theorem wlo_eq (x : Int) : IntKind.u64.wrap x = wlo x := by rw [IntKind.wrap_u64]; rfl
theorem wv_inj {a b : Int} (h1 : whi a = whi b) (h2 : wlo a = wlo b) : a = b := by unfold whi wlo at *; omega

/-! The sum and the difference of words. -/
theorem plus_lo (a b : Int) : (wlo a + wlo b) % 18446744073709551616 = wlo (wrapW (a + b)) := by unfold wlo wrapW; omega
theorem plus_hi (a b : Int) : wrap64 ((IntKind.u64.wrap (whi a) + IntKind.u64.wrap (whi b) + (wlo a + wlo b) / 18446744073709551616) % 18446744073709551616) = whi (wrapW (a + b)) := by
  simp only [IntKind.wrap_u64, wrap64]; unfold whi wlo wrapW; omega
def bor (x y : Int) : Int := if x < y then 1 else 0
theorem bor_bd (x y : Int) : 0 ≤ bor x y ∧ bor x y ≤ 1 := by unfold bor; split <;> omega
theorem less_lo (a b : Int) : (wlo a - wlo b) % 18446744073709551616 = wlo (wrapW (a - b)) := by unfold wlo wrapW; omega
theorem less_hi (a b : Int) : wrap64 ((IntKind.u64.wrap (whi a) - IntKind.u64.wrap (whi b) - bor (wlo a) (wlo b)) % 18446744073709551616) = whi (wrapW (a - b)) := by
  simp only [IntKind.wrap_u64, wrap64]; unfold whi wlo wrapW bor; split <;> omega

/-- The sum fits, or doesn't: as the signs tell. -/
theorem add_fits {a b : Int} (ha : W128 a) (hb : W128 b) (h : ¬ ((whi a < 0 ↔ whi b < 0) ∧ ¬ (whi (wrapW (a + b)) < 0 ↔ whi a < 0))) : W128 (a + b) := by
  unfold W128 at *; unfold whi wrapW at h; omega
theorem add_beyond {a b : Int} (ha : W128 a) (hb : W128 b) (h1 : whi a < 0 ↔ whi b < 0) (h2 : ¬ (whi (wrapW (a + b)) < 0 ↔ whi a < 0)) : ¬ W128 (a + b) := by
  intro h; unfold W128 at *; unfold whi wrapW at *; omega
theorem sub_fits {a b : Int} (ha : W128 a) (hb : W128 b) (h : ¬ (¬ (whi a < 0 ↔ whi b < 0) ∧ ¬ (whi (wrapW (a - b)) < 0 ↔ whi a < 0))) : W128 (a - b) := by
  unfold W128 at *; unfold whi wrapW at h; omega
theorem sub_beyond {a b : Int} (ha : W128 a) (hb : W128 b) (h1 : ¬ (whi a < 0 ↔ whi b < 0)) (h2 : ¬ (whi (wrapW (a - b)) < 0 ↔ whi a < 0)) : ¬ W128 (a - b) := by
  intro h; unfold W128 at *; unfold whi wrapW at *; omega
theorem fitW_of {z : Int} (h : W128 z) : fitW z = z ∧ errW z = 0 := by simp [fitW, errW, h]
theorem fitW_not {z : Int} (h : ¬ W128 z) : fitW z = 0 ∧ errW z = 3 := by simp [fitW, errW, h]
theorem whi0 : whi 0 = 0 := rfl
theorem wlo0 : wlo 0 = 0 := rfl
theorem add_ok {a b : Int} (ha : W128 a) (hb : W128 b) (h : ¬ ((whi a < 0 ↔ whi b < 0) ∧ ¬ (whi (wrapW (a + b)) < 0 ↔ whi a < 0))) : fitW (a + b) = wrapW (a + b) ∧ errW (a + b) = 0 := by
  have k := add_fits ha hb h; rw [wrapW_of k]; exact fitW_of k
theorem sub_ok {a b : Int} (ha : W128 a) (hb : W128 b) (h : ¬ (¬ (whi a < 0 ↔ whi b < 0) ∧ ¬ (whi (wrapW (a - b)) < 0 ↔ whi a < 0))) : fitW (a - b) = wrapW (a - b) ∧ errW (a - b) = 0 := by
  have k := sub_fits ha hb h; rw [wrapW_of k]; exact fitW_of k
/-- The signs' test, as the code has it. -/
theorem add_case {a b : Int} (ha : W128 a) (hb : W128 b) (h : ((decide (whi a < 0) == decide (whi b < 0)) && (decide (whi (wrapW (a + b)) < 0) != decide (whi a < 0))) = false) : fitW (a + b) = wrapW (a + b) ∧ errW (a + b) = 0 := by
  apply add_ok ha hb
  simp only [Bool.and_eq_false_iff, beq_eq_false_iff_ne, bne_eq_false_iff_eq, decide_eq_decide, ne_eq] at h
  omega
theorem add_case' {a b : Int} (ha : W128 a) (hb : W128 b) (h : ((decide (whi a < 0) == decide (whi b < 0)) && (decide (whi (wrapW (a + b)) < 0) != decide (whi a < 0))) = true) : fitW (a + b) = 0 ∧ errW (a + b) = 3 := by
  simp only [Bool.and_eq_true, beq_iff_eq, bne_iff_ne, decide_eq_decide, ne_eq] at h
  exact fitW_not (add_beyond ha hb h.1 h.2)
theorem sub_case {a b : Int} (ha : W128 a) (hb : W128 b) (h : ((decide (whi a < 0) != decide (whi b < 0)) && (decide (whi (wrapW (a - b)) < 0) != decide (whi a < 0))) = false) : fitW (a - b) = wrapW (a - b) ∧ errW (a - b) = 0 := by
  apply sub_ok ha hb
  simp only [Bool.and_eq_false_iff, bne_eq_false_iff_eq, decide_eq_decide] at h
  omega
theorem sub_case' {a b : Int} (ha : W128 a) (hb : W128 b) (h : ((decide (whi a < 0) != decide (whi b < 0)) && (decide (whi (wrapW (a - b)) < 0) != decide (whi a < 0))) = true) : fitW (a - b) = 0 ∧ errW (a - b) = 3 := by
  simp only [Bool.and_eq_true, bne_iff_ne, decide_eq_decide, ne_eq] at h
  exact fitW_not (sub_beyond ha hb h.1 h.2)

/-! Products. -/
theorem size_le {x : Int} (h : I64 x) : 0 ≤ (x.natAbs : Int) ∧ (x.natAbs : Int) ≤ 9223372036854775808 := by unfold I64 at h; omega
theorem mul_le_mul' {a b : Int} (m : Int) (h1 : 0 ≤ a) (h2 : 0 ≤ b) (h3 : a ≤ m) (h4 : b ≤ m) : 0 ≤ a * b ∧ a * b ≤ m * m :=
  ⟨Int.mul_nonneg h1 h2, Int.mul_le_mul h3 h4 h2 (by omega)⟩
theorem prod_bd {x y : Int} (hx : I64 x) (hy : I64 y) : 0 ≤ (x.natAbs : Int) * y.natAbs ∧ (x.natAbs : Int) * y.natAbs ≤ 85070591730234615865843651857942052864 := by
  have := mul_le_mul' 9223372036854775808 (size_le hx).1 (size_le hy).1 (size_le hx).2 (size_le hy).2
  omega
theorem prod_abs (x y : Int) : (x.natAbs : Int) * y.natAbs = ((x * y).natAbs : Int) := by rw [Int.natAbs_mul]; omega
theorem prod_same {x y : Int} (h : (decide (x < 0) != decide (y < 0)) = false) : (x.natAbs : Int) * y.natAbs = x * y := by
  rw [prod_abs]
  have h' : x < 0 ↔ y < 0 := by simpa using h
  have : 0 ≤ x * y := by
    by_cases hx : x < 0
    · exact Int.mul_nonneg_of_nonpos_of_nonpos (by omega) (by have := h'.1 hx; omega)
    · exact Int.mul_nonneg (by omega) (by have : ¬ y < 0 := fun k => hx (h'.2 k); omega)
  omega
theorem prod_turn {x y : Int} (h : (decide (x < 0) != decide (y < 0)) = true) : 0 - (x.natAbs : Int) * y.natAbs = x * y := by
  rw [prod_abs]
  have h' : ¬ (x < 0 ↔ y < 0) := by simpa using h
  have : x * y ≤ 0 := by
    by_cases hx : x < 0
    · exact Int.mul_nonpos_of_nonpos_of_nonneg (by omega) (by omega)
    · have : y < 0 := by omega
      exact Int.mul_nonpos_of_nonneg_of_nonpos (by omega) (by omega)
  omega
theorem prod_W128 {x y : Int} (hx : I64 x) (hy : I64 y) : W128 (x * y) := by
  have := prod_bd hx hy
  rw [prod_abs] at this
  unfold W128; omega
theorem prod_hi {p : Int} (h0 : 0 ≤ p) (h : p ≤ 85070591730234615865843651857942052864) : wrap64 (p / 18446744073709551616) = whi p := by unfold wrap64 whi; omega
theorem wrapW_turn {x y : Int} (hx : I64 x) (hy : I64 y) (h : (decide (x < 0) != decide (y < 0)) = true) : wrapW (0 - (x.natAbs : Int) * y.natAbs) = x * y := by
  rw [prod_turn h]; exact wrapW_of (prod_W128 hx hy)
/-! A wide number that fits in 64 bits. -/
theorem int_fits {a : Int} (h : I64 a) : wrap64 (wlo a) = a := by unfold I64 at h; unfold wrap64 wlo; omega
theorem wrap64_I64 (x : Int) : I64 (wrap64 x) := by unfold I64 wrap64; omega
theorem wlo_wrap (a : Int) : wlo (wrap64 (wlo a)) = wlo a := by unfold wlo wrap64; omega
theorem int_beyond {a : Int} (h : ¬ I64 a) : whi (wrap64 (wlo a)) ≠ whi a := by
  intro k
  have : wrap64 (wlo a) = a := wv_inj k (wlo_wrap a)
  rw [← this] at h
  exact h (wrap64_I64 _)
def fitI (z : Int) : Int := if I64 z then z else 0
def errI (z : Int) : Int := if I64 z then 0 else 3
def cmpI (a b : Int) : Int := if a < b then -1 else if a = b then 0 else 1

/-! Powers of 2. -/
def up (a : Int) (k : Nat) : Int := a * 2 ^ k
theorem up_zero (a : Int) : up a 0 = a := by simp [up]
theorem up_succ (a : Int) (k : Nat) : up a (k + 1) = up a k + up a k := by unfold up; rw [Int.pow_succ, ← Int.mul_assoc]; omega
theorem up_beyond {a : Int} {k : Nat} (h : ¬ W128 (up a k)) (j : Nat) : ¬ W128 (up a (k + j)) := by
  induction j with
  | zero => exact h
  | succ j ih => rw [← Nat.add_assoc, up_succ]; intro hw; apply ih; unfold W128 at *; omega
theorem up_beyond' {a : Int} {k n : Nat} (h : ¬ W128 (up a k)) (hn : k ≤ n) : ¬ W128 (up a n) := by
  have := up_beyond h (n - k)
  rwa [show k + (n - k) = n from by omega] at this
end Go.Proofs.YtnmacidlgadmgaaDoor
