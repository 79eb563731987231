/- Plain words: the whole root of a number from 0 on. No Go in sight. -/
import Derived.Test.YtgodfbhjfhdihaaDoorWa
namespace Go.Proofs.YtgodfbhjfhdihaaDoor

def nrt : Nat → Nat
  | 0 => 0
  | n + 1 => if (nrt n + 1) * (nrt n + 1) ≤ n + 1 then nrt n + 1 else nrt n
theorem nrt_spec (n : Nat) : nrt n * nrt n ≤ n ∧ n < (nrt n + 1) * (nrt n + 1) := by
  induction n with
  | zero => decide
  | succ n ih =>
    rw [nrt]
    split
    · rename_i h
      refine ⟨h, ?_⟩
      have e : (nrt n + 1 + 1) * (nrt n + 1 + 1) = (nrt n + 1) * (nrt n + 1) + 2 * (nrt n + 1) + 1 := by simp only [Nat.mul_add, Nat.add_mul, Nat.one_mul, Nat.mul_one]; omega
      omega
    · omega
/-- The whole root. -/
def rt (a : Int) : Int := nrt a.toNat
theorem rt_nonneg (a : Int) : 0 ≤ rt a := Int.natCast_nonneg _
theorem rt_le {a : Int} (h : 0 ≤ a) : rt a * rt a ≤ a := by
  have := (nrt_spec a.toNat).1
  unfold rt
  have e : ((nrt a.toNat * nrt a.toNat : Nat) : Int) = (nrt a.toNat : Int) * nrt a.toNat := Int.natCast_mul _ _
  omega
theorem rt_lt {a : Int} (h : 0 ≤ a) : a < (rt a + 1) * (rt a + 1) := by
  have := (nrt_spec a.toNat).2
  unfold rt
  have e : (((nrt a.toNat + 1) * (nrt a.toNat + 1) : Nat) : Int) = ((nrt a.toNat : Int) + 1) * (nrt a.toNat + 1) := by rw [Int.natCast_mul]; rfl
  omega
theorem sq_lt {x y : Int} (h0 : 0 ≤ x) (h : x < y) : x * x < y * y := by
  have h1 : x * x ≤ x * y := Int.mul_le_mul_of_nonneg_left (by omega) h0
  have h2 : x * y < y * y := Int.mul_lt_mul_of_pos_right h (by omega)
  omega
theorem sq_le {x y : Int} (h0 : 0 ≤ x) (h : x ≤ y) : x * x ≤ y * y := Int.mul_le_mul h h h0 (by omega)
theorem lt_of_sq {x y : Int} (hy : 0 ≤ y) (h : x * x < y * y) : x < y := by
  rcases Int.lt_or_le x y with k | k
  · exact k
  · have := sq_le hy k; omega
theorem le_of_sq {x y : Int} (hy : 0 ≤ y) (h : x * x ≤ y * y) : x ≤ y := by
  rcases Int.lt_or_le y x with k | k
  · have := sq_lt hy k; omega
  · exact k
theorem rt_uniq {a r : Int} (h0 : 0 ≤ r) (h1 : r * r ≤ a) (h2 : a < (r + 1) * (r + 1)) : rt a = r := by
  have ha : 0 ≤ a := by have := Int.mul_nonneg h0 h0; omega
  have k1 := rt_le ha
  have k2 := rt_lt ha
  have k0 := rt_nonneg a
  have q1 : rt a < r + 1 := lt_of_sq (by omega) (by omega)
  have q2 : r < rt a + 1 := lt_of_sq (by omega) (by omega)
  omega
theorem rt_bd {a : Int} {m : Int} (h0 : 0 ≤ a) (hm : 0 ≤ m) (h : a < m * m) : rt a < m := lt_of_sq hm (by have := rt_le h0; omega)
theorem rt_sq {x : Int} (h : 0 ≤ x) : rt (x * x) = x := by
  have : (x + 1) * (x + 1) = x * x + 2 * x + 1 := by simp only [Int.mul_add, Int.add_mul, Int.one_mul, Int.mul_one]; omega
  exact rt_uniq h (Int.le_refl _) (by omega)
theorem rt_sq1 {x : Int} (h : 1 ≤ x) : rt (x * x - 1) = x - 1 := by
  have e : x * x = (x - 1) * (x - 1) + 2 * (x - 1) + 1 := by simp only [Int.mul_sub, Int.sub_mul, Int.one_mul, Int.mul_one]; omega
  have e2 : (x - 1 + 1) * (x - 1 + 1) = x * x := by rw [show x - 1 + 1 = x by omega]
  exact rt_uniq (by omega) (by omega) (by omega)
/-- One bit more of a root. -/
theorem rt_bit {a o : Int} {i : Nat} (h1 : o * o ≤ a) (h2 : a < (o + 2 ^ (i + 1)) * (o + 2 ^ (i + 1))) : (a < (o + 2 ^ i) * (o + 2 ^ i) → o * o ≤ a ∧ a < (o + 2 ^ i) * (o + 2 ^ i)) ∧ ((o + 2 ^ i) * (o + 2 ^ i) ≤ a → (o + 2 ^ i) * (o + 2 ^ i) ≤ a ∧ a < (o + 2 ^ i + 2 ^ i) * (o + 2 ^ i + 2 ^ i)) := by
  refine ⟨fun h => ⟨h1, h⟩, fun h => ⟨h, ?_⟩⟩
  rw [show o + 2 ^ i + 2 ^ i = o + 2 ^ (i + 1) by rw [Int.pow_succ]; omega]
  exact h2
end Go.Proofs.YtgodfbhjfhdihaaDoor
