/- Walks of layer 5 (sym): how much a number is above another one; whether a square is above a product. -/
import Derived.Test.YtlinfennhfphiaaDoorSh
import Derived.Test.YtlinfennhfphiaaDoorWd
namespace Go.Proofs.YtlinfennhfphiaaDoor
open Go.RowKit
set_option linter.unusedSimpArgs false
set_option linter.unusedVariables false
attribute [local go_sem] nlt2 nlt3 nlt4 nlt5 nlt6 nlt7 nlt8 nlt9 nlt10 nlt11 nlt12
set_option maxHeartbeats 400000 in
theorem sym_over (x lo : Int) (hx : I64 x) (hl : I64 lo) (h : lo ≤ x) (w : World) : Calls Tryd.prog 49 #[.int .i64 x, .int .i64 lo] w fun e w' => e = .returned (.int .u64 (x - lo)) ∧ w = w' := by
  unfold I64 at hx hl
  go_enter Tryd.func49, Tryd.ntmps49
  go_wp2
  go_ret
  exact ⟨by first | rfl | exact ret_int (by simp; omega) | exact ret_int (by rw [IntKind.wrap_u64]; omega) | exact ret_int (by simp [IntKind.wrap_u64]; omega), rfl⟩
/-- Is a square above a product? -/
def abB (x p q : Int) : Bool := decide (p * q < x * x)
theorem ab_eq (n p q : Nat) : decide ((p : Int) * q < (n : Int) * n) = (decide ((p * q / 18446744073709551616 : Nat) < (n * n / 18446744073709551616 : Nat)) || (decide ((n * n / 18446744073709551616 : Nat) = (p * q / 18446744073709551616 : Nat)) && decide ((p * q % 18446744073709551616 : Nat) < (n * n % 18446744073709551616 : Nat)))) := by
  obtain ⟨u, hu⟩ : ∃ u, p * q = u := ⟨_, rfl⟩
  obtain ⟨v, hv⟩ : ∃ v, n * n = v := ⟨_, rfl⟩
  rw [← Int.natCast_mul, ← Int.natCast_mul, hu, hv]
  rw [Bool.eq_iff_iff]
  simp
  omega
set_option maxRecDepth 100000 in
set_option maxHeartbeats 1000000 in
theorem sym_above (x : Int) (p q : Nat) (hx : -288230376151711744 ≤ x ∧ x ≤ 288230376151711744) (hp : p < 18446744073709551616) (hq : q < 18446744073709551616) (w : World) :
    Calls Tryd.prog 48 #[.int .i64 x, .int .u64 p, .int .u64 q] w fun e w' => e = .returned (.bool (abB x p q)) ∧ w = w' := by
  obtain ⟨n, hn⟩ : ∃ n : Nat, (x = n ∨ (x = -n ∧ (0 : Int) < n)) ∧ n ≤ 288230376151711744 := ⟨x.natAbs, by omega, by omega⟩
  have hab : abB x p q = decide ((p : Int) * q < (n : Int) * n) := by
    unfold abB
    rcases hn.1 with rfl | ⟨rfl, _⟩
    · rfl
    · rw [Int.neg_mul_neg]
  rw [hab, ab_eq]
  clear hab
  have m1 := bits_Mul64 n n (by omega) (by omega)
  have m2 := bits_Mul64 p q hp hq
  obtain ⟨u1, hu1⟩ : ∃ u, n * n / 18446744073709551616 = u := ⟨_, rfl⟩
  obtain ⟨u2, hu2⟩ : ∃ u, n * n % 18446744073709551616 = u := ⟨_, rfl⟩
  obtain ⟨v1, hv1⟩ : ∃ u, p * q / 18446744073709551616 = u := ⟨_, rfl⟩
  obtain ⟨v2, hv2⟩ : ∃ u, p * q % 18446744073709551616 = u := ⟨_, rfl⟩
  rw [hu1, hu2] at m1
  rw [hv1, hv2] at m2
  rw [hu1, hu2, hv1, hv2]
  clear hu1 hu2 hv1 hv2
  have M1 := Asd.mk m1
  have M2 := Asd.mk m2
  clear m1 m2
  have hw : IntKind.u64.wrap (n : Int) = n := by rw [IntKind.wrap_u64]; omega
  have hw1 : wrap64 (n : Int) = n := by unfold wrap64; omega
  have hw2 : wrap64 (-(n : Int)) = -n := by unfold wrap64; omega
  obtain ⟨d1, h1⟩ : ∃ d, decide (v1 < u1) = d := ⟨_, rfl⟩
  obtain ⟨d2, h2⟩ : ∃ d, decide (u1 = v1) = d := ⟨_, rfl⟩
  obtain ⟨d3, h3⟩ : ∃ d, decide (v2 < u2) = d := ⟨_, rfl⟩
  rw [h1, h2, h3]
  have h2i : decide ((u1 : Int) = v1) = d2 := by rw [← h2]; simp [Int.ofNat_inj]
  clear hx
  obtain ⟨hn, hn2⟩ := hn
  have hn3 : (0 : Int) ≤ n := by omega
  rcases hn with rfl | ⟨rfl, hn4⟩
  all_goals cases d1 <;> cases d2 <;> cases d3
  all_goals (try (exfalso; simp at h1 h2; omega))
  all_goals (
  go_enter Tryd.func48, Tryd.ntmps48
  go_wp2_with (go_at_call 88; first | (with_reducible refine (M1.out _).mono ?_; rintro e w' ⟨rfl, rfl⟩) | (with_reducible refine (M2.out _).mono ?_; rintro e w' ⟨rfl, rfl⟩))
  all_goals (
  go_ret
  exact ⟨by first | rfl | (simp at h1 h2 h3 ⊢; done) | (simp at h1 h2 h3 ⊢; omega) | (exfalso; simp at h1 h2 h3; omega), rfl⟩))
end Go.Proofs.YtlinfennhfphiaaDoor
