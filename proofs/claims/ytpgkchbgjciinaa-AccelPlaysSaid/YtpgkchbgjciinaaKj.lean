/- The document's answer of layer 13 (conf): whether a number is within; powers of 2. -/
import Derived.Test.YtpgkchbgjciinaaTa
import Derived.WalkKit
namespace Go.Proofs.Ytpgkchbgjciinaa
open Go.RowKit
set_option linter.unusedSimpArgs false
set_option linter.unusedVariables false
attribute [local go_sem] nlt2 nlt3 nlt4 nlt5 nlt6 nlt7 nlt8 nlt9 nlt10 nlt11 nlt12
set_option maxHeartbeats 400000 in
theorem ref13_in (x lo hi : Int) (w : World) : Calls Try.prog 24 #[.int .i64 x, .int .i64 lo, .int .i64 hi] w fun e w' => e = .returned (.bool (wiB x lo hi)) ∧ w = w' := by
  cases h : wiB x lo hi
  · have k := wiB_false.1 h
    clear h
    rcases Int.lt_or_le x lo with k1 | k1
    · clear k
      go_enter Try.func24, Try.ntmps24
      go_wp2
      go_ret
      exact ⟨by first | rfl | exact ret_bool (by simp; omega), rfl⟩
    · have k2 : hi < x := by omega
      clear k
      go_enter Try.func24, Try.ntmps24
      go_wp2
      go_ret
      exact ⟨by first | rfl | exact ret_bool (by simp; omega), rfl⟩
  · obtain ⟨k1, k2⟩ := wiB_true.1 h
    clear h
    go_enter Try.func24, Try.ntmps24
    go_wp2
    go_ret
    exact ⟨by first | rfl | exact ret_bool (by simp; omega), rfl⟩
set_option maxHeartbeats 1000000 in
theorem ref13_Big (n : Nat) (hn : n ≤ 62) (w : World) : Calls Try.prog 27 #[.int .i64 n] w fun e w' => e = .returned (.int .i64 ((2 : Int) ^ n)) ∧ w = w' := by
  go_enter Try.func27, Try.ntmps27
  go_wp2
  go_loop [3, 4] (fun v3 v4 => ∃ k : Nat, k ≤ n ∧ v4 = .int .i64 k ∧ v3 = .int .i64 ((2 : Int) ^ k)) (fun _ v4 => n - (intOf v4).toNat)
  case atStart => exact ⟨0, by omega, rfl, rfl⟩
  case round =>
    obtain ⟨k, hk, rfl, rfl⟩ := hrel
    rcases Nat.lt_or_ge k n with hlt | hge
    · have hp : (2 : Int) ^ (k + 1) ≤ 4611686018427387904 := by
        have : (2 : Nat) ^ (k + 1) ≤ 2 ^ 62 := Nat.pow_le_pow_right (by omega) (by omega)
        have h3 : ((2 ^ (k + 1) : Nat) : Int) ≤ ((2 ^ 62 : Nat) : Int) := by exact_mod_cast this
        simpa using h3
      have hp0 : (0 : Int) < (2 : Int) ^ k := Int.pow_pos (by decide)
      have hs : (2 : Int) ^ (k + 1) = 2 * 2 ^ k := by rw [Int.pow_succ, Int.mul_comm]
      obtain ⟨p, hpp⟩ : ∃ p, (2 : Int) ^ k = p := ⟨_, rfl⟩
      rw [hs, hpp] at hp
      rw [hpp] at hp0 hs ⊢
      have HE := Asd.mk hs
      clear hs hpp
      have hlt' : (k : Int) < n := by omega
      go_wp2
      go_round
      case rel => exact ⟨k + 1, by omega, by simp, by rw [HE.out]⟩
      case measure => simp [intOf]; omega
    · obtain rfl : k = n := by omega
      go_wp2
      go_ret
      exact ⟨rfl, rfl⟩
theorem Big_17 (w : World) : Calls Try.prog 27 #[.int .i64 17] w fun e w' => e = .returned (.int .i64 131072) ∧ w = w' := ref13_Big 17 (by decide) w
theorem Big_38 (w : World) : Calls Try.prog 27 #[.int .i64 38] w fun e w' => e = .returned (.int .i64 274877906944) ∧ w = w' := ref13_Big 38 (by decide) w
theorem Big_40 (w : World) : Calls Try.prog 27 #[.int .i64 40] w fun e w' => e = .returned (.int .i64 1099511627776) ∧ w = w' := ref13_Big 40 (by decide) w
theorem Big_42 (w : World) : Calls Try.prog 27 #[.int .i64 42] w fun e w' => e = .returned (.int .i64 4398046511104) ∧ w = w' := ref13_Big 42 (by decide) w
theorem Big_50 (w : World) : Calls Try.prog 27 #[.int .i64 50] w fun e w' => e = .returned (.int .i64 1125899906842624) ∧ w = w' := ref13_Big 50 (by decide) w
theorem Big_54 (w : World) : Calls Try.prog 27 #[.int .i64 54] w fun e w' => e = .returned (.int .i64 18014398509481984) ∧ w = w' := ref13_Big 54 (by decide) w
theorem Big_56 (w : World) : Calls Try.prog 27 #[.int .i64 56] w fun e w' => e = .returned (.int .i64 72057594037927936) ∧ w = w' := ref13_Big 56 (by decide) w
end Go.Proofs.Ytpgkchbgjciinaa
