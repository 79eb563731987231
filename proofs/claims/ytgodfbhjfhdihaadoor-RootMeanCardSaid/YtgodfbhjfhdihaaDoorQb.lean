/- Walks of the layer 'root'. -/
import Derived.Test.YtgodfbhjfhdihaaDoorQa
import Derived.Test.YtgodfbhjfhdihaaDoorWd
import Derived.WalkMore
import Derived.Laws.BitsAllLaws
namespace Go.Proofs.YtgodfbhjfhdihaaDoor
open Go.RowKit
set_option linter.unusedSimpArgs false
set_option linter.unusedVariables false
attribute [local go_sem] nlt2 nlt3 nlt4 nlt5 nlt6 nlt7 nlt8 nlt9 nlt10 nlt11 nlt12

theorem ret2_int' {k l : IntKind} {x y a b : Int} (h : x = a) (h2 : y = b) : Ending.returned (.tuple #[.int k x, .int l y]) = .returned (.tuple #[.int k a, .int l b]) := by rw [h, h2]
theorem pow_lt64 {i : Nat} (h : i ≤ 63) : (2 : Int) ^ i < 18446744073709551616 := by
  have : (2 : Nat) ^ i < 2 ^ 64 := Nat.pow_lt_pow_right (by omega) (by omega)
  have e : ((2 ^ i : Nat) : Int) = (2 : Int) ^ i := Int.natCast_pow 2 i
  omega
theorem or_bit (m i : Nat) (hi : i ≤ 63) (h : (2 : Int) ^ (i + 1) * m + 2 ^ (i + 1) ≤ 18446744073709551616) : bits .or .u64 ((2 : Int) ^ (i + 1) * m) (IntKind.u64.wrap (2 ^ i)) = 2 ^ (i + 1) * m + 2 ^ i := by
  have e1 : (2 : Int) ^ (i + 1) * m = ((2 ^ (i + 1) * m : Nat) : Int) := by rw [Int.natCast_mul, Int.natCast_pow]; rfl
  have e2 : (2 : Int) ^ i = ((2 ^ i : Nat) : Int) := (Int.natCast_pow 2 i).symm
  have e3 : (2 : Int) ^ (i + 1) = ((2 ^ (i + 1) : Nat) : Int) := (Int.natCast_pow 2 (i + 1)).symm
  have hlt : (2 : Nat) ^ i < 2 ^ (i + 1) := Nat.pow_lt_pow_right (by omega) (by omega)
  have hp : 0 < (2 : Nat) ^ (i + 1) := Nat.pow_pos (by omega)
  have hw : IntKind.u64.wrap (2 ^ i) = ((2 ^ i : Nat) : Int) := by rw [IntKind.wrap_u64, e2]; have := pow_lt64 hi; omega
  rw [hw, e1, u64_or_nat _ _ (by omega) (by have := pow_lt64 hi; omega), ← Nat.two_pow_add_eq_or_of_lt hlt, e2, Int.natCast_add]
theorem mulU (x : Int) (hx : 0 ≤ x) (hx2 : x < 18446744073709551616) (w : World) :
    Calls Tryd.prog 60 #[.int .u64 x, .int .u64 x] w fun e w' => e = .returned (.tuple #[.int .u64 (x * x / 18446744073709551616), .int .u64 (x * x % 18446744073709551616)]) ∧ w = w' := by
  obtain ⟨x, rfl⟩ := Int.eq_ofNat_of_zero_le hx
  refine (bits_Mul64 x x (by omega) (by omega) w).mono ?_
  rintro e w' ⟨rfl, rfl⟩
  exact ⟨by congr 1, rfl⟩

set_option maxRecDepth 100000 in
set_option maxHeartbeats 2000000 in
theorem root_Of_neg (a : Int) (ha : a < 0) (w : World) :
    Calls Tryd.prog 15 #[.agg #[.int .i64 (whi a), .int .u64 (wlo a)]] w fun e w' => e = .returned (.tuple #[.int .u64 0, .int .i64 1]) ∧ Below w.heap.size w w' := by
  have q : whi a < 0 := (whi_neg a).2 ha
  go_enter Tryd.func15, Tryd.ntmps15
  go_wp2
  go_step3
  go_wp2
  first | rw [Exit.noGoto_ret] | skip
  go_ret2
  exact ⟨rfl, (by repeat (first | exact Below.refl _ _ | assumption | refine bl_alloc ?_ _ | refine bl_drewN ?_ _ | refine bl_drew ?_ | refine bl_set ?_ (by first | (simp; done) | (simp; omega) | (dsimp only; omega)) _ | refine bl_then ?_ (by assumption)))⟩

set_option maxRecDepth 100000 in
set_option maxHeartbeats 4000000 in
theorem root_Of (a : Int) (ha : W128 a) (h0 : 0 ≤ a) (w : World) :
    Calls Tryd.prog 15 #[.agg #[.int .i64 (whi a), .int .u64 (wlo a)]] w fun e w' => e = .returned (.tuple #[.int .u64 (rt a), .int .i64 0]) ∧ Below w.heap.size w w' := by
  have HA := Asd.mk ha
  have H0 := Asd.mk h0
  have q : 0 ≤ whi a := by have := whi_neg a; omega
  have QA := Asd.mk (show 0 * 0 ≤ a ∧ a < (0 + 2 ^ 64) * (0 + 2 ^ 64) by unfold W128 at ha; omega)
  clear ha h0
  go_enter Tryd.func15, Tryd.ntmps15
  go_wp2
  go_step3
  go_wp2
  go_step3
  go_wp2
  go_outline
  go_loop [4, 5] (fun v4 v5 => ∃ (k : Nat) (o : Int), k ≤ 64 ∧ v5 = .int .i64 (k - 1) ∧ v4 = .int .u64 o ∧ 0 ≤ o ∧ Asd (∃ m : Nat, o = 2 ^ k * m ∧ o * o ≤ a ∧ a < (o + 2 ^ k) * (o + 2 ^ k) ∧ o + 2 ^ k ≤ 18446744073709551616)) (fun _ v5 => (intOf v5 + 1).toNat)
  case atStart => exact ⟨64, 0, by omega, rfl, rfl, by omega, ⟨0, by omega, QA.out.1, QA.out.2, by omega⟩⟩
  case round =>
    obtain ⟨k, o, hk, rfl, rfl, ho, HV⟩ := hrel
    by_cases hgo : 0 < k
    · obtain ⟨i, rfl⟩ : ∃ m, k = m + 1 := ⟨k - 1, by omega⟩
      rw [show (((i + 1 : Nat) : Int) - 1) = (i : Int) from by omega]
      have hi : i ≤ 63 := by omega
      obtain ⟨m, e, k1, k2, k3⟩ := HV.out
      have hp : (0 : Int) < 2 ^ i := Int.pow_pos (by omega)
      have hs : (2 : Int) ^ (i + 1) = 2 ^ i + 2 ^ i := by rw [Int.pow_succ]; omega
      have hb := rt_bit k1 k2
      obtain ⟨X, hX⟩ : ∃ X, X = o + 2 ^ i := ⟨_, rfl⟩
      have EO : bits BinOp.or IntKind.u64 o (IntKind.u64.wrap (2 ^ i)) = X := by rw [hX, e]; exact or_bit m i hi (by rw [← e]; exact k3)
      have hX0 : 0 ≤ X := by omega
      have hX1 : X < 18446744073709551616 := by omega
      have hsq : 0 ≤ X * X := Int.mul_nonneg hX0 hX0
      obtain ⟨H, hH⟩ : ∃ H, H = X * X / 18446744073709551616 := ⟨_, rfl⟩
      obtain ⟨L, hL⟩ : ∃ L, L = X * X % 18446744073709551616 := ⟨_, rfl⟩
      have MC := Asd.mk (fun W => mulU X hX0 hX1 W)
      rw [← hH, ← hL] at MC
      have bH : 0 ≤ H ∧ H < 18446744073709551616 := by
        have : X * X < 18446744073709551616 * 18446744073709551616 := sq_lt hX0 hX1
        omega
      have bL : 0 ≤ L ∧ L < 18446744073709551616 := by omega
      have hwa : whi a * 18446744073709551616 + wlo a = a := by unfold whi wlo; omega
      have hwl := wlo_u64 a
      have hq : whi a ≤ 9223372036854775807 := (whi_i64 HA.out).2
      have UP : Asd (a < X * X → ∃ m : Nat, o = 2 ^ i * m ∧ o * o ≤ a ∧ a < (o + 2 ^ i) * (o + 2 ^ i) ∧ o + 2 ^ i ≤ 18446744073709551616) := ⟨fun h => by
        rw [hX] at h
        have := hb.1 h
        exact ⟨2 * m, by rw [e, hs]; push_cast; rw [Int.add_mul, ← Int.mul_assoc, Int.mul_comm (2 ^ i) 2, Int.mul_assoc]; omega, this.1, this.2, by omega⟩⟩
      have DN : Asd (X * X ≤ a → ∃ m : Nat, X = 2 ^ i * m ∧ X * X ≤ a ∧ a < (X + 2 ^ i) * (X + 2 ^ i) ∧ X + 2 ^ i ≤ 18446744073709551616) := ⟨fun h => by
        rw [hX] at h ⊢
        have := hb.2 h
        exact ⟨2 * m + 1, by rw [e, hs]; push_cast; rw [Int.mul_add, Int.add_mul, ← Int.mul_assoc, Int.mul_comm (2 ^ i) 2, Int.mul_assoc]; omega, this.1, this.2, by omega⟩⟩
      have HW := Asd.mk hwa
      have HH := Asd.mk (show X * X = H * 18446744073709551616 + L by omega)
      have EX := Asd.mk hX
      have HB := Asd.mk bH
      have HBL := Asd.mk bL
      clear hb hsq hH hL hwa hX e k1 k2 k3 hs
      obtain ⟨b1, b2⟩ := bH
      obtain ⟨b3, b4⟩ := bL
      obtain ⟨b5, b6⟩ := hwl
      rcases Int.lt_trichotomy (whi a) H with c | c | c
      · go_wp2_with (go_at_call 60; refine (MC.out _).mono ?_; rintro e w' ⟨rfl, rfl⟩)
        go_round
        case rel => exact ⟨i, o, by omega, rfl, rfl, ho, ⟨UP.out (by have := HH.out; have := HW.out; omega)⟩⟩
        case measure => simp [intOf]
      · subst c
        by_cases c : wlo a < L
        · go_wp2_with (go_at_call 60; refine (MC.out _).mono ?_; rintro e w' ⟨rfl, rfl⟩)
          go_round
          case rel => exact ⟨i, o, by omega, rfl, rfl, ho, ⟨UP.out (by have := HH.out; have := HW.out; omega)⟩⟩
          case measure => simp [intOf]
        · go_wp2_with (go_at_call 60; refine (MC.out _).mono ?_; rintro e w' ⟨rfl, rfl⟩)
          go_round
          case rel => exact ⟨i, X, by omega, rfl, rfl, hX0, ⟨DN.out (by have := HH.out; have := HW.out; omega)⟩⟩
          case measure => simp [intOf]
      · have c2 : (H == whi a) = false := beq_eq_false_iff_ne.2 (by omega)
        have c3 := Asd.mk c
        go_wp2_with (go_at_call 60; refine (MC.out _).mono ?_; rintro e w' ⟨rfl, rfl⟩)
        go_round
        case rel => exact ⟨i, X, by omega, rfl, rfl, hX0, ⟨DN.out (by have := HH.out; have := HW.out; have := c3.out; omega)⟩⟩
        case measure => simp [intOf]
    · obtain rfl : k = 0 := by omega
      rw [show (((0 : Nat) : Int) - 1) = -1 from by omega]
      have HF := Asd.mk (show o = rt a by
        obtain ⟨m, _, k1, k2, _⟩ := HV.out
        exact (rt_uniq ho k1 (by simpa using k2)).symm)
      go_wp2
      go_ret2
      exact ⟨ret2_int' HF.out rfl, (by repeat (first | exact Below.refl _ _ | assumption | refine bl_alloc ?_ _ | refine bl_drewN ?_ _ | refine bl_drew ?_ | refine bl_set ?_ (by first | (simp; done) | (simp; omega) | (dsimp only; omega)) _ | refine bl_then ?_ (by assumption)))⟩
end Go.Proofs.YtgodfbhjfhdihaaDoor
