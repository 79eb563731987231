/- Walks of layer 13 (conf): whether a number is within; whether all numbers of a row are so. -/
import Derived.Test.YtpgkchbgjciinaaRows
import Derived.Test.YtpgkchbgjciinaaKp
import Derived.Test.YtpgkchbgjciinaaWk
import Derived.Test.YtpgkchbgjciinaaSu
import Derived.Test.YtpgkchbgjciinaaSe
import Derived.WalkKit
import Derived.WalkSpells
import Derived.Lib.Hide
namespace Go.Proofs.Ytpgkchbgjciinaa
open Go.RowKit
set_option linter.unusedSimpArgs false
set_option linter.unusedVariables false
attribute [local go_sem] nlt2 nlt3 nlt4 nlt5 nlt6 nlt7 nlt8 nlt9 nlt10 nlt11 nlt12
attribute [local go_sem] ixVec_0 ixVec_1 ixVec_2

set_option maxHeartbeats 400000 in
theorem conf_within (x lo hi : Int) (w : World) : Calls Try.prog 31 #[.int .i64 x, .int .i64 lo, .int .i64 hi] w fun e w' => e = .returned (.bool (wiB x lo hi)) ∧ w = w' := by
  cases h : wiB x lo hi
  · have k := wiB_false.1 h
    clear h
    rcases Int.lt_or_le x lo with k1 | k1
    · clear k
      go_enter Try.func31, Try.ntmps31
      go_wp2
      go_ret
      exact ⟨by first | rfl | exact ret_bool (by simp; omega), rfl⟩
    · have k2 : hi < x := by omega
      clear k
      go_enter Try.func31, Try.ntmps31
      go_wp2
      go_ret
      exact ⟨by first | rfl | exact ret_bool (by simp; omega), rfl⟩
  · obtain ⟨k1, k2⟩ := wiB_true.1 h
    clear h
    go_enter Try.func31, Try.ntmps31
    go_wp2
    go_ret
    exact ⟨by first | rfl | exact ret_bool (by simp; omega), rfl⟩
set_option maxHeartbeats 400000 in
theorem conf_rule1_1 (i x : Int) (w : World) : Calls Try.prog 30 #[.int .i64 i, .int .i64 x] w fun e w' => e = .returned (.bool (wiB x 0 1125899906842624)) ∧ w = w' := by
  go_enter Try.func30, Try.ntmps30
  go_wp2_with (go_at_call 31; refine (conf_within _ _ _ _).mono ?_; rintro e w' ⟨rfl, rfl⟩)
  go_ret
  exact ⟨rfl, rfl⟩
set_option maxRecDepth 100000 in
set_option maxHeartbeats 1000000 in
theorem conf_all1 (v : Nat → Int) (w : World) :
    Calls Try.prog 29 #[.agg #[.int .i64 (v 0), .int .i64 (v 1), .int .i64 (v 2)], .func (.func 30) #[] #[]] w fun e w' => e = .returned (.bool (wiB (v 0) 0 1125899906842624 && (wiB (v 1) 0 1125899906842624 && wiB (v 2) 0 1125899906842624))) ∧ Below w.heap.size w w' := by
  cases h0 : wiB (v 0) 0 1125899906842624
  · go_enter Try.func29, Try.ntmps29
    go_wp2
    go_loop [8] (fun v8 => ∃ k : Int, (k = 0) ∧ v8 = .int .i64 k) (fun v8 => 3 - (intOf v8).toNat)
    case atStart => exact ⟨0, by decide, rfl⟩
    case round =>
      obtain ⟨k, hk, rfl⟩ := hrel
      obtain rfl := hk
      go_wp2_with (go_at_call 30; refine (conf_rule1_1 _ _ _).mono ?_; rintro e w' ⟨rfl, rfl⟩)
      go_ret
      exact ⟨by simp [*], (by repeat (first | exact Below.refl _ _ | assumption | refine bl_alloc ?_ _ | refine bl_drewN ?_ _ | refine bl_drew ?_ | refine bl_set ?_ (by first | (simp; done) | (simp; omega) | (dsimp only; omega)) _ | refine bl_then ?_ (by assumption)))⟩
  · cases h1 : wiB (v 1) 0 1125899906842624
    · go_enter Try.func29, Try.ntmps29
      go_wp2
      go_loop [8] (fun v8 => ∃ k : Int, (k = 0 ∨ k = 1) ∧ v8 = .int .i64 k) (fun v8 => 3 - (intOf v8).toNat)
      case atStart => exact ⟨0, by decide, rfl⟩
      case round =>
        obtain ⟨k, hk, rfl⟩ := hrel
        rcases hk with rfl | rfl
        · go_wp2_with (go_at_call 30; refine (conf_rule1_1 _ _ _).mono ?_; rintro e w' ⟨rfl, rfl⟩)
          go_round
          case rel => exact ⟨1, by decide, rfl⟩
          case measure => simp [intOf]
        · go_wp2_with (go_at_call 30; refine (conf_rule1_1 _ _ _).mono ?_; rintro e w' ⟨rfl, rfl⟩)
          go_ret
          exact ⟨by simp [*], (by repeat (first | exact Below.refl _ _ | assumption | refine bl_alloc ?_ _ | refine bl_drewN ?_ _ | refine bl_drew ?_ | refine bl_set ?_ (by first | (simp; done) | (simp; omega) | (dsimp only; omega)) _ | refine bl_then ?_ (by assumption)))⟩
    · cases h2 : wiB (v 2) 0 1125899906842624
      · go_enter Try.func29, Try.ntmps29
        go_wp2
        go_loop [8] (fun v8 => ∃ k : Int, (k = 0 ∨ k = 1 ∨ k = 2) ∧ v8 = .int .i64 k) (fun v8 => 3 - (intOf v8).toNat)
        case atStart => exact ⟨0, by decide, rfl⟩
        case round =>
          obtain ⟨k, hk, rfl⟩ := hrel
          rcases hk with rfl | rfl | rfl
          · go_wp2_with (go_at_call 30; refine (conf_rule1_1 _ _ _).mono ?_; rintro e w' ⟨rfl, rfl⟩)
            go_round
            case rel => exact ⟨1, by decide, rfl⟩
            case measure => simp [intOf]
          · go_wp2_with (go_at_call 30; refine (conf_rule1_1 _ _ _).mono ?_; rintro e w' ⟨rfl, rfl⟩)
            go_round
            case rel => exact ⟨2, by decide, rfl⟩
            case measure => simp [intOf]
          · go_wp2_with (go_at_call 30; refine (conf_rule1_1 _ _ _).mono ?_; rintro e w' ⟨rfl, rfl⟩)
            go_ret
            exact ⟨by simp [*], (by repeat (first | exact Below.refl _ _ | assumption | refine bl_alloc ?_ _ | refine bl_drewN ?_ _ | refine bl_drew ?_ | refine bl_set ?_ (by first | (simp; done) | (simp; omega) | (dsimp only; omega)) _ | refine bl_then ?_ (by assumption)))⟩
      · go_enter Try.func29, Try.ntmps29
        go_wp2
        go_loop [8] (fun v8 => ∃ k : Int, (k = 0 ∨ k = 1 ∨ k = 2 ∨ k = 3) ∧ v8 = .int .i64 k) (fun v8 => 3 - (intOf v8).toNat)
        case atStart => exact ⟨0, by decide, rfl⟩
        case round =>
          obtain ⟨k, hk, rfl⟩ := hrel
          rcases hk with rfl | rfl | rfl | rfl
          · go_wp2_with (go_at_call 30; refine (conf_rule1_1 _ _ _).mono ?_; rintro e w' ⟨rfl, rfl⟩)
            go_round
            case rel => exact ⟨1, by decide, rfl⟩
            case measure => simp [intOf]
          · go_wp2_with (go_at_call 30; refine (conf_rule1_1 _ _ _).mono ?_; rintro e w' ⟨rfl, rfl⟩)
            go_round
            case rel => exact ⟨2, by decide, rfl⟩
            case measure => simp [intOf]
          · go_wp2_with (go_at_call 30; refine (conf_rule1_1 _ _ _).mono ?_; rintro e w' ⟨rfl, rfl⟩)
            go_round
            case rel => exact ⟨3, by decide, rfl⟩
            case measure => simp [intOf]
          · go_wp2_with (go_at_call 30; refine (conf_rule1_1 _ _ _).mono ?_; rintro e w' ⟨rfl, rfl⟩)
            go_ret
            exact ⟨by simp [*], (by repeat (first | exact Below.refl _ _ | assumption | refine bl_alloc ?_ _ | refine bl_drewN ?_ _ | refine bl_drew ?_ | refine bl_set ?_ (by first | (simp; done) | (simp; omega) | (dsimp only; omega)) _ | refine bl_then ?_ (by assumption)))⟩
set_option maxHeartbeats 400000 in
theorem conf_rule7_1 (i x : Int) (w : World) : Calls Try.prog 42 #[.int .i64 i, .int .i64 x] w fun e w' => e = .returned (.bool (wiB x 0 72057594037927936)) ∧ w = w' := by
  go_enter Try.func42, Try.ntmps42
  go_wp2_with (go_at_call 31; refine (conf_within _ _ _ _).mono ?_; rintro e w' ⟨rfl, rfl⟩)
  go_ret
  exact ⟨rfl, rfl⟩
set_option maxRecDepth 100000 in
set_option maxHeartbeats 1000000 in
theorem conf_all7 (v : Nat → Int) (w : World) :
    Calls Try.prog 29 #[.agg #[.int .i64 (v 0), .int .i64 (v 1), .int .i64 (v 2)], .func (.func 42) #[] #[]] w fun e w' => e = .returned (.bool (wiB (v 0) 0 72057594037927936 && (wiB (v 1) 0 72057594037927936 && wiB (v 2) 0 72057594037927936))) ∧ Below w.heap.size w w' := by
  cases h0 : wiB (v 0) 0 72057594037927936
  · go_enter Try.func29, Try.ntmps29
    go_wp2
    go_loop [8] (fun v8 => ∃ k : Int, (k = 0) ∧ v8 = .int .i64 k) (fun v8 => 3 - (intOf v8).toNat)
    case atStart => exact ⟨0, by decide, rfl⟩
    case round =>
      obtain ⟨k, hk, rfl⟩ := hrel
      obtain rfl := hk
      go_wp2_with (go_at_call 42; refine (conf_rule7_1 _ _ _).mono ?_; rintro e w' ⟨rfl, rfl⟩)
      go_ret
      exact ⟨by simp [*], (by repeat (first | exact Below.refl _ _ | assumption | refine bl_alloc ?_ _ | refine bl_drewN ?_ _ | refine bl_drew ?_ | refine bl_set ?_ (by first | (simp; done) | (simp; omega) | (dsimp only; omega)) _ | refine bl_then ?_ (by assumption)))⟩
  · cases h1 : wiB (v 1) 0 72057594037927936
    · go_enter Try.func29, Try.ntmps29
      go_wp2
      go_loop [8] (fun v8 => ∃ k : Int, (k = 0 ∨ k = 1) ∧ v8 = .int .i64 k) (fun v8 => 3 - (intOf v8).toNat)
      case atStart => exact ⟨0, by decide, rfl⟩
      case round =>
        obtain ⟨k, hk, rfl⟩ := hrel
        rcases hk with rfl | rfl
        · go_wp2_with (go_at_call 42; refine (conf_rule7_1 _ _ _).mono ?_; rintro e w' ⟨rfl, rfl⟩)
          go_round
          case rel => exact ⟨1, by decide, rfl⟩
          case measure => simp [intOf]
        · go_wp2_with (go_at_call 42; refine (conf_rule7_1 _ _ _).mono ?_; rintro e w' ⟨rfl, rfl⟩)
          go_ret
          exact ⟨by simp [*], (by repeat (first | exact Below.refl _ _ | assumption | refine bl_alloc ?_ _ | refine bl_drewN ?_ _ | refine bl_drew ?_ | refine bl_set ?_ (by first | (simp; done) | (simp; omega) | (dsimp only; omega)) _ | refine bl_then ?_ (by assumption)))⟩
    · cases h2 : wiB (v 2) 0 72057594037927936
      · go_enter Try.func29, Try.ntmps29
        go_wp2
        go_loop [8] (fun v8 => ∃ k : Int, (k = 0 ∨ k = 1 ∨ k = 2) ∧ v8 = .int .i64 k) (fun v8 => 3 - (intOf v8).toNat)
        case atStart => exact ⟨0, by decide, rfl⟩
        case round =>
          obtain ⟨k, hk, rfl⟩ := hrel
          rcases hk with rfl | rfl | rfl
          · go_wp2_with (go_at_call 42; refine (conf_rule7_1 _ _ _).mono ?_; rintro e w' ⟨rfl, rfl⟩)
            go_round
            case rel => exact ⟨1, by decide, rfl⟩
            case measure => simp [intOf]
          · go_wp2_with (go_at_call 42; refine (conf_rule7_1 _ _ _).mono ?_; rintro e w' ⟨rfl, rfl⟩)
            go_round
            case rel => exact ⟨2, by decide, rfl⟩
            case measure => simp [intOf]
          · go_wp2_with (go_at_call 42; refine (conf_rule7_1 _ _ _).mono ?_; rintro e w' ⟨rfl, rfl⟩)
            go_ret
            exact ⟨by simp [*], (by repeat (first | exact Below.refl _ _ | assumption | refine bl_alloc ?_ _ | refine bl_drewN ?_ _ | refine bl_drew ?_ | refine bl_set ?_ (by first | (simp; done) | (simp; omega) | (dsimp only; omega)) _ | refine bl_then ?_ (by assumption)))⟩
      · go_enter Try.func29, Try.ntmps29
        go_wp2
        go_loop [8] (fun v8 => ∃ k : Int, (k = 0 ∨ k = 1 ∨ k = 2 ∨ k = 3) ∧ v8 = .int .i64 k) (fun v8 => 3 - (intOf v8).toNat)
        case atStart => exact ⟨0, by decide, rfl⟩
        case round =>
          obtain ⟨k, hk, rfl⟩ := hrel
          rcases hk with rfl | rfl | rfl | rfl
          · go_wp2_with (go_at_call 42; refine (conf_rule7_1 _ _ _).mono ?_; rintro e w' ⟨rfl, rfl⟩)
            go_round
            case rel => exact ⟨1, by decide, rfl⟩
            case measure => simp [intOf]
          · go_wp2_with (go_at_call 42; refine (conf_rule7_1 _ _ _).mono ?_; rintro e w' ⟨rfl, rfl⟩)
            go_round
            case rel => exact ⟨2, by decide, rfl⟩
            case measure => simp [intOf]
          · go_wp2_with (go_at_call 42; refine (conf_rule7_1 _ _ _).mono ?_; rintro e w' ⟨rfl, rfl⟩)
            go_round
            case rel => exact ⟨3, by decide, rfl⟩
            case measure => simp [intOf]
          · go_wp2_with (go_at_call 42; refine (conf_rule7_1 _ _ _).mono ?_; rintro e w' ⟨rfl, rfl⟩)
            go_ret
            exact ⟨by simp [*], (by repeat (first | exact Below.refl _ _ | assumption | refine bl_alloc ?_ _ | refine bl_drewN ?_ _ | refine bl_drew ?_ | refine bl_set ?_ (by first | (simp; done) | (simp; omega) | (dsimp only; omega)) _ | refine bl_then ?_ (by assumption)))⟩
set_option maxHeartbeats 400000 in
theorem conf_rule9_1 (i x : Int) (w : World) : Calls Try.prog 45 #[.int .i64 i, .int .i64 x] w fun e w' => e = .returned (.bool (wiB x (-4398046511104) 4398046511104)) ∧ w = w' := by
  go_enter Try.func45, Try.ntmps45
  go_wp2_with (go_at_call 31; refine (conf_within _ _ _ _).mono ?_; rintro e w' ⟨rfl, rfl⟩)
  go_ret
  exact ⟨rfl, rfl⟩
set_option maxRecDepth 100000 in
set_option maxHeartbeats 1000000 in
theorem conf_all9 (v : Nat → Int) (w : World) :
    Calls Try.prog 29 #[.agg #[.int .i64 (v 0), .int .i64 (v 1), .int .i64 (v 2)], .func (.func 45) #[] #[]] w fun e w' => e = .returned (.bool (wiB (v 0) (-4398046511104) 4398046511104 && (wiB (v 1) (-4398046511104) 4398046511104 && wiB (v 2) (-4398046511104) 4398046511104))) ∧ Below w.heap.size w w' := by
  cases h0 : wiB (v 0) (-4398046511104) 4398046511104
  · go_enter Try.func29, Try.ntmps29
    go_wp2
    go_loop [8] (fun v8 => ∃ k : Int, (k = 0) ∧ v8 = .int .i64 k) (fun v8 => 3 - (intOf v8).toNat)
    case atStart => exact ⟨0, by decide, rfl⟩
    case round =>
      obtain ⟨k, hk, rfl⟩ := hrel
      obtain rfl := hk
      go_wp2_with (go_at_call 45; refine (conf_rule9_1 _ _ _).mono ?_; rintro e w' ⟨rfl, rfl⟩)
      go_ret
      exact ⟨by simp [*], (by repeat (first | exact Below.refl _ _ | assumption | refine bl_alloc ?_ _ | refine bl_drewN ?_ _ | refine bl_drew ?_ | refine bl_set ?_ (by first | (simp; done) | (simp; omega) | (dsimp only; omega)) _ | refine bl_then ?_ (by assumption)))⟩
  · cases h1 : wiB (v 1) (-4398046511104) 4398046511104
    · go_enter Try.func29, Try.ntmps29
      go_wp2
      go_loop [8] (fun v8 => ∃ k : Int, (k = 0 ∨ k = 1) ∧ v8 = .int .i64 k) (fun v8 => 3 - (intOf v8).toNat)
      case atStart => exact ⟨0, by decide, rfl⟩
      case round =>
        obtain ⟨k, hk, rfl⟩ := hrel
        rcases hk with rfl | rfl
        · go_wp2_with (go_at_call 45; refine (conf_rule9_1 _ _ _).mono ?_; rintro e w' ⟨rfl, rfl⟩)
          go_round
          case rel => exact ⟨1, by decide, rfl⟩
          case measure => simp [intOf]
        · go_wp2_with (go_at_call 45; refine (conf_rule9_1 _ _ _).mono ?_; rintro e w' ⟨rfl, rfl⟩)
          go_ret
          exact ⟨by simp [*], (by repeat (first | exact Below.refl _ _ | assumption | refine bl_alloc ?_ _ | refine bl_drewN ?_ _ | refine bl_drew ?_ | refine bl_set ?_ (by first | (simp; done) | (simp; omega) | (dsimp only; omega)) _ | refine bl_then ?_ (by assumption)))⟩
    · cases h2 : wiB (v 2) (-4398046511104) 4398046511104
      · go_enter Try.func29, Try.ntmps29
        go_wp2
        go_loop [8] (fun v8 => ∃ k : Int, (k = 0 ∨ k = 1 ∨ k = 2) ∧ v8 = .int .i64 k) (fun v8 => 3 - (intOf v8).toNat)
        case atStart => exact ⟨0, by decide, rfl⟩
        case round =>
          obtain ⟨k, hk, rfl⟩ := hrel
          rcases hk with rfl | rfl | rfl
          · go_wp2_with (go_at_call 45; refine (conf_rule9_1 _ _ _).mono ?_; rintro e w' ⟨rfl, rfl⟩)
            go_round
            case rel => exact ⟨1, by decide, rfl⟩
            case measure => simp [intOf]
          · go_wp2_with (go_at_call 45; refine (conf_rule9_1 _ _ _).mono ?_; rintro e w' ⟨rfl, rfl⟩)
            go_round
            case rel => exact ⟨2, by decide, rfl⟩
            case measure => simp [intOf]
          · go_wp2_with (go_at_call 45; refine (conf_rule9_1 _ _ _).mono ?_; rintro e w' ⟨rfl, rfl⟩)
            go_ret
            exact ⟨by simp [*], (by repeat (first | exact Below.refl _ _ | assumption | refine bl_alloc ?_ _ | refine bl_drewN ?_ _ | refine bl_drew ?_ | refine bl_set ?_ (by first | (simp; done) | (simp; omega) | (dsimp only; omega)) _ | refine bl_then ?_ (by assumption)))⟩
      · go_enter Try.func29, Try.ntmps29
        go_wp2
        go_loop [8] (fun v8 => ∃ k : Int, (k = 0 ∨ k = 1 ∨ k = 2 ∨ k = 3) ∧ v8 = .int .i64 k) (fun v8 => 3 - (intOf v8).toNat)
        case atStart => exact ⟨0, by decide, rfl⟩
        case round =>
          obtain ⟨k, hk, rfl⟩ := hrel
          rcases hk with rfl | rfl | rfl | rfl
          · go_wp2_with (go_at_call 45; refine (conf_rule9_1 _ _ _).mono ?_; rintro e w' ⟨rfl, rfl⟩)
            go_round
            case rel => exact ⟨1, by decide, rfl⟩
            case measure => simp [intOf]
          · go_wp2_with (go_at_call 45; refine (conf_rule9_1 _ _ _).mono ?_; rintro e w' ⟨rfl, rfl⟩)
            go_round
            case rel => exact ⟨2, by decide, rfl⟩
            case measure => simp [intOf]
          · go_wp2_with (go_at_call 45; refine (conf_rule9_1 _ _ _).mono ?_; rintro e w' ⟨rfl, rfl⟩)
            go_round
            case rel => exact ⟨3, by decide, rfl⟩
            case measure => simp [intOf]
          · go_wp2_with (go_at_call 45; refine (conf_rule9_1 _ _ _).mono ?_; rintro e w' ⟨rfl, rfl⟩)
            go_ret
            exact ⟨by simp [*], (by repeat (first | exact Below.refl _ _ | assumption | refine bl_alloc ?_ _ | refine bl_drewN ?_ _ | refine bl_drew ?_ | refine bl_set ?_ (by first | (simp; done) | (simp; omega) | (dsimp only; omega)) _ | refine bl_then ?_ (by assumption)))⟩
end Go.Proofs.Ytpgkchbgjciinaa
