/- Walks of layer 13 (conf): the rule of the loose row, whose closure holds the configuration. -/
import Derived.Test.YtpgkchbgjciinaaKc
namespace Go.Proofs.Ytpgkchbgjciinaa
open Go.RowKit
set_option linter.unusedSimpArgs false
set_option linter.unusedVariables false
attribute [local go_sem] nlt2 nlt3 nlt4 nlt5 nlt6 nlt7 nlt8 nlt9 nlt10 nlt11 nlt12
attribute [local go_sem] ixVec_0 ixVec_1 ixVec_2
set_option maxHeartbeats 400000 in
theorem conf_rule2_1_0 (x q : Int) (b : Nat) (w : World) (h : w.cell? ⟨b, 0, none⟩ = some (.int .i64 q)) : Calls Try.prog 33 #[.int .i64 0, .int .i64 x, .pointer (some ⟨b, 0, none⟩)] w fun e w' => e = .returned (.bool (wiB x q 1125899906842624)) ∧ w = w' := by
  go_enter Try.func33, Try.ntmps33
  go_wp2_with (go_at_call 31; refine (conf_within _ _ _ _).mono ?_; rintro e w' ⟨rfl, rfl⟩)
  go_ret
  exact ⟨rfl, rfl⟩
set_option maxHeartbeats 400000 in
theorem conf_rule2_1_1 (x q : Int) (b : Nat) (w : World) (h : w.cell? ⟨b, 1, none⟩ = some (.int .i64 q)) : Calls Try.prog 33 #[.int .i64 1, .int .i64 x, .pointer (some ⟨b, 0, none⟩)] w fun e w' => e = .returned (.bool (wiB x q 1125899906842624)) ∧ w = w' := by
  go_enter Try.func33, Try.ntmps33
  go_wp2_with (go_at_call 31; refine (conf_within _ _ _ _).mono ?_; rintro e w' ⟨rfl, rfl⟩)
  go_ret
  exact ⟨rfl, rfl⟩
set_option maxHeartbeats 400000 in
theorem conf_rule2_1_2 (x q : Int) (b : Nat) (w : World) (h : w.cell? ⟨b, 2, none⟩ = some (.int .i64 q)) : Calls Try.prog 33 #[.int .i64 2, .int .i64 x, .pointer (some ⟨b, 0, none⟩)] w fun e w' => e = .returned (.bool (wiB x q 1125899906842624)) ∧ w = w' := by
  go_enter Try.func33, Try.ntmps33
  go_wp2_with (go_at_call 31; refine (conf_within _ _ _ _).mono ?_; rintro e w' ⟨rfl, rfl⟩)
  go_ret
  exact ⟨rfl, rfl⟩
set_option maxRecDepth 100000 in
set_option maxHeartbeats 1000000 in
theorem conf_all2 (v q : Nat → Int) (b : Nat) (w : World) (c0 : w.cell? ⟨b, 0, none⟩ = some (.int .i64 (q 0))) (c1 : w.cell? ⟨b, 1, none⟩ = some (.int .i64 (q 1))) (c2 : w.cell? ⟨b, 2, none⟩ = some (.int .i64 (q 2))) :
    Calls Try.prog 29 #[.agg #[.int .i64 (v 0), .int .i64 (v 1), .int .i64 (v 2)], .func (.func 33) #[] #[.pointer (some ⟨b, 0, none⟩)]] w fun e w' => e = .returned (.bool (wiB (v 0) (q 0) 1125899906842624 && (wiB (v 1) (q 1) 1125899906842624 && wiB (v 2) (q 2) 1125899906842624))) ∧ Below w.heap.size w w' := by
  have hlt := World.block_lt_of_cell? w _ c0
  simp only at hlt
  cases h0 : wiB (v 0) (q 0) 1125899906842624
  · go_enter Try.func29, Try.ntmps29
    go_wp2
    go_loop [8] (fun v8 => ∃ k : Int, (k = 0) ∧ v8 = .int .i64 k) (fun v8 => 3 - (intOf v8).toNat)
    case atStart => exact ⟨0, by decide, rfl⟩
    case round =>
      obtain ⟨k, hk, rfl⟩ := hrel
      obtain rfl := hk
      go_wp2_with (go_at_call 33; refine (conf_rule2_1_0 _ (q 0) b _ (by simp [go_sem, *])).mono ?_; rintro e w' ⟨rfl, rfl⟩)
      go_ret
      exact ⟨by simp [*], (by repeat (first | exact Below.refl _ _ | assumption | refine bl_alloc ?_ _ | refine bl_drewN ?_ _ | refine bl_drew ?_ | refine bl_set ?_ (by first | (simp; done) | (simp; omega) | (dsimp only; omega)) _ | refine bl_then ?_ (by assumption)))⟩
  · cases h1 : wiB (v 1) (q 1) 1125899906842624
    · go_enter Try.func29, Try.ntmps29
      go_wp2
      go_loop [8] (fun v8 => ∃ k : Int, (k = 0 ∨ k = 1) ∧ v8 = .int .i64 k) (fun v8 => 3 - (intOf v8).toNat)
      case atStart => exact ⟨0, by decide, rfl⟩
      case round =>
        obtain ⟨k, hk, rfl⟩ := hrel
        rcases hk with rfl | rfl
        · go_wp2_with (go_at_call 33; refine (conf_rule2_1_0 _ (q 0) b _ (by simp [go_sem, *])).mono ?_; rintro e w' ⟨rfl, rfl⟩)
          go_round
          case rel => exact ⟨1, by decide, rfl⟩
          case measure => simp [intOf]
        · go_wp2_with (go_at_call 33; refine (conf_rule2_1_1 _ (q 1) b _ (by simp [go_sem, *])).mono ?_; rintro e w' ⟨rfl, rfl⟩)
          go_ret
          exact ⟨by simp [*], (by repeat (first | exact Below.refl _ _ | assumption | refine bl_alloc ?_ _ | refine bl_drewN ?_ _ | refine bl_drew ?_ | refine bl_set ?_ (by first | (simp; done) | (simp; omega) | (dsimp only; omega)) _ | refine bl_then ?_ (by assumption)))⟩
    · cases h2 : wiB (v 2) (q 2) 1125899906842624
      · go_enter Try.func29, Try.ntmps29
        go_wp2
        go_loop [8] (fun v8 => ∃ k : Int, (k = 0 ∨ k = 1 ∨ k = 2) ∧ v8 = .int .i64 k) (fun v8 => 3 - (intOf v8).toNat)
        case atStart => exact ⟨0, by decide, rfl⟩
        case round =>
          obtain ⟨k, hk, rfl⟩ := hrel
          rcases hk with rfl | rfl | rfl
          · go_wp2_with (go_at_call 33; refine (conf_rule2_1_0 _ (q 0) b _ (by simp [go_sem, *])).mono ?_; rintro e w' ⟨rfl, rfl⟩)
            go_round
            case rel => exact ⟨1, by decide, rfl⟩
            case measure => simp [intOf]
          · go_wp2_with (go_at_call 33; refine (conf_rule2_1_1 _ (q 1) b _ (by simp [go_sem, *])).mono ?_; rintro e w' ⟨rfl, rfl⟩)
            go_round
            case rel => exact ⟨2, by decide, rfl⟩
            case measure => simp [intOf]
          · go_wp2_with (go_at_call 33; refine (conf_rule2_1_2 _ (q 2) b _ (by simp [go_sem, *])).mono ?_; rintro e w' ⟨rfl, rfl⟩)
            go_ret
            exact ⟨by simp [*], (by repeat (first | exact Below.refl _ _ | assumption | refine bl_alloc ?_ _ | refine bl_drewN ?_ _ | refine bl_drew ?_ | refine bl_set ?_ (by first | (simp; done) | (simp; omega) | (dsimp only; omega)) _ | refine bl_then ?_ (by assumption)))⟩
      · go_enter Try.func29, Try.ntmps29
        go_wp2
        go_loop [8] (fun v8 => ∃ k : Int, (k = 0 ∨ k = 1 ∨ k = 2 ∨ k = 3) ∧ v8 = .int .i64 k) (fun v8 => 3 - (intOf v8).toNat)
        case atStart => exact ⟨0, by decide, rfl⟩
        case round =>
          obtain ⟨k, hk, rfl⟩ := hrel
          rcases hk with rfl | rfl | rfl | rfl
          · go_wp2_with (go_at_call 33; refine (conf_rule2_1_0 _ (q 0) b _ (by simp [go_sem, *])).mono ?_; rintro e w' ⟨rfl, rfl⟩)
            go_round
            case rel => exact ⟨1, by decide, rfl⟩
            case measure => simp [intOf]
          · go_wp2_with (go_at_call 33; refine (conf_rule2_1_1 _ (q 1) b _ (by simp [go_sem, *])).mono ?_; rintro e w' ⟨rfl, rfl⟩)
            go_round
            case rel => exact ⟨2, by decide, rfl⟩
            case measure => simp [intOf]
          · go_wp2_with (go_at_call 33; refine (conf_rule2_1_2 _ (q 2) b _ (by simp [go_sem, *])).mono ?_; rintro e w' ⟨rfl, rfl⟩)
            go_round
            case rel => exact ⟨3, by decide, rfl⟩
            case measure => simp [intOf]
          · go_wp2_with (go_at_call 33; refine (conf_rule2_1_2 _ (q 2) b _ (by simp [go_sem, *])).mono ?_; rintro e w' ⟨rfl, rfl⟩)
            go_ret
            exact ⟨by simp [*], (by repeat (first | exact Below.refl _ _ | assumption | refine bl_alloc ?_ _ | refine bl_drewN ?_ _ | refine bl_drew ?_ | refine bl_set ?_ (by first | (simp; done) | (simp; omega) | (dsimp only; omega)) _ | refine bl_then ?_ (by assumption)))⟩
set_option maxRecDepth 100000 in
set_option maxHeartbeats 2000000 in
theorem conf_r2 (c : Nat → Int) (w : World) : Calls Try.prog 32 #[.agg #[.int .i64 (c 0), .int .i64 (c 1), .int .i64 (c 2), .int .i64 (c 3), .int .i64 (c 4), .int .i64 (c 5), .int .i64 (c 6), .int .i64 (c 7), .int .i64 (c 8), .int .i64 (c 9), .int .i64 (c 10), .int .i64 (c 11), .int .i64 (c 12), .int .i64 (c 13), .int .i64 (c 14), .int .i64 (c 15), .int .i64 (c 16), .int .i64 (c 17), .int .i64 (c 18), .int .i64 (c 19), .int .i64 (c 20), .int .i64 (c 21), .int .i64 (c 22), .int .i64 (c 23), .int .i64 (c 24), .int .i64 (c 25), .int .i64 (c 26), .int .i64 (c 27), .int .i64 (c 28), .int .i64 (c 29), .int .i64 (c 30)]] w fun e w' => e = .returned (.bool (ruleB c 2)) ∧ Below w.heap.size w w' := by
  go_enter Try.func32, Try.ntmps32
  go_wp2_with (go_at_call 29; refine (conf_all2 (fun i => c (3 + i)) c w.heap.size _ (by simp [go_sem]) (by simp [go_sem]) (by simp [go_sem])).mono ?_; rintro e w1 ⟨rfl, hb1⟩; have hbel := Asd.mk (bl_then (w := w) (by repeat (first | exact Below.refl _ _ | assumption | refine bl_alloc ?_ _ | refine bl_drewN ?_ _ | refine bl_drew ?_ | refine bl_set ?_ (by first | (simp; done) | (simp; omega) | (dsimp only; omega)) _ | refine bl_then ?_ (by assumption))) hb1))
  go_ret
  exact ⟨rfl, hbel.out⟩
end Go.Proofs.Ytpgkchbgjciinaa
