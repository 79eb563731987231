/- Walks of layer 13 (conf): the rule of the bounds. -/
import Derived.Test.YtpgkchbgjciinaaKg
namespace Go.Proofs.Ytpgkchbgjciinaa
open Go.RowKit
set_option linter.unusedSimpArgs false
set_option linter.unusedVariables false
attribute [local go_sem] nlt2 nlt3 nlt4 nlt5 nlt6 nlt7 nlt8 nlt9 nlt10 nlt11 nlt12
attribute [local go_sem] ixVec_0 ixVec_1 ixVec_2
set_option maxHeartbeats 400000 in
theorem conf_rule5_1 (i x : Int) (w : World) : Calls Try.prog 38 #[.int .i64 i, .int .i64 x] w fun e w' => e = .returned (.bool (decide (x ≤ 72057594037927936))) ∧ w = w' := by
  go_enter Try.func38, Try.ntmps38
  go_wp2
  go_ret
  exact ⟨rfl, rfl⟩
set_option maxRecDepth 100000 in
set_option maxHeartbeats 1000000 in
theorem conf_all5 (v : Nat → Int) (w : World) :
    Calls Try.prog 29 #[.agg #[.int .i64 (v 0), .int .i64 (v 1), .int .i64 (v 2)], .func (.func 38) #[] #[]] w fun e w' => e = .returned (.bool (decide ((v 0) ≤ 72057594037927936) && (decide ((v 1) ≤ 72057594037927936) && decide ((v 2) ≤ 72057594037927936)))) ∧ Below w.heap.size w w' := by
  cases h0 : decide ((v 0) ≤ 72057594037927936)
  · go_enter Try.func29, Try.ntmps29
    go_wp2
    go_loop [8] (fun v8 => ∃ k : Int, (k = 0) ∧ v8 = .int .i64 k) (fun v8 => 3 - (intOf v8).toNat)
    case atStart => exact ⟨0, by decide, rfl⟩
    case round =>
      obtain ⟨k, hk, rfl⟩ := hrel
      obtain rfl := hk
      go_wp2_with (go_at_call 38; refine (conf_rule5_1 _ _ _).mono ?_; rintro e w' ⟨rfl, rfl⟩)
      go_ret
      exact ⟨by simp [*], (by repeat (first | exact Below.refl _ _ | assumption | refine bl_alloc ?_ _ | refine bl_drewN ?_ _ | refine bl_drew ?_ | refine bl_set ?_ (by first | (simp; done) | (simp; omega) | (dsimp only; omega)) _ | refine bl_then ?_ (by assumption)))⟩
  · cases h1 : decide ((v 1) ≤ 72057594037927936)
    · go_enter Try.func29, Try.ntmps29
      go_wp2
      go_loop [8] (fun v8 => ∃ k : Int, (k = 0 ∨ k = 1) ∧ v8 = .int .i64 k) (fun v8 => 3 - (intOf v8).toNat)
      case atStart => exact ⟨0, by decide, rfl⟩
      case round =>
        obtain ⟨k, hk, rfl⟩ := hrel
        rcases hk with rfl | rfl
        · go_wp2_with (go_at_call 38; refine (conf_rule5_1 _ _ _).mono ?_; rintro e w' ⟨rfl, rfl⟩)
          go_round
          case rel => exact ⟨1, by decide, rfl⟩
          case measure => simp [intOf]
        · go_wp2_with (go_at_call 38; refine (conf_rule5_1 _ _ _).mono ?_; rintro e w' ⟨rfl, rfl⟩)
          go_ret
          exact ⟨by simp [*], (by repeat (first | exact Below.refl _ _ | assumption | refine bl_alloc ?_ _ | refine bl_drewN ?_ _ | refine bl_drew ?_ | refine bl_set ?_ (by first | (simp; done) | (simp; omega) | (dsimp only; omega)) _ | refine bl_then ?_ (by assumption)))⟩
    · cases h2 : decide ((v 2) ≤ 72057594037927936)
      · go_enter Try.func29, Try.ntmps29
        go_wp2
        go_loop [8] (fun v8 => ∃ k : Int, (k = 0 ∨ k = 1 ∨ k = 2) ∧ v8 = .int .i64 k) (fun v8 => 3 - (intOf v8).toNat)
        case atStart => exact ⟨0, by decide, rfl⟩
        case round =>
          obtain ⟨k, hk, rfl⟩ := hrel
          rcases hk with rfl | rfl | rfl
          · go_wp2_with (go_at_call 38; refine (conf_rule5_1 _ _ _).mono ?_; rintro e w' ⟨rfl, rfl⟩)
            go_round
            case rel => exact ⟨1, by decide, rfl⟩
            case measure => simp [intOf]
          · go_wp2_with (go_at_call 38; refine (conf_rule5_1 _ _ _).mono ?_; rintro e w' ⟨rfl, rfl⟩)
            go_round
            case rel => exact ⟨2, by decide, rfl⟩
            case measure => simp [intOf]
          · go_wp2_with (go_at_call 38; refine (conf_rule5_1 _ _ _).mono ?_; rintro e w' ⟨rfl, rfl⟩)
            go_ret
            exact ⟨by simp [*], (by repeat (first | exact Below.refl _ _ | assumption | refine bl_alloc ?_ _ | refine bl_drewN ?_ _ | refine bl_drew ?_ | refine bl_set ?_ (by first | (simp; done) | (simp; omega) | (dsimp only; omega)) _ | refine bl_then ?_ (by assumption)))⟩
      · go_enter Try.func29, Try.ntmps29
        go_wp2
        go_loop [8] (fun v8 => ∃ k : Int, (k = 0 ∨ k = 1 ∨ k = 2 ∨ k = 3) ∧ v8 = .int .i64 k) (fun v8 => 3 - (intOf v8).toNat)
        case atStart => exact ⟨0, by decide, rfl⟩
        case round =>
          obtain ⟨k, hk, rfl⟩ := hrel
          rcases hk with rfl | rfl | rfl | rfl
          · go_wp2_with (go_at_call 38; refine (conf_rule5_1 _ _ _).mono ?_; rintro e w' ⟨rfl, rfl⟩)
            go_round
            case rel => exact ⟨1, by decide, rfl⟩
            case measure => simp [intOf]
          · go_wp2_with (go_at_call 38; refine (conf_rule5_1 _ _ _).mono ?_; rintro e w' ⟨rfl, rfl⟩)
            go_round
            case rel => exact ⟨2, by decide, rfl⟩
            case measure => simp [intOf]
          · go_wp2_with (go_at_call 38; refine (conf_rule5_1 _ _ _).mono ?_; rintro e w' ⟨rfl, rfl⟩)
            go_round
            case rel => exact ⟨3, by decide, rfl⟩
            case measure => simp [intOf]
          · go_wp2_with (go_at_call 38; refine (conf_rule5_1 _ _ _).mono ?_; rintro e w' ⟨rfl, rfl⟩)
            go_ret
            exact ⟨by simp [*], (by repeat (first | exact Below.refl _ _ | assumption | refine bl_alloc ?_ _ | refine bl_drewN ?_ _ | refine bl_drew ?_ | refine bl_set ?_ (by first | (simp; done) | (simp; omega) | (dsimp only; omega)) _ | refine bl_then ?_ (by assumption)))⟩
set_option maxRecDepth 100000 in
set_option maxHeartbeats 2000000 in
theorem conf_r5 (c : Nat → Int) (w : World) : Calls Try.prog 36 #[.agg #[.int .i64 (c 0), .int .i64 (c 1), .int .i64 (c 2), .int .i64 (c 3), .int .i64 (c 4), .int .i64 (c 5), .int .i64 (c 6), .int .i64 (c 7), .int .i64 (c 8), .int .i64 (c 9), .int .i64 (c 10), .int .i64 (c 11), .int .i64 (c 12), .int .i64 (c 13), .int .i64 (c 14), .int .i64 (c 15), .int .i64 (c 16), .int .i64 (c 17), .int .i64 (c 18), .int .i64 (c 19), .int .i64 (c 20), .int .i64 (c 21), .int .i64 (c 22), .int .i64 (c 23), .int .i64 (c 24), .int .i64 (c 25), .int .i64 (c 26), .int .i64 (c 27), .int .i64 (c 28), .int .i64 (c 29), .int .i64 (c 30)]] w fun e w' => e = .returned (.bool (ruleB c 5)) ∧ Below w.heap.size w w' := by
  obtain ⟨M, hM⟩ : ∃ M, mayB (fun i => c (11 + i)) (fun i => c (14 + i)) = M := ⟨_, rfl⟩
  have HM : Asd (∀ W, Calls Try.prog 37 #[.agg #[.int .i64 (c 11), .int .i64 (c 12), .int .i64 (c 13)], .agg #[.int .i64 (c 14), .int .i64 (c 15), .int .i64 (c 16)]] W fun e w' => e = .returned (.bool M) ∧ Below W.heap.size W w') := ⟨fun W => by
    have k := tame_May (fun i => c (11 + i)) (fun i => c (14 + i)) W
    rw [← hM]; exact k⟩
  obtain ⟨B, hB⟩ : ∃ B, (decide (c 14 ≤ 72057594037927936) && (decide (c 15 ≤ 72057594037927936) && decide (c 16 ≤ 72057594037927936))) = B := ⟨_, rfl⟩
  have HA : Asd (∀ W, Calls Try.prog 29 #[.agg #[.int .i64 (c 14), .int .i64 (c 15), .int .i64 (c 16)], .func (.func 38) #[] #[]] W fun e w' => e = .returned (.bool B) ∧ Below W.heap.size W w') := ⟨fun W => by
    have k := conf_all5 (fun i => c (14 + i)) W
    rw [← hB]; exact k⟩
  have hr : ruleB c 5 = (M && B) := by rw [← hB, ← hM]; rfl
  rw [hr]
  clear hr hB hM
  have S0 := Asd.mk (St.refl w)
  cases M
  all_goals cases B
  all_goals (
  go_enter Try.func36, Try.ntmps36
  go_wp2_with (first
      | (go_at_call 29; replace S1 := S1; refine (HA.out _).mono ?_; rintro e w2 ⟨rfl, hb2⟩; apply St.step (w0 := w) (hb := hb2); (focus (with_reducible repeat (first | exact S1.out | apply St.lay | apply St.drew | apply St.drewN))); intro S2; (try simp only [sz_alloc, sz_drew, sz_drewN] at S2); clear hb2 S1; (try clear C1); have C2 := S2.out.facts; simp only [facts, apart, cellsAt, Nat.zero_add, Nat.reduceAdd, and_true] at C2)
      | (go_at_call 37; replace S0 := S0; refine (HM.out _).mono ?_; rintro e w1 ⟨rfl, hb1⟩; apply St.step (w0 := w) (hb := hb1); (focus (with_reducible repeat (first | exact S0.out | apply St.lay | apply St.drew | apply St.drewN))); intro S1; (try simp only [sz_alloc, sz_drew, sz_drewN] at S1); clear hb1 S0; (try clear C0); have C1 := S1.out.facts; simp only [facts, apart, cellsAt, Nat.zero_add, Nat.reduceAdd, and_true] at C1))
  go_ret
  exact ⟨by first | rfl | (exact ret_bool (by simp [*]; done)), by first | exact S2.out.bl | exact S1.out.bl⟩)
end Go.Proofs.Ytpgkchbgjciinaa
