/- Walks of layer 13 (conf): the rule of the start row, whose closure holds the configuration and draws an order. -/
import Derived.Test.YtpgkchbgjciinaaKd
import Derived.Deep.QuietTactic
import Derived.BigQuiet
namespace Go.Proofs.Ytpgkchbgjciinaa
open Go.RowKit
set_option linter.unusedSimpArgs false
set_option linter.unusedVariables false
attribute [local go_sem] nlt2 nlt3 nlt4 nlt5 nlt6 nlt7 nlt8 nlt9 nlt10 nlt11 nlt12
attribute [local go_sem] ixVec_0 ixVec_1 ixVec_2
theorem quiet_left' {P : Program} {f : FuncId} {args : Array Value} {w : World} {n : Nat} {v : Value}
    (h : Calls P f args (w.drewN n) fun e w' => e = .returned v ∧ w.drewN n = w') : Calls P f args (w.drewN n) fun e w' => e = .returned v ∧ ∃ m, w' = w.drewN m :=
  h.mono fun _ _ ⟨he, hw⟩ => ⟨he, n, hw.symm⟩
set_option maxHeartbeats 800000 in
theorem conf_rule6_1_0 (x p q : Int) (b : Nat) (w : World) (h : w.cell? ⟨b, 11, none⟩ = some (.int .i64 p)) (h2 : w.cell? ⟨b, 14, none⟩ = some (.int .i64 q)) : Calls Try.prog 40 #[.int .i64 0, .int .i64 x, .pointer (some ⟨b, 0, none⟩)] w fun e w' => e = .returned (.bool (wiB x p q)) ∧ Below w.heap.size w w' := by
  go_enter Try.func40, Try.ntmps40
  go_wp2
  go_quiet ((go_at_call 31; exact quiet_left' (conf_within _ _ _ _)))
  go_wp2
  go_ret
  exact ⟨rfl, (by repeat (first | exact Below.refl _ _ | assumption | refine bl_alloc ?_ _ | refine bl_drewN ?_ _ | refine bl_drew ?_ | refine bl_set ?_ (by first | (simp; done) | (simp; omega) | (dsimp only; omega)) _ | refine bl_then ?_ (by assumption)))⟩
set_option maxHeartbeats 800000 in
theorem conf_rule6_1_1 (x p q : Int) (b : Nat) (w : World) (h : w.cell? ⟨b, 12, none⟩ = some (.int .i64 p)) (h2 : w.cell? ⟨b, 15, none⟩ = some (.int .i64 q)) : Calls Try.prog 40 #[.int .i64 1, .int .i64 x, .pointer (some ⟨b, 0, none⟩)] w fun e w' => e = .returned (.bool (wiB x p q)) ∧ Below w.heap.size w w' := by
  go_enter Try.func40, Try.ntmps40
  go_wp2
  go_quiet ((go_at_call 31; exact quiet_left' (conf_within _ _ _ _)))
  go_wp2
  go_ret
  exact ⟨rfl, (by repeat (first | exact Below.refl _ _ | assumption | refine bl_alloc ?_ _ | refine bl_drewN ?_ _ | refine bl_drew ?_ | refine bl_set ?_ (by first | (simp; done) | (simp; omega) | (dsimp only; omega)) _ | refine bl_then ?_ (by assumption)))⟩
set_option maxHeartbeats 800000 in
theorem conf_rule6_1_2 (x p q : Int) (b : Nat) (w : World) (h : w.cell? ⟨b, 13, none⟩ = some (.int .i64 p)) (h2 : w.cell? ⟨b, 16, none⟩ = some (.int .i64 q)) : Calls Try.prog 40 #[.int .i64 2, .int .i64 x, .pointer (some ⟨b, 0, none⟩)] w fun e w' => e = .returned (.bool (wiB x p q)) ∧ Below w.heap.size w w' := by
  go_enter Try.func40, Try.ntmps40
  go_wp2
  go_quiet ((go_at_call 31; exact quiet_left' (conf_within _ _ _ _)))
  go_wp2
  go_ret
  exact ⟨rfl, (by repeat (first | exact Below.refl _ _ | assumption | refine bl_alloc ?_ _ | refine bl_drewN ?_ _ | refine bl_drew ?_ | refine bl_set ?_ (by first | (simp; done) | (simp; omega) | (dsimp only; omega)) _ | refine bl_then ?_ (by assumption)))⟩
set_option maxRecDepth 100000 in
set_option maxHeartbeats 2000000 in
theorem conf_all6 (v p q : Nat → Int) (b : Nat) (w : World) (c0 : w.cell? ⟨b, 11, none⟩ = some (.int .i64 (p 0))) (c1 : w.cell? ⟨b, 12, none⟩ = some (.int .i64 (p 1))) (c2 : w.cell? ⟨b, 13, none⟩ = some (.int .i64 (p 2))) (d0 : w.cell? ⟨b, 14, none⟩ = some (.int .i64 (q 0))) (d1 : w.cell? ⟨b, 15, none⟩ = some (.int .i64 (q 1))) (d2 : w.cell? ⟨b, 16, none⟩ = some (.int .i64 (q 2))) :
    Calls Try.prog 29 #[.agg #[.int .i64 (v 0), .int .i64 (v 1), .int .i64 (v 2)], .func (.func 40) #[] #[.pointer (some ⟨b, 0, none⟩)]] w fun e w' => e = .returned (.bool (wiB (v 0) (p 0) (q 0) && (wiB (v 1) (p 1) (q 1) && wiB (v 2) (p 2) (q 2)))) ∧ Below w.heap.size w w' := by
  have hlt := World.block_lt_of_cell? w _ c0
  simp only at hlt
  have S0 := Asd.mk (St.refl w)
  have HC := Asd.mk (And.intro (And.intro c0 (And.intro c1 c2)) (And.intro d0 (And.intro d1 d2)))
  clear c0 c1 c2 d0 d1 d2
  cases h0 : wiB (v 0) (p 0) (q 0)
  · go_enter Try.func29, Try.ntmps29
    go_wp2
    go_loopw [8] (fun v8 wr => ∃ k : Int, (k = 0) ∧ v8 = .int .i64 k ∧ Asd (St w wr [(w.heap.size, [.int .i64 (v 0), .int .i64 (v 1), .int .i64 (v 2)])] [])) (fun v8 _ => 3 - (intOf v8).toNat)
    case atStart => exact ⟨0, by decide, rfl, ⟨St.lay S0.out _ _⟩⟩
    case round =>
      obtain ⟨k, hk, rfl, S1⟩ := hrel
      obtain rfl := hk
      go_wp2_with (go_at_call 40; refine (conf_rule6_1_0 _ (p 0) (q 0) b _ (by exact (S1.out.bl.cell (p := ⟨b, 11, none⟩) hlt).trans HC.out.1.1) (by exact (S1.out.bl.cell (p := ⟨b, 14, none⟩) hlt).trans HC.out.2.1)).mono ?_; rintro e w1 ⟨rfl, hb1⟩; have S2 := Asd.mk (S1.out.call hb1); clear hb1)
      go_ret
      exact ⟨by simp [*], by first | exact S2.out.bl | exact S1.out.bl⟩
  · cases h1 : wiB (v 1) (p 1) (q 1)
    · go_enter Try.func29, Try.ntmps29
      go_wp2
      go_loopw [8] (fun v8 wr => ∃ k : Int, (k = 0 ∨ k = 1) ∧ v8 = .int .i64 k ∧ Asd (St w wr [(w.heap.size, [.int .i64 (v 0), .int .i64 (v 1), .int .i64 (v 2)])] [])) (fun v8 _ => 3 - (intOf v8).toNat)
      case atStart => exact ⟨0, by decide, rfl, ⟨St.lay S0.out _ _⟩⟩
      case round =>
        obtain ⟨k, hk, rfl, S1⟩ := hrel
        rcases hk with rfl | rfl
        · go_wp2_with (go_at_call 40; refine (conf_rule6_1_0 _ (p 0) (q 0) b _ (by exact (S1.out.bl.cell (p := ⟨b, 11, none⟩) hlt).trans HC.out.1.1) (by exact (S1.out.bl.cell (p := ⟨b, 14, none⟩) hlt).trans HC.out.2.1)).mono ?_; rintro e w1 ⟨rfl, hb1⟩; have S2 := Asd.mk (S1.out.call hb1); clear hb1)
          go_roundw
          case rel => exact ⟨1, by decide, rfl, S2⟩
          case measure => simp [intOf]
        · go_wp2_with (go_at_call 40; refine (conf_rule6_1_1 _ (p 1) (q 1) b _ (by exact (S1.out.bl.cell (p := ⟨b, 12, none⟩) hlt).trans HC.out.1.2.1) (by exact (S1.out.bl.cell (p := ⟨b, 15, none⟩) hlt).trans HC.out.2.2.1)).mono ?_; rintro e w1 ⟨rfl, hb1⟩; have S2 := Asd.mk (S1.out.call hb1); clear hb1)
          go_ret
          exact ⟨by simp [*], by first | exact S2.out.bl | exact S1.out.bl⟩
    · cases h2 : wiB (v 2) (p 2) (q 2)
      · go_enter Try.func29, Try.ntmps29
        go_wp2
        go_loopw [8] (fun v8 wr => ∃ k : Int, (k = 0 ∨ k = 1 ∨ k = 2) ∧ v8 = .int .i64 k ∧ Asd (St w wr [(w.heap.size, [.int .i64 (v 0), .int .i64 (v 1), .int .i64 (v 2)])] [])) (fun v8 _ => 3 - (intOf v8).toNat)
        case atStart => exact ⟨0, by decide, rfl, ⟨St.lay S0.out _ _⟩⟩
        case round =>
          obtain ⟨k, hk, rfl, S1⟩ := hrel
          rcases hk with rfl | rfl | rfl
          · go_wp2_with (go_at_call 40; refine (conf_rule6_1_0 _ (p 0) (q 0) b _ (by exact (S1.out.bl.cell (p := ⟨b, 11, none⟩) hlt).trans HC.out.1.1) (by exact (S1.out.bl.cell (p := ⟨b, 14, none⟩) hlt).trans HC.out.2.1)).mono ?_; rintro e w1 ⟨rfl, hb1⟩; have S2 := Asd.mk (S1.out.call hb1); clear hb1)
            go_roundw
            case rel => exact ⟨1, by decide, rfl, S2⟩
            case measure => simp [intOf]
          · go_wp2_with (go_at_call 40; refine (conf_rule6_1_1 _ (p 1) (q 1) b _ (by exact (S1.out.bl.cell (p := ⟨b, 12, none⟩) hlt).trans HC.out.1.2.1) (by exact (S1.out.bl.cell (p := ⟨b, 15, none⟩) hlt).trans HC.out.2.2.1)).mono ?_; rintro e w1 ⟨rfl, hb1⟩; have S2 := Asd.mk (S1.out.call hb1); clear hb1)
            go_roundw
            case rel => exact ⟨2, by decide, rfl, S2⟩
            case measure => simp [intOf]
          · go_wp2_with (go_at_call 40; refine (conf_rule6_1_2 _ (p 2) (q 2) b _ (by exact (S1.out.bl.cell (p := ⟨b, 13, none⟩) hlt).trans HC.out.1.2.2) (by exact (S1.out.bl.cell (p := ⟨b, 16, none⟩) hlt).trans HC.out.2.2.2)).mono ?_; rintro e w1 ⟨rfl, hb1⟩; have S2 := Asd.mk (S1.out.call hb1); clear hb1)
            go_ret
            exact ⟨by simp [*], by first | exact S2.out.bl | exact S1.out.bl⟩
      · go_enter Try.func29, Try.ntmps29
        go_wp2
        go_loopw [8] (fun v8 wr => ∃ k : Int, (k = 0 ∨ k = 1 ∨ k = 2 ∨ k = 3) ∧ v8 = .int .i64 k ∧ Asd (St w wr [(w.heap.size, [.int .i64 (v 0), .int .i64 (v 1), .int .i64 (v 2)])] [])) (fun v8 _ => 3 - (intOf v8).toNat)
        case atStart => exact ⟨0, by decide, rfl, ⟨St.lay S0.out _ _⟩⟩
        case round =>
          obtain ⟨k, hk, rfl, S1⟩ := hrel
          rcases hk with rfl | rfl | rfl | rfl
          · go_wp2_with (go_at_call 40; refine (conf_rule6_1_0 _ (p 0) (q 0) b _ (by exact (S1.out.bl.cell (p := ⟨b, 11, none⟩) hlt).trans HC.out.1.1) (by exact (S1.out.bl.cell (p := ⟨b, 14, none⟩) hlt).trans HC.out.2.1)).mono ?_; rintro e w1 ⟨rfl, hb1⟩; have S2 := Asd.mk (S1.out.call hb1); clear hb1)
            go_roundw
            case rel => exact ⟨1, by decide, rfl, S2⟩
            case measure => simp [intOf]
          · go_wp2_with (go_at_call 40; refine (conf_rule6_1_1 _ (p 1) (q 1) b _ (by exact (S1.out.bl.cell (p := ⟨b, 12, none⟩) hlt).trans HC.out.1.2.1) (by exact (S1.out.bl.cell (p := ⟨b, 15, none⟩) hlt).trans HC.out.2.2.1)).mono ?_; rintro e w1 ⟨rfl, hb1⟩; have S2 := Asd.mk (S1.out.call hb1); clear hb1)
            go_roundw
            case rel => exact ⟨2, by decide, rfl, S2⟩
            case measure => simp [intOf]
          · go_wp2_with (go_at_call 40; refine (conf_rule6_1_2 _ (p 2) (q 2) b _ (by exact (S1.out.bl.cell (p := ⟨b, 13, none⟩) hlt).trans HC.out.1.2.2) (by exact (S1.out.bl.cell (p := ⟨b, 16, none⟩) hlt).trans HC.out.2.2.2)).mono ?_; rintro e w1 ⟨rfl, hb1⟩; have S2 := Asd.mk (S1.out.call hb1); clear hb1)
            go_roundw
            case rel => exact ⟨3, by decide, rfl, S2⟩
            case measure => simp [intOf]
          · go_wp2_with (go_at_call 40; refine (conf_rule6_1_2 _ (p 2) (q 2) b _ (by exact (S1.out.bl.cell (p := ⟨b, 13, none⟩) hlt).trans HC.out.1.2.2) (by exact (S1.out.bl.cell (p := ⟨b, 16, none⟩) hlt).trans HC.out.2.2.2)).mono ?_; rintro e w1 ⟨rfl, hb1⟩; have S2 := Asd.mk (S1.out.call hb1); clear hb1)
            go_ret
            exact ⟨by simp [*], by first | exact S2.out.bl | exact S1.out.bl⟩
set_option maxRecDepth 100000 in
set_option maxHeartbeats 2000000 in
theorem conf_r6 (c : Nat → Int) (w : World) : Calls Try.prog 39 #[.agg #[.int .i64 (c 0), .int .i64 (c 1), .int .i64 (c 2), .int .i64 (c 3), .int .i64 (c 4), .int .i64 (c 5), .int .i64 (c 6), .int .i64 (c 7), .int .i64 (c 8), .int .i64 (c 9), .int .i64 (c 10), .int .i64 (c 11), .int .i64 (c 12), .int .i64 (c 13), .int .i64 (c 14), .int .i64 (c 15), .int .i64 (c 16), .int .i64 (c 17), .int .i64 (c 18), .int .i64 (c 19), .int .i64 (c 20), .int .i64 (c 21), .int .i64 (c 22), .int .i64 (c 23), .int .i64 (c 24), .int .i64 (c 25), .int .i64 (c 26), .int .i64 (c 27), .int .i64 (c 28), .int .i64 (c 29), .int .i64 (c 30)]] w fun e w' => e = .returned (.bool (ruleB c 6)) ∧ Below w.heap.size w w' := by
  go_enter Try.func39, Try.ntmps39
  go_wp2_with (go_at_call 29; refine (conf_all6 (fun i => c (8 + i)) (fun i => c (11 + i)) (fun i => c (14 + i)) w.heap.size _ (by simp [go_sem]) (by simp [go_sem]) (by simp [go_sem]) (by simp [go_sem]) (by simp [go_sem]) (by simp [go_sem])).mono ?_; rintro e w1 ⟨rfl, hb1⟩; have hbel := Asd.mk (bl_then (w := w) (by repeat (first | exact Below.refl _ _ | assumption | refine bl_alloc ?_ _ | refine bl_drewN ?_ _ | refine bl_drew ?_ | refine bl_set ?_ (by first | (simp; done) | (simp; omega) | (dsimp only; omega)) _ | refine bl_then ?_ (by assumption))) hb1))
  go_ret
  exact ⟨rfl, hbel.out⟩
end Go.Proofs.Ytpgkchbgjciinaa
