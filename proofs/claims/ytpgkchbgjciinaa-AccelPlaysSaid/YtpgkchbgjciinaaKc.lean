/- Walks of layer 13 (conf): the rules of a row and one number more. -/
import Derived.Test.YtpgkchbgjciinaaKb
namespace Go.Proofs.Ytpgkchbgjciinaa
open Go.RowKit
set_option linter.unusedSimpArgs false
set_option linter.unusedVariables false
attribute [local go_sem] nlt2 nlt3 nlt4 nlt5 nlt6 nlt7 nlt8 nlt9 nlt10 nlt11 nlt12
set_option maxRecDepth 100000 in
set_option maxHeartbeats 2000000 in
theorem conf_r7 (c : Nat → Int) (w : World) : Calls Try.prog 41 #[.agg #[.int .i64 (c 0), .int .i64 (c 1), .int .i64 (c 2), .int .i64 (c 3), .int .i64 (c 4), .int .i64 (c 5), .int .i64 (c 6), .int .i64 (c 7), .int .i64 (c 8), .int .i64 (c 9), .int .i64 (c 10), .int .i64 (c 11), .int .i64 (c 12), .int .i64 (c 13), .int .i64 (c 14), .int .i64 (c 15), .int .i64 (c 16), .int .i64 (c 17), .int .i64 (c 18), .int .i64 (c 19), .int .i64 (c 20), .int .i64 (c 21), .int .i64 (c 22), .int .i64 (c 23), .int .i64 (c 24), .int .i64 (c 25), .int .i64 (c 26), .int .i64 (c 27), .int .i64 (c 28), .int .i64 (c 29), .int .i64 (c 30)]] w fun e w' => e = .returned (.bool (ruleB c 7)) ∧ Below w.heap.size w w' := by
  obtain ⟨B, hB⟩ : ∃ B, (wiB (c 17) 0 72057594037927936 && (wiB (c 18) 0 72057594037927936 && wiB (c 19) 0 72057594037927936)) = B := ⟨_, rfl⟩
  have HA : Asd (∀ W, Calls Try.prog 29 #[.agg #[.int .i64 (c 17), .int .i64 (c 18), .int .i64 (c 19)], .func (.func 42) #[] #[]] W fun e w' => e = .returned (.bool B) ∧ Below W.heap.size W w') := ⟨fun W => by
    have k := conf_all7 (fun i => c (17 + i)) W
    rw [← hB]; exact k⟩
  obtain ⟨D, hD⟩ : ∃ D, decide (18014398509481984 ≤ c 17) = D := ⟨_, rfl⟩
  have hr : ruleB c 7 = (B && D) := by rw [← hB, ← hD]; rfl
  rw [hr]
  clear hr hB
  cases B
  all_goals cases D
  all_goals (
  go_enter Try.func41, Try.ntmps41
  go_wp2_with (first | (go_at_call 31; refine (conf_within _ _ _ _).mono ?_; rintro e w' ⟨rfl, rfl⟩) | (go_at_call 29; refine (HA.out _).mono ?_; rintro e w1 ⟨rfl, hb1⟩; obtain ⟨hc1, hf1⟩ := bcell hb1; have hz1_0 : w.heap.size < w1.heap.size := Nat.lt_of_lt_of_le (by first | (simp; done) | (simp; omega) | (simp [go_sem]; done) | (simp [go_sem]; omega) | omega) hb1.size; have hbel := Asd.mk (bl_then (w := w) (by repeat (first | exact Below.refl _ _ | assumption | refine bl_alloc ?_ _ | refine bl_drewN ?_ _ | refine bl_drew ?_ | refine bl_set ?_ (by first | (simp; done) | (simp; omega) | (dsimp only; omega)) _ | refine bl_then ?_ (by assumption))) hb1); clear hb1))
  all_goals (
  go_ret
  exact ⟨by first | rfl | (exact ret_bool (by simp [*]; done)), by first | exact hbel.out | exact (by repeat (first | exact Below.refl _ _ | assumption | refine bl_alloc ?_ _ | refine bl_drewN ?_ _ | refine bl_drew ?_ | refine bl_set ?_ (by first | (simp; done) | (simp; omega) | (dsimp only; omega)) _ | refine bl_then ?_ (by assumption)))⟩))
set_option maxRecDepth 100000 in
set_option maxHeartbeats 2000000 in
theorem conf_r9 (c : Nat → Int) (w : World) : Calls Try.prog 44 #[.agg #[.int .i64 (c 0), .int .i64 (c 1), .int .i64 (c 2), .int .i64 (c 3), .int .i64 (c 4), .int .i64 (c 5), .int .i64 (c 6), .int .i64 (c 7), .int .i64 (c 8), .int .i64 (c 9), .int .i64 (c 10), .int .i64 (c 11), .int .i64 (c 12), .int .i64 (c 13), .int .i64 (c 14), .int .i64 (c 15), .int .i64 (c 16), .int .i64 (c 17), .int .i64 (c 18), .int .i64 (c 19), .int .i64 (c 20), .int .i64 (c 21), .int .i64 (c 22), .int .i64 (c 23), .int .i64 (c 24), .int .i64 (c 25), .int .i64 (c 26), .int .i64 (c 27), .int .i64 (c 28), .int .i64 (c 29), .int .i64 (c 30)]] w fun e w' => e = .returned (.bool (ruleB c 9)) ∧ Below w.heap.size w w' := by
  obtain ⟨B, hB⟩ : ∃ B, (wiB (c 21) (-4398046511104) 4398046511104 && (wiB (c 22) (-4398046511104) 4398046511104 && wiB (c 23) (-4398046511104) 4398046511104)) = B := ⟨_, rfl⟩
  have HA : Asd (∀ W, Calls Try.prog 29 #[.agg #[.int .i64 (c 21), .int .i64 (c 22), .int .i64 (c 23)], .func (.func 45) #[] #[]] W fun e w' => e = .returned (.bool B) ∧ Below W.heap.size W w') := ⟨fun W => by
    have k := conf_all9 (fun i => c (21 + i)) W
    rw [← hB]; exact k⟩
  obtain ⟨D, hD⟩ : ∃ D, wiB (c 21) 0 1099511627776 = D := ⟨_, rfl⟩
  have hr : ruleB c 9 = (B && D) := by rw [← hB, ← hD]; rfl
  rw [hr]
  clear hr hB
  cases B
  all_goals cases D
  all_goals (
  go_enter Try.func44, Try.ntmps44
  go_wp2_with (first | (go_at_call 31; refine (conf_within _ _ _ _).mono ?_; rintro e w' ⟨rfl, rfl⟩) | (go_at_call 29; refine (HA.out _).mono ?_; rintro e w1 ⟨rfl, hb1⟩; obtain ⟨hc1, hf1⟩ := bcell hb1; have hz1_0 : w.heap.size < w1.heap.size := Nat.lt_of_lt_of_le (by first | (simp; done) | (simp; omega) | (simp [go_sem]; done) | (simp [go_sem]; omega) | omega) hb1.size; have hbel := Asd.mk (bl_then (w := w) (by repeat (first | exact Below.refl _ _ | assumption | refine bl_alloc ?_ _ | refine bl_drewN ?_ _ | refine bl_drew ?_ | refine bl_set ?_ (by first | (simp; done) | (simp; omega) | (dsimp only; omega)) _ | refine bl_then ?_ (by assumption))) hb1); clear hb1))
  all_goals (
  go_ret
  exact ⟨by first | rfl | (exact ret_bool (by simp [*]; done)), by first | exact hbel.out | exact (by repeat (first | exact Below.refl _ _ | assumption | refine bl_alloc ?_ _ | refine bl_drewN ?_ _ | refine bl_drew ?_ | refine bl_set ?_ (by first | (simp; done) | (simp; omega) | (dsimp only; omega)) _ | refine bl_then ?_ (by assumption)))⟩))
end Go.Proofs.Ytpgkchbgjciinaa
