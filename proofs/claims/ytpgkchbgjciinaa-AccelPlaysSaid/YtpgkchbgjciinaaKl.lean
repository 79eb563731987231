/- The document's answer of layer 13 (conf): the first rule that isn't kept; the thrust. -/
import Derived.Test.YtpgkchbgjciinaaKk
namespace Go.Proofs.Ytpgkchbgjciinaa
open Go.RowKit
set_option linter.unusedSimpArgs false
set_option linter.unusedVariables false
attribute [local go_sem] nlt2 nlt3 nlt4 nlt5 nlt6 nlt7 nlt8 nlt9 nlt10 nlt11 nlt12
theorem first_split (c : Nat → Int) (n : Nat) : ∀ (m k : Nat), 1 ≤ k → firstC c (m + n) k = if firstC c m k = 0 then firstC c n (k + m) else firstC c m k
  | 0, k, _ => by simp [firstC]
  | m + 1, k, hk => by
    rw [show m + 1 + n = m + n + 1 from by omega]
    simp only [firstC]
    by_cases h : ruleB c k = true
    · simp only [h, if_true]
      rw [first_split c n m (k + 1) (by omega), show k + 1 + m = k + (m + 1) from by omega]
    · simp only [h, if_false, Bool.false_eq_true]
      rw [if_neg (by omega)]
theorem first_pos (c : Nat → Int) : ∀ (m k : Nat), 0 ≤ firstC c m k
  | 0, _ => by simp [firstC]
  | m + 1, k => by
    simp only [firstC]
    split
    · exact first_pos c m (k + 1)
    · omega
theorem rule9_eq (c : Nat → Int) : ruleB c 9 = (wiB (c 21) 0 1099511627776 && (wiB (c 22) (-4398046511104) 4398046511104 && wiB (c 23) (-4398046511104) 4398046511104)) := by
  rw [Bool.eq_iff_iff]; simp [ruleB, wiB]; omega
theorem rule11_eq (c : Nat → Int) : ruleB c 11 = (wiB (c 26) 1 131072 && wiB (c 25) (1 - c 26) (c 26 - 1)) := by
  rw [Bool.eq_iff_iff]; simp [ruleB, wiB]; omega
theorem thr_bd {n x y m : Int} (h1 : 1 - m ≤ n) (h2 : n ≤ m - 1) (h3 : -m < x) (h4 : x < m) (h5 : m ≤ 131072) (h6 : 1 ≤ y) (h7 : y ≤ 1099511627776) :
    -288230376151711744 ≤ (n - x) * y ∧ (n - x) * y ≤ 288230376151711744 ∧ wrap64 (n - x) = n - x ∧ wrap64 (wrap64 (n - x) * y) = (n - x) * y ∧ wrap64 ((n - x) * y) = (n - x) * y := by
  have e1 : (n - x) * y ≤ 262142 * y := Int.mul_le_mul_of_nonneg_right (by omega) (by omega)
  have e2 : (-262142) * y ≤ (n - x) * y := Int.mul_le_mul_of_nonneg_right (by omega) (by omega)
  have e3 : wrap64 (n - x) = n - x := by unfold wrap64; omega
  rw [e3]
  obtain ⟨p, hp⟩ : ∃ p, (n - x) * y = p := ⟨_, rfl⟩
  rw [hp] at e1 e2 ⊢
  refine ⟨by omega, by omega, rfl, by unfold wrap64; omega, by unfold wrap64; omega⟩
theorem rule12_eq (c : Nat → Int) : ruleB c 12 = wiB (c 27) 0 1000 := rfl
theorem rule14_eq (c : Nat → Int) : ruleB c 14 = wiB (c 30) 0 400000 := rfl
theorem rule13_eq (c : Nat → Int) : ruleB c 13 = (wiB (c 28) 1 (c 29) && !decide (100000 < c 29)) := by
  rw [Bool.eq_iff_iff]; simp [ruleB, wiB]
/-- A count's thrust, and the error's number. -/
def thV (c : Nat → Int) (n : Int) : Int := if ckC c = 0 then (if wiB n (1 - c 26) (c 26 - 1) then (n - c 25) * c 24 else 0) else 0
def thE (c : Nat → Int) (n : Int) : Int := if ckC c = 0 then (if wiB n (1 - c 26) (c 26 - 1) then 0 else 2) else 1
theorem firstC_all {c : Nat → Int} : ∀ {n k : Nat}, 1 ≤ k → firstC c n k = 0 → ∀ j, k ≤ j → j < k + n → ruleB c j = true
  | 0, _, _, _, j, h1, h2 => by omega
  | n + 1, k, hk, h, j, h1, h2 => by
    by_cases hr : ruleB c k = true
    · by_cases e : j = k
      · rw [e]; exact hr
      · exact firstC_all (by omega) (first_step h hr) j (by omega) (by omega)
    · have := first_stop h (by simpa using hr); omega
theorem th_eq {c : Nat → Int} (hc : ∀ i, I64 (c i)) {y : Int} (hy : ckC c = y) (n : Int) :
    thV c n = (if y = 0 then (if wiB n (1 - c 26) (c 26 - 1) then (n - c 25) * c 24 else 0) else 0) ∧ thE c n = (if y = 0 then (if wiB n (1 - c 26) (c 26 - 1) then 0 else 2) else 1) ∧
    (y = 0 → 1 ≤ c 26 ∧ c 26 ≤ 131072 ∧ (-c 26 < c 25 ∧ c 25 < c 26) ∧ (1 ≤ c 24 ∧ c 24 ≤ 1099511627776)) := by
  refine ⟨by unfold thV; rw [hy], by unfold thE; rw [hy], fun h0 => ?_⟩
  subst h0
  have r10 := firstC_all (n := 14) (k := 1) (by decide) hy 10 (by decide) (by decide)
  have r11 := firstC_all (n := 14) (k := 1) (by decide) hy 11 (by decide) (by decide)
  simp [ruleB, wiB] at r10 r11
  omega
set_option maxRecDepth 100000 in
set_option maxHeartbeats 8000000 in
theorem ref13_Check (c : Nat → Int) (w : World) : Calls Try.prog 13 #[.agg #[.int .i64 (c 0), .int .i64 (c 1), .int .i64 (c 2), .int .i64 (c 3), .int .i64 (c 4), .int .i64 (c 5), .int .i64 (c 6), .int .i64 (c 7), .int .i64 (c 8), .int .i64 (c 9), .int .i64 (c 10), .int .i64 (c 11), .int .i64 (c 12), .int .i64 (c 13), .int .i64 (c 14), .int .i64 (c 15), .int .i64 (c 16), .int .i64 (c 17), .int .i64 (c 18), .int .i64 (c 19), .int .i64 (c 20), .int .i64 (c 21), .int .i64 (c 22), .int .i64 (c 23), .int .i64 (c 24), .int .i64 (c 25), .int .i64 (c 26), .int .i64 (c 27), .int .i64 (c 28), .int .i64 (c 29), .int .i64 (c 30)]] w fun e w' => e = .returned (.int .i64 (ckC c)) ∧ Below w.heap.size w w' := by
  obtain ⟨z, hz⟩ : ∃ z, ckC c = z := ⟨_, rfl⟩
  obtain ⟨y, hy⟩ : ∃ y, firstC c 7 1 = y := ⟨_, rfl⟩
  have hzy : z = if y = 0 then firstC c 7 8 else y := by rw [← hz, ← hy]; exact first_split c 7 7 1 (by decide)
  have hy0 : 0 ≤ y := by rw [← hy]; exact first_pos c 7 1
  have HR : Asd (∀ W, Calls Try.prog 26 #[.agg #[.int .i64 (c 0), .int .i64 (c 1), .int .i64 (c 2), .int .i64 (c 3), .int .i64 (c 4), .int .i64 (c 5), .int .i64 (c 6), .int .i64 (c 7), .int .i64 (c 8), .int .i64 (c 9), .int .i64 (c 10), .int .i64 (c 11), .int .i64 (c 12), .int .i64 (c 13), .int .i64 (c 14), .int .i64 (c 15), .int .i64 (c 16), .int .i64 (c 17), .int .i64 (c 18), .int .i64 (c 19), .int .i64 (c 20), .int .i64 (c 21), .int .i64 (c 22), .int .i64 (c 23), .int .i64 (c 24), .int .i64 (c 25), .int .i64 (c 26), .int .i64 (c 27), .int .i64 (c 28), .int .i64 (c 29), .int .i64 (c 30)]] W fun e w' => e = .returned (.int .i64 y) ∧ Below W.heap.size W w') := ⟨fun W => by rw [← hy]; exact ref13_rows c W⟩
  have S0 := Asd.mk (St.refl w)
  replace S0 := Asd.mk (St.lay S0.out [.int .i64 (c 0), .int .i64 (c 1), .int .i64 (c 2), .int .i64 (c 3), .int .i64 (c 4), .int .i64 (c 5), .int .i64 (c 6), .int .i64 (c 7), .int .i64 (c 8), .int .i64 (c 9), .int .i64 (c 10), .int .i64 (c 11), .int .i64 (c 12), .int .i64 (c 13), .int .i64 (c 14), .int .i64 (c 15), .int .i64 (c 16), .int .i64 (c 17), .int .i64 (c 18), .int .i64 (c 19), .int .i64 (c 20), .int .i64 (c 21), .int .i64 (c 22), .int .i64 (c 23), .int .i64 (c 24), .int .i64 (c 25), .int .i64 (c 26), .int .i64 (c 27), .int .i64 (c 28), .int .i64 (c 29), .int .i64 (c 30)] 25)
  go_enter Try.func13, Try.ntmps13
  rw [hz]
  clear hz hy
  have HZ := Asd.mk hzy
  clear hzy
  have hy1 : y = 0 ∨ 0 < y := by omega
  rcases hy1 with rfl | hy1
  rotate_left
  · go_wp2_with (first | (refine wpList_whole 25 rfl rfl w.heap.size (by kernel_rfl) (St.at S0.out 0 rfl) (by kernel_rfl) (by kernel_rfl) ?_) | (go_at_call 26; refine (HR.out _).mono ?_; rintro e w1 ⟨rfl, hb1⟩; apply St.step (w0 := w) (hb := hb1); (exact S0.out); intro S1; clear hb1))
    go_ret
    exact ⟨by rw [HZ.out, if_neg (by omega)]; rfl, S1.out.bl⟩
  have hf : firstC c 7 8 = z := by rw [HZ.out]; rfl
  obtain ⟨b, hr⟩ : ∃ b, ruleB c 8 = b := ⟨_, rfl⟩
  have hb : wiB (c 20) 1 1000 = b := hr
  cases b
  all_goals go_wp2_with (first | (refine wpList_whole 25 rfl rfl w.heap.size (by kernel_rfl) (St.at S0.out 0 rfl) (by kernel_rfl) (by kernel_rfl) ?_) | (go_at_call 26; refine (HR.out _).mono ?_; rintro e wr ⟨rfl, hb1⟩; apply St.step (w0 := w) (hb := hb1); (exact S0.out); intro S1; clear hb1; have L1 := S1.out.facts.1; simp only at L1; have e1_20 := St.cell S1.out 0 20 rfl rfl; have e1_21 := St.cell S1.out 0 21 rfl rfl; have e1_22 := St.cell S1.out 0 22 rfl rfl; have e1_23 := St.cell S1.out 0 23 rfl rfl; have e1_24 := St.cell S1.out 0 24 rfl rfl; have e1_25 := St.cell S1.out 0 25 rfl rfl; have e1_26 := St.cell S1.out 0 26 rfl rfl; have e1_27 := St.cell S1.out 0 27 rfl rfl; have e1_28 := St.cell S1.out 0 28 rfl rfl; have e1_29 := St.cell S1.out 0 29 rfl rfl; have e1_30 := St.cell S1.out 0 30 rfl rfl) | (first | (go_at_call 24; refine (ref13_in _ _ _ _).mono ?_; rintro e w' ⟨rfl, rfl⟩) | (go_at_call 27; first | (refine (Big_17 _).mono ?_; rintro e w' ⟨rfl, rfl⟩) | (refine (Big_38 _).mono ?_; rintro e w' ⟨rfl, rfl⟩) | (refine (Big_40 _).mono ?_; rintro e w' ⟨rfl, rfl⟩) | (refine (Big_42 _).mono ?_; rintro e w' ⟨rfl, rfl⟩) | (refine (Big_50 _).mono ?_; rintro e w' ⟨rfl, rfl⟩) | (refine (Big_54 _).mono ?_; rintro e w' ⟨rfl, rfl⟩) | (refine (Big_56 _).mono ?_; rintro e w' ⟨rfl, rfl⟩))))
  · go_ret
    exact ⟨by rw [← first_stop hf hr]; rfl, S1.out.bl⟩
  clear hb
  replace hf := first_step hf hr
  clear hr
  have hrule := rule9_eq c
  obtain ⟨q0, hq0⟩ : ∃ q, wiB (c 21) (0) (1099511627776) = q := ⟨_, rfl⟩
  have HI0 : Asd (∀ W, Calls Try.prog 24 #[.int .i64 (c 21), .int .i64 (0), .int .i64 (1099511627776)] W fun e w' => e = .returned (.bool q0) ∧ W = w') := ⟨fun W => by rw [← hq0]; exact ref13_in _ _ _ W⟩
  obtain ⟨q1, hq1⟩ : ∃ q, wiB (c 22) (-4398046511104) (4398046511104) = q := ⟨_, rfl⟩
  have HI1 : Asd (∀ W, Calls Try.prog 24 #[.int .i64 (c 22), .int .i64 (-4398046511104), .int .i64 (4398046511104)] W fun e w' => e = .returned (.bool q1) ∧ W = w') := ⟨fun W => by rw [← hq1]; exact ref13_in _ _ _ W⟩
  obtain ⟨q2, hq2⟩ : ∃ q, wiB (c 23) (-4398046511104) (4398046511104) = q := ⟨_, rfl⟩
  have HI2 : Asd (∀ W, Calls Try.prog 24 #[.int .i64 (c 23), .int .i64 (-4398046511104), .int .i64 (4398046511104)] W fun e w' => e = .returned (.bool q2) ∧ W = w') := ⟨fun W => by rw [← hq2]; exact ref13_in _ _ _ W⟩
  rw [hq0, hq1, hq2] at hrule
  cases q0
  · have hr : ruleB c 9 = false := by rw [hrule]; simp
    go_wp2
    go_quiet (first | (go_at_call 24; with_reducible exact quiet_left' (HI0.out _)) | (go_at_call 24; with_reducible exact quiet_left' (HI1.out _)) | (go_at_call 24; with_reducible exact quiet_left' (HI2.out _)) | (go_at_call 27; with_reducible exact quiet_left' (Big_17 _)) | (go_at_call 27; with_reducible exact quiet_left' (Big_38 _)) | (go_at_call 27; with_reducible exact quiet_left' (Big_40 _)) | (go_at_call 27; with_reducible exact quiet_left' (Big_42 _)) | (go_at_call 27; with_reducible exact quiet_left' (Big_50 _)) | (go_at_call 27; with_reducible exact quiet_left' (Big_54 _)) | (go_at_call 27; with_reducible exact quiet_left' (Big_56 _)))
    go_wp2
    go_ret
    exact ⟨by rw [← first_stop hf hr]; rfl, by repeat (first | exact S1.out.bl | refine bl_drewN ?_ _ | refine bl_drew ?_)⟩
  cases q1
  · have hr : ruleB c 9 = false := by rw [hrule]; simp
    go_wp2
    go_quiet (first | (go_at_call 24; with_reducible exact quiet_left' (HI0.out _)) | (go_at_call 24; with_reducible exact quiet_left' (HI1.out _)) | (go_at_call 24; with_reducible exact quiet_left' (HI2.out _)) | (go_at_call 27; with_reducible exact quiet_left' (Big_17 _)) | (go_at_call 27; with_reducible exact quiet_left' (Big_38 _)) | (go_at_call 27; with_reducible exact quiet_left' (Big_40 _)) | (go_at_call 27; with_reducible exact quiet_left' (Big_42 _)) | (go_at_call 27; with_reducible exact quiet_left' (Big_50 _)) | (go_at_call 27; with_reducible exact quiet_left' (Big_54 _)) | (go_at_call 27; with_reducible exact quiet_left' (Big_56 _)))
    go_wp2
    go_ret
    exact ⟨by rw [← first_stop hf hr]; rfl, by repeat (first | exact S1.out.bl | refine bl_drewN ?_ _ | refine bl_drew ?_)⟩
  cases q2
  · have hr : ruleB c 9 = false := by rw [hrule]; simp
    go_wp2
    go_quiet (first | (go_at_call 24; with_reducible exact quiet_left' (HI0.out _)) | (go_at_call 24; with_reducible exact quiet_left' (HI1.out _)) | (go_at_call 24; with_reducible exact quiet_left' (HI2.out _)) | (go_at_call 27; with_reducible exact quiet_left' (Big_17 _)) | (go_at_call 27; with_reducible exact quiet_left' (Big_38 _)) | (go_at_call 27; with_reducible exact quiet_left' (Big_40 _)) | (go_at_call 27; with_reducible exact quiet_left' (Big_42 _)) | (go_at_call 27; with_reducible exact quiet_left' (Big_50 _)) | (go_at_call 27; with_reducible exact quiet_left' (Big_54 _)) | (go_at_call 27; with_reducible exact quiet_left' (Big_56 _)))
    go_wp2
    go_ret
    exact ⟨by rw [← first_stop hf hr]; rfl, by repeat (first | exact S1.out.bl | refine bl_drewN ?_ _ | refine bl_drew ?_)⟩
  have hr : ruleB c 9 = true := by rw [hrule]; rfl
  replace hf := first_step hf hr
  go_wp2
  go_quiet (first | (go_at_call 24; with_reducible exact quiet_left' (HI0.out _)) | (go_at_call 24; with_reducible exact quiet_left' (HI1.out _)) | (go_at_call 24; with_reducible exact quiet_left' (HI2.out _)) | (go_at_call 27; with_reducible exact quiet_left' (Big_17 _)) | (go_at_call 27; with_reducible exact quiet_left' (Big_38 _)) | (go_at_call 27; with_reducible exact quiet_left' (Big_40 _)) | (go_at_call 27; with_reducible exact quiet_left' (Big_42 _)) | (go_at_call 27; with_reducible exact quiet_left' (Big_50 _)) | (go_at_call 27; with_reducible exact quiet_left' (Big_54 _)) | (go_at_call 27; with_reducible exact quiet_left' (Big_56 _)))
  go_wp2
  clear hr hrule HI0 hq0 HI1 hq1 HI2 hq2
  generalize hwr : World.drewN wr _ = wr2
  have S2 : Asd (St w wr2 [(w.heap.size, [.int .i64 (c 0), .int .i64 (c 1), .int .i64 (c 2), .int .i64 (c 3), .int .i64 (c 4), .int .i64 (c 5), .int .i64 (c 6), .int .i64 (c 7), .int .i64 (c 8), .int .i64 (c 9), .int .i64 (c 10), .int .i64 (c 11), .int .i64 (c 12), .int .i64 (c 13), .int .i64 (c 14), .int .i64 (c 15), .int .i64 (c 16), .int .i64 (c 17), .int .i64 (c 18), .int .i64 (c 19), .int .i64 (c 20), .int .i64 (c 21), .int .i64 (c 22), .int .i64 (c 23), .int .i64 (c 24), .int .i64 (c 25), .int .i64 (c 26), .int .i64 (c 27), .int .i64 (c 28), .int .i64 (c 29), .int .i64 (c 30)])] []) := ⟨by rw [← hwr]; exact St.drewN S1.out _⟩
  clear L1 e1_20 e1_21 e1_22 e1_23 e1_24 e1_25 e1_26 e1_27 e1_28 e1_29 e1_30
  clear S1 hwr
  have L2 := S2.out.facts.1; simp only at L2; have e2_20 := St.cell S2.out 0 20 rfl rfl; have e2_21 := St.cell S2.out 0 21 rfl rfl; have e2_22 := St.cell S2.out 0 22 rfl rfl; have e2_23 := St.cell S2.out 0 23 rfl rfl; have e2_24 := St.cell S2.out 0 24 rfl rfl; have e2_25 := St.cell S2.out 0 25 rfl rfl; have e2_26 := St.cell S2.out 0 26 rfl rfl; have e2_27 := St.cell S2.out 0 27 rfl rfl; have e2_28 := St.cell S2.out 0 28 rfl rfl; have e2_29 := St.cell S2.out 0 29 rfl rfl; have e2_30 := St.cell S2.out 0 30 rfl rfl
  obtain ⟨b, hr⟩ : ∃ b, ruleB c 10 = b := ⟨_, rfl⟩
  have hb : wiB (c 24) 1 1099511627776 = b := hr
  cases b
  all_goals (go_wp2; go_quiet (first | (go_at_call 24; exact quiet_left' (ref13_in _ _ _ _)) | (go_at_call 27; with_reducible exact quiet_left' (Big_17 _)) | (go_at_call 27; with_reducible exact quiet_left' (Big_38 _)) | (go_at_call 27; with_reducible exact quiet_left' (Big_40 _)) | (go_at_call 27; with_reducible exact quiet_left' (Big_42 _)) | (go_at_call 27; with_reducible exact quiet_left' (Big_50 _)) | (go_at_call 27; with_reducible exact quiet_left' (Big_54 _)) | (go_at_call 27; with_reducible exact quiet_left' (Big_56 _))); go_wp2)
  · go_ret
    exact ⟨by rw [← first_stop hf hr]; rfl, by repeat (first | exact S2.out.bl | refine bl_drewN ?_ _ | refine bl_drew ?_)⟩
  clear hb
  replace hf := first_step hf hr
  clear hr
  generalize hwr : World.drewN wr2 _ = wr3
  have S3 : Asd (St w wr3 [(w.heap.size, [.int .i64 (c 0), .int .i64 (c 1), .int .i64 (c 2), .int .i64 (c 3), .int .i64 (c 4), .int .i64 (c 5), .int .i64 (c 6), .int .i64 (c 7), .int .i64 (c 8), .int .i64 (c 9), .int .i64 (c 10), .int .i64 (c 11), .int .i64 (c 12), .int .i64 (c 13), .int .i64 (c 14), .int .i64 (c 15), .int .i64 (c 16), .int .i64 (c 17), .int .i64 (c 18), .int .i64 (c 19), .int .i64 (c 20), .int .i64 (c 21), .int .i64 (c 22), .int .i64 (c 23), .int .i64 (c 24), .int .i64 (c 25), .int .i64 (c 26), .int .i64 (c 27), .int .i64 (c 28), .int .i64 (c 29), .int .i64 (c 30)])] []) := ⟨by rw [← hwr]; exact St.drewN S2.out _⟩
  clear L2 e2_20 e2_21 e2_22 e2_23 e2_24 e2_25 e2_26 e2_27 e2_28 e2_29 e2_30
  clear S2 hwr
  have L3 := S3.out.facts.1; simp only at L3; have e3_20 := St.cell S3.out 0 20 rfl rfl; have e3_21 := St.cell S3.out 0 21 rfl rfl; have e3_22 := St.cell S3.out 0 22 rfl rfl; have e3_23 := St.cell S3.out 0 23 rfl rfl; have e3_24 := St.cell S3.out 0 24 rfl rfl; have e3_25 := St.cell S3.out 0 25 rfl rfl; have e3_26 := St.cell S3.out 0 26 rfl rfl; have e3_27 := St.cell S3.out 0 27 rfl rfl; have e3_28 := St.cell S3.out 0 28 rfl rfl; have e3_29 := St.cell S3.out 0 29 rfl rfl; have e3_30 := St.cell S3.out 0 30 rfl rfl
  have hrule := rule11_eq c
  obtain ⟨q0, hq0⟩ : ∃ q, wiB (c 26) (1) (131072) = q := ⟨_, rfl⟩
  have HI0 : Asd (∀ W, Calls Try.prog 24 #[.int .i64 (c 26), .int .i64 (1), .int .i64 (131072)] W fun e w' => e = .returned (.bool q0) ∧ W = w') := ⟨fun W => by rw [← hq0]; exact ref13_in _ _ _ W⟩
  obtain ⟨q1, hq1⟩ : ∃ q, wiB (c 25) (1 - c 26) (c 26 - 1) = q := ⟨_, rfl⟩
  have HI1 : Asd (∀ W, Calls Try.prog 24 #[.int .i64 (c 25), .int .i64 (1 - c 26), .int .i64 (c 26 - 1)] W fun e w' => e = .returned (.bool q1) ∧ W = w') := ⟨fun W => by rw [← hq1]; exact ref13_in _ _ _ W⟩
  rw [hq0, hq1] at hrule
  cases q0
  · have hr : ruleB c 11 = false := by rw [hrule]; simp
    go_wp2
    go_quiet (first | (go_at_call 24; with_reducible exact quiet_left' (HI0.out _)) | (go_at_call 24; with_reducible exact quiet_left' (HI1.out _)) | (go_at_call 27; with_reducible exact quiet_left' (Big_17 _)) | (go_at_call 27; with_reducible exact quiet_left' (Big_38 _)) | (go_at_call 27; with_reducible exact quiet_left' (Big_40 _)) | (go_at_call 27; with_reducible exact quiet_left' (Big_42 _)) | (go_at_call 27; with_reducible exact quiet_left' (Big_50 _)) | (go_at_call 27; with_reducible exact quiet_left' (Big_54 _)) | (go_at_call 27; with_reducible exact quiet_left' (Big_56 _)))
    go_wp2
    go_ret
    exact ⟨by rw [← first_stop hf hr]; rfl, by repeat (first | exact S3.out.bl | refine bl_drewN ?_ _ | refine bl_drew ?_)⟩
  obtain ⟨k1, k2⟩ := wiB_true.1 hq0
  cases q1
  · have hr : ruleB c 11 = false := by rw [hrule]; simp
    go_wp2
    go_quiet (first | (go_at_call 24; with_reducible exact quiet_left' (HI0.out _)) | (go_at_call 24; with_reducible exact quiet_left' (HI1.out _)) | (go_at_call 27; with_reducible exact quiet_left' (Big_17 _)) | (go_at_call 27; with_reducible exact quiet_left' (Big_38 _)) | (go_at_call 27; with_reducible exact quiet_left' (Big_40 _)) | (go_at_call 27; with_reducible exact quiet_left' (Big_42 _)) | (go_at_call 27; with_reducible exact quiet_left' (Big_50 _)) | (go_at_call 27; with_reducible exact quiet_left' (Big_54 _)) | (go_at_call 27; with_reducible exact quiet_left' (Big_56 _)))
    go_wp2
    go_ret
    exact ⟨by rw [← first_stop hf hr]; rfl, by repeat (first | exact S3.out.bl | refine bl_drewN ?_ _ | refine bl_drew ?_)⟩
  have hr : ruleB c 11 = true := by rw [hrule]; rfl
  replace hf := first_step hf hr
  go_wp2
  go_quiet (first | (go_at_call 24; with_reducible exact quiet_left' (HI0.out _)) | (go_at_call 24; with_reducible exact quiet_left' (HI1.out _)) | (go_at_call 27; with_reducible exact quiet_left' (Big_17 _)) | (go_at_call 27; with_reducible exact quiet_left' (Big_38 _)) | (go_at_call 27; with_reducible exact quiet_left' (Big_40 _)) | (go_at_call 27; with_reducible exact quiet_left' (Big_42 _)) | (go_at_call 27; with_reducible exact quiet_left' (Big_50 _)) | (go_at_call 27; with_reducible exact quiet_left' (Big_54 _)) | (go_at_call 27; with_reducible exact quiet_left' (Big_56 _)))
  go_wp2_with fail
  clear hr hrule HI0 hq0 HI1 hq1
  generalize hwr : World.drewN wr3 _ = wr4
  have S4 : Asd (St w wr4 [(w.heap.size, [.int .i64 (c 0), .int .i64 (c 1), .int .i64 (c 2), .int .i64 (c 3), .int .i64 (c 4), .int .i64 (c 5), .int .i64 (c 6), .int .i64 (c 7), .int .i64 (c 8), .int .i64 (c 9), .int .i64 (c 10), .int .i64 (c 11), .int .i64 (c 12), .int .i64 (c 13), .int .i64 (c 14), .int .i64 (c 15), .int .i64 (c 16), .int .i64 (c 17), .int .i64 (c 18), .int .i64 (c 19), .int .i64 (c 20), .int .i64 (c 21), .int .i64 (c 22), .int .i64 (c 23), .int .i64 (c 24), .int .i64 (c 25), .int .i64 (c 26), .int .i64 (c 27), .int .i64 (c 28), .int .i64 (c 29), .int .i64 (c 30)])] []) := ⟨by rw [← hwr]; exact St.drewN S3.out _⟩
  clear L3 e3_20 e3_21 e3_22 e3_23 e3_24 e3_25 e3_26 e3_27 e3_28 e3_29 e3_30
  clear S3 hwr
  have L4 := S4.out.facts.1; simp only at L4; have e4_20 := St.cell S4.out 0 20 rfl rfl; have e4_21 := St.cell S4.out 0 21 rfl rfl; have e4_22 := St.cell S4.out 0 22 rfl rfl; have e4_23 := St.cell S4.out 0 23 rfl rfl; have e4_24 := St.cell S4.out 0 24 rfl rfl; have e4_25 := St.cell S4.out 0 25 rfl rfl; have e4_26 := St.cell S4.out 0 26 rfl rfl; have e4_27 := St.cell S4.out 0 27 rfl rfl; have e4_28 := St.cell S4.out 0 28 rfl rfl; have e4_29 := St.cell S4.out 0 29 rfl rfl; have e4_30 := St.cell S4.out 0 30 rfl rfl
  have hrule := And.intro (rule12_eq c) (And.intro (rule13_eq c) (rule14_eq c))
  obtain ⟨q0, hq0⟩ : ∃ q, wiB (c 27) (0) (1000) = q := ⟨_, rfl⟩
  have HI0 : Asd (∀ W, Calls Try.prog 24 #[.int .i64 (c 27), .int .i64 (0), .int .i64 (1000)] W fun e w' => e = .returned (.bool q0) ∧ W = w') := ⟨fun W => by rw [← hq0]; exact ref13_in _ _ _ W⟩
  obtain ⟨q1, hq1⟩ : ∃ q, wiB (c 28) (1) (c 29) = q := ⟨_, rfl⟩
  have HI1 : Asd (∀ W, Calls Try.prog 24 #[.int .i64 (c 28), .int .i64 (1), .int .i64 (c 29)] W fun e w' => e = .returned (.bool q1) ∧ W = w') := ⟨fun W => by rw [← hq1]; exact ref13_in _ _ _ W⟩
  obtain ⟨q2, hq2⟩ : ∃ q, wiB (c 30) (0) (400000) = q := ⟨_, rfl⟩
  have HI2 : Asd (∀ W, Calls Try.prog 24 #[.int .i64 (c 30), .int .i64 (0), .int .i64 (400000)] W fun e w' => e = .returned (.bool q2) ∧ W = w') := ⟨fun W => by rw [← hq2]; exact ref13_in _ _ _ W⟩
  simp only [hq0, hq1, hq2] at hrule
  obtain ⟨h12, h13, h14⟩ := hrule
  clear hq0 hq1 hq2
  cases q0
  · have hr : ruleB c 12 = false := by first | (rw [h12]; done) | (rw [h12]; simp; done)
    go_wp2_with (first | (go_at_call 24; with_reducible refine (HI0.out _).mono ?_; rintro e w' ⟨rfl, rfl⟩) | (go_at_call 24; with_reducible refine (HI1.out _).mono ?_; rintro e w' ⟨rfl, rfl⟩) | (go_at_call 24; with_reducible refine (HI2.out _).mono ?_; rintro e w' ⟨rfl, rfl⟩))
    go_ret
    exact ⟨by rw [← first_stop hf hr]; rfl, by repeat (first | exact S4.out.bl | refine bl_drewN ?_ _ | refine bl_drew ?_)⟩
  have hr : ruleB c 12 = true := by first | (rw [h12]; done) | (rw [h12]; rfl)
  replace hf := first_step hf hr
  clear hr
  cases q1
  · have hr : ruleB c 13 = false := by first | (rw [h13]; done) | (rw [h13]; simp; done)
    go_wp2_with (first | (go_at_call 24; with_reducible refine (HI0.out _).mono ?_; rintro e w' ⟨rfl, rfl⟩) | (go_at_call 24; with_reducible refine (HI1.out _).mono ?_; rintro e w' ⟨rfl, rfl⟩) | (go_at_call 24; with_reducible refine (HI2.out _).mono ?_; rintro e w' ⟨rfl, rfl⟩))
    go_ret
    exact ⟨by rw [← first_stop hf hr]; rfl, by repeat (first | exact S4.out.bl | refine bl_drewN ?_ _ | refine bl_drew ?_)⟩
  cases a : decide (100000 < c 29)
  rotate_left
  · have hr : ruleB c 13 = false := by first | (rw [h13, a]; done) | (rw [h13, a]; simp; done)
    go_wp2_with (first | (go_at_call 24; with_reducible refine (HI0.out _).mono ?_; rintro e w' ⟨rfl, rfl⟩) | (go_at_call 24; with_reducible refine (HI1.out _).mono ?_; rintro e w' ⟨rfl, rfl⟩) | (go_at_call 24; with_reducible refine (HI2.out _).mono ?_; rintro e w' ⟨rfl, rfl⟩))
    go_ret
    exact ⟨by rw [← first_stop hf hr]; rfl, by repeat (first | exact S4.out.bl | refine bl_drewN ?_ _ | refine bl_drew ?_)⟩
  rw [a] at h13
  have hr : ruleB c 13 = true := by first | (rw [h13]; done) | (rw [h13]; rfl)
  replace hf := first_step hf hr
  clear hr
  cases q2
  · have hr : ruleB c 14 = false := by first | (rw [h14]; done) | (rw [h14]; simp; done)
    go_wp2_with (first | (go_at_call 24; with_reducible refine (HI0.out _).mono ?_; rintro e w' ⟨rfl, rfl⟩) | (go_at_call 24; with_reducible refine (HI1.out _).mono ?_; rintro e w' ⟨rfl, rfl⟩) | (go_at_call 24; with_reducible refine (HI2.out _).mono ?_; rintro e w' ⟨rfl, rfl⟩))
    go_ret
    exact ⟨by rw [← first_stop hf hr]; rfl, by repeat (first | exact S4.out.bl | refine bl_drewN ?_ _ | refine bl_drew ?_)⟩
  have hr : ruleB c 14 = true := by first | (rw [h14]; done) | (rw [h14]; rfl)
  replace hf := first_step hf hr
  clear hr
  go_wp2_with (first | (go_at_call 24; with_reducible refine (HI0.out _).mono ?_; rintro e w' ⟨rfl, rfl⟩) | (go_at_call 24; with_reducible refine (HI1.out _).mono ?_; rintro e w' ⟨rfl, rfl⟩) | (go_at_call 24; with_reducible refine (HI2.out _).mono ?_; rintro e w' ⟨rfl, rfl⟩))
  go_ret
  exact ⟨by rw [← hf]; rfl, by repeat (first | exact S4.out.bl | refine bl_drewN ?_ _ | refine bl_drew ?_)⟩
set_option maxRecDepth 100000 in
set_option maxHeartbeats 4000000 in
theorem ref13_Thrust (c : Nat → Int) (hc : ∀ i, I64 (c i)) (n : Int) (w : World) : Calls Try.prog 11 #[.agg #[.int .i64 (c 0), .int .i64 (c 1), .int .i64 (c 2), .int .i64 (c 3), .int .i64 (c 4), .int .i64 (c 5), .int .i64 (c 6), .int .i64 (c 7), .int .i64 (c 8), .int .i64 (c 9), .int .i64 (c 10), .int .i64 (c 11), .int .i64 (c 12), .int .i64 (c 13), .int .i64 (c 14), .int .i64 (c 15), .int .i64 (c 16), .int .i64 (c 17), .int .i64 (c 18), .int .i64 (c 19), .int .i64 (c 20), .int .i64 (c 21), .int .i64 (c 22), .int .i64 (c 23), .int .i64 (c 24), .int .i64 (c 25), .int .i64 (c 26), .int .i64 (c 27), .int .i64 (c 28), .int .i64 (c 29), .int .i64 (c 30)], .int .i64 n] w fun e w' => e = .returned (.tuple #[.int .i64 (thV c n), .int .i64 (thE c n)]) ∧ Below w.heap.size w w' := by
  obtain ⟨y, hy⟩ : ∃ y, ckC c = y := ⟨_, rfl⟩
  have hy0 : 0 ≤ y := by rw [← hy]; exact first_pos c 14 1
  have HR : Asd (∀ W, Calls Try.prog 13 #[.agg #[.int .i64 (c 0), .int .i64 (c 1), .int .i64 (c 2), .int .i64 (c 3), .int .i64 (c 4), .int .i64 (c 5), .int .i64 (c 6), .int .i64 (c 7), .int .i64 (c 8), .int .i64 (c 9), .int .i64 (c 10), .int .i64 (c 11), .int .i64 (c 12), .int .i64 (c 13), .int .i64 (c 14), .int .i64 (c 15), .int .i64 (c 16), .int .i64 (c 17), .int .i64 (c 18), .int .i64 (c 19), .int .i64 (c 20), .int .i64 (c 21), .int .i64 (c 22), .int .i64 (c 23), .int .i64 (c 24), .int .i64 (c 25), .int .i64 (c 26), .int .i64 (c 27), .int .i64 (c 28), .int .i64 (c 29), .int .i64 (c 30)]] W fun e w' => e = .returned (.int .i64 y) ∧ Below W.heap.size W w') := ⟨fun W => by rw [← hy]; exact ref13_Check c W⟩
  have S0 := Asd.mk (St.refl w)
  replace S0 := Asd.mk (St.lay S0.out [.int .i64 (c 0), .int .i64 (c 1), .int .i64 (c 2), .int .i64 (c 3), .int .i64 (c 4), .int .i64 (c 5), .int .i64 (c 6), .int .i64 (c 7), .int .i64 (c 8), .int .i64 (c 9), .int .i64 (c 10), .int .i64 (c 11), .int .i64 (c 12), .int .i64 (c 13), .int .i64 (c 14), .int .i64 (c 15), .int .i64 (c 16), .int .i64 (c 17), .int .i64 (c 18), .int .i64 (c 19), .int .i64 (c 20), .int .i64 (c 21), .int .i64 (c 22), .int .i64 (c 23), .int .i64 (c 24), .int .i64 (c 25), .int .i64 (c 26), .int .i64 (c 27), .int .i64 (c 28), .int .i64 (c 29), .int .i64 (c 30)] 25)
  have T := th_eq hc hy n
  obtain ⟨hV, hE, hB⟩ := T
  rw [hV, hE]
  clear hV hE
  obtain ⟨q, hq⟩ : ∃ q, wiB n (1 - c 26) (c 26 - 1) = q := ⟨_, rfl⟩
  have HI : Asd (∀ W, Calls Try.prog 24 #[.int .i64 n, .int .i64 (1 - c 26), .int .i64 (c 26 - 1)] W fun e w' => e = .returned (.bool q) ∧ W = w') := ⟨fun W => by rw [← hq]; exact ref13_in _ _ _ W⟩
  rw [hq]
  clear hy
  have hy1 : y = 0 ∨ 0 < y := by omega
  rcases hy1 with rfl | hy1
  · obtain ⟨b1, b2, b3, b4⟩ := hB rfl
    clear hB hc
    cases q
    · go_enter Try.func11, Try.ntmps11
      go_wp2_with (first | (refine wpList_whole 25 rfl rfl w.heap.size (by kernel_rfl) (St.at S0.out 0 rfl) (by kernel_rfl) (by kernel_rfl) ?_) | (go_at_call 13; refine (HR.out _).mono ?_; rintro e w1 ⟨rfl, hb1⟩; apply St.step (w0 := w) (hb := hb1); (exact S0.out); intro S1; clear hb1; have L1 := S1.out.facts.1; simp only at L1; have e24 := St.cell S1.out 0 24 rfl rfl; have e25 := St.cell S1.out 0 25 rfl rfl; have e26 := St.cell S1.out 0 26 rfl rfl) | (go_at_call 24; refine (HI.out _).mono ?_; rintro e w' ⟨rfl, rfl⟩))
      go_ret2
      exact ⟨by first | rfl | simp, S1.out.bl⟩
    · obtain ⟨k1, k2⟩ := wiB_true.1 hq
      have TB := Asd.mk (thr_bd k1 k2 b3.1 b3.2 b2 b4.1 b4.2)
      go_enter Try.func11, Try.ntmps11
      go_wp2_with (first | (refine wpList_whole 25 rfl rfl w.heap.size (by kernel_rfl) (St.at S0.out 0 rfl) (by kernel_rfl) (by kernel_rfl) ?_) | (go_at_call 13; refine (HR.out _).mono ?_; rintro e w1 ⟨rfl, hb1⟩; apply St.step (w0 := w) (hb := hb1); (exact S0.out); intro S1; clear hb1; have L1 := S1.out.facts.1; simp only at L1; have e24 := St.cell S1.out 0 24 rfl rfl; have e25 := St.cell S1.out 0 25 rfl rfl; have e26 := St.cell S1.out 0 26 rfl rfl) | (go_at_call 24; refine (HI.out _).mono ?_; rintro e w' ⟨rfl, rfl⟩))
      go_ret2
      exact ⟨by first | rfl | simp [TB.out.2.2.2.1, TB.out.2.2.2.2], S1.out.bl⟩
  · have hn : y ≠ 0 := by omega
    go_enter Try.func11, Try.ntmps11
    go_wp2_with (first | (refine wpList_whole 25 rfl rfl w.heap.size (by kernel_rfl) (St.at S0.out 0 rfl) (by kernel_rfl) (by kernel_rfl) ?_) | (go_at_call 13; refine (HR.out _).mono ?_; rintro e w1 ⟨rfl, hb1⟩; apply St.step (w0 := w) (hb := hb1); (exact S0.out); intro S1; clear hb1; have L1 := S1.out.facts.1; simp only at L1; have e24 := St.cell S1.out 0 24 rfl rfl; have e25 := St.cell S1.out 0 25 rfl rfl; have e26 := St.cell S1.out 0 26 rfl rfl) | (go_at_call 24; refine (HI.out _).mono ?_; rintro e w' ⟨rfl, rfl⟩))
    go_ret2
    exact ⟨by simp [hn], S1.out.bl⟩
set_option maxRecDepth 100000 in
set_option maxHeartbeats 4000000 in
theorem conf_Thrust (c : Nat → Int) (hc : ∀ i, I64 (c i)) (n : Int) (w : World) : Calls Try.prog 10 #[.agg #[.int .i64 (c 0), .int .i64 (c 1), .int .i64 (c 2), .int .i64 (c 3), .int .i64 (c 4), .int .i64 (c 5), .int .i64 (c 6), .int .i64 (c 7), .int .i64 (c 8), .int .i64 (c 9), .int .i64 (c 10), .int .i64 (c 11), .int .i64 (c 12), .int .i64 (c 13), .int .i64 (c 14), .int .i64 (c 15), .int .i64 (c 16), .int .i64 (c 17), .int .i64 (c 18), .int .i64 (c 19), .int .i64 (c 20), .int .i64 (c 21), .int .i64 (c 22), .int .i64 (c 23), .int .i64 (c 24), .int .i64 (c 25), .int .i64 (c 26), .int .i64 (c 27), .int .i64 (c 28), .int .i64 (c 29), .int .i64 (c 30)], .int .i64 n] w fun e w' => e = .returned (.tuple #[.int .i64 (thV c n), .int .i64 (thE c n)]) ∧ Below w.heap.size w w' := by
  obtain ⟨y, hy⟩ : ∃ y, ckC c = y := ⟨_, rfl⟩
  have HR : Asd (∀ W, Calls Try.prog 12 #[.agg #[.int .i64 (c 0), .int .i64 (c 1), .int .i64 (c 2), .int .i64 (c 3), .int .i64 (c 4), .int .i64 (c 5), .int .i64 (c 6), .int .i64 (c 7), .int .i64 (c 8), .int .i64 (c 9), .int .i64 (c 10), .int .i64 (c 11), .int .i64 (c 12), .int .i64 (c 13), .int .i64 (c 14), .int .i64 (c 15), .int .i64 (c 16), .int .i64 (c 17), .int .i64 (c 18), .int .i64 (c 19), .int .i64 (c 20), .int .i64 (c 21), .int .i64 (c 22), .int .i64 (c 23), .int .i64 (c 24), .int .i64 (c 25), .int .i64 (c 26), .int .i64 (c 27), .int .i64 (c 28), .int .i64 (c 29), .int .i64 (c 30)]] W fun e w' => e = .returned (.int .i64 y) ∧ Below W.heap.size W w') := ⟨fun W => by rw [← hy]; exact conf_Check c hc W⟩
  have S0 := Asd.mk (St.refl w)
  replace S0 := Asd.mk (St.lay S0.out [.int .i64 (c 0), .int .i64 (c 1), .int .i64 (c 2), .int .i64 (c 3), .int .i64 (c 4), .int .i64 (c 5), .int .i64 (c 6), .int .i64 (c 7), .int .i64 (c 8), .int .i64 (c 9), .int .i64 (c 10), .int .i64 (c 11), .int .i64 (c 12), .int .i64 (c 13), .int .i64 (c 14), .int .i64 (c 15), .int .i64 (c 16), .int .i64 (c 17), .int .i64 (c 18), .int .i64 (c 19), .int .i64 (c 20), .int .i64 (c 21), .int .i64 (c 22), .int .i64 (c 23), .int .i64 (c 24), .int .i64 (c 25), .int .i64 (c 26), .int .i64 (c 27), .int .i64 (c 28), .int .i64 (c 29), .int .i64 (c 30)] 25)
  have T := th_eq hc hy n
  obtain ⟨hV, hE, hB⟩ := T
  rw [hV, hE]
  clear hV hE hy
  by_cases hy1 : y = 0
  · obtain ⟨b1, b2, b3, b4⟩ := hB hy1
    subst hy1
    clear hB hc
    rcases Int.lt_or_le (-c 26) n with k1 | k1
    · rcases Int.lt_or_le n (c 26) with k2 | k2
      · rw [show wiB n (1 - c 26) (c 26 - 1) = true from wiB_true.2 ⟨by omega, by omega⟩]
        have TB := Asd.mk (thr_bd (n := n) (m := c 26) (by omega) (by omega) b3.1 b3.2 b2 b4.1 b4.2)
        go_enter Try.func10, Try.ntmps10
        go_wp2_with (first | (refine wpList_whole 25 rfl rfl w.heap.size (by kernel_rfl) (St.at S0.out 0 rfl) (by kernel_rfl) (by kernel_rfl) ?_) | (go_at_call 12; refine (HR.out _).mono ?_; rintro e w1 ⟨rfl, hb1⟩; apply St.step (w0 := w) (hb := hb1); (exact S0.out); intro S1; clear hb1; have L1 := S1.out.facts.1; simp only at L1; have e24 := St.cell S1.out 0 24 rfl rfl; have e25 := St.cell S1.out 0 25 rfl rfl; have e26 := St.cell S1.out 0 26 rfl rfl) | (go_at_call 24; refine (HI.out _).mono ?_; rintro e w' ⟨rfl, rfl⟩))
        go_ret2
        exact ⟨by first | rfl | simp [TB.out.2.2.2.1, TB.out.2.2.2.2], S1.out.bl⟩
      · rw [show wiB n (1 - c 26) (c 26 - 1) = false from wiB_false.2 (by omega)]
        go_enter Try.func10, Try.ntmps10
        go_wp2_with (first | (refine wpList_whole 25 rfl rfl w.heap.size (by kernel_rfl) (St.at S0.out 0 rfl) (by kernel_rfl) (by kernel_rfl) ?_) | (go_at_call 12; refine (HR.out _).mono ?_; rintro e w1 ⟨rfl, hb1⟩; apply St.step (w0 := w) (hb := hb1); (exact S0.out); intro S1; clear hb1; have L1 := S1.out.facts.1; simp only at L1; have e24 := St.cell S1.out 0 24 rfl rfl; have e25 := St.cell S1.out 0 25 rfl rfl; have e26 := St.cell S1.out 0 26 rfl rfl) | (go_at_call 24; refine (HI.out _).mono ?_; rintro e w' ⟨rfl, rfl⟩))
        go_ret2
        exact ⟨by first | rfl | simp, S1.out.bl⟩
    · rw [show wiB n (1 - c 26) (c 26 - 1) = false from wiB_false.2 (by omega)]
      go_enter Try.func10, Try.ntmps10
      go_wp2_with (first | (refine wpList_whole 25 rfl rfl w.heap.size (by kernel_rfl) (St.at S0.out 0 rfl) (by kernel_rfl) (by kernel_rfl) ?_) | (go_at_call 12; refine (HR.out _).mono ?_; rintro e w1 ⟨rfl, hb1⟩; apply St.step (w0 := w) (hb := hb1); (exact S0.out); intro S1; clear hb1; have L1 := S1.out.facts.1; simp only at L1; have e24 := St.cell S1.out 0 24 rfl rfl; have e25 := St.cell S1.out 0 25 rfl rfl; have e26 := St.cell S1.out 0 26 rfl rfl) | (go_at_call 24; refine (HI.out _).mono ?_; rintro e w' ⟨rfl, rfl⟩))
      go_ret2
      exact ⟨by first | rfl | simp, S1.out.bl⟩
  · go_enter Try.func10, Try.ntmps10
    go_wp2_with (first | (refine wpList_whole 25 rfl rfl w.heap.size (by kernel_rfl) (St.at S0.out 0 rfl) (by kernel_rfl) (by kernel_rfl) ?_) | (go_at_call 12; refine (HR.out _).mono ?_; rintro e w1 ⟨rfl, hb1⟩; apply St.step (w0 := w) (hb := hb1); (exact S0.out); intro S1; clear hb1; have L1 := S1.out.facts.1; simp only at L1; have e24 := St.cell S1.out 0 24 rfl rfl; have e25 := St.cell S1.out 0 25 rfl rfl; have e26 := St.cell S1.out 0 26 rfl rfl) | (go_at_call 24; refine (HI.out _).mono ?_; rintro e w' ⟨rfl, rfl⟩))
    go_ret2
    exact ⟨by simp [hy1], S1.out.bl⟩
end Go.Proofs.Ytpgkchbgjciinaa
