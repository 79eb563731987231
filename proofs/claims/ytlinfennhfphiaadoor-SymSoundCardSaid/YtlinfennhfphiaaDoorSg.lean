/- Walks of layer 5 (sym): whether all entries fit, in the program and in the document's answer; the matrix of a diagonal. -/
import Derived.Test.YtlinfennhfphiaaDoorSv
import Derived.Test.YtlinfennhfphiaaDoorSe
import Derived.Test.YtlinfennhfphiaaDoorFf
namespace Go.Proofs.YtlinfennhfphiaaDoor
open Go.RowKit
set_option linter.unusedSimpArgs false
set_option linter.unusedVariables false
attribute [local go_sem] nlt2 nlt3 nlt4 nlt5 nlt6 nlt7 nlt8 nlt9 nlt10 nlt11 nlt12
attribute [local go_sem] ixSym_0 ixSym_1 ixSym_2 ixSym_3 ixSym_4 ixSym_5
/-- The first n of a row of Bools. -/
def allB (p : Nat → Bool) : Nat → Bool
  | 0 => true
  | n + 1 => allB p n && p n
theorem allB_s {p : Nat → Bool} {n : Nat} (h : allB p n = true) (k : p n = true) : allB p (n + 1) = true := by simp [allB, h, k]
theorem allB_not {p : Nat → Bool} : ∀ {n k : Nat}, k < n → p k = false → allB p n = false
  | 0, _, h, _ => absurd h (by omega)
  | n + 1, k, h, hp => by
    by_cases e : k = n
    · subst e; simp [allB, hp]
    · simp [allB, allB_not (n := n) (k := k) (by omega) hp]
theorem allB_at {p : Nat → Bool} : ∀ {n k : Nat}, allB p n = true → k < n → p k = true
  | n + 1, k, h, hk => by
    simp only [allB, Bool.and_eq_true] at h
    by_cases e : k = n
    · subst e; exact h.2
    · exact allB_at h.1 (by omega)
def fits6 (m : Nat → Int) : Bool := allB (fun j => fitB (m j)) 6
set_option maxRecDepth 100000 in
set_option maxHeartbeats 4000000 in
theorem sym_fits (m : Nat → Int) (w : World) : Calls Tryd.prog 44 #[.agg #[.int .i64 (m 0), .int .i64 (m 1), .int .i64 (m 2), .int .i64 (m 3), .int .i64 (m 4), .int .i64 (m 5)]] w fun e w' => e = .returned (.bool (fits6 m)) ∧ Below w.heap.size w w' := by
  go_enter Tryd.func44, Tryd.ntmps44
  go_wp2
  go_loop [6] (fun v => ∃ k : Int, (k = 0 ∨ k = 1 ∨ k = 2 ∨ k = 3 ∨ k = 4 ∨ k = 5 ∨ k = 6) ∧ v = .int .i64 k ∧ allB (fun j => fitB (m j)) k.toNat = true) (fun v => 6 - (intOf v).toNat)
  case atStart => exact ⟨0, by decide, rfl, rfl⟩
  case round =>
    obtain ⟨k, hk, rfl, hu⟩ := hrel
    rcases hk with rfl | rfl | rfl | rfl | rfl | rfl | rfl
    · obtain ⟨b, hb⟩ : ∃ b, fitB (m 0) = b := ⟨_, rfl⟩
      have HI : Asd (∀ W, Calls Tryd.prog 61 #[.int .i64 (m 0)] W fun e w' => e = .returned (.bool b) ∧ W = w') := ⟨fun W => by rw [← hb]; exact fix_Fits _ W⟩
      cases b
      all_goals go_wp2_with (go_at_call 61; refine (HI.out _).mono ?_; rintro e w' ⟨rfl, rfl⟩)
      · go_ret
        exact ⟨by rw [show fits6 m = false from allB_not (k := 0) (by decide) hb]; rfl, (by repeat (first | exact Below.refl _ _ | assumption | refine bl_alloc ?_ _ | refine bl_drewN ?_ _ | refine bl_drew ?_ | refine bl_set ?_ (by first | (simp; done) | (simp; omega) | (dsimp only; omega)) _ | refine bl_then ?_ (by assumption)))⟩
      · go_round
        case rel => exact ⟨1, by decide, rfl, allB_s (n := 0) hu hb⟩
        case measure => simp [intOf]
    · obtain ⟨b, hb⟩ : ∃ b, fitB (m 1) = b := ⟨_, rfl⟩
      have HI : Asd (∀ W, Calls Tryd.prog 61 #[.int .i64 (m 1)] W fun e w' => e = .returned (.bool b) ∧ W = w') := ⟨fun W => by rw [← hb]; exact fix_Fits _ W⟩
      cases b
      all_goals go_wp2_with (go_at_call 61; refine (HI.out _).mono ?_; rintro e w' ⟨rfl, rfl⟩)
      · go_ret
        exact ⟨by rw [show fits6 m = false from allB_not (k := 1) (by decide) hb]; rfl, (by repeat (first | exact Below.refl _ _ | assumption | refine bl_alloc ?_ _ | refine bl_drewN ?_ _ | refine bl_drew ?_ | refine bl_set ?_ (by first | (simp; done) | (simp; omega) | (dsimp only; omega)) _ | refine bl_then ?_ (by assumption)))⟩
      · go_round
        case rel => exact ⟨2, by decide, rfl, allB_s (n := 1) hu hb⟩
        case measure => simp [intOf]
    · obtain ⟨b, hb⟩ : ∃ b, fitB (m 2) = b := ⟨_, rfl⟩
      have HI : Asd (∀ W, Calls Tryd.prog 61 #[.int .i64 (m 2)] W fun e w' => e = .returned (.bool b) ∧ W = w') := ⟨fun W => by rw [← hb]; exact fix_Fits _ W⟩
      cases b
      all_goals go_wp2_with (go_at_call 61; refine (HI.out _).mono ?_; rintro e w' ⟨rfl, rfl⟩)
      · go_ret
        exact ⟨by rw [show fits6 m = false from allB_not (k := 2) (by decide) hb]; rfl, (by repeat (first | exact Below.refl _ _ | assumption | refine bl_alloc ?_ _ | refine bl_drewN ?_ _ | refine bl_drew ?_ | refine bl_set ?_ (by first | (simp; done) | (simp; omega) | (dsimp only; omega)) _ | refine bl_then ?_ (by assumption)))⟩
      · go_round
        case rel => exact ⟨3, by decide, rfl, allB_s (n := 2) hu hb⟩
        case measure => simp [intOf]
    · obtain ⟨b, hb⟩ : ∃ b, fitB (m 3) = b := ⟨_, rfl⟩
      have HI : Asd (∀ W, Calls Tryd.prog 61 #[.int .i64 (m 3)] W fun e w' => e = .returned (.bool b) ∧ W = w') := ⟨fun W => by rw [← hb]; exact fix_Fits _ W⟩
      cases b
      all_goals go_wp2_with (go_at_call 61; refine (HI.out _).mono ?_; rintro e w' ⟨rfl, rfl⟩)
      · go_ret
        exact ⟨by rw [show fits6 m = false from allB_not (k := 3) (by decide) hb]; rfl, (by repeat (first | exact Below.refl _ _ | assumption | refine bl_alloc ?_ _ | refine bl_drewN ?_ _ | refine bl_drew ?_ | refine bl_set ?_ (by first | (simp; done) | (simp; omega) | (dsimp only; omega)) _ | refine bl_then ?_ (by assumption)))⟩
      · go_round
        case rel => exact ⟨4, by decide, rfl, allB_s (n := 3) hu hb⟩
        case measure => simp [intOf]
    · obtain ⟨b, hb⟩ : ∃ b, fitB (m 4) = b := ⟨_, rfl⟩
      have HI : Asd (∀ W, Calls Tryd.prog 61 #[.int .i64 (m 4)] W fun e w' => e = .returned (.bool b) ∧ W = w') := ⟨fun W => by rw [← hb]; exact fix_Fits _ W⟩
      cases b
      all_goals go_wp2_with (go_at_call 61; refine (HI.out _).mono ?_; rintro e w' ⟨rfl, rfl⟩)
      · go_ret
        exact ⟨by rw [show fits6 m = false from allB_not (k := 4) (by decide) hb]; rfl, (by repeat (first | exact Below.refl _ _ | assumption | refine bl_alloc ?_ _ | refine bl_drewN ?_ _ | refine bl_drew ?_ | refine bl_set ?_ (by first | (simp; done) | (simp; omega) | (dsimp only; omega)) _ | refine bl_then ?_ (by assumption)))⟩
      · go_round
        case rel => exact ⟨5, by decide, rfl, allB_s (n := 4) hu hb⟩
        case measure => simp [intOf]
    · obtain ⟨b, hb⟩ : ∃ b, fitB (m 5) = b := ⟨_, rfl⟩
      have HI : Asd (∀ W, Calls Tryd.prog 61 #[.int .i64 (m 5)] W fun e w' => e = .returned (.bool b) ∧ W = w') := ⟨fun W => by rw [← hb]; exact fix_Fits _ W⟩
      cases b
      all_goals go_wp2_with (go_at_call 61; refine (HI.out _).mono ?_; rintro e w' ⟨rfl, rfl⟩)
      · go_ret
        exact ⟨by rw [show fits6 m = false from allB_not (k := 5) (by decide) hb]; rfl, (by repeat (first | exact Below.refl _ _ | assumption | refine bl_alloc ?_ _ | refine bl_drewN ?_ _ | refine bl_drew ?_ | refine bl_set ?_ (by first | (simp; done) | (simp; omega) | (dsimp only; omega)) _ | refine bl_then ?_ (by assumption)))⟩
      · go_round
        case rel => exact ⟨6, by decide, rfl, allB_s (n := 5) hu hb⟩
        case measure => simp [intOf]
    · go_wp2
      go_ret
      exact ⟨by rw [show fits6 m = true from hu]; rfl, (by repeat (first | exact Below.refl _ _ | assumption | refine bl_alloc ?_ _ | refine bl_drewN ?_ _ | refine bl_drew ?_ | refine bl_set ?_ (by first | (simp; done) | (simp; omega) | (dsimp only; omega)) _ | refine bl_then ?_ (by assumption)))⟩
set_option maxRecDepth 100000 in
set_option maxHeartbeats 4000000 in
theorem ref5_Fits (m : Nat → Int) (w : World) : Calls Tryd.prog 45 #[.agg #[.int .i64 (m 0), .int .i64 (m 1), .int .i64 (m 2), .int .i64 (m 3), .int .i64 (m 4), .int .i64 (m 5)]] w fun e w' => e = .returned (.bool (fits6 m)) ∧ Below w.heap.size w w' := by
  go_enter Tryd.func45, Tryd.ntmps45
  go_wp2
  go_loop [3] (fun v => ∃ k : Int, (k = 0 ∨ k = 1 ∨ k = 2 ∨ k = 3 ∨ k = 4 ∨ k = 5 ∨ k = 6) ∧ v = .int .i64 k ∧ allB (fun j => fitB (m j)) k.toNat = true) (fun v => 6 - (intOf v).toNat)
  case atStart => exact ⟨0, by decide, rfl, rfl⟩
  case round =>
    obtain ⟨k, hk, rfl, hu⟩ := hrel
    rcases hk with rfl | rfl | rfl | rfl | rfl | rfl | rfl
    · obtain ⟨b, hb⟩ : ∃ b, fitB (m 0) = b := ⟨_, rfl⟩
      have HI : Asd (∀ W, Calls Tryd.prog 62 #[.int .i64 (m 0)] W fun e w' => e = .returned (.bool b) ∧ W = w') := ⟨fun W => by rw [← hb]; exact ref2_Fits _ W⟩
      cases b
      all_goals go_wp2_with (go_at_call 62; refine (HI.out _).mono ?_; rintro e w' ⟨rfl, rfl⟩)
      · go_ret
        exact ⟨by rw [show fits6 m = false from allB_not (k := 0) (by decide) hb]; rfl, (by repeat (first | exact Below.refl _ _ | assumption | refine bl_alloc ?_ _ | refine bl_drewN ?_ _ | refine bl_drew ?_ | refine bl_set ?_ (by first | (simp; done) | (simp; omega) | (dsimp only; omega)) _ | refine bl_then ?_ (by assumption)))⟩
      · go_round
        case rel => exact ⟨1, by decide, rfl, allB_s (n := 0) hu hb⟩
        case measure => simp [intOf]
    · obtain ⟨b, hb⟩ : ∃ b, fitB (m 1) = b := ⟨_, rfl⟩
      have HI : Asd (∀ W, Calls Tryd.prog 62 #[.int .i64 (m 1)] W fun e w' => e = .returned (.bool b) ∧ W = w') := ⟨fun W => by rw [← hb]; exact ref2_Fits _ W⟩
      cases b
      all_goals go_wp2_with (go_at_call 62; refine (HI.out _).mono ?_; rintro e w' ⟨rfl, rfl⟩)
      · go_ret
        exact ⟨by rw [show fits6 m = false from allB_not (k := 1) (by decide) hb]; rfl, (by repeat (first | exact Below.refl _ _ | assumption | refine bl_alloc ?_ _ | refine bl_drewN ?_ _ | refine bl_drew ?_ | refine bl_set ?_ (by first | (simp; done) | (simp; omega) | (dsimp only; omega)) _ | refine bl_then ?_ (by assumption)))⟩
      · go_round
        case rel => exact ⟨2, by decide, rfl, allB_s (n := 1) hu hb⟩
        case measure => simp [intOf]
    · obtain ⟨b, hb⟩ : ∃ b, fitB (m 2) = b := ⟨_, rfl⟩
      have HI : Asd (∀ W, Calls Tryd.prog 62 #[.int .i64 (m 2)] W fun e w' => e = .returned (.bool b) ∧ W = w') := ⟨fun W => by rw [← hb]; exact ref2_Fits _ W⟩
      cases b
      all_goals go_wp2_with (go_at_call 62; refine (HI.out _).mono ?_; rintro e w' ⟨rfl, rfl⟩)
      · go_ret
        exact ⟨by rw [show fits6 m = false from allB_not (k := 2) (by decide) hb]; rfl, (by repeat (first | exact Below.refl _ _ | assumption | refine bl_alloc ?_ _ | refine bl_drewN ?_ _ | refine bl_drew ?_ | refine bl_set ?_ (by first | (simp; done) | (simp; omega) | (dsimp only; omega)) _ | refine bl_then ?_ (by assumption)))⟩
      · go_round
        case rel => exact ⟨3, by decide, rfl, allB_s (n := 2) hu hb⟩
        case measure => simp [intOf]
    · obtain ⟨b, hb⟩ : ∃ b, fitB (m 3) = b := ⟨_, rfl⟩
      have HI : Asd (∀ W, Calls Tryd.prog 62 #[.int .i64 (m 3)] W fun e w' => e = .returned (.bool b) ∧ W = w') := ⟨fun W => by rw [← hb]; exact ref2_Fits _ W⟩
      cases b
      all_goals go_wp2_with (go_at_call 62; refine (HI.out _).mono ?_; rintro e w' ⟨rfl, rfl⟩)
      · go_ret
        exact ⟨by rw [show fits6 m = false from allB_not (k := 3) (by decide) hb]; rfl, (by repeat (first | exact Below.refl _ _ | assumption | refine bl_alloc ?_ _ | refine bl_drewN ?_ _ | refine bl_drew ?_ | refine bl_set ?_ (by first | (simp; done) | (simp; omega) | (dsimp only; omega)) _ | refine bl_then ?_ (by assumption)))⟩
      · go_round
        case rel => exact ⟨4, by decide, rfl, allB_s (n := 3) hu hb⟩
        case measure => simp [intOf]
    · obtain ⟨b, hb⟩ : ∃ b, fitB (m 4) = b := ⟨_, rfl⟩
      have HI : Asd (∀ W, Calls Tryd.prog 62 #[.int .i64 (m 4)] W fun e w' => e = .returned (.bool b) ∧ W = w') := ⟨fun W => by rw [← hb]; exact ref2_Fits _ W⟩
      cases b
      all_goals go_wp2_with (go_at_call 62; refine (HI.out _).mono ?_; rintro e w' ⟨rfl, rfl⟩)
      · go_ret
        exact ⟨by rw [show fits6 m = false from allB_not (k := 4) (by decide) hb]; rfl, (by repeat (first | exact Below.refl _ _ | assumption | refine bl_alloc ?_ _ | refine bl_drewN ?_ _ | refine bl_drew ?_ | refine bl_set ?_ (by first | (simp; done) | (simp; omega) | (dsimp only; omega)) _ | refine bl_then ?_ (by assumption)))⟩
      · go_round
        case rel => exact ⟨5, by decide, rfl, allB_s (n := 4) hu hb⟩
        case measure => simp [intOf]
    · obtain ⟨b, hb⟩ : ∃ b, fitB (m 5) = b := ⟨_, rfl⟩
      have HI : Asd (∀ W, Calls Tryd.prog 62 #[.int .i64 (m 5)] W fun e w' => e = .returned (.bool b) ∧ W = w') := ⟨fun W => by rw [← hb]; exact ref2_Fits _ W⟩
      cases b
      all_goals go_wp2_with (go_at_call 62; refine (HI.out _).mono ?_; rintro e w' ⟨rfl, rfl⟩)
      · go_ret
        exact ⟨by rw [show fits6 m = false from allB_not (k := 5) (by decide) hb]; rfl, (by repeat (first | exact Below.refl _ _ | assumption | refine bl_alloc ?_ _ | refine bl_drewN ?_ _ | refine bl_drew ?_ | refine bl_set ?_ (by first | (simp; done) | (simp; omega) | (dsimp only; omega)) _ | refine bl_then ?_ (by assumption)))⟩
      · go_round
        case rel => exact ⟨6, by decide, rfl, allB_s (n := 5) hu hb⟩
        case measure => simp [intOf]
    · go_wp2
      go_ret
      exact ⟨by rw [show fits6 m = true from hu]; rfl, (by repeat (first | exact Below.refl _ _ | assumption | refine bl_alloc ?_ _ | refine bl_drewN ?_ _ | refine bl_drew ?_ | refine bl_set ?_ (by first | (simp; done) | (simp; omega) | (dsimp only; omega)) _ | refine bl_then ?_ (by assumption)))⟩
set_option maxHeartbeats 1000000 in
theorem sym_Diag (d : Nat → Int) (w : World) : Calls Tryd.prog 15 #[.agg #[.int .i64 (d 0), .int .i64 (d 1), .int .i64 (d 2)]] w fun e w' => e = .returned (.agg #[.int .i64 (d 0), .int .i64 0, .int .i64 0, .int .i64 (d 1), .int .i64 0, .int .i64 (d 2)]) ∧ Below w.heap.size w w' := by
  go_enter Tryd.func15, Tryd.ntmps15
  go_wp2
  refine bodyPost_ret (v := .agg #[.int .i64 (d 0), .int .i64 0, .int .i64 0, .int .i64 (d 1), .int .i64 0, .int .i64 (d 2)]) (by simp (maxDischargeDepth := 9) [results, Tryd.results15, go_sem, *]) rfl ⟨rfl, (by repeat (first | exact Below.refl _ _ | assumption | refine bl_alloc ?_ _ | refine bl_drewN ?_ _ | refine bl_drew ?_ | refine bl_set ?_ (by first | (simp; done) | (simp; omega) | (dsimp only; omega)) _ | refine bl_then ?_ (by assumption)))⟩
end Go.Proofs.YtlinfennhfphiaaDoor
