/- Walks of layer 5 (sym): whether all entries fit, in the program and in the document's answer; the matrix of a diagonal. -/
/- Walks of layer 5 (sym): the sum. -/
/- Walks of layer 5 (sym): how much a number is above another one; whether a square is above a product. -/
/- Walks of layer 5 (sym): whether a matrix is sound over a floor. -/
/- Plain laws of layer 5 (sym): what is sound over a floor is so over each lower one; a diagonal over itself; with a diagonal from 0 on. -/
import Derived.StillTailTactics
import Derived.Deep.RegionWith
import Derived.Deep.RegionHeld3
import Derived.Deep.QuietTactic
import Derived.BigQuiet
import Derived.Test.YtfbhcaocfajjpaaDoorSv
import Derived.Test.YtfbhcaocfajjpaaDoorSe
import Derived.Test.YtfbhcaocfajjpaaDoorFf
import Derived.Test.YtfbhcaocfajjpaaDoorKr
import Derived.Test.YtfbhcaocfajjpaaDoorWc
import Derived.Test.YtfbhcaocfajjpaaDoorSa
namespace Go.Proofs.YtfbhcaocfajjpaaDoor
open Go.RowKit
set_option linter.unusedSimpArgs false
set_option linter.unusedVariables false
attribute [local go_sem] nlt2 nlt3 nlt4 nlt5 nlt6 nlt7 nlt8 nlt9 nlt10 nlt11 nlt12
attribute [local go_sem] ixSym_0 ixSym_1 ixSym_2 ixSym_3 ixSym_4 ixSym_5
/-- The first n of a row of Bools. -/
def allB (p : Nat → Bool) : Nat → Bool
  | 0 => true
  | n + 1 => allB p n && p n
theorem allB_s {p : Nat → Bool} {n : Nat} (h : allB p n = true) (k : p n = true) : allB p (n + 1) = true := by simp [allB, h, k]
theorem allB_not {p : Nat → Bool} : ∀ {n k : Nat}, k < n → p k = false → allB p n = false
  | 0, _, h, _ => absurd h (by omega)
  | n + 1, k, h, hp => by
    by_cases e : k = n
    · subst e; simp [allB, hp]
    · simp [allB, allB_not (n := n) (k := k) (by omega) hp]
theorem allB_at {p : Nat → Bool} : ∀ {n k : Nat}, allB p n = true → k < n → p k = true
  | n + 1, k, h, hk => by
    simp only [allB, Bool.and_eq_true] at h
    by_cases e : k = n
    · subst e; exact h.2
    · exact allB_at h.1 (by omega)
def fits6 (m : Nat → Int) : Bool := allB (fun j => fitB (m j)) 6
set_option maxRecDepth 100000 in
set_option maxHeartbeats 4000000 in
theorem sym_fits (m : Nat → Int) (w : World) : Calls Tryd.prog 33 #[.agg #[.int .i64 (m 0), .int .i64 (m 1), .int .i64 (m 2), .int .i64 (m 3), .int .i64 (m 4), .int .i64 (m 5)]] w fun e w' => e = .returned (.bool (fits6 m)) ∧ Below w.heap.size w w' := by
  go_enter Tryd.func33, Tryd.ntmps33
  go_wp2
  go_loop [6] (fun v => ∃ k : Int, (k = 0 ∨ k = 1 ∨ k = 2 ∨ k = 3 ∨ k = 4 ∨ k = 5 ∨ k = 6) ∧ v = .int .i64 k ∧ allB (fun j => fitB (m j)) k.toNat = true) (fun v => 6 - (intOf v).toNat)
  case atStart => exact ⟨0, by decide, rfl, rfl⟩
  case round =>
    obtain ⟨k, hk, rfl, hu⟩ := hrel
    rcases hk with rfl | rfl | rfl | rfl | rfl | rfl | rfl
    · obtain ⟨b, hb⟩ : ∃ b, fitB (m 0) = b := ⟨_, rfl⟩
      have HI : Asd (∀ W, Calls Tryd.prog 46 #[.int .i64 (m 0)] W fun e w' => e = .returned (.bool b) ∧ W = w') := ⟨fun W => by rw [← hb]; exact fix_Fits _ W⟩
      cases b
      all_goals go_wp2_with (go_at_call 46; refine (HI.out _).mono ?_; rintro e w' ⟨rfl, rfl⟩)
      · go_ret
        exact ⟨by rw [show fits6 m = false from allB_not (k := 0) (by decide) hb]; rfl, (by repeat (first | exact Below.refl _ _ | assumption | refine bl_alloc ?_ _ | refine bl_drewN ?_ _ | refine bl_drew ?_ | refine bl_set ?_ (by first | (simp; done) | (simp; omega) | (dsimp only; omega)) _ | refine bl_then ?_ (by assumption)))⟩
      · go_round
        case rel => exact ⟨1, by decide, rfl, allB_s (n := 0) hu hb⟩
        case measure => simp [intOf]
    · obtain ⟨b, hb⟩ : ∃ b, fitB (m 1) = b := ⟨_, rfl⟩
      have HI : Asd (∀ W, Calls Tryd.prog 46 #[.int .i64 (m 1)] W fun e w' => e = .returned (.bool b) ∧ W = w') := ⟨fun W => by rw [← hb]; exact fix_Fits _ W⟩
      cases b
      all_goals go_wp2_with (go_at_call 46; refine (HI.out _).mono ?_; rintro e w' ⟨rfl, rfl⟩)
      · go_ret
        exact ⟨by rw [show fits6 m = false from allB_not (k := 1) (by decide) hb]; rfl, (by repeat (first | exact Below.refl _ _ | assumption | refine bl_alloc ?_ _ | refine bl_drewN ?_ _ | refine bl_drew ?_ | refine bl_set ?_ (by first | (simp; done) | (simp; omega) | (dsimp only; omega)) _ | refine bl_then ?_ (by assumption)))⟩
      · go_round
        case rel => exact ⟨2, by decide, rfl, allB_s (n := 1) hu hb⟩
        case measure => simp [intOf]
    · obtain ⟨b, hb⟩ : ∃ b, fitB (m 2) = b := ⟨_, rfl⟩
      have HI : Asd (∀ W, Calls Tryd.prog 46 #[.int .i64 (m 2)] W fun e w' => e = .returned (.bool b) ∧ W = w') := ⟨fun W => by rw [← hb]; exact fix_Fits _ W⟩
      cases b
      all_goals go_wp2_with (go_at_call 46; refine (HI.out _).mono ?_; rintro e w' ⟨rfl, rfl⟩)
      · go_ret
        exact ⟨by rw [show fits6 m = false from allB_not (k := 2) (by decide) hb]; rfl, (by repeat (first | exact Below.refl _ _ | assumption | refine bl_alloc ?_ _ | refine bl_drewN ?_ _ | refine bl_drew ?_ | refine bl_set ?_ (by first | (simp; done) | (simp; omega) | (dsimp only; omega)) _ | refine bl_then ?_ (by assumption)))⟩
      · go_round
        case rel => exact ⟨3, by decide, rfl, allB_s (n := 2) hu hb⟩
        case measure => simp [intOf]
    · obtain ⟨b, hb⟩ : ∃ b, fitB (m 3) = b := ⟨_, rfl⟩
      have HI : Asd (∀ W, Calls Tryd.prog 46 #[.int .i64 (m 3)] W fun e w' => e = .returned (.bool b) ∧ W = w') := ⟨fun W => by rw [← hb]; exact fix_Fits _ W⟩
      cases b
      all_goals go_wp2_with (go_at_call 46; refine (HI.out _).mono ?_; rintro e w' ⟨rfl, rfl⟩)
      · go_ret
        exact ⟨by rw [show fits6 m = false from allB_not (k := 3) (by decide) hb]; rfl, (by repeat (first | exact Below.refl _ _ | assumption | refine bl_alloc ?_ _ | refine bl_drewN ?_ _ | refine bl_drew ?_ | refine bl_set ?_ (by first | (simp; done) | (simp; omega) | (dsimp only; omega)) _ | refine bl_then ?_ (by assumption)))⟩
      · go_round
        case rel => exact ⟨4, by decide, rfl, allB_s (n := 3) hu hb⟩
        case measure => simp [intOf]
    · obtain ⟨b, hb⟩ : ∃ b, fitB (m 4) = b := ⟨_, rfl⟩
      have HI : Asd (∀ W, Calls Tryd.prog 46 #[.int .i64 (m 4)] W fun e w' => e = .returned (.bool b) ∧ W = w') := ⟨fun W => by rw [← hb]; exact fix_Fits _ W⟩
      cases b
      all_goals go_wp2_with (go_at_call 46; refine (HI.out _).mono ?_; rintro e w' ⟨rfl, rfl⟩)
      · go_ret
        exact ⟨by rw [show fits6 m = false from allB_not (k := 4) (by decide) hb]; rfl, (by repeat (first | exact Below.refl _ _ | assumption | refine bl_alloc ?_ _ | refine bl_drewN ?_ _ | refine bl_drew ?_ | refine bl_set ?_ (by first | (simp; done) | (simp; omega) | (dsimp only; omega)) _ | refine bl_then ?_ (by assumption)))⟩
      · go_round
        case rel => exact ⟨5, by decide, rfl, allB_s (n := 4) hu hb⟩
        case measure => simp [intOf]
    · obtain ⟨b, hb⟩ : ∃ b, fitB (m 5) = b := ⟨_, rfl⟩
      have HI : Asd (∀ W, Calls Tryd.prog 46 #[.int .i64 (m 5)] W fun e w' => e = .returned (.bool b) ∧ W = w') := ⟨fun W => by rw [← hb]; exact fix_Fits _ W⟩
      cases b
      all_goals go_wp2_with (go_at_call 46; refine (HI.out _).mono ?_; rintro e w' ⟨rfl, rfl⟩)
      · go_ret
        exact ⟨by rw [show fits6 m = false from allB_not (k := 5) (by decide) hb]; rfl, (by repeat (first | exact Below.refl _ _ | assumption | refine bl_alloc ?_ _ | refine bl_drewN ?_ _ | refine bl_drew ?_ | refine bl_set ?_ (by first | (simp; done) | (simp; omega) | (dsimp only; omega)) _ | refine bl_then ?_ (by assumption)))⟩
      · go_round
        case rel => exact ⟨6, by decide, rfl, allB_s (n := 5) hu hb⟩
        case measure => simp [intOf]
    · go_wp2
      go_ret
      exact ⟨by rw [show fits6 m = true from hu]; rfl, (by repeat (first | exact Below.refl _ _ | assumption | refine bl_alloc ?_ _ | refine bl_drewN ?_ _ | refine bl_drew ?_ | refine bl_set ?_ (by first | (simp; done) | (simp; omega) | (dsimp only; omega)) _ | refine bl_then ?_ (by assumption)))⟩
set_option maxRecDepth 100000 in
set_option maxHeartbeats 4000000 in
theorem ref5_Fits (m : Nat → Int) (w : World) : Calls Tryd.prog 20 #[.agg #[.int .i64 (m 0), .int .i64 (m 1), .int .i64 (m 2), .int .i64 (m 3), .int .i64 (m 4), .int .i64 (m 5)]] w fun e w' => e = .returned (.bool (fits6 m)) ∧ Below w.heap.size w w' := by
  go_enter Tryd.func20, Tryd.ntmps20
  go_wp2
  go_loop [3] (fun v => ∃ k : Int, (k = 0 ∨ k = 1 ∨ k = 2 ∨ k = 3 ∨ k = 4 ∨ k = 5 ∨ k = 6) ∧ v = .int .i64 k ∧ allB (fun j => fitB (m j)) k.toNat = true) (fun v => 6 - (intOf v).toNat)
  case atStart => exact ⟨0, by decide, rfl, rfl⟩
  case round =>
    obtain ⟨k, hk, rfl, hu⟩ := hrel
    rcases hk with rfl | rfl | rfl | rfl | rfl | rfl | rfl
    · obtain ⟨b, hb⟩ : ∃ b, fitB (m 0) = b := ⟨_, rfl⟩
      have HI : Asd (∀ W, Calls Tryd.prog 54 #[.int .i64 (m 0)] W fun e w' => e = .returned (.bool b) ∧ W = w') := ⟨fun W => by rw [← hb]; exact ref2_Fits _ W⟩
      cases b
      all_goals go_wp2_with (go_at_call 54; refine (HI.out _).mono ?_; rintro e w' ⟨rfl, rfl⟩)
      · go_ret
        exact ⟨by rw [show fits6 m = false from allB_not (k := 0) (by decide) hb]; rfl, (by repeat (first | exact Below.refl _ _ | assumption | refine bl_alloc ?_ _ | refine bl_drewN ?_ _ | refine bl_drew ?_ | refine bl_set ?_ (by first | (simp; done) | (simp; omega) | (dsimp only; omega)) _ | refine bl_then ?_ (by assumption)))⟩
      · go_round
        case rel => exact ⟨1, by decide, rfl, allB_s (n := 0) hu hb⟩
        case measure => simp [intOf]
    · obtain ⟨b, hb⟩ : ∃ b, fitB (m 1) = b := ⟨_, rfl⟩
      have HI : Asd (∀ W, Calls Tryd.prog 54 #[.int .i64 (m 1)] W fun e w' => e = .returned (.bool b) ∧ W = w') := ⟨fun W => by rw [← hb]; exact ref2_Fits _ W⟩
      cases b
      all_goals go_wp2_with (go_at_call 54; refine (HI.out _).mono ?_; rintro e w' ⟨rfl, rfl⟩)
      · go_ret
        exact ⟨by rw [show fits6 m = false from allB_not (k := 1) (by decide) hb]; rfl, (by repeat (first | exact Below.refl _ _ | assumption | refine bl_alloc ?_ _ | refine bl_drewN ?_ _ | refine bl_drew ?_ | refine bl_set ?_ (by first | (simp; done) | (simp; omega) | (dsimp only; omega)) _ | refine bl_then ?_ (by assumption)))⟩
      · go_round
        case rel => exact ⟨2, by decide, rfl, allB_s (n := 1) hu hb⟩
        case measure => simp [intOf]
    · obtain ⟨b, hb⟩ : ∃ b, fitB (m 2) = b := ⟨_, rfl⟩
      have HI : Asd (∀ W, Calls Tryd.prog 54 #[.int .i64 (m 2)] W fun e w' => e = .returned (.bool b) ∧ W = w') := ⟨fun W => by rw [← hb]; exact ref2_Fits _ W⟩
      cases b
      all_goals go_wp2_with (go_at_call 54; refine (HI.out _).mono ?_; rintro e w' ⟨rfl, rfl⟩)
      · go_ret
        exact ⟨by rw [show fits6 m = false from allB_not (k := 2) (by decide) hb]; rfl, (by repeat (first | exact Below.refl _ _ | assumption | refine bl_alloc ?_ _ | refine bl_drewN ?_ _ | refine bl_drew ?_ | refine bl_set ?_ (by first | (simp; done) | (simp; omega) | (dsimp only; omega)) _ | refine bl_then ?_ (by assumption)))⟩
      · go_round
        case rel => exact ⟨3, by decide, rfl, allB_s (n := 2) hu hb⟩
        case measure => simp [intOf]
    · obtain ⟨b, hb⟩ : ∃ b, fitB (m 3) = b := ⟨_, rfl⟩
      have HI : Asd (∀ W, Calls Tryd.prog 54 #[.int .i64 (m 3)] W fun e w' => e = .returned (.bool b) ∧ W = w') := ⟨fun W => by rw [← hb]; exact ref2_Fits _ W⟩
      cases b
      all_goals go_wp2_with (go_at_call 54; refine (HI.out _).mono ?_; rintro e w' ⟨rfl, rfl⟩)
      · go_ret
        exact ⟨by rw [show fits6 m = false from allB_not (k := 3) (by decide) hb]; rfl, (by repeat (first | exact Below.refl _ _ | assumption | refine bl_alloc ?_ _ | refine bl_drewN ?_ _ | refine bl_drew ?_ | refine bl_set ?_ (by first | (simp; done) | (simp; omega) | (dsimp only; omega)) _ | refine bl_then ?_ (by assumption)))⟩
      · go_round
        case rel => exact ⟨4, by decide, rfl, allB_s (n := 3) hu hb⟩
        case measure => simp [intOf]
    · obtain ⟨b, hb⟩ : ∃ b, fitB (m 4) = b := ⟨_, rfl⟩
      have HI : Asd (∀ W, Calls Tryd.prog 54 #[.int .i64 (m 4)] W fun e w' => e = .returned (.bool b) ∧ W = w') := ⟨fun W => by rw [← hb]; exact ref2_Fits _ W⟩
      cases b
      all_goals go_wp2_with (go_at_call 54; refine (HI.out _).mono ?_; rintro e w' ⟨rfl, rfl⟩)
      · go_ret
        exact ⟨by rw [show fits6 m = false from allB_not (k := 4) (by decide) hb]; rfl, (by repeat (first | exact Below.refl _ _ | assumption | refine bl_alloc ?_ _ | refine bl_drewN ?_ _ | refine bl_drew ?_ | refine bl_set ?_ (by first | (simp; done) | (simp; omega) | (dsimp only; omega)) _ | refine bl_then ?_ (by assumption)))⟩
      · go_round
        case rel => exact ⟨5, by decide, rfl, allB_s (n := 4) hu hb⟩
        case measure => simp [intOf]
    · obtain ⟨b, hb⟩ : ∃ b, fitB (m 5) = b := ⟨_, rfl⟩
      have HI : Asd (∀ W, Calls Tryd.prog 54 #[.int .i64 (m 5)] W fun e w' => e = .returned (.bool b) ∧ W = w') := ⟨fun W => by rw [← hb]; exact ref2_Fits _ W⟩
      cases b
      all_goals go_wp2_with (go_at_call 54; refine (HI.out _).mono ?_; rintro e w' ⟨rfl, rfl⟩)
      · go_ret
        exact ⟨by rw [show fits6 m = false from allB_not (k := 5) (by decide) hb]; rfl, (by repeat (first | exact Below.refl _ _ | assumption | refine bl_alloc ?_ _ | refine bl_drewN ?_ _ | refine bl_drew ?_ | refine bl_set ?_ (by first | (simp; done) | (simp; omega) | (dsimp only; omega)) _ | refine bl_then ?_ (by assumption)))⟩
      · go_round
        case rel => exact ⟨6, by decide, rfl, allB_s (n := 5) hu hb⟩
        case measure => simp [intOf]
    · go_wp2
      go_ret
      exact ⟨by rw [show fits6 m = true from hu]; rfl, (by repeat (first | exact Below.refl _ _ | assumption | refine bl_alloc ?_ _ | refine bl_drewN ?_ _ | refine bl_drew ?_ | refine bl_set ?_ (by first | (simp; done) | (simp; omega) | (dsimp only; omega)) _ | refine bl_then ?_ (by assumption)))⟩
set_option maxHeartbeats 1000000 in
theorem sym_DiagG (d : Nat → Int) (w : World) : Calls Tryd.prog 13 #[.agg #[.int .i64 (d 0), .int .i64 (d 1), .int .i64 (d 2)]] w fun e w' => e = .returned (.agg #[.int .i64 (d 0), .int .i64 0, .int .i64 0, .int .i64 (d 1), .int .i64 0, .int .i64 (d 2)]) ∧ Below w.heap.size w w' := by
  go_enter Tryd.func13, Tryd.ntmps13
  go_wp2
  refine bodyPost_ret (v := .agg #[.int .i64 (d 0), .int .i64 0, .int .i64 0, .int .i64 (d 1), .int .i64 0, .int .i64 (d 2)]) (by simp (maxDischargeDepth := 9) [results, Tryd.results13, go_sem, *]) rfl ⟨rfl, (by repeat (first | exact Below.refl _ _ | assumption | refine bl_alloc ?_ _ | refine bl_drewN ?_ _ | refine bl_drew ?_ | refine bl_set ?_ (by first | (simp; done) | (simp; omega) | (dsimp only; omega)) _ | refine bl_then ?_ (by assumption)))⟩
end Go.Proofs.YtfbhcaocfajjpaaDoor

namespace Go.Proofs.YtfbhcaocfajjpaaDoor
open Go.RowKit
set_option linter.unusedSimpArgs false
set_option linter.unusedVariables false
attribute [local go_sem] nlt2 nlt3 nlt4 nlt5 nlt6 nlt7 nlt8 nlt9 nlt10 nlt11 nlt12
def addV (a b : Nat → Int) (i : Nat) : Int := if fits6 a && fits6 b then (if fits6 (fun j => a j + b j) then a i + b i else 0) else 0
def addE (a b : Nat → Int) : Int := if fits6 a && fits6 b then (if fits6 (fun j => a j + b j) then 0 else 3) else 1
set_option maxRecDepth 100000 in
set_option maxHeartbeats 8000000 in
theorem sym_Add (a b : Nat → Int) (w : World) : Calls Tryd.prog 11 #[.agg #[.int .i64 (a 0), .int .i64 (a 1), .int .i64 (a 2), .int .i64 (a 3), .int .i64 (a 4), .int .i64 (a 5)], .agg #[.int .i64 (b 0), .int .i64 (b 1), .int .i64 (b 2), .int .i64 (b 3), .int .i64 (b 4), .int .i64 (b 5)]] w fun e w' => e = .returned (.tuple #[.agg #[.int .i64 (addV a b 0), .int .i64 (addV a b 1), .int .i64 (addV a b 2), .int .i64 (addV a b 3), .int .i64 (addV a b 4), .int .i64 (addV a b 5)], .int .i64 (addE a b)]) ∧ Below w.heap.size w w' := by
  obtain ⟨fa, hfa⟩ : ∃ x, fits6 a = x := ⟨_, rfl⟩
  obtain ⟨fb, hfb⟩ : ∃ x, fits6 b = x := ⟨_, rfl⟩
  obtain ⟨fs, hfs⟩ : ∃ x, fits6 (fun j => a j + b j) = x := ⟨_, rfl⟩
  have HFa : Asd (∀ W, Calls Tryd.prog 33 #[.agg #[.int .i64 (a 0), .int .i64 (a 1), .int .i64 (a 2), .int .i64 (a 3), .int .i64 (a 4), .int .i64 (a 5)]] W fun e w' => e = .returned (.bool fa) ∧ Below W.heap.size W w') := ⟨fun W => by rw [← hfa]; exact sym_fits (a) W⟩
  have HFb : Asd (∀ W, Calls Tryd.prog 33 #[.agg #[.int .i64 (b 0), .int .i64 (b 1), .int .i64 (b 2), .int .i64 (b 3), .int .i64 (b 4), .int .i64 (b 5)]] W fun e w' => e = .returned (.bool fb) ∧ Below W.heap.size W w') := ⟨fun W => by rw [← hfb]; exact sym_fits (b) W⟩
  have HFs : Asd (∀ W, Calls Tryd.prog 33 #[.agg #[.int .i64 (a 0 + b 0), .int .i64 (a 1 + b 1), .int .i64 (a 2 + b 2), .int .i64 (a 3 + b 3), .int .i64 (a 4 + b 4), .int .i64 (a 5 + b 5)]] W fun e w' => e = .returned (.bool fs) ∧ Below W.heap.size W w') := ⟨fun W => by rw [← hfs]; exact sym_fits (fun j => a j + b j) W⟩
  have S0 : Asd (St w (((w.alloc (.cells #[.int .i64 (a 0), .int .i64 (a 1), .int .i64 (a 2), .int .i64 (a 3), .int .i64 (a 4), .int .i64 (a 5)] 23)).alloc (.cells #[.int .i64 (b 0), .int .i64 (b 1), .int .i64 (b 2), .int .i64 (b 3), .int .i64 (b 4), .int .i64 (b 5)] 23)).alloc (.cells #[.int .i64 0, .int .i64 0, .int .i64 0, .int .i64 0, .int .i64 0, .int .i64 0] 23)) [(w.heap.size + 1 + 1, [.int .i64 0, .int .i64 0, .int .i64 0, .int .i64 0, .int .i64 0, .int .i64 0]), (w.heap.size + 1, [.int .i64 (b 0), .int .i64 (b 1), .int .i64 (b 2), .int .i64 (b 3), .int .i64 (b 4), .int .i64 (b 5)]), (w.heap.size, [.int .i64 (a 0), .int .i64 (a 1), .int .i64 (a 2), .int .i64 (a 3), .int .i64 (a 4), .int .i64 (a 5)])] []) := ⟨by refine St.layAt (by simp; done) ?_; refine St.layAt (by simp; done) ?_; refine St.layAt rfl ?_; exact St.refl w⟩
  simp only [addV, addE, hfa, hfb, hfs]
  cases fa
  · clear hfa hfb hfs
    go_enter Tryd.func11, Tryd.ntmps11
    go_wp2_with (first | (go_at_call 33; replace S0 := S0; refine (HFa.out _).mono ?_; rintro e w1 ⟨rfl, hb1⟩; have S1 := Asd.mk (St.call (by (focus (with_reducible repeat (first | exact S0.out | apply St.drew | apply St.drewN)))) hb1); clear hb1 S0) | (replace S1 := S1; refine wpList_storeAll (w0 := w) 23 rfl rfl rfl (w.heap.size + 1 + 1) (by kernel_rfl) #[.int .i64 0, .int .i64 0, .int .i64 0, .int .i64 0, .int .i64 0, .int .i64 0] rfl S1.out 0 rfl rfl (by kernel_rfl) (by kernel_rfl) ?_; intro w2 Sx; have S2 : Asd (St w w2 [(w.heap.size + 1 + 1, [.int .i64 0, .int .i64 0, .int .i64 0, .int .i64 0, .int .i64 0, .int .i64 0]), (w.heap.size + 1, [.int .i64 (b 0), .int .i64 (b 1), .int .i64 (b 2), .int .i64 (b 3), .int .i64 (b 4), .int .i64 (b 5)]), (w.heap.size, [.int .i64 (a 0), .int .i64 (a 1), .int .i64 (a 2), .int .i64 (a 3), .int .i64 (a 4), .int .i64 (a 5)])] []) := ⟨Sx⟩; clear Sx S1) | (replace S0 := S0; refine wpList_whole 23 rfl rfl (w.heap.size) (by kernel_rfl) (cs := [.int .i64 (a 0), .int .i64 (a 1), .int .i64 (a 2), .int .i64 (a 3), .int .i64 (a 4), .int .i64 (a 5)]) (St.at S0.out 2 rfl) (by kernel_rfl) (by kernel_rfl) ?_))
    exact bodyPost_ret (results_row2 (a := 4) (b := 5) (t := 23) rfl (g := w.heap.size + 1 + 1) rfl rfl (run_loadVar_part (St.at S2.out 0 rfl) (by kernel_rfl) (by kernel_rfl))) rfl ⟨rfl, S2.out.bl⟩

  cases fb
  · clear hfa hfb hfs
    go_enter Tryd.func11, Tryd.ntmps11
    go_wp2_with (first | (go_at_call 33; replace S1 := S1; refine (HFb.out _).mono ?_; rintro e w2 ⟨rfl, hb2⟩; have S2 := Asd.mk (St.call (by (focus (with_reducible repeat (first | exact S1.out | apply St.drew | apply St.drewN)))) hb2); clear hb2 S1; clear C1) | (go_at_call 33; replace S0 := S0; refine (HFa.out _).mono ?_; rintro e w1 ⟨rfl, hb1⟩; have S1 := Asd.mk (St.call (by (focus (with_reducible repeat (first | exact S0.out | apply St.drew | apply St.drewN)))) hb1); clear hb1 S0; have C1 := S1.out.facts; simp only [facts, apart, cellsAt, Nat.zero_add, Nat.reduceAdd, and_true] at C1) | (replace S2 := S2; refine wpList_storeAll (w0 := w) 23 rfl rfl rfl (w.heap.size + 1 + 1) (by kernel_rfl) #[.int .i64 0, .int .i64 0, .int .i64 0, .int .i64 0, .int .i64 0, .int .i64 0] rfl S2.out 0 rfl rfl (by kernel_rfl) (by kernel_rfl) ?_; intro w3 Sx; have S3 : Asd (St w w3 [(w.heap.size + 1 + 1, [.int .i64 0, .int .i64 0, .int .i64 0, .int .i64 0, .int .i64 0, .int .i64 0]), (w.heap.size + 1, [.int .i64 (b 0), .int .i64 (b 1), .int .i64 (b 2), .int .i64 (b 3), .int .i64 (b 4), .int .i64 (b 5)]), (w.heap.size, [.int .i64 (a 0), .int .i64 (a 1), .int .i64 (a 2), .int .i64 (a 3), .int .i64 (a 4), .int .i64 (a 5)])] []) := ⟨Sx⟩; clear Sx S2) | (replace S1 := S1; refine wpList_whole 23 rfl rfl (w.heap.size + 1) (by kernel_rfl) (cs := [.int .i64 (b 0), .int .i64 (b 1), .int .i64 (b 2), .int .i64 (b 3), .int .i64 (b 4), .int .i64 (b 5)]) (St.at S1.out 1 rfl) (by kernel_rfl) (by kernel_rfl) ?_) | (replace S0 := S0; refine wpList_whole 23 rfl rfl (w.heap.size) (by kernel_rfl) (cs := [.int .i64 (a 0), .int .i64 (a 1), .int .i64 (a 2), .int .i64 (a 3), .int .i64 (a 4), .int .i64 (a 5)]) (St.at S0.out 2 rfl) (by kernel_rfl) (by kernel_rfl) ?_))
    exact bodyPost_ret (results_row2 (a := 4) (b := 5) (t := 23) rfl (g := w.heap.size + 1 + 1) rfl rfl (run_loadVar_part (St.at S3.out 0 rfl) (by kernel_rfl) (by kernel_rfl))) rfl ⟨rfl, S3.out.bl⟩

  have G := Asd.mk (And.intro hfa hfb)
  clear hfa hfb
  go_enter Tryd.func11, Tryd.ntmps11
  go_wp2_with (first | (go_at_call 33; replace S1 := S1; refine (HFb.out _).mono ?_; rintro e w2 ⟨rfl, hb2⟩; have S2 := Asd.mk (St.call (by (focus (with_reducible repeat (first | exact S1.out | apply St.drew | apply St.drewN)))) hb2); clear hb2 S1; clear C1) | (go_at_call 33; replace S0 := S0; refine (HFa.out _).mono ?_; rintro e w1 ⟨rfl, hb1⟩; have S1 := Asd.mk (St.call (by (focus (with_reducible repeat (first | exact S0.out | apply St.drew | apply St.drewN)))) hb1); clear hb1 S0; have C1 := S1.out.facts; simp only [facts, apart, cellsAt, Nat.zero_add, Nat.reduceAdd, and_true] at C1) | (replace S1 := S1; refine wpList_whole 23 rfl rfl (w.heap.size + 1) (by kernel_rfl) (cs := [.int .i64 (b 0), .int .i64 (b 1), .int .i64 (b 2), .int .i64 (b 3), .int .i64 (b 4), .int .i64 (b 5)]) (St.at S1.out 1 rfl) (by kernel_rfl) (by kernel_rfl) ?_) | (replace S0 := S0; refine wpList_whole 23 rfl rfl (w.heap.size) (by kernel_rfl) (cs := [.int .i64 (a 0), .int .i64 (a 1), .int .i64 (a 2), .int .i64 (a 3), .int .i64 (a 4), .int .i64 (a 5)]) (St.at S0.out 2 rfl) (by kernel_rfl) (by kernel_rfl) ?_))
  go_loopw [16] (fun v wr => ∃ k : Int, v = .int .i64 k ∧ ((k = 0 ∧ Asd (St w wr [(w.heap.size + 1 + 1, [.int .i64 0, .int .i64 0, .int .i64 0, .int .i64 0, .int .i64 0, .int .i64 0]), (w.heap.size + 1, [.int .i64 (b 0), .int .i64 (b 1), .int .i64 (b 2), .int .i64 (b 3), .int .i64 (b 4), .int .i64 (b 5)]), (w.heap.size, [.int .i64 (a 0), .int .i64 (a 1), .int .i64 (a 2), .int .i64 (a 3), .int .i64 (a 4), .int .i64 (a 5)])] [])) ∨ (k = 1 ∧ Asd (St w wr [(w.heap.size + 1 + 1, [.int .i64 0, .int .i64 0, .int .i64 0, .int .i64 0, .int .i64 0, .int .i64 0]), (w.heap.size + 1, [.int .i64 (b 0), .int .i64 (b 1), .int .i64 (b 2), .int .i64 (b 3), .int .i64 (b 4), .int .i64 (b 5)]), (w.heap.size, [.int .i64 (a 0 + b 0), .int .i64 (a 1), .int .i64 (a 2), .int .i64 (a 3), .int .i64 (a 4), .int .i64 (a 5)])] [])) ∨ (k = 2 ∧ Asd (St w wr [(w.heap.size + 1 + 1, [.int .i64 0, .int .i64 0, .int .i64 0, .int .i64 0, .int .i64 0, .int .i64 0]), (w.heap.size + 1, [.int .i64 (b 0), .int .i64 (b 1), .int .i64 (b 2), .int .i64 (b 3), .int .i64 (b 4), .int .i64 (b 5)]), (w.heap.size, [.int .i64 (a 0 + b 0), .int .i64 (a 1 + b 1), .int .i64 (a 2), .int .i64 (a 3), .int .i64 (a 4), .int .i64 (a 5)])] [])) ∨ (k = 3 ∧ Asd (St w wr [(w.heap.size + 1 + 1, [.int .i64 0, .int .i64 0, .int .i64 0, .int .i64 0, .int .i64 0, .int .i64 0]), (w.heap.size + 1, [.int .i64 (b 0), .int .i64 (b 1), .int .i64 (b 2), .int .i64 (b 3), .int .i64 (b 4), .int .i64 (b 5)]), (w.heap.size, [.int .i64 (a 0 + b 0), .int .i64 (a 1 + b 1), .int .i64 (a 2 + b 2), .int .i64 (a 3), .int .i64 (a 4), .int .i64 (a 5)])] [])) ∨ (k = 4 ∧ Asd (St w wr [(w.heap.size + 1 + 1, [.int .i64 0, .int .i64 0, .int .i64 0, .int .i64 0, .int .i64 0, .int .i64 0]), (w.heap.size + 1, [.int .i64 (b 0), .int .i64 (b 1), .int .i64 (b 2), .int .i64 (b 3), .int .i64 (b 4), .int .i64 (b 5)]), (w.heap.size, [.int .i64 (a 0 + b 0), .int .i64 (a 1 + b 1), .int .i64 (a 2 + b 2), .int .i64 (a 3 + b 3), .int .i64 (a 4), .int .i64 (a 5)])] [])) ∨ (k = 5 ∧ Asd (St w wr [(w.heap.size + 1 + 1, [.int .i64 0, .int .i64 0, .int .i64 0, .int .i64 0, .int .i64 0, .int .i64 0]), (w.heap.size + 1, [.int .i64 (b 0), .int .i64 (b 1), .int .i64 (b 2), .int .i64 (b 3), .int .i64 (b 4), .int .i64 (b 5)]), (w.heap.size, [.int .i64 (a 0 + b 0), .int .i64 (a 1 + b 1), .int .i64 (a 2 + b 2), .int .i64 (a 3 + b 3), .int .i64 (a 4 + b 4), .int .i64 (a 5)])] [])) ∨ (k = 6 ∧ Asd (St w wr [(w.heap.size + 1 + 1, [.int .i64 0, .int .i64 0, .int .i64 0, .int .i64 0, .int .i64 0, .int .i64 0]), (w.heap.size + 1, [.int .i64 (b 0), .int .i64 (b 1), .int .i64 (b 2), .int .i64 (b 3), .int .i64 (b 4), .int .i64 (b 5)]), (w.heap.size, [.int .i64 (a 0 + b 0), .int .i64 (a 1 + b 1), .int .i64 (a 2 + b 2), .int .i64 (a 3 + b 3), .int .i64 (a 4 + b 4), .int .i64 (a 5 + b 5)])] [])))) (fun v _ => 6 - (intOf v).toNat)
  case atStart => exact ⟨0, rfl, Or.inl ⟨rfl, S2⟩⟩
  case round =>
    obtain ⟨k, rfl, hk⟩ := hrel
    clear S2
    rcases hk with ⟨rfl, S3⟩ | ⟨rfl, S3⟩ | ⟨rfl, S3⟩ | ⟨rfl, S3⟩ | ⟨rfl, S3⟩ | ⟨rfl, S3⟩ | ⟨rfl, S3⟩
    · obtain ⟨x1, x2⟩ := fitB_true.1 (allB_at G.out.1 (k := 0) (by decide))
      obtain ⟨y1, y2⟩ := fitB_true.1 (allB_at G.out.2 (k := 0) (by decide))
      have eA := St.cell S3.out 2 0 rfl rfl
      have eB := St.cell S3.out 1 0 rfl rfl
      have F3 := S3.out.facts.2.2.2.2.2.2.2.2.2.2.1
      simp only at F3 x1 x2 y1 y2
      go_wp2
      go_still_tail 8, (by kernel_rfl)
      change wpList _ _ _ _ _ (World.drew _)
      go_wp2
      go_roundw
      case rel => exact ⟨1, rfl, by simp only [Int.reduceEq, false_and, false_or, or_false, true_and]; exact ⟨St.set (St.drew S3.out) 2 0 rfl (by simp) (Or.inl rfl) _⟩⟩
      case measure => simp [intOf]
    · obtain ⟨x1, x2⟩ := fitB_true.1 (allB_at G.out.1 (k := 1) (by decide))
      obtain ⟨y1, y2⟩ := fitB_true.1 (allB_at G.out.2 (k := 1) (by decide))
      have eA := St.cell S3.out 2 1 rfl rfl
      have eB := St.cell S3.out 1 1 rfl rfl
      have F3 := S3.out.facts.2.2.2.2.2.2.2.2.2.2.1
      simp only at F3 x1 x2 y1 y2
      go_wp2
      go_still_tail 8, (by kernel_rfl)
      change wpList _ _ _ _ _ (World.drew _)
      go_wp2
      go_roundw
      case rel => exact ⟨2, rfl, by simp only [Int.reduceEq, false_and, false_or, or_false, true_and]; exact ⟨St.set (St.drew S3.out) 2 1 rfl (by simp) (Or.inl rfl) _⟩⟩
      case measure => simp [intOf]
    · obtain ⟨x1, x2⟩ := fitB_true.1 (allB_at G.out.1 (k := 2) (by decide))
      obtain ⟨y1, y2⟩ := fitB_true.1 (allB_at G.out.2 (k := 2) (by decide))
      have eA := St.cell S3.out 2 2 rfl rfl
      have eB := St.cell S3.out 1 2 rfl rfl
      have F3 := S3.out.facts.2.2.2.2.2.2.2.2.2.2.1
      simp only at F3 x1 x2 y1 y2
      go_wp2
      go_still_tail 8, (by kernel_rfl)
      change wpList _ _ _ _ _ (World.drew _)
      go_wp2
      go_roundw
      case rel => exact ⟨3, rfl, by simp only [Int.reduceEq, false_and, false_or, or_false, true_and]; exact ⟨St.set (St.drew S3.out) 2 2 rfl (by simp) (Or.inl rfl) _⟩⟩
      case measure => simp [intOf]
    · obtain ⟨x1, x2⟩ := fitB_true.1 (allB_at G.out.1 (k := 3) (by decide))
      obtain ⟨y1, y2⟩ := fitB_true.1 (allB_at G.out.2 (k := 3) (by decide))
      have eA := St.cell S3.out 2 3 rfl rfl
      have eB := St.cell S3.out 1 3 rfl rfl
      have F3 := S3.out.facts.2.2.2.2.2.2.2.2.2.2.1
      simp only at F3 x1 x2 y1 y2
      go_wp2
      go_still_tail 8, (by kernel_rfl)
      change wpList _ _ _ _ _ (World.drew _)
      go_wp2
      go_roundw
      case rel => exact ⟨4, rfl, by simp only [Int.reduceEq, false_and, false_or, or_false, true_and]; exact ⟨St.set (St.drew S3.out) 2 3 rfl (by simp) (Or.inl rfl) _⟩⟩
      case measure => simp [intOf]
    · obtain ⟨x1, x2⟩ := fitB_true.1 (allB_at G.out.1 (k := 4) (by decide))
      obtain ⟨y1, y2⟩ := fitB_true.1 (allB_at G.out.2 (k := 4) (by decide))
      have eA := St.cell S3.out 2 4 rfl rfl
      have eB := St.cell S3.out 1 4 rfl rfl
      have F3 := S3.out.facts.2.2.2.2.2.2.2.2.2.2.1
      simp only at F3 x1 x2 y1 y2
      go_wp2
      go_still_tail 8, (by kernel_rfl)
      change wpList _ _ _ _ _ (World.drew _)
      go_wp2
      go_roundw
      case rel => exact ⟨5, rfl, by simp only [Int.reduceEq, false_and, false_or, or_false, true_and]; exact ⟨St.set (St.drew S3.out) 2 4 rfl (by simp) (Or.inl rfl) _⟩⟩
      case measure => simp [intOf]
    · obtain ⟨x1, x2⟩ := fitB_true.1 (allB_at G.out.1 (k := 5) (by decide))
      obtain ⟨y1, y2⟩ := fitB_true.1 (allB_at G.out.2 (k := 5) (by decide))
      have eA := St.cell S3.out 2 5 rfl rfl
      have eB := St.cell S3.out 1 5 rfl rfl
      have F3 := S3.out.facts.2.2.2.2.2.2.2.2.2.2.1
      simp only at F3 x1 x2 y1 y2
      go_wp2
      go_still_tail 8, (by kernel_rfl)
      change wpList _ _ _ _ _ (World.drew _)
      go_wp2
      go_roundw
      case rel => exact ⟨6, rfl, by simp only [Int.reduceEq, false_and, false_or, or_false, true_and]; exact ⟨St.set (St.drew S3.out) 2 5 rfl (by simp) (Or.inl rfl) _⟩⟩
      case measure => simp [intOf]
    · cases fs
      · go_wp2_with (first | (go_at_call 33; replace S3 := S3; refine (HFs.out _).mono ?_; rintro e w4 ⟨rfl, hb4⟩; have S4 := Asd.mk (St.call (by (focus (with_reducible repeat (first | exact S3.out | apply St.drew | apply St.drewN)))) hb4); clear hb4 S3) | (replace S4 := S4; refine wpList_storeAll (w0 := w) 23 rfl rfl rfl (w.heap.size + 1 + 1) (by kernel_rfl) #[.int .i64 0, .int .i64 0, .int .i64 0, .int .i64 0, .int .i64 0, .int .i64 0] rfl S4.out 0 rfl rfl (by kernel_rfl) (by kernel_rfl) ?_; intro w5 Sx; have S5 : Asd (St w w5 [(w.heap.size + 1 + 1, [.int .i64 0, .int .i64 0, .int .i64 0, .int .i64 0, .int .i64 0, .int .i64 0]), (w.heap.size + 1, [.int .i64 (b 0), .int .i64 (b 1), .int .i64 (b 2), .int .i64 (b 3), .int .i64 (b 4), .int .i64 (b 5)]), (w.heap.size, [.int .i64 (a 0 + b 0), .int .i64 (a 1 + b 1), .int .i64 (a 2 + b 2), .int .i64 (a 3 + b 3), .int .i64 (a 4 + b 4), .int .i64 (a 5 + b 5)])] []) := ⟨Sx⟩; clear Sx S4) | (replace S3 := S3; refine wpList_whole 23 rfl rfl (w.heap.size) (by kernel_rfl) (cs := [.int .i64 (a 0 + b 0), .int .i64 (a 1 + b 1), .int .i64 (a 2 + b 2), .int .i64 (a 3 + b 3), .int .i64 (a 4 + b 4), .int .i64 (a 5 + b 5)]) (St.at S3.out 2 rfl) (by kernel_rfl) (by kernel_rfl) ?_))
        exact bodyPost_ret (results_row2 (a := 4) (b := 5) (t := 23) rfl (g := w.heap.size + 1 + 1) rfl rfl (run_loadVar_part (St.at S5.out 0 rfl) (by kernel_rfl) (by kernel_rfl))) rfl ⟨rfl, S5.out.bl⟩
      · go_wp2_with (first | (go_at_call 33; replace S3 := S3; refine (HFs.out _).mono ?_; rintro e w4 ⟨rfl, hb4⟩; have S4 := Asd.mk (St.call (by (focus (with_reducible repeat (first | exact S3.out | apply St.drew | apply St.drewN)))) hb4); clear hb4 S3) | (replace S4 := S4; refine wpList_storeAll (w0 := w) 23 rfl rfl rfl (w.heap.size + 1 + 1) (by kernel_rfl) #[.int .i64 (a 0 + b 0), .int .i64 (a 1 + b 1), .int .i64 (a 2 + b 2), .int .i64 (a 3 + b 3), .int .i64 (a 4 + b 4), .int .i64 (a 5 + b 5)] rfl S4.out 0 rfl rfl (by kernel_rfl) (by kernel_rfl) ?_; intro w5 Sx; have S5 : Asd (St w w5 [(w.heap.size + 1 + 1, [.int .i64 (a 0 + b 0), .int .i64 (a 1 + b 1), .int .i64 (a 2 + b 2), .int .i64 (a 3 + b 3), .int .i64 (a 4 + b 4), .int .i64 (a 5 + b 5)]), (w.heap.size + 1, [.int .i64 (b 0), .int .i64 (b 1), .int .i64 (b 2), .int .i64 (b 3), .int .i64 (b 4), .int .i64 (b 5)]), (w.heap.size, [.int .i64 (a 0 + b 0), .int .i64 (a 1 + b 1), .int .i64 (a 2 + b 2), .int .i64 (a 3 + b 3), .int .i64 (a 4 + b 4), .int .i64 (a 5 + b 5)])] []) := ⟨Sx⟩; clear Sx S4) | (replace S4 := S4; refine wpList_whole 23 rfl rfl (w.heap.size) (by kernel_rfl) (cs := [.int .i64 (a 0 + b 0), .int .i64 (a 1 + b 1), .int .i64 (a 2 + b 2), .int .i64 (a 3 + b 3), .int .i64 (a 4 + b 4), .int .i64 (a 5 + b 5)]) (St.at S4.out 2 rfl) (by kernel_rfl) (by kernel_rfl) ?_) | (replace S3 := S3; refine wpList_whole 23 rfl rfl (w.heap.size) (by kernel_rfl) (cs := [.int .i64 (a 0 + b 0), .int .i64 (a 1 + b 1), .int .i64 (a 2 + b 2), .int .i64 (a 3 + b 3), .int .i64 (a 4 + b 4), .int .i64 (a 5 + b 5)]) (St.at S3.out 2 rfl) (by kernel_rfl) (by kernel_rfl) ?_))
        exact bodyPost_ret (results_row2 (a := 4) (b := 5) (t := 23) rfl (g := w.heap.size + 1 + 1) rfl rfl (run_loadVar_part (St.at S5.out 0 rfl) (by kernel_rfl) (by kernel_rfl))) rfl ⟨rfl, S5.out.bl⟩
end Go.Proofs.YtfbhcaocfajjpaaDoor

namespace Go.Proofs.YtfbhcaocfajjpaaDoor
open Go.RowKit
set_option linter.unusedSimpArgs false
set_option linter.unusedVariables false
attribute [local go_sem] nlt2 nlt3 nlt4 nlt5 nlt6 nlt7 nlt8 nlt9 nlt10 nlt11 nlt12
set_option maxHeartbeats 400000 in
theorem sym_over (x lo : Int) (hx : I64 x) (hl : I64 lo) (h : lo ≤ x) (w : World) : Calls Tryd.prog 37 #[.int .i64 x, .int .i64 lo] w fun e w' => e = .returned (.int .u64 (x - lo)) ∧ w = w' := by
  unfold I64 at hx hl
  go_enter Tryd.func37, Tryd.ntmps37
  go_wp2
  go_ret
  exact ⟨by first | rfl | exact ret_int (by simp; omega) | exact ret_int (by rw [IntKind.wrap_u64]; omega) | exact ret_int (by simp [IntKind.wrap_u64]; omega), rfl⟩
/-- Is a square above a product? -/
def abB (x p q : Int) : Bool := decide (p * q < x * x)
theorem ab_eq (n p q : Nat) : decide ((p : Int) * q < (n : Int) * n) = (decide ((p * q / 18446744073709551616 : Nat) < (n * n / 18446744073709551616 : Nat)) || (decide ((n * n / 18446744073709551616 : Nat) = (p * q / 18446744073709551616 : Nat)) && decide ((p * q % 18446744073709551616 : Nat) < (n * n % 18446744073709551616 : Nat)))) := by
  obtain ⟨u, hu⟩ : ∃ u, p * q = u := ⟨_, rfl⟩
  obtain ⟨v, hv⟩ : ∃ v, n * n = v := ⟨_, rfl⟩
  rw [← Int.natCast_mul, ← Int.natCast_mul, hu, hv]
  rw [Bool.eq_iff_iff]
  simp
  omega
set_option maxRecDepth 100000 in
set_option maxHeartbeats 1000000 in
theorem sym_above (x : Int) (p q : Nat) (hx : -288230376151711744 ≤ x ∧ x ≤ 288230376151711744) (hp : p < 18446744073709551616) (hq : q < 18446744073709551616) (w : World) :
    Calls Tryd.prog 36 #[.int .i64 x, .int .u64 p, .int .u64 q] w fun e w' => e = .returned (.bool (abB x p q)) ∧ w = w' := by
  obtain ⟨n, hn⟩ : ∃ n : Nat, (x = n ∨ (x = -n ∧ (0 : Int) < n)) ∧ n ≤ 288230376151711744 := ⟨x.natAbs, by omega, by omega⟩
  have hab : abB x p q = decide ((p : Int) * q < (n : Int) * n) := by
    unfold abB
    rcases hn.1 with rfl | ⟨rfl, _⟩
    · rfl
    · rw [Int.neg_mul_neg]
  rw [hab, ab_eq]
  clear hab
  have m1 := bits_Mul64 n n (by omega) (by omega)
  have m2 := bits_Mul64 p q hp hq
  obtain ⟨u1, hu1⟩ : ∃ u, n * n / 18446744073709551616 = u := ⟨_, rfl⟩
  obtain ⟨u2, hu2⟩ : ∃ u, n * n % 18446744073709551616 = u := ⟨_, rfl⟩
  obtain ⟨v1, hv1⟩ : ∃ u, p * q / 18446744073709551616 = u := ⟨_, rfl⟩
  obtain ⟨v2, hv2⟩ : ∃ u, p * q % 18446744073709551616 = u := ⟨_, rfl⟩
  rw [hu1, hu2] at m1
  rw [hv1, hv2] at m2
  rw [hu1, hu2, hv1, hv2]
  clear hu1 hu2 hv1 hv2
  have M1 := Asd.mk m1
  have M2 := Asd.mk m2
  clear m1 m2
  have hw : IntKind.u64.wrap (n : Int) = n := by rw [IntKind.wrap_u64]; omega
  have hw1 : wrap64 (n : Int) = n := by unfold wrap64; omega
  have hw2 : wrap64 (-(n : Int)) = -n := by unfold wrap64; omega
  obtain ⟨d1, h1⟩ : ∃ d, decide (v1 < u1) = d := ⟨_, rfl⟩
  obtain ⟨d2, h2⟩ : ∃ d, decide (u1 = v1) = d := ⟨_, rfl⟩
  obtain ⟨d3, h3⟩ : ∃ d, decide (v2 < u2) = d := ⟨_, rfl⟩
  rw [h1, h2, h3]
  have h2i : decide ((u1 : Int) = v1) = d2 := by rw [← h2]; simp [Int.ofNat_inj]
  clear hx
  obtain ⟨hn, hn2⟩ := hn
  have hn3 : (0 : Int) ≤ n := by omega
  rcases hn with rfl | ⟨rfl, hn4⟩
  all_goals cases d1 <;> cases d2 <;> cases d3
  all_goals (try (exfalso; simp at h1 h2; omega))
  all_goals (
  go_enter Tryd.func36, Tryd.ntmps36
  go_wp2_with (go_at_call 90; first | (with_reducible refine (M1.out _).mono ?_; rintro e w' ⟨rfl, rfl⟩) | (with_reducible refine (M2.out _).mono ?_; rintro e w' ⟨rfl, rfl⟩))
  all_goals (
  go_ret
  exact ⟨by first | rfl | (simp at h1 h2 h3 ⊢; done) | (simp at h1 h2 h3 ⊢; omega) | (exfalso; simp at h1 h2 h3; omega), rfl⟩))
end Go.Proofs.YtfbhcaocfajjpaaDoor

namespace Go.Proofs.YtfbhcaocfajjpaaDoor
open Go.RowKit
set_option linter.unusedSimpArgs false
set_option linter.unusedVariables false
attribute [local go_sem] nlt2 nlt3 nlt4 nlt5 nlt6 nlt7 nlt8 nlt9 nlt10 nlt11 nlt12
/-- Is a matrix sound over a floor? -/
def soundB (m f : Nat → Int) : Bool :=
  fits6 m && ((decide (f 0 ≤ m 0) && (decide (f 1 ≤ m 3) && decide (f 2 ≤ m 5))) && (!abB (m 1) (m 3 - f 1) (m 0 - f 0) && (!abB (m 2) (m 5 - f 2) (m 0 - f 0) && !abB (m 4) (m 5 - f 2) (m 3 - f 1))))
set_option maxRecDepth 100000 in
set_option maxHeartbeats 8000000 in
theorem sym_Sound (m f : Nat → Int) (hf : ∀ i, I64 (f i)) (w : World) (hg : GP w) : Calls Tryd.prog 15 #[.agg #[.int .i64 (m 0), .int .i64 (m 1), .int .i64 (m 2), .int .i64 (m 3), .int .i64 (m 4), .int .i64 (m 5)], .agg #[.int .i64 (f 0), .int .i64 (f 1), .int .i64 (f 2)]] w fun e w' => e = .returned (.bool (soundB m f)) ∧ Below w.heap.size w w' := by
  obtain ⟨F, hF⟩ : ∃ F, fits6 m = F := ⟨_, rfl⟩
  have HG := Asd.mk hg
  clear hg
  have HF : Asd (∀ W, Calls Tryd.prog 33 #[.agg #[.int .i64 (m 0), .int .i64 (m 1), .int .i64 (m 2), .int .i64 (m 3), .int .i64 (m 4), .int .i64 (m 5)]] W fun e w' => e = .returned (.bool F) ∧ Below W.heap.size W w') := ⟨fun W => by rw [← hF]; exact sym_fits m W⟩
  have S0 : Asd (St w ((w.alloc (.cells #[.int .i64 (m 0), .int .i64 (m 1), .int .i64 (m 2), .int .i64 (m 3), .int .i64 (m 4), .int .i64 (m 5)] 23)).alloc (.cells #[.int .i64 (f 0), .int .i64 (f 1), .int .i64 (f 2)] 25)) [(w.heap.size + 1, [.int .i64 (f 0), .int .i64 (f 1), .int .i64 (f 2)]), (w.heap.size, [.int .i64 (m 0), .int .i64 (m 1), .int .i64 (m 2), .int .i64 (m 3), .int .i64 (m 4), .int .i64 (m 5)])] []) := ⟨by refine St.layAt (by simp; done) ?_; refine St.layAt rfl ?_; exact St.refl w⟩
  obtain ⟨z, hz⟩ : ∃ z, soundB m f = z := ⟨_, rfl⟩
  rw [hz]
  cases F
  · have hz0 : z = false := by rw [← hz]; unfold soundB; rw [hF]; rfl
    subst hz0
    clear hz hF
    go_enter Tryd.func15, Tryd.ntmps15
    go_wp2_with (first | (go_at_call 24; replace S0 := S0; refine (sym_Main m _).mono ?_; rintro e w1 ⟨rfl, hb1⟩; have S1 := Asd.mk (St.call (by (focus (with_reducible repeat (first | exact S0.out | apply St.drew | apply St.drewN)))) hb1); clear hb1 S0))
    replace S1 := Asd.mk (St.lay S1.out [.int .i64 (m 0), .int .i64 (m 3), .int .i64 (m 5)] 25)
    go_loopw [12] (fun v wr => v = .int .i64 0 ∧ Asd (St w wr [(w1.heap.size, [.int .i64 (m 0), .int .i64 (m 3), .int .i64 (m 5)]), (w.heap.size + 1, [.int .i64 (f 0), .int .i64 (f 1), .int .i64 (f 2)]), (w.heap.size, [.int .i64 (m 0), .int .i64 (m 1), .int .i64 (m 2), .int .i64 (m 3), .int .i64 (m 4), .int .i64 (m 5)])] [])) (fun v _ => 3 - (intOf v).toNat)
    case atStart => exact ⟨rfl, S1⟩
    case round =>
      obtain ⟨rfl, S2⟩ := hrel
      clear S1
      go_wp2
      refine wp_region_held_drew (S := (fun w' => w'.cell? ⟨w.heap.size, 0, none⟩ = some (.int .i64 (m 0)) ∧ w'.cell? ⟨w.heap.size, 1, none⟩ = some (.int .i64 (m 1)) ∧ w'.cell? ⟨w.heap.size, 2, none⟩ = some (.int .i64 (m 2)) ∧ w'.cell? ⟨w.heap.size, 3, none⟩ = some (.int .i64 (m 3)) ∧ w'.cell? ⟨w.heap.size, 4, none⟩ = some (.int .i64 (m 4)) ∧ w'.cell? ⟨w.heap.size, 5, none⟩ = some (.int .i64 (m 5)) ∧ w'.cell? ⟨w1.heap.size, 0, none⟩ = some (.int .i64 (m 0)) ∧ w'.cell? ⟨w.heap.size + 1, 0, none⟩ = some (.int .i64 (f 0)))) (by kernel_rfl) ?_ (fun hHeld => ?_)
      · (try dsimp only); first | exact ⟨St.cell S2.out 2 0 rfl rfl, St.cell S2.out 2 1 rfl rfl, St.cell S2.out 2 2 rfl rfl, St.cell S2.out 2 3 rfl rfl, St.cell S2.out 2 4 rfl rfl, St.cell S2.out 2 5 rfl rfl, St.cell S2.out 0 0 rfl rfl, St.cell S2.out 1 0 rfl rfl⟩ | exact ⟨St.cell S3.out 2 0 rfl rfl, St.cell S3.out 2 1 rfl rfl, St.cell S3.out 2 2 rfl rfl, St.cell S3.out 2 3 rfl rfl, St.cell S3.out 2 4 rfl rfl, St.cell S3.out 2 5 rfl rfl, St.cell S3.out 0 0 rfl rfl, St.cell S3.out 1 0 rfl rfl⟩
      refine wpAnyH_take (i := 0) (oi := ?oi1) (v := ?v1) ?hi1 ?hs1 ?hf1 ?hr1 ?hQ1 ?hy1 ?hS1 ?_
      case hi1 => (simp only [List.getElem?_toArray, List.getElem?_cons_zero, List.getElem?_cons_succ]; rfl)
      case hs1 => kernel_rfl
      case hf1 => kernel_rfl
      case hr1 => kernel_rfl
      case hQ1 => exact fun _ _ _ h => h
      case hS1 => assumption
      case hy1 => (refine Or.inl ⟨by kernel_rfl, ?_⟩; intro w hSw; (try dsimp only at hSw); go_simp; (try with_reducible rfl))
      (try simp only [Act.put, List.setIfInBounds_toArray, List.set_cons_zero, List.set_cons_succ])
      refine wpAnyH_ready (rs := [1]) (by kernel_rfl) (by simp) ?_
      refine AllReadyH.cons (o := ?oi2) ?hi2 (fun K hK => ?_) AllReadyH.nil
      case hi2 => (simp only [List.getElem?_toArray, List.getElem?_cons_zero, List.getElem?_cons_succ]; rfl)
      go_simp
      (go_at_call 33; replace S2 := S2; refine (HF.out _).mono ?_; rintro e w3 ⟨rfl, hb3⟩; have S3 := Asd.mk (St.call (by (focus (with_reducible repeat (first | exact S2.out | apply St.drew | apply St.drewN)))) hb3); clear hb3 S2)
      (try dsimp only [])
      refine hK.out _ _ ?_ (fun hHeld => ?_)
      · (try dsimp only); first | exact ⟨St.cell S2.out 2 0 rfl rfl, St.cell S2.out 2 1 rfl rfl, St.cell S2.out 2 2 rfl rfl, St.cell S2.out 2 3 rfl rfl, St.cell S2.out 2 4 rfl rfl, St.cell S2.out 2 5 rfl rfl, St.cell S2.out 0 0 rfl rfl, St.cell S2.out 1 0 rfl rfl⟩ | exact ⟨St.cell S3.out 2 0 rfl rfl, St.cell S3.out 2 1 rfl rfl, St.cell S3.out 2 2 rfl rfl, St.cell S3.out 2 3 rfl rfl, St.cell S3.out 2 4 rfl rfl, St.cell S3.out 2 5 rfl rfl, St.cell S3.out 0 0 rfl rfl, St.cell S3.out 1 0 rfl rfl⟩
      clear hK K
      (try simp only [Act.put, List.setIfInBounds_toArray, List.set_cons_zero, List.set_cons_succ])
      refine wpAnyH_take (i := 2) (oi := ?oi3) (v := ?v3) ?hi3 ?hs3 ?hf3 ?hr3 ?hQ3 ?hy3 ?hS3 ?_
      case hi3 => (simp only [List.getElem?_toArray, List.getElem?_cons_zero, List.getElem?_cons_succ]; rfl)
      case hs3 => kernel_rfl
      case hf3 => kernel_rfl
      case hr3 => kernel_rfl
      case hQ3 => exact fun _ _ _ h => h
      case hS3 => assumption
      case hy3 => (refine Or.inl ⟨by kernel_rfl, ?_⟩; intro w hSw; (try dsimp only at hSw); go_simp; (try with_reducible rfl))
      (try simp only [Act.put, List.setIfInBounds_toArray, List.set_cons_zero, List.set_cons_succ])
      refine wpAnyH_take (i := 3) (oi := ?oi4) (v := ?v4) ?hi4 ?hs4 ?hf4 ?hr4 ?hQ4 ?hy4 ?hS4 ?_
      case hi4 => (simp only [List.getElem?_toArray, List.getElem?_cons_zero, List.getElem?_cons_succ]; rfl)
      case hs4 => kernel_rfl
      case hf4 => kernel_rfl
      case hr4 => kernel_rfl
      case hQ4 => exact fun _ _ _ h => h
      case hS4 => assumption
      case hy4 => (refine Or.inl ⟨by kernel_rfl, ?_⟩; intro w hSw; (try dsimp only at hSw); go_simp; (try with_reducible rfl))
      (try simp only [Act.put, List.setIfInBounds_toArray, List.set_cons_zero, List.set_cons_succ])
      refine wpAnyH_take (i := 4) (oi := ?oi5) (v := undef) ?hi5 ?hs5 ?hf5 ?hr5 ?hQ5 ?hy5 ?hS5 ?_
      case hi5 => (simp only [List.getElem?_toArray, List.getElem?_cons_zero, List.getElem?_cons_succ]; rfl)
      case hs5 => kernel_rfl
      case hf5 => kernel_rfl
      case hr5 => kernel_rfl
      case hQ5 => exact fun _ _ _ h => h
      case hS5 => assumption
      case hy5 => exact Or.inr ⟨by kernel_rfl, rfl⟩
      (try simp only [Act.put, List.setIfInBounds_toArray, List.set_cons_zero, List.set_cons_succ])
      refine wpAnyH_take (i := 5) (oi := ?oi6) (v := undef) ?hi6 ?hs6 ?hf6 ?hr6 ?hQ6 ?hy6 ?hS6 ?_
      case hi6 => (simp only [List.getElem?_toArray, List.getElem?_cons_zero, List.getElem?_cons_succ]; rfl)
      case hs6 => kernel_rfl
      case hf6 => kernel_rfl
      case hr6 => kernel_rfl
      case hQ6 => exact fun _ _ _ h => h
      case hS6 => assumption
      case hy6 => exact Or.inr ⟨by kernel_rfl, rfl⟩
      (try simp only [Act.put, List.setIfInBounds_toArray, List.set_cons_zero, List.set_cons_succ])
      refine wpAnyH_take (i := 6) (oi := ?oi7) (v := undef) ?hi7 ?hs7 ?hf7 ?hr7 ?hQ7 ?hy7 ?hS7 ?_
      case hi7 => (simp only [List.getElem?_toArray, List.getElem?_cons_zero, List.getElem?_cons_succ]; rfl)
      case hs7 => kernel_rfl
      case hf7 => kernel_rfl
      case hr7 => kernel_rfl
      case hQ7 => exact fun _ _ _ h => h
      case hS7 => assumption
      case hy7 => exact Or.inr ⟨by kernel_rfl, rfl⟩
      (try simp only [Act.put, List.setIfInBounds_toArray, List.set_cons_zero, List.set_cons_succ])
      refine wpAnyH_take (i := 7) (oi := ?oi8) (v := undef) ?hi8 ?hs8 ?hf8 ?hr8 ?hQ8 ?hy8 ?hS8 ?_
      case hi8 => (simp only [List.getElem?_toArray, List.getElem?_cons_zero, List.getElem?_cons_succ]; rfl)
      case hs8 => kernel_rfl
      case hf8 => kernel_rfl
      case hr8 => kernel_rfl
      case hQ8 => exact fun _ _ _ h => h
      case hS8 => assumption
      case hy8 => exact Or.inr ⟨by kernel_rfl, rfl⟩
      (try simp only [Act.put, List.setIfInBounds_toArray, List.set_cons_zero, List.set_cons_succ])
      refine wpAnyH_take (i := 8) (oi := ?oi9) (v := undef) ?hi9 ?hs9 ?hf9 ?hr9 ?hQ9 ?hy9 ?hS9 ?_
      case hi9 => (simp only [List.getElem?_toArray, List.getElem?_cons_zero, List.getElem?_cons_succ]; rfl)
      case hs9 => kernel_rfl
      case hf9 => kernel_rfl
      case hr9 => kernel_rfl
      case hQ9 => exact fun _ _ _ h => h
      case hS9 => assumption
      case hy9 => exact Or.inr ⟨by kernel_rfl, rfl⟩
      (try simp only [Act.put, List.setIfInBounds_toArray, List.set_cons_zero, List.set_cons_succ])
      refine wpAnyH_take (i := 9) (oi := ?oi10) (v := undef) ?hi10 ?hs10 ?hf10 ?hr10 ?hQ10 ?hy10 ?hS10 ?_
      case hi10 => (simp only [List.getElem?_toArray, List.getElem?_cons_zero, List.getElem?_cons_succ]; rfl)
      case hs10 => kernel_rfl
      case hf10 => kernel_rfl
      case hr10 => kernel_rfl
      case hQ10 => exact fun _ _ _ h => h
      case hS10 => assumption
      case hy10 => exact Or.inr ⟨by kernel_rfl, rfl⟩
      (try simp only [Act.put, List.setIfInBounds_toArray, List.set_cons_zero, List.set_cons_succ])
      refine wpAnyH_take (i := 10) (oi := ?oi11) (v := undef) ?hi11 ?hs11 ?hf11 ?hr11 ?hQ11 ?hy11 ?hS11 ?_
      case hi11 => (simp only [List.getElem?_toArray, List.getElem?_cons_zero, List.getElem?_cons_succ]; rfl)
      case hs11 => kernel_rfl
      case hf11 => kernel_rfl
      case hr11 => kernel_rfl
      case hQ11 => exact fun _ _ _ h => h
      case hS11 => assumption
      case hy11 => exact Or.inr ⟨by kernel_rfl, rfl⟩
      (try simp only [Act.put, List.setIfInBounds_toArray, List.set_cons_zero, List.set_cons_succ])
      refine wpAnyH_take (i := 11) (oi := ?oi12) (v := ?v12) ?hi12 ?hs12 ?hf12 ?hr12 ?hQ12 ?hy12 ?hS12 ?_
      case hi12 => (simp only [List.getElem?_toArray, List.getElem?_cons_zero, List.getElem?_cons_succ]; rfl)
      case hs12 => kernel_rfl
      case hf12 => kernel_rfl
      case hr12 => kernel_rfl
      case hQ12 => exact fun _ _ _ h => h
      case hS12 => assumption
      case hy12 => (refine Or.inl ⟨by kernel_rfl, ?_⟩; intro w hSw; (try dsimp only at hSw); go_simp; (try with_reducible rfl))
      (try simp only [Act.put, List.setIfInBounds_toArray, List.set_cons_zero, List.set_cons_succ])
      refine wpAnyH_done (by kernel_rfl) ?_ _
      go_wp2
      go_ret
      exact ⟨rfl, by repeat (first | exact S3.out.bl | refine bl_drewN ?_ _ | refine bl_drew ?_)⟩
  go_enter Tryd.func15, Tryd.ntmps15
  go_wp2_with (first | (go_at_call 24; replace S0 := S0; refine (sym_Main m _).mono ?_; rintro e w1 ⟨rfl, hb1⟩; have S1 := Asd.mk (St.call (by (focus (with_reducible repeat (first | exact S0.out | apply St.drew | apply St.drewN)))) hb1); clear hb1 S0))
  replace S1 := Asd.mk (St.lay S1.out [.int .i64 (m 0), .int .i64 (m 3), .int .i64 (m 5)] 25)
  go_loopw [12] (fun v wr => ∃ k : Int, (k = 0 ∨ k = 1 ∨ k = 2 ∨ k = 3) ∧ v = .int .i64 k ∧ (1 ≤ k → f 0 ≤ m 0) ∧ (2 ≤ k → f 1 ≤ m 3) ∧ (3 ≤ k → f 2 ≤ m 5) ∧ Asd (St w wr [(w1.heap.size, [.int .i64 (m 0), .int .i64 (m 3), .int .i64 (m 5)]), (w.heap.size + 1, [.int .i64 (f 0), .int .i64 (f 1), .int .i64 (f 2)]), (w.heap.size, [.int .i64 (m 0), .int .i64 (m 1), .int .i64 (m 2), .int .i64 (m 3), .int .i64 (m 4), .int .i64 (m 5)])] [])) (fun v _ => 3 - (intOf v).toNat)
  case atStart => exact ⟨0, by decide, rfl, by omega, by omega, by omega, S1⟩
  case round =>
    obtain ⟨k, hk, rfl, g0, g1, g2, S2⟩ := hrel
    clear S1
    have G := Asd.mk (And.intro g0 (And.intro g1 g2))
    clear g0 g1 g2
    rcases hk with rfl | rfl | rfl | rfl
    · cases hb : decide (m 0 < f 0)
      rotate_left
      · have hz0 : z = false := by rw [← hz]; unfold soundB; rw [show decide (f 0 ≤ m 0) = false from by simp at hb ⊢; omega]; simp
        subst hz0
        go_wp2
        refine wp_region_held_drew (S := (fun w' => w'.cell? ⟨w.heap.size, 0, none⟩ = some (.int .i64 (m 0)) ∧ w'.cell? ⟨w.heap.size, 1, none⟩ = some (.int .i64 (m 1)) ∧ w'.cell? ⟨w.heap.size, 2, none⟩ = some (.int .i64 (m 2)) ∧ w'.cell? ⟨w.heap.size, 3, none⟩ = some (.int .i64 (m 3)) ∧ w'.cell? ⟨w.heap.size, 4, none⟩ = some (.int .i64 (m 4)) ∧ w'.cell? ⟨w.heap.size, 5, none⟩ = some (.int .i64 (m 5)) ∧ w'.cell? ⟨w1.heap.size, 0, none⟩ = some (.int .i64 (m 0)) ∧ w'.cell? ⟨w.heap.size + 1, 0, none⟩ = some (.int .i64 (f 0)))) (by kernel_rfl) ?_ (fun hHeld => ?_)
        · (try dsimp only); first | exact ⟨St.cell S2.out 2 0 rfl rfl, St.cell S2.out 2 1 rfl rfl, St.cell S2.out 2 2 rfl rfl, St.cell S2.out 2 3 rfl rfl, St.cell S2.out 2 4 rfl rfl, St.cell S2.out 2 5 rfl rfl, St.cell S2.out 0 0 rfl rfl, St.cell S2.out 1 0 rfl rfl⟩ | exact ⟨St.cell S3.out 2 0 rfl rfl, St.cell S3.out 2 1 rfl rfl, St.cell S3.out 2 2 rfl rfl, St.cell S3.out 2 3 rfl rfl, St.cell S3.out 2 4 rfl rfl, St.cell S3.out 2 5 rfl rfl, St.cell S3.out 0 0 rfl rfl, St.cell S3.out 1 0 rfl rfl⟩
        refine wpAnyH_take (i := 0) (oi := ?oi13) (v := ?v13) ?hi13 ?hs13 ?hf13 ?hr13 ?hQ13 ?hy13 ?hS13 ?_
        case hi13 => (simp only [List.getElem?_toArray, List.getElem?_cons_zero, List.getElem?_cons_succ]; rfl)
        case hs13 => kernel_rfl
        case hf13 => kernel_rfl
        case hr13 => kernel_rfl
        case hQ13 => exact fun _ _ _ h => h
        case hS13 => assumption
        case hy13 => (refine Or.inl ⟨by kernel_rfl, ?_⟩; intro w hSw; (try dsimp only at hSw); go_simp; (try with_reducible rfl))
        (try simp only [Act.put, List.setIfInBounds_toArray, List.set_cons_zero, List.set_cons_succ])
        refine wpAnyH_ready (rs := [1]) (by kernel_rfl) (by simp) ?_
        refine AllReadyH.cons (o := ?oi14) ?hi14 (fun K hK => ?_) AllReadyH.nil
        case hi14 => (simp only [List.getElem?_toArray, List.getElem?_cons_zero, List.getElem?_cons_succ]; rfl)
        go_simp
        (go_at_call 33; replace S2 := S2; refine (HF.out _).mono ?_; rintro e w3 ⟨rfl, hb3⟩; have S3 := Asd.mk (St.call (by (focus (with_reducible repeat (first | exact S2.out | apply St.drew | apply St.drewN)))) hb3); clear hb3 S2)
        (try dsimp only [])
        refine hK.out _ _ ?_ (fun hHeld => ?_)
        · (try dsimp only); first | exact ⟨St.cell S2.out 2 0 rfl rfl, St.cell S2.out 2 1 rfl rfl, St.cell S2.out 2 2 rfl rfl, St.cell S2.out 2 3 rfl rfl, St.cell S2.out 2 4 rfl rfl, St.cell S2.out 2 5 rfl rfl, St.cell S2.out 0 0 rfl rfl, St.cell S2.out 1 0 rfl rfl⟩ | exact ⟨St.cell S3.out 2 0 rfl rfl, St.cell S3.out 2 1 rfl rfl, St.cell S3.out 2 2 rfl rfl, St.cell S3.out 2 3 rfl rfl, St.cell S3.out 2 4 rfl rfl, St.cell S3.out 2 5 rfl rfl, St.cell S3.out 0 0 rfl rfl, St.cell S3.out 1 0 rfl rfl⟩
        clear hK K
        (try simp only [Act.put, List.setIfInBounds_toArray, List.set_cons_zero, List.set_cons_succ])
        refine wpAnyH_take (i := 2) (oi := ?oi15) (v := ?v15) ?hi15 ?hs15 ?hf15 ?hr15 ?hQ15 ?hy15 ?hS15 ?_
        case hi15 => (simp only [List.getElem?_toArray, List.getElem?_cons_zero, List.getElem?_cons_succ]; rfl)
        case hs15 => kernel_rfl
        case hf15 => kernel_rfl
        case hr15 => kernel_rfl
        case hQ15 => exact fun _ _ _ h => h
        case hS15 => assumption
        case hy15 => (refine Or.inl ⟨by kernel_rfl, ?_⟩; intro w hSw; (try dsimp only at hSw); go_simp; (try with_reducible rfl))
        (try simp only [Act.put, List.setIfInBounds_toArray, List.set_cons_zero, List.set_cons_succ])
        refine wpAnyH_take (i := 3) (oi := ?oi16) (v := ?v16) ?hi16 ?hs16 ?hf16 ?hr16 ?hQ16 ?hy16 ?hS16 ?_
        case hi16 => (simp only [List.getElem?_toArray, List.getElem?_cons_zero, List.getElem?_cons_succ]; rfl)
        case hs16 => kernel_rfl
        case hf16 => kernel_rfl
        case hr16 => kernel_rfl
        case hQ16 => exact fun _ _ _ h => h
        case hS16 => assumption
        case hy16 => (refine Or.inl ⟨by kernel_rfl, ?_⟩; intro w hSw; (try dsimp only at hSw); go_simp; (try with_reducible rfl))
        (try simp only [Act.put, List.setIfInBounds_toArray, List.set_cons_zero, List.set_cons_succ])
        refine wpAnyH_take (i := 4) (oi := ?oi17) (v := ?v17) ?hi17 ?hs17 ?hf17 ?hr17 ?hQ17 ?hy17 ?hS17 ?_
        case hi17 => (simp only [List.getElem?_toArray, List.getElem?_cons_zero, List.getElem?_cons_succ]; rfl)
        case hs17 => kernel_rfl
        case hf17 => kernel_rfl
        case hr17 => kernel_rfl
        case hQ17 => exact fun _ _ _ h => h
        case hS17 => assumption
        case hy17 => (refine Or.inl ⟨by kernel_rfl, ?_⟩; intro w hSw; (try dsimp only at hSw); go_simp; (try with_reducible rfl))
        (try simp only [Act.put, List.setIfInBounds_toArray, List.set_cons_zero, List.set_cons_succ])
        refine wpAnyH_take (i := 5) (oi := ?oi18) (v := ?v18) ?hi18 ?hs18 ?hf18 ?hr18 ?hQ18 ?hy18 ?hS18 ?_
        case hi18 => (simp only [List.getElem?_toArray, List.getElem?_cons_zero, List.getElem?_cons_succ]; rfl)
        case hs18 => kernel_rfl
        case hf18 => kernel_rfl
        case hr18 => kernel_rfl
        case hQ18 => exact fun _ _ _ h => h
        case hS18 => assumption
        case hy18 => (refine Or.inl ⟨by kernel_rfl, ?_⟩; intro w hSw; (try dsimp only at hSw); go_simp; (try with_reducible rfl))
        (try simp only [Act.put, List.setIfInBounds_toArray, List.set_cons_zero, List.set_cons_succ])
        refine wpAnyH_take (i := 6) (oi := ?oi19) (v := ?v19) ?hi19 ?hs19 ?hf19 ?hr19 ?hQ19 ?hy19 ?hS19 ?_
        case hi19 => (simp only [List.getElem?_toArray, List.getElem?_cons_zero, List.getElem?_cons_succ]; rfl)
        case hs19 => kernel_rfl
        case hf19 => kernel_rfl
        case hr19 => kernel_rfl
        case hQ19 => exact fun _ _ _ h => h
        case hS19 => assumption
        case hy19 => (refine Or.inl ⟨by kernel_rfl, ?_⟩; intro w hSw; (try dsimp only at hSw); go_simp; (try with_reducible rfl))
        (try simp only [Act.put, List.setIfInBounds_toArray, List.set_cons_zero, List.set_cons_succ])
        refine wpAnyH_take (i := 7) (oi := ?oi20) (v := ?v20) ?hi20 ?hs20 ?hf20 ?hr20 ?hQ20 ?hy20 ?hS20 ?_
        case hi20 => (simp only [List.getElem?_toArray, List.getElem?_cons_zero, List.getElem?_cons_succ]; rfl)
        case hs20 => kernel_rfl
        case hf20 => kernel_rfl
        case hr20 => kernel_rfl
        case hQ20 => exact fun _ _ _ h => h
        case hS20 => assumption
        case hy20 => (refine Or.inl ⟨by kernel_rfl, ?_⟩; intro w hSw; (try dsimp only at hSw); go_simp; (try with_reducible rfl))
        (try simp only [Act.put, List.setIfInBounds_toArray, List.set_cons_zero, List.set_cons_succ])
        refine wpAnyH_take (i := 8) (oi := ?oi21) (v := ?v21) ?hi21 ?hs21 ?hf21 ?hr21 ?hQ21 ?hy21 ?hS21 ?_
        case hi21 => (simp only [List.getElem?_toArray, List.getElem?_cons_zero, List.getElem?_cons_succ]; rfl)
        case hs21 => kernel_rfl
        case hf21 => kernel_rfl
        case hr21 => kernel_rfl
        case hQ21 => exact fun _ _ _ h => h
        case hS21 => assumption
        case hy21 => (refine Or.inl ⟨by kernel_rfl, ?_⟩; intro w hSw; (try dsimp only at hSw); go_simp; (try with_reducible rfl))
        (try simp only [Act.put, List.setIfInBounds_toArray, List.set_cons_zero, List.set_cons_succ])
        refine wpAnyH_take (i := 9) (oi := ?oi22) (v := ?v22) ?hi22 ?hs22 ?hf22 ?hr22 ?hQ22 ?hy22 ?hS22 ?_
        case hi22 => (simp only [List.getElem?_toArray, List.getElem?_cons_zero, List.getElem?_cons_succ]; rfl)
        case hs22 => kernel_rfl
        case hf22 => kernel_rfl
        case hr22 => kernel_rfl
        case hQ22 => exact fun _ _ _ h => h
        case hS22 => assumption
        case hy22 => (refine Or.inl ⟨by kernel_rfl, ?_⟩; intro w hSw; (try dsimp only at hSw); go_simp; (try with_reducible rfl))
        (try simp only [Act.put, List.setIfInBounds_toArray, List.set_cons_zero, List.set_cons_succ])
        refine wpAnyH_take (i := 10) (oi := ?oi23) (v := ?v23) ?hi23 ?hs23 ?hf23 ?hr23 ?hQ23 ?hy23 ?hS23 ?_
        case hi23 => (simp only [List.getElem?_toArray, List.getElem?_cons_zero, List.getElem?_cons_succ]; rfl)
        case hs23 => kernel_rfl
        case hf23 => kernel_rfl
        case hr23 => kernel_rfl
        case hQ23 => exact fun _ _ _ h => h
        case hS23 => assumption
        case hy23 => (refine Or.inl ⟨by kernel_rfl, ?_⟩; intro w hSw; (try dsimp only at hSw); go_simp; (try with_reducible rfl))
        (try simp only [Act.put, List.setIfInBounds_toArray, List.set_cons_zero, List.set_cons_succ])
        refine wpAnyH_take (i := 11) (oi := ?oi24) (v := ?v24) ?hi24 ?hs24 ?hf24 ?hr24 ?hQ24 ?hy24 ?hS24 ?_
        case hi24 => (simp only [List.getElem?_toArray, List.getElem?_cons_zero, List.getElem?_cons_succ]; rfl)
        case hs24 => kernel_rfl
        case hf24 => kernel_rfl
        case hr24 => kernel_rfl
        case hQ24 => exact fun _ _ _ h => h
        case hS24 => assumption
        case hy24 => (refine Or.inl ⟨by kernel_rfl, ?_⟩; intro w hSw; (try dsimp only at hSw); go_simp; (try with_reducible rfl))
        (try simp only [Act.put, List.setIfInBounds_toArray, List.set_cons_zero, List.set_cons_succ])
        refine wpAnyH_done (by kernel_rfl) ?_ _
        go_wp2
        go_ret
        exact ⟨rfl, by repeat (first | exact S3.out.bl | refine bl_drewN ?_ _ | refine bl_drew ?_)⟩
      · go_wp2
        refine wp_region_held_drew (S := (fun w' => w'.cell? ⟨w.heap.size, 0, none⟩ = some (.int .i64 (m 0)) ∧ w'.cell? ⟨w.heap.size, 1, none⟩ = some (.int .i64 (m 1)) ∧ w'.cell? ⟨w.heap.size, 2, none⟩ = some (.int .i64 (m 2)) ∧ w'.cell? ⟨w.heap.size, 3, none⟩ = some (.int .i64 (m 3)) ∧ w'.cell? ⟨w.heap.size, 4, none⟩ = some (.int .i64 (m 4)) ∧ w'.cell? ⟨w.heap.size, 5, none⟩ = some (.int .i64 (m 5)) ∧ w'.cell? ⟨w1.heap.size, 0, none⟩ = some (.int .i64 (m 0)) ∧ w'.cell? ⟨w.heap.size + 1, 0, none⟩ = some (.int .i64 (f 0)))) (by kernel_rfl) ?_ (fun hHeld => ?_)
        · (try dsimp only); first | exact ⟨St.cell S2.out 2 0 rfl rfl, St.cell S2.out 2 1 rfl rfl, St.cell S2.out 2 2 rfl rfl, St.cell S2.out 2 3 rfl rfl, St.cell S2.out 2 4 rfl rfl, St.cell S2.out 2 5 rfl rfl, St.cell S2.out 0 0 rfl rfl, St.cell S2.out 1 0 rfl rfl⟩ | exact ⟨St.cell S3.out 2 0 rfl rfl, St.cell S3.out 2 1 rfl rfl, St.cell S3.out 2 2 rfl rfl, St.cell S3.out 2 3 rfl rfl, St.cell S3.out 2 4 rfl rfl, St.cell S3.out 2 5 rfl rfl, St.cell S3.out 0 0 rfl rfl, St.cell S3.out 1 0 rfl rfl⟩
        refine wpAnyH_take (i := 0) (oi := ?oi25) (v := ?v25) ?hi25 ?hs25 ?hf25 ?hr25 ?hQ25 ?hy25 ?hS25 ?_
        case hi25 => (simp only [List.getElem?_toArray, List.getElem?_cons_zero, List.getElem?_cons_succ]; rfl)
        case hs25 => kernel_rfl
        case hf25 => kernel_rfl
        case hr25 => kernel_rfl
        case hQ25 => exact fun _ _ _ h => h
        case hS25 => assumption
        case hy25 => (refine Or.inl ⟨by kernel_rfl, ?_⟩; intro w hSw; (try dsimp only at hSw); go_simp; (try with_reducible rfl))
        (try simp only [Act.put, List.setIfInBounds_toArray, List.set_cons_zero, List.set_cons_succ])
        refine wpAnyH_ready (rs := [1]) (by kernel_rfl) (by simp) ?_
        refine AllReadyH.cons (o := ?oi26) ?hi26 (fun K hK => ?_) AllReadyH.nil
        case hi26 => (simp only [List.getElem?_toArray, List.getElem?_cons_zero, List.getElem?_cons_succ]; rfl)
        go_simp
        (go_at_call 33; replace S2 := S2; refine (HF.out _).mono ?_; rintro e w3 ⟨rfl, hb3⟩; have S3 := Asd.mk (St.call (by (focus (with_reducible repeat (first | exact S2.out | apply St.drew | apply St.drewN)))) hb3); clear hb3 S2)
        (try dsimp only [])
        refine hK.out _ _ ?_ (fun hHeld => ?_)
        · (try dsimp only); first | exact ⟨St.cell S2.out 2 0 rfl rfl, St.cell S2.out 2 1 rfl rfl, St.cell S2.out 2 2 rfl rfl, St.cell S2.out 2 3 rfl rfl, St.cell S2.out 2 4 rfl rfl, St.cell S2.out 2 5 rfl rfl, St.cell S2.out 0 0 rfl rfl, St.cell S2.out 1 0 rfl rfl⟩ | exact ⟨St.cell S3.out 2 0 rfl rfl, St.cell S3.out 2 1 rfl rfl, St.cell S3.out 2 2 rfl rfl, St.cell S3.out 2 3 rfl rfl, St.cell S3.out 2 4 rfl rfl, St.cell S3.out 2 5 rfl rfl, St.cell S3.out 0 0 rfl rfl, St.cell S3.out 1 0 rfl rfl⟩
        clear hK K
        (try simp only [Act.put, List.setIfInBounds_toArray, List.set_cons_zero, List.set_cons_succ])
        refine wpAnyH_take (i := 2) (oi := ?oi27) (v := ?v27) ?hi27 ?hs27 ?hf27 ?hr27 ?hQ27 ?hy27 ?hS27 ?_
        case hi27 => (simp only [List.getElem?_toArray, List.getElem?_cons_zero, List.getElem?_cons_succ]; rfl)
        case hs27 => kernel_rfl
        case hf27 => kernel_rfl
        case hr27 => kernel_rfl
        case hQ27 => exact fun _ _ _ h => h
        case hS27 => assumption
        case hy27 => (refine Or.inl ⟨by kernel_rfl, ?_⟩; intro w hSw; (try dsimp only at hSw); go_simp; (try with_reducible rfl))
        (try simp only [Act.put, List.setIfInBounds_toArray, List.set_cons_zero, List.set_cons_succ])
        refine wpAnyH_take (i := 3) (oi := ?oi28) (v := ?v28) ?hi28 ?hs28 ?hf28 ?hr28 ?hQ28 ?hy28 ?hS28 ?_
        case hi28 => (simp only [List.getElem?_toArray, List.getElem?_cons_zero, List.getElem?_cons_succ]; rfl)
        case hs28 => kernel_rfl
        case hf28 => kernel_rfl
        case hr28 => kernel_rfl
        case hQ28 => exact fun _ _ _ h => h
        case hS28 => assumption
        case hy28 => (refine Or.inl ⟨by kernel_rfl, ?_⟩; intro w hSw; (try dsimp only at hSw); go_simp; (try with_reducible rfl))
        (try simp only [Act.put, List.setIfInBounds_toArray, List.set_cons_zero, List.set_cons_succ])
        refine wpAnyH_take (i := 4) (oi := ?oi29) (v := ?v29) ?hi29 ?hs29 ?hf29 ?hr29 ?hQ29 ?hy29 ?hS29 ?_
        case hi29 => (simp only [List.getElem?_toArray, List.getElem?_cons_zero, List.getElem?_cons_succ]; rfl)
        case hs29 => kernel_rfl
        case hf29 => kernel_rfl
        case hr29 => kernel_rfl
        case hQ29 => exact fun _ _ _ h => h
        case hS29 => assumption
        case hy29 => (refine Or.inl ⟨by kernel_rfl, ?_⟩; intro w hSw; (try dsimp only at hSw); go_simp; (try with_reducible rfl))
        (try simp only [Act.put, List.setIfInBounds_toArray, List.set_cons_zero, List.set_cons_succ])
        refine wpAnyH_take (i := 5) (oi := ?oi30) (v := ?v30) ?hi30 ?hs30 ?hf30 ?hr30 ?hQ30 ?hy30 ?hS30 ?_
        case hi30 => (simp only [List.getElem?_toArray, List.getElem?_cons_zero, List.getElem?_cons_succ]; rfl)
        case hs30 => kernel_rfl
        case hf30 => kernel_rfl
        case hr30 => kernel_rfl
        case hQ30 => exact fun _ _ _ h => h
        case hS30 => assumption
        case hy30 => (refine Or.inl ⟨by kernel_rfl, ?_⟩; intro w hSw; (try dsimp only at hSw); go_simp; (try with_reducible rfl))
        (try simp only [Act.put, List.setIfInBounds_toArray, List.set_cons_zero, List.set_cons_succ])
        refine wpAnyH_take (i := 6) (oi := ?oi31) (v := ?v31) ?hi31 ?hs31 ?hf31 ?hr31 ?hQ31 ?hy31 ?hS31 ?_
        case hi31 => (simp only [List.getElem?_toArray, List.getElem?_cons_zero, List.getElem?_cons_succ]; rfl)
        case hs31 => kernel_rfl
        case hf31 => kernel_rfl
        case hr31 => kernel_rfl
        case hQ31 => exact fun _ _ _ h => h
        case hS31 => assumption
        case hy31 => (refine Or.inl ⟨by kernel_rfl, ?_⟩; intro w hSw; (try dsimp only at hSw); go_simp; (try with_reducible rfl))
        (try simp only [Act.put, List.setIfInBounds_toArray, List.set_cons_zero, List.set_cons_succ])
        refine wpAnyH_take (i := 7) (oi := ?oi32) (v := ?v32) ?hi32 ?hs32 ?hf32 ?hr32 ?hQ32 ?hy32 ?hS32 ?_
        case hi32 => (simp only [List.getElem?_toArray, List.getElem?_cons_zero, List.getElem?_cons_succ]; rfl)
        case hs32 => kernel_rfl
        case hf32 => kernel_rfl
        case hr32 => kernel_rfl
        case hQ32 => exact fun _ _ _ h => h
        case hS32 => assumption
        case hy32 => (refine Or.inl ⟨by kernel_rfl, ?_⟩; intro w hSw; (try dsimp only at hSw); go_simp; (try with_reducible rfl))
        (try simp only [Act.put, List.setIfInBounds_toArray, List.set_cons_zero, List.set_cons_succ])
        refine wpAnyH_take (i := 8) (oi := ?oi33) (v := ?v33) ?hi33 ?hs33 ?hf33 ?hr33 ?hQ33 ?hy33 ?hS33 ?_
        case hi33 => (simp only [List.getElem?_toArray, List.getElem?_cons_zero, List.getElem?_cons_succ]; rfl)
        case hs33 => kernel_rfl
        case hf33 => kernel_rfl
        case hr33 => kernel_rfl
        case hQ33 => exact fun _ _ _ h => h
        case hS33 => assumption
        case hy33 => (refine Or.inl ⟨by kernel_rfl, ?_⟩; intro w hSw; (try dsimp only at hSw); go_simp; (try with_reducible rfl))
        (try simp only [Act.put, List.setIfInBounds_toArray, List.set_cons_zero, List.set_cons_succ])
        refine wpAnyH_take (i := 9) (oi := ?oi34) (v := ?v34) ?hi34 ?hs34 ?hf34 ?hr34 ?hQ34 ?hy34 ?hS34 ?_
        case hi34 => (simp only [List.getElem?_toArray, List.getElem?_cons_zero, List.getElem?_cons_succ]; rfl)
        case hs34 => kernel_rfl
        case hf34 => kernel_rfl
        case hr34 => kernel_rfl
        case hQ34 => exact fun _ _ _ h => h
        case hS34 => assumption
        case hy34 => (refine Or.inl ⟨by kernel_rfl, ?_⟩; intro w hSw; (try dsimp only at hSw); go_simp; (try with_reducible rfl))
        (try simp only [Act.put, List.setIfInBounds_toArray, List.set_cons_zero, List.set_cons_succ])
        refine wpAnyH_take (i := 10) (oi := ?oi35) (v := ?v35) ?hi35 ?hs35 ?hf35 ?hr35 ?hQ35 ?hy35 ?hS35 ?_
        case hi35 => (simp only [List.getElem?_toArray, List.getElem?_cons_zero, List.getElem?_cons_succ]; rfl)
        case hs35 => kernel_rfl
        case hf35 => kernel_rfl
        case hr35 => kernel_rfl
        case hQ35 => exact fun _ _ _ h => h
        case hS35 => assumption
        case hy35 => (refine Or.inl ⟨by kernel_rfl, ?_⟩; intro w hSw; (try dsimp only at hSw); go_simp; (try with_reducible rfl))
        (try simp only [Act.put, List.setIfInBounds_toArray, List.set_cons_zero, List.set_cons_succ])
        refine wpAnyH_take (i := 11) (oi := ?oi36) (v := ?v36) ?hi36 ?hs36 ?hf36 ?hr36 ?hQ36 ?hy36 ?hS36 ?_
        case hi36 => (simp only [List.getElem?_toArray, List.getElem?_cons_zero, List.getElem?_cons_succ]; rfl)
        case hs36 => kernel_rfl
        case hf36 => kernel_rfl
        case hr36 => kernel_rfl
        case hQ36 => exact fun _ _ _ h => h
        case hS36 => assumption
        case hy36 => (refine Or.inl ⟨by kernel_rfl, ?_⟩; intro w hSw; (try dsimp only at hSw); go_simp; (try with_reducible rfl))
        (try simp only [Act.put, List.setIfInBounds_toArray, List.set_cons_zero, List.set_cons_succ])
        refine wpAnyH_done (by kernel_rfl) ?_ _
        go_wp2
        go_roundw
        case rel => exact ⟨1, by decide, rfl, (fun _ => by simp at hb; omega), (fun h => by omega), (fun h => by omega), ⟨by repeat (first | exact S3.out | refine St.drewN ?_ _ | refine St.drew ?_)⟩⟩
        case measure => simp [intOf]
    · cases hb : decide (m 3 < f 1)
      rotate_left
      · have hz0 : z = false := by rw [← hz]; unfold soundB; rw [show decide (f 1 ≤ m 3) = false from by simp at hb ⊢; omega]; simp
        subst hz0
        go_wp2
        refine wp_region_held_drew (S := (fun w' => w'.cell? ⟨w.heap.size, 0, none⟩ = some (.int .i64 (m 0)) ∧ w'.cell? ⟨w.heap.size, 1, none⟩ = some (.int .i64 (m 1)) ∧ w'.cell? ⟨w.heap.size, 2, none⟩ = some (.int .i64 (m 2)) ∧ w'.cell? ⟨w.heap.size, 3, none⟩ = some (.int .i64 (m 3)) ∧ w'.cell? ⟨w.heap.size, 4, none⟩ = some (.int .i64 (m 4)) ∧ w'.cell? ⟨w.heap.size, 5, none⟩ = some (.int .i64 (m 5)) ∧ w'.cell? ⟨w1.heap.size, 1, none⟩ = some (.int .i64 (m 3)) ∧ w'.cell? ⟨w.heap.size + 1, 1, none⟩ = some (.int .i64 (f 1)))) (by kernel_rfl) ?_ (fun hHeld => ?_)
        · (try dsimp only); first | exact ⟨St.cell S2.out 2 0 rfl rfl, St.cell S2.out 2 1 rfl rfl, St.cell S2.out 2 2 rfl rfl, St.cell S2.out 2 3 rfl rfl, St.cell S2.out 2 4 rfl rfl, St.cell S2.out 2 5 rfl rfl, St.cell S2.out 0 1 rfl rfl, St.cell S2.out 1 1 rfl rfl⟩ | exact ⟨St.cell S3.out 2 0 rfl rfl, St.cell S3.out 2 1 rfl rfl, St.cell S3.out 2 2 rfl rfl, St.cell S3.out 2 3 rfl rfl, St.cell S3.out 2 4 rfl rfl, St.cell S3.out 2 5 rfl rfl, St.cell S3.out 0 1 rfl rfl, St.cell S3.out 1 1 rfl rfl⟩
        refine wpAnyH_take (i := 0) (oi := ?oi37) (v := ?v37) ?hi37 ?hs37 ?hf37 ?hr37 ?hQ37 ?hy37 ?hS37 ?_
        case hi37 => (simp only [List.getElem?_toArray, List.getElem?_cons_zero, List.getElem?_cons_succ]; rfl)
        case hs37 => kernel_rfl
        case hf37 => kernel_rfl
        case hr37 => kernel_rfl
        case hQ37 => exact fun _ _ _ h => h
        case hS37 => assumption
        case hy37 => (refine Or.inl ⟨by kernel_rfl, ?_⟩; intro w hSw; (try dsimp only at hSw); go_simp; (try with_reducible rfl))
        (try simp only [Act.put, List.setIfInBounds_toArray, List.set_cons_zero, List.set_cons_succ])
        refine wpAnyH_ready (rs := [1]) (by kernel_rfl) (by simp) ?_
        refine AllReadyH.cons (o := ?oi38) ?hi38 (fun K hK => ?_) AllReadyH.nil
        case hi38 => (simp only [List.getElem?_toArray, List.getElem?_cons_zero, List.getElem?_cons_succ]; rfl)
        go_simp
        (go_at_call 33; replace S2 := S2; refine (HF.out _).mono ?_; rintro e w3 ⟨rfl, hb3⟩; have S3 := Asd.mk (St.call (by (focus (with_reducible repeat (first | exact S2.out | apply St.drew | apply St.drewN)))) hb3); clear hb3 S2)
        (try dsimp only [])
        refine hK.out _ _ ?_ (fun hHeld => ?_)
        · (try dsimp only); first | exact ⟨St.cell S2.out 2 0 rfl rfl, St.cell S2.out 2 1 rfl rfl, St.cell S2.out 2 2 rfl rfl, St.cell S2.out 2 3 rfl rfl, St.cell S2.out 2 4 rfl rfl, St.cell S2.out 2 5 rfl rfl, St.cell S2.out 0 1 rfl rfl, St.cell S2.out 1 1 rfl rfl⟩ | exact ⟨St.cell S3.out 2 0 rfl rfl, St.cell S3.out 2 1 rfl rfl, St.cell S3.out 2 2 rfl rfl, St.cell S3.out 2 3 rfl rfl, St.cell S3.out 2 4 rfl rfl, St.cell S3.out 2 5 rfl rfl, St.cell S3.out 0 1 rfl rfl, St.cell S3.out 1 1 rfl rfl⟩
        clear hK K
        (try simp only [Act.put, List.setIfInBounds_toArray, List.set_cons_zero, List.set_cons_succ])
        refine wpAnyH_take (i := 2) (oi := ?oi39) (v := ?v39) ?hi39 ?hs39 ?hf39 ?hr39 ?hQ39 ?hy39 ?hS39 ?_
        case hi39 => (simp only [List.getElem?_toArray, List.getElem?_cons_zero, List.getElem?_cons_succ]; rfl)
        case hs39 => kernel_rfl
        case hf39 => kernel_rfl
        case hr39 => kernel_rfl
        case hQ39 => exact fun _ _ _ h => h
        case hS39 => assumption
        case hy39 => (refine Or.inl ⟨by kernel_rfl, ?_⟩; intro w hSw; (try dsimp only at hSw); go_simp; (try with_reducible rfl))
        (try simp only [Act.put, List.setIfInBounds_toArray, List.set_cons_zero, List.set_cons_succ])
        refine wpAnyH_take (i := 3) (oi := ?oi40) (v := ?v40) ?hi40 ?hs40 ?hf40 ?hr40 ?hQ40 ?hy40 ?hS40 ?_
        case hi40 => (simp only [List.getElem?_toArray, List.getElem?_cons_zero, List.getElem?_cons_succ]; rfl)
        case hs40 => kernel_rfl
        case hf40 => kernel_rfl
        case hr40 => kernel_rfl
        case hQ40 => exact fun _ _ _ h => h
        case hS40 => assumption
        case hy40 => (refine Or.inl ⟨by kernel_rfl, ?_⟩; intro w hSw; (try dsimp only at hSw); go_simp; (try with_reducible rfl))
        (try simp only [Act.put, List.setIfInBounds_toArray, List.set_cons_zero, List.set_cons_succ])
        refine wpAnyH_take (i := 4) (oi := ?oi41) (v := ?v41) ?hi41 ?hs41 ?hf41 ?hr41 ?hQ41 ?hy41 ?hS41 ?_
        case hi41 => (simp only [List.getElem?_toArray, List.getElem?_cons_zero, List.getElem?_cons_succ]; rfl)
        case hs41 => kernel_rfl
        case hf41 => kernel_rfl
        case hr41 => kernel_rfl
        case hQ41 => exact fun _ _ _ h => h
        case hS41 => assumption
        case hy41 => (refine Or.inl ⟨by kernel_rfl, ?_⟩; intro w hSw; (try dsimp only at hSw); go_simp; (try with_reducible rfl))
        (try simp only [Act.put, List.setIfInBounds_toArray, List.set_cons_zero, List.set_cons_succ])
        refine wpAnyH_take (i := 5) (oi := ?oi42) (v := ?v42) ?hi42 ?hs42 ?hf42 ?hr42 ?hQ42 ?hy42 ?hS42 ?_
        case hi42 => (simp only [List.getElem?_toArray, List.getElem?_cons_zero, List.getElem?_cons_succ]; rfl)
        case hs42 => kernel_rfl
        case hf42 => kernel_rfl
        case hr42 => kernel_rfl
        case hQ42 => exact fun _ _ _ h => h
        case hS42 => assumption
        case hy42 => (refine Or.inl ⟨by kernel_rfl, ?_⟩; intro w hSw; (try dsimp only at hSw); go_simp; (try with_reducible rfl))
        (try simp only [Act.put, List.setIfInBounds_toArray, List.set_cons_zero, List.set_cons_succ])
        refine wpAnyH_take (i := 6) (oi := ?oi43) (v := ?v43) ?hi43 ?hs43 ?hf43 ?hr43 ?hQ43 ?hy43 ?hS43 ?_
        case hi43 => (simp only [List.getElem?_toArray, List.getElem?_cons_zero, List.getElem?_cons_succ]; rfl)
        case hs43 => kernel_rfl
        case hf43 => kernel_rfl
        case hr43 => kernel_rfl
        case hQ43 => exact fun _ _ _ h => h
        case hS43 => assumption
        case hy43 => (refine Or.inl ⟨by kernel_rfl, ?_⟩; intro w hSw; (try dsimp only at hSw); go_simp; (try with_reducible rfl))
        (try simp only [Act.put, List.setIfInBounds_toArray, List.set_cons_zero, List.set_cons_succ])
        refine wpAnyH_take (i := 7) (oi := ?oi44) (v := ?v44) ?hi44 ?hs44 ?hf44 ?hr44 ?hQ44 ?hy44 ?hS44 ?_
        case hi44 => (simp only [List.getElem?_toArray, List.getElem?_cons_zero, List.getElem?_cons_succ]; rfl)
        case hs44 => kernel_rfl
        case hf44 => kernel_rfl
        case hr44 => kernel_rfl
        case hQ44 => exact fun _ _ _ h => h
        case hS44 => assumption
        case hy44 => (refine Or.inl ⟨by kernel_rfl, ?_⟩; intro w hSw; (try dsimp only at hSw); go_simp; (try with_reducible rfl))
        (try simp only [Act.put, List.setIfInBounds_toArray, List.set_cons_zero, List.set_cons_succ])
        refine wpAnyH_take (i := 8) (oi := ?oi45) (v := ?v45) ?hi45 ?hs45 ?hf45 ?hr45 ?hQ45 ?hy45 ?hS45 ?_
        case hi45 => (simp only [List.getElem?_toArray, List.getElem?_cons_zero, List.getElem?_cons_succ]; rfl)
        case hs45 => kernel_rfl
        case hf45 => kernel_rfl
        case hr45 => kernel_rfl
        case hQ45 => exact fun _ _ _ h => h
        case hS45 => assumption
        case hy45 => (refine Or.inl ⟨by kernel_rfl, ?_⟩; intro w hSw; (try dsimp only at hSw); go_simp; (try with_reducible rfl))
        (try simp only [Act.put, List.setIfInBounds_toArray, List.set_cons_zero, List.set_cons_succ])
        refine wpAnyH_take (i := 9) (oi := ?oi46) (v := ?v46) ?hi46 ?hs46 ?hf46 ?hr46 ?hQ46 ?hy46 ?hS46 ?_
        case hi46 => (simp only [List.getElem?_toArray, List.getElem?_cons_zero, List.getElem?_cons_succ]; rfl)
        case hs46 => kernel_rfl
        case hf46 => kernel_rfl
        case hr46 => kernel_rfl
        case hQ46 => exact fun _ _ _ h => h
        case hS46 => assumption
        case hy46 => (refine Or.inl ⟨by kernel_rfl, ?_⟩; intro w hSw; (try dsimp only at hSw); go_simp; (try with_reducible rfl))
        (try simp only [Act.put, List.setIfInBounds_toArray, List.set_cons_zero, List.set_cons_succ])
        refine wpAnyH_take (i := 10) (oi := ?oi47) (v := ?v47) ?hi47 ?hs47 ?hf47 ?hr47 ?hQ47 ?hy47 ?hS47 ?_
        case hi47 => (simp only [List.getElem?_toArray, List.getElem?_cons_zero, List.getElem?_cons_succ]; rfl)
        case hs47 => kernel_rfl
        case hf47 => kernel_rfl
        case hr47 => kernel_rfl
        case hQ47 => exact fun _ _ _ h => h
        case hS47 => assumption
        case hy47 => (refine Or.inl ⟨by kernel_rfl, ?_⟩; intro w hSw; (try dsimp only at hSw); go_simp; (try with_reducible rfl))
        (try simp only [Act.put, List.setIfInBounds_toArray, List.set_cons_zero, List.set_cons_succ])
        refine wpAnyH_take (i := 11) (oi := ?oi48) (v := ?v48) ?hi48 ?hs48 ?hf48 ?hr48 ?hQ48 ?hy48 ?hS48 ?_
        case hi48 => (simp only [List.getElem?_toArray, List.getElem?_cons_zero, List.getElem?_cons_succ]; rfl)
        case hs48 => kernel_rfl
        case hf48 => kernel_rfl
        case hr48 => kernel_rfl
        case hQ48 => exact fun _ _ _ h => h
        case hS48 => assumption
        case hy48 => (refine Or.inl ⟨by kernel_rfl, ?_⟩; intro w hSw; (try dsimp only at hSw); go_simp; (try with_reducible rfl))
        (try simp only [Act.put, List.setIfInBounds_toArray, List.set_cons_zero, List.set_cons_succ])
        refine wpAnyH_done (by kernel_rfl) ?_ _
        go_wp2
        go_ret
        exact ⟨rfl, by repeat (first | exact S3.out.bl | refine bl_drewN ?_ _ | refine bl_drew ?_)⟩
      · go_wp2
        refine wp_region_held_drew (S := (fun w' => w'.cell? ⟨w.heap.size, 0, none⟩ = some (.int .i64 (m 0)) ∧ w'.cell? ⟨w.heap.size, 1, none⟩ = some (.int .i64 (m 1)) ∧ w'.cell? ⟨w.heap.size, 2, none⟩ = some (.int .i64 (m 2)) ∧ w'.cell? ⟨w.heap.size, 3, none⟩ = some (.int .i64 (m 3)) ∧ w'.cell? ⟨w.heap.size, 4, none⟩ = some (.int .i64 (m 4)) ∧ w'.cell? ⟨w.heap.size, 5, none⟩ = some (.int .i64 (m 5)) ∧ w'.cell? ⟨w1.heap.size, 1, none⟩ = some (.int .i64 (m 3)) ∧ w'.cell? ⟨w.heap.size + 1, 1, none⟩ = some (.int .i64 (f 1)))) (by kernel_rfl) ?_ (fun hHeld => ?_)
        · (try dsimp only); first | exact ⟨St.cell S2.out 2 0 rfl rfl, St.cell S2.out 2 1 rfl rfl, St.cell S2.out 2 2 rfl rfl, St.cell S2.out 2 3 rfl rfl, St.cell S2.out 2 4 rfl rfl, St.cell S2.out 2 5 rfl rfl, St.cell S2.out 0 1 rfl rfl, St.cell S2.out 1 1 rfl rfl⟩ | exact ⟨St.cell S3.out 2 0 rfl rfl, St.cell S3.out 2 1 rfl rfl, St.cell S3.out 2 2 rfl rfl, St.cell S3.out 2 3 rfl rfl, St.cell S3.out 2 4 rfl rfl, St.cell S3.out 2 5 rfl rfl, St.cell S3.out 0 1 rfl rfl, St.cell S3.out 1 1 rfl rfl⟩
        refine wpAnyH_take (i := 0) (oi := ?oi49) (v := ?v49) ?hi49 ?hs49 ?hf49 ?hr49 ?hQ49 ?hy49 ?hS49 ?_
        case hi49 => (simp only [List.getElem?_toArray, List.getElem?_cons_zero, List.getElem?_cons_succ]; rfl)
        case hs49 => kernel_rfl
        case hf49 => kernel_rfl
        case hr49 => kernel_rfl
        case hQ49 => exact fun _ _ _ h => h
        case hS49 => assumption
        case hy49 => (refine Or.inl ⟨by kernel_rfl, ?_⟩; intro w hSw; (try dsimp only at hSw); go_simp; (try with_reducible rfl))
        (try simp only [Act.put, List.setIfInBounds_toArray, List.set_cons_zero, List.set_cons_succ])
        refine wpAnyH_ready (rs := [1]) (by kernel_rfl) (by simp) ?_
        refine AllReadyH.cons (o := ?oi50) ?hi50 (fun K hK => ?_) AllReadyH.nil
        case hi50 => (simp only [List.getElem?_toArray, List.getElem?_cons_zero, List.getElem?_cons_succ]; rfl)
        go_simp
        (go_at_call 33; replace S2 := S2; refine (HF.out _).mono ?_; rintro e w3 ⟨rfl, hb3⟩; have S3 := Asd.mk (St.call (by (focus (with_reducible repeat (first | exact S2.out | apply St.drew | apply St.drewN)))) hb3); clear hb3 S2)
        (try dsimp only [])
        refine hK.out _ _ ?_ (fun hHeld => ?_)
        · (try dsimp only); first | exact ⟨St.cell S2.out 2 0 rfl rfl, St.cell S2.out 2 1 rfl rfl, St.cell S2.out 2 2 rfl rfl, St.cell S2.out 2 3 rfl rfl, St.cell S2.out 2 4 rfl rfl, St.cell S2.out 2 5 rfl rfl, St.cell S2.out 0 1 rfl rfl, St.cell S2.out 1 1 rfl rfl⟩ | exact ⟨St.cell S3.out 2 0 rfl rfl, St.cell S3.out 2 1 rfl rfl, St.cell S3.out 2 2 rfl rfl, St.cell S3.out 2 3 rfl rfl, St.cell S3.out 2 4 rfl rfl, St.cell S3.out 2 5 rfl rfl, St.cell S3.out 0 1 rfl rfl, St.cell S3.out 1 1 rfl rfl⟩
        clear hK K
        (try simp only [Act.put, List.setIfInBounds_toArray, List.set_cons_zero, List.set_cons_succ])
        refine wpAnyH_take (i := 2) (oi := ?oi51) (v := ?v51) ?hi51 ?hs51 ?hf51 ?hr51 ?hQ51 ?hy51 ?hS51 ?_
        case hi51 => (simp only [List.getElem?_toArray, List.getElem?_cons_zero, List.getElem?_cons_succ]; rfl)
        case hs51 => kernel_rfl
        case hf51 => kernel_rfl
        case hr51 => kernel_rfl
        case hQ51 => exact fun _ _ _ h => h
        case hS51 => assumption
        case hy51 => (refine Or.inl ⟨by kernel_rfl, ?_⟩; intro w hSw; (try dsimp only at hSw); go_simp; (try with_reducible rfl))
        (try simp only [Act.put, List.setIfInBounds_toArray, List.set_cons_zero, List.set_cons_succ])
        refine wpAnyH_take (i := 3) (oi := ?oi52) (v := ?v52) ?hi52 ?hs52 ?hf52 ?hr52 ?hQ52 ?hy52 ?hS52 ?_
        case hi52 => (simp only [List.getElem?_toArray, List.getElem?_cons_zero, List.getElem?_cons_succ]; rfl)
        case hs52 => kernel_rfl
        case hf52 => kernel_rfl
        case hr52 => kernel_rfl
        case hQ52 => exact fun _ _ _ h => h
        case hS52 => assumption
        case hy52 => (refine Or.inl ⟨by kernel_rfl, ?_⟩; intro w hSw; (try dsimp only at hSw); go_simp; (try with_reducible rfl))
        (try simp only [Act.put, List.setIfInBounds_toArray, List.set_cons_zero, List.set_cons_succ])
        refine wpAnyH_take (i := 4) (oi := ?oi53) (v := ?v53) ?hi53 ?hs53 ?hf53 ?hr53 ?hQ53 ?hy53 ?hS53 ?_
        case hi53 => (simp only [List.getElem?_toArray, List.getElem?_cons_zero, List.getElem?_cons_succ]; rfl)
        case hs53 => kernel_rfl
        case hf53 => kernel_rfl
        case hr53 => kernel_rfl
        case hQ53 => exact fun _ _ _ h => h
        case hS53 => assumption
        case hy53 => (refine Or.inl ⟨by kernel_rfl, ?_⟩; intro w hSw; (try dsimp only at hSw); go_simp; (try with_reducible rfl))
        (try simp only [Act.put, List.setIfInBounds_toArray, List.set_cons_zero, List.set_cons_succ])
        refine wpAnyH_take (i := 5) (oi := ?oi54) (v := ?v54) ?hi54 ?hs54 ?hf54 ?hr54 ?hQ54 ?hy54 ?hS54 ?_
        case hi54 => (simp only [List.getElem?_toArray, List.getElem?_cons_zero, List.getElem?_cons_succ]; rfl)
        case hs54 => kernel_rfl
        case hf54 => kernel_rfl
        case hr54 => kernel_rfl
        case hQ54 => exact fun _ _ _ h => h
        case hS54 => assumption
        case hy54 => (refine Or.inl ⟨by kernel_rfl, ?_⟩; intro w hSw; (try dsimp only at hSw); go_simp; (try with_reducible rfl))
        (try simp only [Act.put, List.setIfInBounds_toArray, List.set_cons_zero, List.set_cons_succ])
        refine wpAnyH_take (i := 6) (oi := ?oi55) (v := ?v55) ?hi55 ?hs55 ?hf55 ?hr55 ?hQ55 ?hy55 ?hS55 ?_
        case hi55 => (simp only [List.getElem?_toArray, List.getElem?_cons_zero, List.getElem?_cons_succ]; rfl)
        case hs55 => kernel_rfl
        case hf55 => kernel_rfl
        case hr55 => kernel_rfl
        case hQ55 => exact fun _ _ _ h => h
        case hS55 => assumption
        case hy55 => (refine Or.inl ⟨by kernel_rfl, ?_⟩; intro w hSw; (try dsimp only at hSw); go_simp; (try with_reducible rfl))
        (try simp only [Act.put, List.setIfInBounds_toArray, List.set_cons_zero, List.set_cons_succ])
        refine wpAnyH_take (i := 7) (oi := ?oi56) (v := ?v56) ?hi56 ?hs56 ?hf56 ?hr56 ?hQ56 ?hy56 ?hS56 ?_
        case hi56 => (simp only [List.getElem?_toArray, List.getElem?_cons_zero, List.getElem?_cons_succ]; rfl)
        case hs56 => kernel_rfl
        case hf56 => kernel_rfl
        case hr56 => kernel_rfl
        case hQ56 => exact fun _ _ _ h => h
        case hS56 => assumption
        case hy56 => (refine Or.inl ⟨by kernel_rfl, ?_⟩; intro w hSw; (try dsimp only at hSw); go_simp; (try with_reducible rfl))
        (try simp only [Act.put, List.setIfInBounds_toArray, List.set_cons_zero, List.set_cons_succ])
        refine wpAnyH_take (i := 8) (oi := ?oi57) (v := ?v57) ?hi57 ?hs57 ?hf57 ?hr57 ?hQ57 ?hy57 ?hS57 ?_
        case hi57 => (simp only [List.getElem?_toArray, List.getElem?_cons_zero, List.getElem?_cons_succ]; rfl)
        case hs57 => kernel_rfl
        case hf57 => kernel_rfl
        case hr57 => kernel_rfl
        case hQ57 => exact fun _ _ _ h => h
        case hS57 => assumption
        case hy57 => (refine Or.inl ⟨by kernel_rfl, ?_⟩; intro w hSw; (try dsimp only at hSw); go_simp; (try with_reducible rfl))
        (try simp only [Act.put, List.setIfInBounds_toArray, List.set_cons_zero, List.set_cons_succ])
        refine wpAnyH_take (i := 9) (oi := ?oi58) (v := ?v58) ?hi58 ?hs58 ?hf58 ?hr58 ?hQ58 ?hy58 ?hS58 ?_
        case hi58 => (simp only [List.getElem?_toArray, List.getElem?_cons_zero, List.getElem?_cons_succ]; rfl)
        case hs58 => kernel_rfl
        case hf58 => kernel_rfl
        case hr58 => kernel_rfl
        case hQ58 => exact fun _ _ _ h => h
        case hS58 => assumption
        case hy58 => (refine Or.inl ⟨by kernel_rfl, ?_⟩; intro w hSw; (try dsimp only at hSw); go_simp; (try with_reducible rfl))
        (try simp only [Act.put, List.setIfInBounds_toArray, List.set_cons_zero, List.set_cons_succ])
        refine wpAnyH_take (i := 10) (oi := ?oi59) (v := ?v59) ?hi59 ?hs59 ?hf59 ?hr59 ?hQ59 ?hy59 ?hS59 ?_
        case hi59 => (simp only [List.getElem?_toArray, List.getElem?_cons_zero, List.getElem?_cons_succ]; rfl)
        case hs59 => kernel_rfl
        case hf59 => kernel_rfl
        case hr59 => kernel_rfl
        case hQ59 => exact fun _ _ _ h => h
        case hS59 => assumption
        case hy59 => (refine Or.inl ⟨by kernel_rfl, ?_⟩; intro w hSw; (try dsimp only at hSw); go_simp; (try with_reducible rfl))
        (try simp only [Act.put, List.setIfInBounds_toArray, List.set_cons_zero, List.set_cons_succ])
        refine wpAnyH_take (i := 11) (oi := ?oi60) (v := ?v60) ?hi60 ?hs60 ?hf60 ?hr60 ?hQ60 ?hy60 ?hS60 ?_
        case hi60 => (simp only [List.getElem?_toArray, List.getElem?_cons_zero, List.getElem?_cons_succ]; rfl)
        case hs60 => kernel_rfl
        case hf60 => kernel_rfl
        case hr60 => kernel_rfl
        case hQ60 => exact fun _ _ _ h => h
        case hS60 => assumption
        case hy60 => (refine Or.inl ⟨by kernel_rfl, ?_⟩; intro w hSw; (try dsimp only at hSw); go_simp; (try with_reducible rfl))
        (try simp only [Act.put, List.setIfInBounds_toArray, List.set_cons_zero, List.set_cons_succ])
        refine wpAnyH_done (by kernel_rfl) ?_ _
        go_wp2
        go_roundw
        case rel => exact ⟨2, by decide, rfl, (fun _ => by have := G.out; omega), (fun _ => by simp at hb; omega), (fun h => by omega), ⟨by repeat (first | exact S3.out | refine St.drewN ?_ _ | refine St.drew ?_)⟩⟩
        case measure => simp [intOf]
    · cases hb : decide (m 5 < f 2)
      rotate_left
      · have hz0 : z = false := by rw [← hz]; unfold soundB; rw [show decide (f 2 ≤ m 5) = false from by simp at hb ⊢; omega]; simp
        subst hz0
        go_wp2
        refine wp_region_held_drew (S := (fun w' => w'.cell? ⟨w.heap.size, 0, none⟩ = some (.int .i64 (m 0)) ∧ w'.cell? ⟨w.heap.size, 1, none⟩ = some (.int .i64 (m 1)) ∧ w'.cell? ⟨w.heap.size, 2, none⟩ = some (.int .i64 (m 2)) ∧ w'.cell? ⟨w.heap.size, 3, none⟩ = some (.int .i64 (m 3)) ∧ w'.cell? ⟨w.heap.size, 4, none⟩ = some (.int .i64 (m 4)) ∧ w'.cell? ⟨w.heap.size, 5, none⟩ = some (.int .i64 (m 5)) ∧ w'.cell? ⟨w1.heap.size, 2, none⟩ = some (.int .i64 (m 5)) ∧ w'.cell? ⟨w.heap.size + 1, 2, none⟩ = some (.int .i64 (f 2)))) (by kernel_rfl) ?_ (fun hHeld => ?_)
        · (try dsimp only); first | exact ⟨St.cell S2.out 2 0 rfl rfl, St.cell S2.out 2 1 rfl rfl, St.cell S2.out 2 2 rfl rfl, St.cell S2.out 2 3 rfl rfl, St.cell S2.out 2 4 rfl rfl, St.cell S2.out 2 5 rfl rfl, St.cell S2.out 0 2 rfl rfl, St.cell S2.out 1 2 rfl rfl⟩ | exact ⟨St.cell S3.out 2 0 rfl rfl, St.cell S3.out 2 1 rfl rfl, St.cell S3.out 2 2 rfl rfl, St.cell S3.out 2 3 rfl rfl, St.cell S3.out 2 4 rfl rfl, St.cell S3.out 2 5 rfl rfl, St.cell S3.out 0 2 rfl rfl, St.cell S3.out 1 2 rfl rfl⟩
        refine wpAnyH_take (i := 0) (oi := ?oi61) (v := ?v61) ?hi61 ?hs61 ?hf61 ?hr61 ?hQ61 ?hy61 ?hS61 ?_
        case hi61 => (simp only [List.getElem?_toArray, List.getElem?_cons_zero, List.getElem?_cons_succ]; rfl)
        case hs61 => kernel_rfl
        case hf61 => kernel_rfl
        case hr61 => kernel_rfl
        case hQ61 => exact fun _ _ _ h => h
        case hS61 => assumption
        case hy61 => (refine Or.inl ⟨by kernel_rfl, ?_⟩; intro w hSw; (try dsimp only at hSw); go_simp; (try with_reducible rfl))
        (try simp only [Act.put, List.setIfInBounds_toArray, List.set_cons_zero, List.set_cons_succ])
        refine wpAnyH_ready (rs := [1]) (by kernel_rfl) (by simp) ?_
        refine AllReadyH.cons (o := ?oi62) ?hi62 (fun K hK => ?_) AllReadyH.nil
        case hi62 => (simp only [List.getElem?_toArray, List.getElem?_cons_zero, List.getElem?_cons_succ]; rfl)
        go_simp
        (go_at_call 33; replace S2 := S2; refine (HF.out _).mono ?_; rintro e w3 ⟨rfl, hb3⟩; have S3 := Asd.mk (St.call (by (focus (with_reducible repeat (first | exact S2.out | apply St.drew | apply St.drewN)))) hb3); clear hb3 S2)
        (try dsimp only [])
        refine hK.out _ _ ?_ (fun hHeld => ?_)
        · (try dsimp only); first | exact ⟨St.cell S2.out 2 0 rfl rfl, St.cell S2.out 2 1 rfl rfl, St.cell S2.out 2 2 rfl rfl, St.cell S2.out 2 3 rfl rfl, St.cell S2.out 2 4 rfl rfl, St.cell S2.out 2 5 rfl rfl, St.cell S2.out 0 2 rfl rfl, St.cell S2.out 1 2 rfl rfl⟩ | exact ⟨St.cell S3.out 2 0 rfl rfl, St.cell S3.out 2 1 rfl rfl, St.cell S3.out 2 2 rfl rfl, St.cell S3.out 2 3 rfl rfl, St.cell S3.out 2 4 rfl rfl, St.cell S3.out 2 5 rfl rfl, St.cell S3.out 0 2 rfl rfl, St.cell S3.out 1 2 rfl rfl⟩
        clear hK K
        (try simp only [Act.put, List.setIfInBounds_toArray, List.set_cons_zero, List.set_cons_succ])
        refine wpAnyH_take (i := 2) (oi := ?oi63) (v := ?v63) ?hi63 ?hs63 ?hf63 ?hr63 ?hQ63 ?hy63 ?hS63 ?_
        case hi63 => (simp only [List.getElem?_toArray, List.getElem?_cons_zero, List.getElem?_cons_succ]; rfl)
        case hs63 => kernel_rfl
        case hf63 => kernel_rfl
        case hr63 => kernel_rfl
        case hQ63 => exact fun _ _ _ h => h
        case hS63 => assumption
        case hy63 => (refine Or.inl ⟨by kernel_rfl, ?_⟩; intro w hSw; (try dsimp only at hSw); go_simp; (try with_reducible rfl))
        (try simp only [Act.put, List.setIfInBounds_toArray, List.set_cons_zero, List.set_cons_succ])
        refine wpAnyH_take (i := 3) (oi := ?oi64) (v := ?v64) ?hi64 ?hs64 ?hf64 ?hr64 ?hQ64 ?hy64 ?hS64 ?_
        case hi64 => (simp only [List.getElem?_toArray, List.getElem?_cons_zero, List.getElem?_cons_succ]; rfl)
        case hs64 => kernel_rfl
        case hf64 => kernel_rfl
        case hr64 => kernel_rfl
        case hQ64 => exact fun _ _ _ h => h
        case hS64 => assumption
        case hy64 => (refine Or.inl ⟨by kernel_rfl, ?_⟩; intro w hSw; (try dsimp only at hSw); go_simp; (try with_reducible rfl))
        (try simp only [Act.put, List.setIfInBounds_toArray, List.set_cons_zero, List.set_cons_succ])
        refine wpAnyH_take (i := 4) (oi := ?oi65) (v := ?v65) ?hi65 ?hs65 ?hf65 ?hr65 ?hQ65 ?hy65 ?hS65 ?_
        case hi65 => (simp only [List.getElem?_toArray, List.getElem?_cons_zero, List.getElem?_cons_succ]; rfl)
        case hs65 => kernel_rfl
        case hf65 => kernel_rfl
        case hr65 => kernel_rfl
        case hQ65 => exact fun _ _ _ h => h
        case hS65 => assumption
        case hy65 => (refine Or.inl ⟨by kernel_rfl, ?_⟩; intro w hSw; (try dsimp only at hSw); go_simp; (try with_reducible rfl))
        (try simp only [Act.put, List.setIfInBounds_toArray, List.set_cons_zero, List.set_cons_succ])
        refine wpAnyH_take (i := 5) (oi := ?oi66) (v := ?v66) ?hi66 ?hs66 ?hf66 ?hr66 ?hQ66 ?hy66 ?hS66 ?_
        case hi66 => (simp only [List.getElem?_toArray, List.getElem?_cons_zero, List.getElem?_cons_succ]; rfl)
        case hs66 => kernel_rfl
        case hf66 => kernel_rfl
        case hr66 => kernel_rfl
        case hQ66 => exact fun _ _ _ h => h
        case hS66 => assumption
        case hy66 => (refine Or.inl ⟨by kernel_rfl, ?_⟩; intro w hSw; (try dsimp only at hSw); go_simp; (try with_reducible rfl))
        (try simp only [Act.put, List.setIfInBounds_toArray, List.set_cons_zero, List.set_cons_succ])
        refine wpAnyH_take (i := 6) (oi := ?oi67) (v := ?v67) ?hi67 ?hs67 ?hf67 ?hr67 ?hQ67 ?hy67 ?hS67 ?_
        case hi67 => (simp only [List.getElem?_toArray, List.getElem?_cons_zero, List.getElem?_cons_succ]; rfl)
        case hs67 => kernel_rfl
        case hf67 => kernel_rfl
        case hr67 => kernel_rfl
        case hQ67 => exact fun _ _ _ h => h
        case hS67 => assumption
        case hy67 => (refine Or.inl ⟨by kernel_rfl, ?_⟩; intro w hSw; (try dsimp only at hSw); go_simp; (try with_reducible rfl))
        (try simp only [Act.put, List.setIfInBounds_toArray, List.set_cons_zero, List.set_cons_succ])
        refine wpAnyH_take (i := 7) (oi := ?oi68) (v := ?v68) ?hi68 ?hs68 ?hf68 ?hr68 ?hQ68 ?hy68 ?hS68 ?_
        case hi68 => (simp only [List.getElem?_toArray, List.getElem?_cons_zero, List.getElem?_cons_succ]; rfl)
        case hs68 => kernel_rfl
        case hf68 => kernel_rfl
        case hr68 => kernel_rfl
        case hQ68 => exact fun _ _ _ h => h
        case hS68 => assumption
        case hy68 => (refine Or.inl ⟨by kernel_rfl, ?_⟩; intro w hSw; (try dsimp only at hSw); go_simp; (try with_reducible rfl))
        (try simp only [Act.put, List.setIfInBounds_toArray, List.set_cons_zero, List.set_cons_succ])
        refine wpAnyH_take (i := 8) (oi := ?oi69) (v := ?v69) ?hi69 ?hs69 ?hf69 ?hr69 ?hQ69 ?hy69 ?hS69 ?_
        case hi69 => (simp only [List.getElem?_toArray, List.getElem?_cons_zero, List.getElem?_cons_succ]; rfl)
        case hs69 => kernel_rfl
        case hf69 => kernel_rfl
        case hr69 => kernel_rfl
        case hQ69 => exact fun _ _ _ h => h
        case hS69 => assumption
        case hy69 => (refine Or.inl ⟨by kernel_rfl, ?_⟩; intro w hSw; (try dsimp only at hSw); go_simp; (try with_reducible rfl))
        (try simp only [Act.put, List.setIfInBounds_toArray, List.set_cons_zero, List.set_cons_succ])
        refine wpAnyH_take (i := 9) (oi := ?oi70) (v := ?v70) ?hi70 ?hs70 ?hf70 ?hr70 ?hQ70 ?hy70 ?hS70 ?_
        case hi70 => (simp only [List.getElem?_toArray, List.getElem?_cons_zero, List.getElem?_cons_succ]; rfl)
        case hs70 => kernel_rfl
        case hf70 => kernel_rfl
        case hr70 => kernel_rfl
        case hQ70 => exact fun _ _ _ h => h
        case hS70 => assumption
        case hy70 => (refine Or.inl ⟨by kernel_rfl, ?_⟩; intro w hSw; (try dsimp only at hSw); go_simp; (try with_reducible rfl))
        (try simp only [Act.put, List.setIfInBounds_toArray, List.set_cons_zero, List.set_cons_succ])
        refine wpAnyH_take (i := 10) (oi := ?oi71) (v := ?v71) ?hi71 ?hs71 ?hf71 ?hr71 ?hQ71 ?hy71 ?hS71 ?_
        case hi71 => (simp only [List.getElem?_toArray, List.getElem?_cons_zero, List.getElem?_cons_succ]; rfl)
        case hs71 => kernel_rfl
        case hf71 => kernel_rfl
        case hr71 => kernel_rfl
        case hQ71 => exact fun _ _ _ h => h
        case hS71 => assumption
        case hy71 => (refine Or.inl ⟨by kernel_rfl, ?_⟩; intro w hSw; (try dsimp only at hSw); go_simp; (try with_reducible rfl))
        (try simp only [Act.put, List.setIfInBounds_toArray, List.set_cons_zero, List.set_cons_succ])
        refine wpAnyH_take (i := 11) (oi := ?oi72) (v := ?v72) ?hi72 ?hs72 ?hf72 ?hr72 ?hQ72 ?hy72 ?hS72 ?_
        case hi72 => (simp only [List.getElem?_toArray, List.getElem?_cons_zero, List.getElem?_cons_succ]; rfl)
        case hs72 => kernel_rfl
        case hf72 => kernel_rfl
        case hr72 => kernel_rfl
        case hQ72 => exact fun _ _ _ h => h
        case hS72 => assumption
        case hy72 => (refine Or.inl ⟨by kernel_rfl, ?_⟩; intro w hSw; (try dsimp only at hSw); go_simp; (try with_reducible rfl))
        (try simp only [Act.put, List.setIfInBounds_toArray, List.set_cons_zero, List.set_cons_succ])
        refine wpAnyH_done (by kernel_rfl) ?_ _
        go_wp2
        go_ret
        exact ⟨rfl, by repeat (first | exact S3.out.bl | refine bl_drewN ?_ _ | refine bl_drew ?_)⟩
      · go_wp2
        refine wp_region_held_drew (S := (fun w' => w'.cell? ⟨w.heap.size, 0, none⟩ = some (.int .i64 (m 0)) ∧ w'.cell? ⟨w.heap.size, 1, none⟩ = some (.int .i64 (m 1)) ∧ w'.cell? ⟨w.heap.size, 2, none⟩ = some (.int .i64 (m 2)) ∧ w'.cell? ⟨w.heap.size, 3, none⟩ = some (.int .i64 (m 3)) ∧ w'.cell? ⟨w.heap.size, 4, none⟩ = some (.int .i64 (m 4)) ∧ w'.cell? ⟨w.heap.size, 5, none⟩ = some (.int .i64 (m 5)) ∧ w'.cell? ⟨w1.heap.size, 2, none⟩ = some (.int .i64 (m 5)) ∧ w'.cell? ⟨w.heap.size + 1, 2, none⟩ = some (.int .i64 (f 2)))) (by kernel_rfl) ?_ (fun hHeld => ?_)
        · (try dsimp only); first | exact ⟨St.cell S2.out 2 0 rfl rfl, St.cell S2.out 2 1 rfl rfl, St.cell S2.out 2 2 rfl rfl, St.cell S2.out 2 3 rfl rfl, St.cell S2.out 2 4 rfl rfl, St.cell S2.out 2 5 rfl rfl, St.cell S2.out 0 2 rfl rfl, St.cell S2.out 1 2 rfl rfl⟩ | exact ⟨St.cell S3.out 2 0 rfl rfl, St.cell S3.out 2 1 rfl rfl, St.cell S3.out 2 2 rfl rfl, St.cell S3.out 2 3 rfl rfl, St.cell S3.out 2 4 rfl rfl, St.cell S3.out 2 5 rfl rfl, St.cell S3.out 0 2 rfl rfl, St.cell S3.out 1 2 rfl rfl⟩
        refine wpAnyH_take (i := 0) (oi := ?oi73) (v := ?v73) ?hi73 ?hs73 ?hf73 ?hr73 ?hQ73 ?hy73 ?hS73 ?_
        case hi73 => (simp only [List.getElem?_toArray, List.getElem?_cons_zero, List.getElem?_cons_succ]; rfl)
        case hs73 => kernel_rfl
        case hf73 => kernel_rfl
        case hr73 => kernel_rfl
        case hQ73 => exact fun _ _ _ h => h
        case hS73 => assumption
        case hy73 => (refine Or.inl ⟨by kernel_rfl, ?_⟩; intro w hSw; (try dsimp only at hSw); go_simp; (try with_reducible rfl))
        (try simp only [Act.put, List.setIfInBounds_toArray, List.set_cons_zero, List.set_cons_succ])
        refine wpAnyH_ready (rs := [1]) (by kernel_rfl) (by simp) ?_
        refine AllReadyH.cons (o := ?oi74) ?hi74 (fun K hK => ?_) AllReadyH.nil
        case hi74 => (simp only [List.getElem?_toArray, List.getElem?_cons_zero, List.getElem?_cons_succ]; rfl)
        go_simp
        (go_at_call 33; replace S2 := S2; refine (HF.out _).mono ?_; rintro e w3 ⟨rfl, hb3⟩; have S3 := Asd.mk (St.call (by (focus (with_reducible repeat (first | exact S2.out | apply St.drew | apply St.drewN)))) hb3); clear hb3 S2)
        (try dsimp only [])
        refine hK.out _ _ ?_ (fun hHeld => ?_)
        · (try dsimp only); first | exact ⟨St.cell S2.out 2 0 rfl rfl, St.cell S2.out 2 1 rfl rfl, St.cell S2.out 2 2 rfl rfl, St.cell S2.out 2 3 rfl rfl, St.cell S2.out 2 4 rfl rfl, St.cell S2.out 2 5 rfl rfl, St.cell S2.out 0 2 rfl rfl, St.cell S2.out 1 2 rfl rfl⟩ | exact ⟨St.cell S3.out 2 0 rfl rfl, St.cell S3.out 2 1 rfl rfl, St.cell S3.out 2 2 rfl rfl, St.cell S3.out 2 3 rfl rfl, St.cell S3.out 2 4 rfl rfl, St.cell S3.out 2 5 rfl rfl, St.cell S3.out 0 2 rfl rfl, St.cell S3.out 1 2 rfl rfl⟩
        clear hK K
        (try simp only [Act.put, List.setIfInBounds_toArray, List.set_cons_zero, List.set_cons_succ])
        refine wpAnyH_take (i := 2) (oi := ?oi75) (v := ?v75) ?hi75 ?hs75 ?hf75 ?hr75 ?hQ75 ?hy75 ?hS75 ?_
        case hi75 => (simp only [List.getElem?_toArray, List.getElem?_cons_zero, List.getElem?_cons_succ]; rfl)
        case hs75 => kernel_rfl
        case hf75 => kernel_rfl
        case hr75 => kernel_rfl
        case hQ75 => exact fun _ _ _ h => h
        case hS75 => assumption
        case hy75 => (refine Or.inl ⟨by kernel_rfl, ?_⟩; intro w hSw; (try dsimp only at hSw); go_simp; (try with_reducible rfl))
        (try simp only [Act.put, List.setIfInBounds_toArray, List.set_cons_zero, List.set_cons_succ])
        refine wpAnyH_take (i := 3) (oi := ?oi76) (v := ?v76) ?hi76 ?hs76 ?hf76 ?hr76 ?hQ76 ?hy76 ?hS76 ?_
        case hi76 => (simp only [List.getElem?_toArray, List.getElem?_cons_zero, List.getElem?_cons_succ]; rfl)
        case hs76 => kernel_rfl
        case hf76 => kernel_rfl
        case hr76 => kernel_rfl
        case hQ76 => exact fun _ _ _ h => h
        case hS76 => assumption
        case hy76 => (refine Or.inl ⟨by kernel_rfl, ?_⟩; intro w hSw; (try dsimp only at hSw); go_simp; (try with_reducible rfl))
        (try simp only [Act.put, List.setIfInBounds_toArray, List.set_cons_zero, List.set_cons_succ])
        refine wpAnyH_take (i := 4) (oi := ?oi77) (v := ?v77) ?hi77 ?hs77 ?hf77 ?hr77 ?hQ77 ?hy77 ?hS77 ?_
        case hi77 => (simp only [List.getElem?_toArray, List.getElem?_cons_zero, List.getElem?_cons_succ]; rfl)
        case hs77 => kernel_rfl
        case hf77 => kernel_rfl
        case hr77 => kernel_rfl
        case hQ77 => exact fun _ _ _ h => h
        case hS77 => assumption
        case hy77 => (refine Or.inl ⟨by kernel_rfl, ?_⟩; intro w hSw; (try dsimp only at hSw); go_simp; (try with_reducible rfl))
        (try simp only [Act.put, List.setIfInBounds_toArray, List.set_cons_zero, List.set_cons_succ])
        refine wpAnyH_take (i := 5) (oi := ?oi78) (v := ?v78) ?hi78 ?hs78 ?hf78 ?hr78 ?hQ78 ?hy78 ?hS78 ?_
        case hi78 => (simp only [List.getElem?_toArray, List.getElem?_cons_zero, List.getElem?_cons_succ]; rfl)
        case hs78 => kernel_rfl
        case hf78 => kernel_rfl
        case hr78 => kernel_rfl
        case hQ78 => exact fun _ _ _ h => h
        case hS78 => assumption
        case hy78 => (refine Or.inl ⟨by kernel_rfl, ?_⟩; intro w hSw; (try dsimp only at hSw); go_simp; (try with_reducible rfl))
        (try simp only [Act.put, List.setIfInBounds_toArray, List.set_cons_zero, List.set_cons_succ])
        refine wpAnyH_take (i := 6) (oi := ?oi79) (v := ?v79) ?hi79 ?hs79 ?hf79 ?hr79 ?hQ79 ?hy79 ?hS79 ?_
        case hi79 => (simp only [List.getElem?_toArray, List.getElem?_cons_zero, List.getElem?_cons_succ]; rfl)
        case hs79 => kernel_rfl
        case hf79 => kernel_rfl
        case hr79 => kernel_rfl
        case hQ79 => exact fun _ _ _ h => h
        case hS79 => assumption
        case hy79 => (refine Or.inl ⟨by kernel_rfl, ?_⟩; intro w hSw; (try dsimp only at hSw); go_simp; (try with_reducible rfl))
        (try simp only [Act.put, List.setIfInBounds_toArray, List.set_cons_zero, List.set_cons_succ])
        refine wpAnyH_take (i := 7) (oi := ?oi80) (v := ?v80) ?hi80 ?hs80 ?hf80 ?hr80 ?hQ80 ?hy80 ?hS80 ?_
        case hi80 => (simp only [List.getElem?_toArray, List.getElem?_cons_zero, List.getElem?_cons_succ]; rfl)
        case hs80 => kernel_rfl
        case hf80 => kernel_rfl
        case hr80 => kernel_rfl
        case hQ80 => exact fun _ _ _ h => h
        case hS80 => assumption
        case hy80 => (refine Or.inl ⟨by kernel_rfl, ?_⟩; intro w hSw; (try dsimp only at hSw); go_simp; (try with_reducible rfl))
        (try simp only [Act.put, List.setIfInBounds_toArray, List.set_cons_zero, List.set_cons_succ])
        refine wpAnyH_take (i := 8) (oi := ?oi81) (v := ?v81) ?hi81 ?hs81 ?hf81 ?hr81 ?hQ81 ?hy81 ?hS81 ?_
        case hi81 => (simp only [List.getElem?_toArray, List.getElem?_cons_zero, List.getElem?_cons_succ]; rfl)
        case hs81 => kernel_rfl
        case hf81 => kernel_rfl
        case hr81 => kernel_rfl
        case hQ81 => exact fun _ _ _ h => h
        case hS81 => assumption
        case hy81 => (refine Or.inl ⟨by kernel_rfl, ?_⟩; intro w hSw; (try dsimp only at hSw); go_simp; (try with_reducible rfl))
        (try simp only [Act.put, List.setIfInBounds_toArray, List.set_cons_zero, List.set_cons_succ])
        refine wpAnyH_take (i := 9) (oi := ?oi82) (v := ?v82) ?hi82 ?hs82 ?hf82 ?hr82 ?hQ82 ?hy82 ?hS82 ?_
        case hi82 => (simp only [List.getElem?_toArray, List.getElem?_cons_zero, List.getElem?_cons_succ]; rfl)
        case hs82 => kernel_rfl
        case hf82 => kernel_rfl
        case hr82 => kernel_rfl
        case hQ82 => exact fun _ _ _ h => h
        case hS82 => assumption
        case hy82 => (refine Or.inl ⟨by kernel_rfl, ?_⟩; intro w hSw; (try dsimp only at hSw); go_simp; (try with_reducible rfl))
        (try simp only [Act.put, List.setIfInBounds_toArray, List.set_cons_zero, List.set_cons_succ])
        refine wpAnyH_take (i := 10) (oi := ?oi83) (v := ?v83) ?hi83 ?hs83 ?hf83 ?hr83 ?hQ83 ?hy83 ?hS83 ?_
        case hi83 => (simp only [List.getElem?_toArray, List.getElem?_cons_zero, List.getElem?_cons_succ]; rfl)
        case hs83 => kernel_rfl
        case hf83 => kernel_rfl
        case hr83 => kernel_rfl
        case hQ83 => exact fun _ _ _ h => h
        case hS83 => assumption
        case hy83 => (refine Or.inl ⟨by kernel_rfl, ?_⟩; intro w hSw; (try dsimp only at hSw); go_simp; (try with_reducible rfl))
        (try simp only [Act.put, List.setIfInBounds_toArray, List.set_cons_zero, List.set_cons_succ])
        refine wpAnyH_take (i := 11) (oi := ?oi84) (v := ?v84) ?hi84 ?hs84 ?hf84 ?hr84 ?hQ84 ?hy84 ?hS84 ?_
        case hi84 => (simp only [List.getElem?_toArray, List.getElem?_cons_zero, List.getElem?_cons_succ]; rfl)
        case hs84 => kernel_rfl
        case hf84 => kernel_rfl
        case hr84 => kernel_rfl
        case hQ84 => exact fun _ _ _ h => h
        case hS84 => assumption
        case hy84 => (refine Or.inl ⟨by kernel_rfl, ?_⟩; intro w hSw; (try dsimp only at hSw); go_simp; (try with_reducible rfl))
        (try simp only [Act.put, List.setIfInBounds_toArray, List.set_cons_zero, List.set_cons_succ])
        refine wpAnyH_done (by kernel_rfl) ?_ _
        go_wp2
        go_roundw
        case rel => exact ⟨3, by decide, rfl, (fun _ => by have := G.out; omega), (fun _ => by have := G.out; omega), (fun _ => by simp at hb; omega), ⟨by repeat (first | exact S3.out | refine St.drewN ?_ _ | refine St.drew ?_)⟩⟩
        case measure => simp [intOf]
    · obtain ⟨g0, g1, g2⟩ := G.out
      replace g0 := g0 (by decide)
      replace g1 := g1 (by decide)
      replace g2 := g2 (by decide)
      clear G
      have r0 := fitB_true.1 (allB_at hF (k := 0) (by decide))
      have r1 := fitB_true.1 (allB_at hF (k := 1) (by decide))
      have r2 := fitB_true.1 (allB_at hF (k := 2) (by decide))
      have r3 := fitB_true.1 (allB_at hF (k := 3) (by decide))
      have r4 := fitB_true.1 (allB_at hF (k := 4) (by decide))
      have r5 := fitB_true.1 (allB_at hF (k := 5) (by decide))
      have l0 := hf 0
      unfold I64 at l0
      have l1 := hf 1
      unfold I64 at l1
      have l2 := hf 2
      unfold I64 at l2
      have HO0 : Asd (∀ W, Calls Tryd.prog 37 #[.int .i64 (m 0), .int .i64 (f 0)] W fun e w' => e = .returned (.int .u64 (m 0 - f 0)) ∧ W = w') := ⟨fun W => sym_over (m 0) (f 0) (by unfold I64; omega) (hf 0) (by omega) W⟩
      have HO1 : Asd (∀ W, Calls Tryd.prog 37 #[.int .i64 (m 3), .int .i64 (f 1)] W fun e w' => e = .returned (.int .u64 (m 3 - f 1)) ∧ W = w') := ⟨fun W => sym_over (m 3) (f 1) (by unfold I64; omega) (hf 1) (by omega) W⟩
      have HO2 : Asd (∀ W, Calls Tryd.prog 37 #[.int .i64 (m 5), .int .i64 (f 2)] W fun e w' => e = .returned (.int .u64 (m 5 - f 2)) ∧ W = w') := ⟨fun W => sym_over (m 5) (f 2) (by unfold I64; omega) (hf 2) (by omega) W⟩
      obtain ⟨A10, hA10⟩ : ∃ A, abB (m 1) (m 3 - f 1) (m 0 - f 0) = A := ⟨_, rfl⟩
      have HA10 : Asd (∀ W, Calls Tryd.prog 36 #[.int .i64 (m 1), .int .u64 (m 3 - f 1), .int .u64 (m 0 - f 0)] W fun e w' => e = .returned (.bool A10) ∧ W = w') := ⟨fun W => by
        have k := sym_above (m 1) (m 3 - f 1).toNat (m 0 - f 0).toNat (by omega) (by omega) (by omega) W
        rw [Int.toNat_of_nonneg (by omega), Int.toNat_of_nonneg (by omega), hA10] at k
        exact k⟩
      obtain ⟨A20, hA20⟩ : ∃ A, abB (m 2) (m 5 - f 2) (m 0 - f 0) = A := ⟨_, rfl⟩
      have HA20 : Asd (∀ W, Calls Tryd.prog 36 #[.int .i64 (m 2), .int .u64 (m 5 - f 2), .int .u64 (m 0 - f 0)] W fun e w' => e = .returned (.bool A20) ∧ W = w') := ⟨fun W => by
        have k := sym_above (m 2) (m 5 - f 2).toNat (m 0 - f 0).toNat (by omega) (by omega) (by omega) W
        rw [Int.toNat_of_nonneg (by omega), Int.toNat_of_nonneg (by omega), hA20] at k
        exact k⟩
      obtain ⟨A21, hA21⟩ : ∃ A, abB (m 4) (m 5 - f 2) (m 3 - f 1) = A := ⟨_, rfl⟩
      have HA21 : Asd (∀ W, Calls Tryd.prog 36 #[.int .i64 (m 4), .int .u64 (m 5 - f 2), .int .u64 (m 3 - f 1)] W fun e w' => e = .returned (.bool A21) ∧ W = w') := ⟨fun W => by
        have k := sym_above (m 4) (m 5 - f 2).toNat (m 3 - f 1).toNat (by omega) (by omega) (by omega) W
        rw [Int.toNat_of_nonneg (by omega), Int.toNat_of_nonneg (by omega), hA21] at k
        exact k⟩
      have hz2 : z = (!A10 && (!A20 && !A21)) := by
        rw [← hz, ← hA10, ← hA20, ← hA21]; unfold soundB
        rw [hF, show decide (f 0 ≤ m 0) = true from by simpa using g0, show decide (f 1 ≤ m 3) = true from by simpa using g1, show decide (f 2 ≤ m 5) = true from by simpa using g2]; rfl
      have HZ := Asd.mk hz2
      clear hz hF hA10 hA20 hA21 hz2 g0 g1 g2 r0 r1 r2 r3 r4 r5 l0 l1 l2 HF hf
      go_wp2
      go_loopw [28] (fun v wr => ∃ k : Int, (k = 0 ∨ k = 1 ∨ k = 2 ∨ k = 3) ∧ v = .int .i64 k ∧ Asd ((2 ≤ k → A10 = false) ∧ (3 ≤ k → A20 = false ∧ A21 = false)) ∧ Asd (St w wr [(w1.heap.size, [.int .i64 (m 0), .int .i64 (m 3), .int .i64 (m 5)]), (w.heap.size + 1, [.int .i64 (f 0), .int .i64 (f 1), .int .i64 (f 2)]), (w.heap.size, [.int .i64 (m 0), .int .i64 (m 1), .int .i64 (m 2), .int .i64 (m 3), .int .i64 (m 4), .int .i64 (m 5)])] [])) (fun v _ => 3 - (intOf v).toNat)
      case atStart => exact ⟨0, by decide, rfl, ⟨by omega, by omega⟩, S2⟩
      case round =>
        obtain ⟨k, hk, rfl, K, S3⟩ := hrel
        clear S2
        rcases hk with rfl | rfl | rfl | rfl
        · go_wp2
          go_loopw [32] (fun v wq => ∃ j : Int, (j = 0) ∧ v = .int .i64 j ∧ Asd (St w wq [(w1.heap.size, [.int .i64 (m 0), .int .i64 (m 3), .int .i64 (m 5)]), (w.heap.size + 1, [.int .i64 (f 0), .int .i64 (f 1), .int .i64 (f 2)]), (w.heap.size, [.int .i64 (m 0), .int .i64 (m 1), .int .i64 (m 2), .int .i64 (m 3), .int .i64 (m 4), .int .i64 (m 5)])] [])) (fun v _ => 0 - (intOf v).toNat)
          case atStart => exact ⟨0, by decide, rfl, S3⟩
          case round =>
            obtain ⟨j, hj, rfl, S4⟩ := hrel
            clear S3
            obtain rfl := hj
            go_wp2
            go_roundw
            case rel => exact ⟨1, by decide, rfl, ⟨⟨by omega, by omega⟩⟩, S4⟩
            case measure => simp [intOf]
        · go_wp2
          go_loopw [32] (fun v wq => ∃ j : Int, (j = 0 ∨ j = 1) ∧ v = .int .i64 j ∧ (1 ≤ j → A10 = false) ∧ Asd (St w wq [(w1.heap.size, [.int .i64 (m 0), .int .i64 (m 3), .int .i64 (m 5)]), (w.heap.size + 1, [.int .i64 (f 0), .int .i64 (f 1), .int .i64 (f 2)]), (w.heap.size, [.int .i64 (m 0), .int .i64 (m 1), .int .i64 (m 2), .int .i64 (m 3), .int .i64 (m 4), .int .i64 (m 5)])] [])) (fun v _ => 1 - (intOf v).toNat)
          case atStart => exact ⟨0, by decide, rfl, by omega, S3⟩
          case round =>
            obtain ⟨j, hj, rfl, a0, S4⟩ := hrel
            clear S3
            rcases hj with rfl | rfl
            · obtain ⟨p0, p1, p2, p3, p4, p5, p6, p7, p8⟩ := HG.out.below S4.out.bl
              have c0 := St.cell S4.out 2 1 rfl rfl
              have c1 := St.cell S4.out 0 1 rfl rfl
              have c2 := St.cell S4.out 1 1 rfl rfl
              have c3 := St.cell S4.out 0 0 rfl rfl
              have c4 := St.cell S4.out 1 0 rfl rfl
              have A' := Asd.mk (show A10 = A10 from rfl)
              cases A10
              all_goals (go_wp2; go_quiet (first | (go_at_call 37; with_reducible exact quiet_left' (HO0.out _)) | (go_at_call 37; with_reducible exact quiet_left' (HO1.out _)) | (go_at_call 37; with_reducible exact quiet_left' (HO2.out _)) | (go_at_call 36; with_reducible exact quiet_left' (HA10.out _)) | (go_at_call 36; with_reducible exact quiet_left' (HA20.out _)) | (go_at_call 36; with_reducible exact quiet_left' (HA21.out _))); go_wp2)
              · go_roundw
                case rel => exact ⟨1, by decide, rfl, fun _ => by first | trivial | rfl, ⟨St.drewN S4.out _⟩⟩
                case measure => simp [intOf]
              · go_ret
                exact ⟨by rw [HZ.out]; first | rfl | simp, by repeat (first | exact S4.out.bl | refine bl_drewN ?_ _ | refine bl_drew ?_)⟩
            · go_wp2
              go_roundw
              case rel => exact ⟨2, by decide, rfl, ⟨⟨fun _ => a0 (by decide), fun h => by omega⟩⟩, S4⟩
              case measure => simp [intOf]
        · go_wp2
          go_loopw [32] (fun v wq => ∃ j : Int, (j = 0 ∨ j = 1 ∨ j = 2) ∧ v = .int .i64 j ∧ (1 ≤ j → A20 = false) ∧ (2 ≤ j → A21 = false) ∧ Asd (St w wq [(w1.heap.size, [.int .i64 (m 0), .int .i64 (m 3), .int .i64 (m 5)]), (w.heap.size + 1, [.int .i64 (f 0), .int .i64 (f 1), .int .i64 (f 2)]), (w.heap.size, [.int .i64 (m 0), .int .i64 (m 1), .int .i64 (m 2), .int .i64 (m 3), .int .i64 (m 4), .int .i64 (m 5)])] [])) (fun v _ => 2 - (intOf v).toNat)
          case atStart => exact ⟨0, by decide, rfl, by omega, by omega, S3⟩
          case round =>
            obtain ⟨j, hj, rfl, a0, a1, S4⟩ := hrel
            clear S3
            rcases hj with rfl | rfl | rfl
            · obtain ⟨p0, p1, p2, p3, p4, p5, p6, p7, p8⟩ := HG.out.below S4.out.bl
              have c0 := St.cell S4.out 2 2 rfl rfl
              have c1 := St.cell S4.out 0 2 rfl rfl
              have c2 := St.cell S4.out 1 2 rfl rfl
              have c3 := St.cell S4.out 0 0 rfl rfl
              have c4 := St.cell S4.out 1 0 rfl rfl
              have A' := Asd.mk (show A20 = A20 from rfl)
              cases A20
              all_goals (go_wp2; go_quiet (first | (go_at_call 37; with_reducible exact quiet_left' (HO0.out _)) | (go_at_call 37; with_reducible exact quiet_left' (HO1.out _)) | (go_at_call 37; with_reducible exact quiet_left' (HO2.out _)) | (go_at_call 36; with_reducible exact quiet_left' (HA10.out _)) | (go_at_call 36; with_reducible exact quiet_left' (HA20.out _)) | (go_at_call 36; with_reducible exact quiet_left' (HA21.out _))); go_wp2)
              · go_roundw
                case rel => exact ⟨1, by decide, rfl, fun _ => by first | trivial | rfl, fun h => by omega, ⟨St.drewN S4.out _⟩⟩
                case measure => simp [intOf]
              · go_ret
                exact ⟨by rw [HZ.out]; first | rfl | simp, by repeat (first | exact S4.out.bl | refine bl_drewN ?_ _ | refine bl_drew ?_)⟩
            · obtain ⟨p0, p1, p2, p3, p4, p5, p6, p7, p8⟩ := HG.out.below S4.out.bl
              have c0 := St.cell S4.out 2 4 rfl rfl
              have c1 := St.cell S4.out 0 2 rfl rfl
              have c2 := St.cell S4.out 1 2 rfl rfl
              have c3 := St.cell S4.out 0 1 rfl rfl
              have c4 := St.cell S4.out 1 1 rfl rfl
              have A' := Asd.mk (show A21 = A21 from rfl)
              cases A21
              all_goals (go_wp2; go_quiet (first | (go_at_call 37; with_reducible exact quiet_left' (HO0.out _)) | (go_at_call 37; with_reducible exact quiet_left' (HO1.out _)) | (go_at_call 37; with_reducible exact quiet_left' (HO2.out _)) | (go_at_call 36; with_reducible exact quiet_left' (HA10.out _)) | (go_at_call 36; with_reducible exact quiet_left' (HA20.out _)) | (go_at_call 36; with_reducible exact quiet_left' (HA21.out _))); go_wp2)
              · go_roundw
                case rel => exact ⟨2, by decide, rfl, fun _ => a0 (by decide), fun _ => by first | trivial | rfl, ⟨St.drewN S4.out _⟩⟩
                case measure => simp [intOf]
              · go_ret
                exact ⟨by rw [HZ.out]; first | rfl | simp, by repeat (first | exact S4.out.bl | refine bl_drewN ?_ _ | refine bl_drew ?_)⟩
            · go_wp2
              go_roundw
              case rel => exact ⟨3, by decide, rfl, ⟨⟨fun _ => K.out.1 (by decide), fun _ => ⟨a0 (by decide), a1 (by decide)⟩⟩⟩, S4⟩
              case measure => simp [intOf]
        · go_wp2
          go_ret
          obtain ⟨k1, k2⟩ := K.out
          exact ⟨by rw [HZ.out, k1 (by decide), (k2 (by decide)).1, (k2 (by decide)).2]; rfl, S3.out.bl⟩
end Go.Proofs.YtfbhcaocfajjpaaDoor

namespace Go.Proofs.YtfbhcaocfajjpaaDoor
set_option linter.unusedSimpArgs false
set_option linter.unusedVariables false
theorem soundB_true {m f : Nat → Int} : soundB m f = true ↔ fits6 m = true ∧ (f 0 ≤ m 0 ∧ f 1 ≤ m 3 ∧ f 2 ≤ m 5) ∧
    (m 1 * m 1 ≤ (m 3 - f 1) * (m 0 - f 0) ∧ m 2 * m 2 ≤ (m 5 - f 2) * (m 0 - f 0) ∧ m 4 * m 4 ≤ (m 5 - f 2) * (m 3 - f 1)) := by
  unfold soundB abB
  simp only [Bool.and_eq_true, decide_eq_true_eq, Bool.not_eq_true', decide_eq_false_iff_not, Int.not_lt]
theorem mul_mono {a b c d : Int} (h1 : a ≤ c) (h2 : b ≤ d) (ha : 0 ≤ a) (hb : 0 ≤ b) : a * b ≤ c * d :=
  Int.mul_le_mul h1 h2 hb (by omega)
theorem sound_low {m f g : Nat → Int} (h : soundB m f = true) (h0 : g 0 ≤ f 0) (h1 : g 1 ≤ f 1) (h2 : g 2 ≤ f 2) : soundB m g = true := by
  obtain ⟨hf, ⟨a0, a1, a2⟩, b0, b1, b2⟩ := soundB_true.1 h
  refine soundB_true.2 ⟨hf, ⟨by omega, by omega, by omega⟩, Int.le_trans b0 (mul_mono (by omega) (by omega) (by omega) (by omega)), Int.le_trans b1 (mul_mono (by omega) (by omega) (by omega) (by omega)), Int.le_trans b2 (mul_mono (by omega) (by omega) (by omega) (by omega))⟩
/-- The matrix of a diagonal. -/
def diagM (u : Nat → Int) : Nat → Int
  | 0 => u 0
  | 3 => u 1
  | 5 => u 2
  | _ => 0
theorem sound_diag {u : Nat → Int} (hu : ∀ i, 0 ≤ u i ∧ u i ≤ 1099511627776) : soundB (diagM u) u = true := by
  have u0 := hu 0
  have u1 := hu 1
  have u2 := hu 2
  refine soundB_true.2 ⟨?_, ⟨Int.le_refl _, Int.le_refl _, Int.le_refl _⟩, by simp [diagM], by simp [diagM], by simp [diagM]⟩
  simp only [fits6, allB, diagM, Bool.true_and, Bool.and_eq_true, fitB_true]
  omega
theorem sound_more {m f u : Nat → Int} (h : soundB m f = true) (hu : ∀ i, 0 ≤ u i) (hs : fits6 (fun j => m j + diagM u j) = true) : soundB (fun j => m j + diagM u j) f = true := by
  obtain ⟨hf, ⟨a0, a1, a2⟩, b0, b1, b2⟩ := soundB_true.1 h
  have u0 := hu 0
  have u1 := hu 1
  have u2 := hu 2
  refine soundB_true.2 ⟨hs, ?_⟩
  simp only [diagM, Int.add_zero]
  exact ⟨⟨by omega, by omega, by omega⟩, Int.le_trans b0 (mul_mono (by omega) (by omega) (by omega) (by omega)), Int.le_trans b1 (mul_mono (by omega) (by omega) (by omega) (by omega)), Int.le_trans b2 (mul_mono (by omega) (by omega) (by omega) (by omega))⟩
end Go.Proofs.YtfbhcaocfajjpaaDoor
