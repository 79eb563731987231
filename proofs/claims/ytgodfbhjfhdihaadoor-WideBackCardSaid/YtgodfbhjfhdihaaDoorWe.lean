/- Walks of the layer 'wide', fourth part. -/
import Derived.Test.YtgodfbhjfhdihaaDoorWd
import Derived.Deep.RegionHeld3
import Derived.Deep.QuietTactic
import Derived.BigQuiet
import Derived.IntWalk
namespace Go.Proofs.YtgodfbhjfhdihaaDoor
open Go.RowKit
attribute [local go_sem] nlt2 nlt3 nlt4 nlt5 nlt6 nlt7 nlt8 nlt9 nlt10 nlt11 nlt12


set_option maxRecDepth 100000 in
set_option maxHeartbeats 1000000 in
theorem wide_Int (a : Int) (w : World) :
    Calls Tryd.prog 54 #[.agg #[.int .i64 (whi a), .int .u64 (wlo a)]] w fun e w' => e = .returned (.tuple #[.int .i64 (fitI a), .int .i64 (errI a)]) ∧ Below w.heap.size w w' := by
  by_cases h : I64 a
  · simp only [fitI, errI, if_pos h]
    have e1 : wrap64 (wlo a) = a := int_fits h
    have e2 : IntKind.i64.wrap (wlo a) = a := (IntWalk.i64_left _).trans e1
    go_enter Tryd.func54, Tryd.ntmps54
    go_wp2
    go_region_held3 (fun w' => w'.cell? ⟨w.heap.size, 0, none⟩ = some (.int .i64 (whi a)) ∧ w'.cell? ⟨w.heap.size, 1, none⟩ = some (.int .u64 (wlo a))) (first | (simp [go_sem]; done) | (simp [go_sem, *]; done))
      (first | (go_at_call 23; refine (wide_Of _ h _).mono ?_; rintro e w1 ⟨rfl, hb1⟩; obtain ⟨hc1, hf1⟩ := bcell hb1; have hz1_0 : w.heap.size < w1.heap.size := Nat.lt_of_lt_of_le (by first | (simp; done) | (simp; omega)) hb1.size))
    go_wp2
    go_ret2
    exact ⟨rfl, (by repeat (first | exact Below.refl _ _ | assumption | refine bl_alloc ?_ _ | refine bl_drewN ?_ _ | refine bl_drew ?_ | refine bl_set ?_ (by first | (simp; done) | (simp; omega) | (dsimp only; omega)) _ | refine bl_then ?_ (by assumption)))⟩
  · simp only [fitI, errI, if_neg h]
    have n1 := beq_eq_false_iff_ne.2 (int_beyond h)
    have hm := wrap64_I64 (wlo a)
    obtain ⟨m, em⟩ : ∃ m, m = wrap64 (wlo a) := ⟨_, rfl⟩
    rw [← em] at n1 hm
    have e1 : wrap64 (wlo a) = m := em.symm
    have e2 : IntKind.i64.wrap (wlo a) = m := (IntWalk.i64_left _).trans e1
    clear em
    go_enter Tryd.func54, Tryd.ntmps54
    go_wp2
    go_region_held3 (fun w' => w'.cell? ⟨w.heap.size, 0, none⟩ = some (.int .i64 (whi a)) ∧ w'.cell? ⟨w.heap.size, 1, none⟩ = some (.int .u64 (wlo a))) (first | (simp [go_sem]; done) | (simp [go_sem, *]; done))
      (first | (go_at_call 23; refine (wide_Of _ hm _).mono ?_; rintro e w1 ⟨rfl, hb1⟩; obtain ⟨hc1, hf1⟩ := bcell hb1; have hz1_0 : w.heap.size < w1.heap.size := Nat.lt_of_lt_of_le (by first | (simp; done) | (simp; omega)) hb1.size))
    go_wp2
    go_ret2
    exact ⟨rfl, (by repeat (first | exact Below.refl _ _ | assumption | refine bl_alloc ?_ _ | refine bl_drewN ?_ _ | refine bl_drew ?_ | refine bl_set ?_ (by first | (simp; done) | (simp; omega) | (dsimp only; omega)) _ | refine bl_then ?_ (by assumption)))⟩

theorem cmp_isNaNI (x : Int) (w : World) :
    Calls Tryd.prog 90 #[.int .i64 x] w fun e w' => e = .returned (.bool false) ∧ w = w' := by
  go_enter Tryd.func90, Tryd.ntmps90
  go_wp2
  go_ret
  exact ⟨by simp, rfl⟩
set_option maxHeartbeats 1000000 in
theorem cmp_CompareI (a b : Int) (w : World) :
    Calls Tryd.prog 80 #[.int .i64 a, .int .i64 b] w fun e w' => e = .returned (.int .i64 (cmpI a b)) ∧ w = w' := by
  by_cases h1 : a < b
  · simp only [cmpI, if_pos h1]
    go_enter Tryd.func80, Tryd.ntmps80
    go_wp2_with (go_at_call 90; refine (cmp_isNaNI _ _).mono ?_; rintro e w' ⟨rfl, rfl⟩)
    go_ret
    exact ⟨rfl, rfl⟩
  · by_cases h2 : b < a
    · have h3 : ¬ a = b := by omega
      simp only [cmpI, if_neg h1, if_neg h3]
      clear h3
      go_enter Tryd.func80, Tryd.ntmps80
      go_wp2_with (go_at_call 90; refine (cmp_isNaNI _ _).mono ?_; rintro e w' ⟨rfl, rfl⟩)
      go_ret
      exact ⟨rfl, rfl⟩
    · obtain rfl : a = b := by omega
      have e : cmpI a a = 0 := by simp [cmpI]
      rw [e]
      go_enter Tryd.func80, Tryd.ntmps80
      go_wp2_with (go_at_call 90; refine (cmp_isNaNI _ _).mono ?_; rintro e w' ⟨rfl, rfl⟩)
      go_ret
      exact ⟨rfl, rfl⟩

theorem cmp_isNaNU (x : Int) (w : World) :
    Calls Tryd.prog 91 #[.int .u64 x] w fun e w' => e = .returned (.bool false) ∧ w = w' := by
  go_enter Tryd.func91, Tryd.ntmps91
  go_wp2
  go_ret
  exact ⟨by simp, rfl⟩
set_option maxHeartbeats 1000000 in
theorem cmp_CompareU (a b : Int) (w : World) :
    Calls Tryd.prog 81 #[.int .u64 a, .int .u64 b] w fun e w' => e = .returned (.int .i64 (cmpI a b)) ∧ w = w' := by
  by_cases h1 : a < b
  · simp only [cmpI, if_pos h1]
    go_enter Tryd.func81, Tryd.ntmps81
    go_wp2_with (go_at_call 91; refine (cmp_isNaNU _ _).mono ?_; rintro e w' ⟨rfl, rfl⟩)
    go_ret
    exact ⟨rfl, rfl⟩
  · by_cases h2 : b < a
    · have h3 : ¬ a = b := by omega
      simp only [cmpI, if_neg h1, if_neg h3]
      clear h3
      go_enter Tryd.func81, Tryd.ntmps81
      go_wp2_with (go_at_call 91; refine (cmp_isNaNU _ _).mono ?_; rintro e w' ⟨rfl, rfl⟩)
      go_ret
      exact ⟨rfl, rfl⟩
    · obtain rfl : a = b := by omega
      have e : cmpI a a = 0 := by simp [cmpI]
      rw [e]
      go_enter Tryd.func81, Tryd.ntmps81
      go_wp2_with (go_at_call 91; refine (cmp_isNaNU _ _).mono ?_; rintro e w' ⟨rfl, rfl⟩)
      go_ret
      exact ⟨rfl, rfl⟩

def orI (x y : Int) : Int := if x = 0 then y else x
set_option maxHeartbeats 1000000 in
theorem cmp_Or (x y : Int) (b : Nat) (w : World) (c0 : w.cell? ⟨b, 0, none⟩ = some (.int .i64 x)) (c1 : w.cell? ⟨b, 1, none⟩ = some (.int .i64 y)) :
    Calls Tryd.prog 79 #[.slice (some ⟨b, 0, none⟩) 2 2] w fun e w' => e = .returned (.int .i64 (orI x y)) ∧ w = w' := by
  unfold orI
  by_cases h1 : x = 0
  · rw [if_pos h1]
    subst h1
    by_cases h2 : y = 0
    · subst h2
      go_enter Tryd.func79, Tryd.ntmps79
      go_wp2
      refine wp_loop_rounds 3 ?_
      rw [rounds_succ]
      go_wp2
      rw [rounds_succ]
      go_wp2
      rw [rounds_succ]
      go_wp2
      go_ret
      exact ⟨rfl, rfl⟩
    · go_enter Tryd.func79, Tryd.ntmps79
      go_wp2
      refine wp_loop_rounds 3 ?_
      rw [rounds_succ]
      go_wp2
      rw [rounds_succ]
      go_wp2
      go_ret
      exact ⟨rfl, rfl⟩
  · rw [if_neg h1]
    go_enter Tryd.func79, Tryd.ntmps79
    go_wp2
    refine wp_loop_rounds 3 ?_
    rw [rounds_succ]
    go_wp2
    go_ret
    exact ⟨rfl, rfl⟩

theorem cmp_wide (a b : Int) : orI (cmpI (whi a) (whi b)) (cmpI (wlo a) (wlo b)) = cmpI a b := by
  unfold orI cmpI whi wlo
  repeat' split
  all_goals omega

set_option maxRecDepth 100000 in
set_option maxHeartbeats 1000000 in
theorem wide_Cmp (a b : Int) (w : World) :
    Calls Tryd.prog 48 #[.agg #[.int .i64 (whi a), .int .u64 (wlo a)], .agg #[.int .i64 (whi b), .int .u64 (wlo b)]] w fun e w' => e = .returned (.int .i64 (cmpI a b)) ∧ Below w.heap.size w w' := by
  have E := Lib.hid (cmp_wide a b)
  go_enter Tryd.func48, Tryd.ntmps48
  go_wp2
  go_region_held3 (fun w' => w'.cell? ⟨w.heap.size, 0, none⟩ = some (.int .i64 (whi a)) ∧ w'.cell? ⟨w.heap.size, 1, none⟩ = some (.int .u64 (wlo a)) ∧ w'.cell? ⟨w.heap.size + 1, 0, none⟩ = some (.int .i64 (whi b)) ∧ w'.cell? ⟨w.heap.size + 1, 1, none⟩ = some (.int .u64 (wlo b))) (first | (simp [go_sem]; done) | (simp [go_sem, *]; done))
    (first
      | (go_at_call 80; refine (cmp_CompareI _ _ _).mono ?_; rintro e w' ⟨rfl, rfl⟩)
      | (go_at_call 81; refine (cmp_CompareU _ _ _).mono ?_; rintro e w' ⟨rfl, rfl⟩)
      | (go_at_call 79; refine (cmp_Or (cmpI (whi a) (whi b)) (cmpI (wlo a) (wlo b)) _ _ ?_ ?_).mono ?_; exact (cell_new_drew _ _ _ _ _ (by simp)).trans rfl; exact (cell_new_drew _ _ _ _ _ (by simp)).trans rfl; rintro e w' ⟨rfl, rfl⟩))
  go_wp2
  go_ret
  exact ⟨ret_int E.out, (by repeat (first | exact Below.refl _ _ | assumption | refine bl_alloc ?_ _ | refine bl_drewN ?_ _ | refine bl_drew ?_ | refine bl_set ?_ (by first | (simp; done) | (simp; omega) | (dsimp only; omega)) _ | refine bl_then ?_ (by assumption)))⟩
end Go.Proofs.YtgodfbhjfhdihaaDoor
