/- Walks of the reference of layer 2 (fix). -/
import Derived.Test.YtgodfbhjfhdihaaDoorFp
import Derived.Test.YtgodfbhjfhdihaaDoorRu
import Derived.Test.YtgodfbhjfhdihaaDoorRp
import Derived.Test.YtgodfbhjfhdihaaDoorSu
namespace Go.Proofs.YtgodfbhjfhdihaaDoor
open Go.RowKit
set_option linter.unusedSimpArgs false
set_option linter.unusedVariables false
attribute [local go_sem] nlt2 nlt3 nlt4 nlt5 nlt6 nlt7 nlt8 nlt9 nlt10 nlt11 nlt12
attribute [local go_sem] field_D

set_option maxHeartbeats 400000 in
theorem ref2_Fits (x : Int) (w : World) : Calls Tryd.prog 30 #[.int .i64 x] w fun e w' => e = .returned (.bool (fitB x)) ∧ w = w' := by
  cases h : fitB x
  · have k := fitB_false.1 h
    clear h
    rcases Int.lt_or_le x (-288230376151711744) with k1 | k1
    · clear k
      go_enter Tryd.func30, Tryd.ntmps30
      go_wp2
      go_ret
      exact ⟨by first | rfl | exact ret_bool (by simp; omega), rfl⟩
    · have k2 : 288230376151711744 < x := by omega
      clear k
      go_enter Tryd.func30, Tryd.ntmps30
      go_wp2
      go_ret
      exact ⟨by first | rfl | exact ret_bool (by simp; omega), rfl⟩
  · obtain ⟨k1, k2⟩ := fitB_true.1 h
    clear h
    go_enter Tryd.func30, Tryd.ntmps30
    go_wp2
    go_ret
    exact ⟨by first | rfl | exact ret_bool (by simp; omega), rfl⟩
theorem fit_err {z : Int} : (fitB z = true → fitI z = z ∧ errI z = 0) ∧ (fitB z = false → I64 z → fitI z = z ∧ errI z = 0) ∧ (¬ I64 z → fitI z = 0 ∧ errI z = 3) :=
  ⟨fun h => by have := fitB_i64 h; simp [fitI, errI, this], fun _ h => by simp [fitI, errI, h], fun h => by simp [fitI, errI, h]⟩
set_option maxRecDepth 100000 in
set_option maxHeartbeats 2000000 in
theorem ref2_To (z : Int) (A : Option Addr) (c : Nat) (hz : nd z ≤ 5000) (w : World) (h : RB w A c z) :
    Calls Tryd.prog 69 #[.agg #[.bool (sg z), .slice A (nd z) c]] w fun e w' => e = .returned (.tuple #[.int .i64 (toV z), .int .i64 (toE z)]) ∧ Below w.heap.size w w' := by
  have S0 := Asd.mk ((St.refl w).big h)
  clear h
  cases h3 : fitB z
  · rw [(to_not h3).1, (to_not h3).2]
    by_cases h4 : I64 z
    · have HZ := Asd.mk (fit_err.2.1 h3 h4)
      clear h4
      go_enter Tryd.func69, Tryd.ntmps69
      go_wp2_with (first
          | (go_at_call 55; replace S0 := S0; refine (ref_Int z A c hz _ (by exact RB.below (S0.out.rb 0 rfl) (by with_reducible repeat (first | exact Below.refl _ _ | refine bl_alloc ?_ _ | refine bl_drewN ?_ _ | refine bl_drew ?_)))).mono ?_; rintro e w1 ⟨rfl, hb1⟩; rw [HZ.out.1, HZ.out.2]; apply St.step (w0 := w) (hb := hb1); (focus (with_reducible repeat (first | exact S0.out | apply St.lay | apply St.drew | apply St.drewN))); intro S1; (try simp only [sz_alloc, sz_drew, sz_drewN] at S1); clear hb1 S0; (try clear C0); have C1 := S1.out.facts; simp only [facts, apart, cellsAt, Nat.zero_add, Nat.reduceAdd, and_true] at C1)
          | (go_at_call 30; refine (ref2_Fits _ _).mono ?_; rintro e w' ⟨rfl, rfl⟩))
      have HBf := S1.out.bl
      go_ret2
      exact ⟨rfl, (by repeat (first | exact Below.refl _ _ | assumption | refine bl_alloc ?_ _ | refine bl_drewN ?_ _ | refine bl_drew ?_ | refine bl_set ?_ (by first | (simp; done) | (simp; omega) | (dsimp only; omega)) _ | refine bl_then ?_ (by assumption)))⟩
    · have HZ := Asd.mk (fit_err.2.2 h4)
      clear h4
      go_enter Tryd.func69, Tryd.ntmps69
      go_wp2_with (first
          | (go_at_call 55; replace S0 := S0; refine (ref_Int z A c hz _ (by exact RB.below (S0.out.rb 0 rfl) (by with_reducible repeat (first | exact Below.refl _ _ | refine bl_alloc ?_ _ | refine bl_drewN ?_ _ | refine bl_drew ?_)))).mono ?_; rintro e w1 ⟨rfl, hb1⟩; rw [HZ.out.1, HZ.out.2]; apply St.step (w0 := w) (hb := hb1); (focus (with_reducible repeat (first | exact S0.out | apply St.lay | apply St.drew | apply St.drewN))); intro S1; (try simp only [sz_alloc, sz_drew, sz_drewN] at S1); clear hb1 S0; (try clear C0); have C1 := S1.out.facts; simp only [facts, apart, cellsAt, Nat.zero_add, Nat.reduceAdd, and_true] at C1)
          | (go_at_call 30; refine (ref2_Fits _ _).mono ?_; rintro e w' ⟨rfl, rfl⟩))
      have HBf := S1.out.bl
      go_ret2
      exact ⟨rfl, (by repeat (first | exact Below.refl _ _ | assumption | refine bl_alloc ?_ _ | refine bl_drewN ?_ _ | refine bl_drew ?_ | refine bl_set ?_ (by first | (simp; done) | (simp; omega) | (dsimp only; omega)) _ | refine bl_then ?_ (by assumption)))⟩
  · rw [(to_fit h3).1, (to_fit h3).2]
    have HZ := Asd.mk (fit_err.1 h3)
    go_enter Tryd.func69, Tryd.ntmps69
    go_wp2_with (first
        | (go_at_call 55; replace S0 := S0; refine (ref_Int z A c hz _ (by exact RB.below (S0.out.rb 0 rfl) (by with_reducible repeat (first | exact Below.refl _ _ | refine bl_alloc ?_ _ | refine bl_drewN ?_ _ | refine bl_drew ?_)))).mono ?_; rintro e w1 ⟨rfl, hb1⟩; rw [HZ.out.1, HZ.out.2]; apply St.step (w0 := w) (hb := hb1); (focus (with_reducible repeat (first | exact S0.out | apply St.lay | apply St.drew | apply St.drewN))); intro S1; (try simp only [sz_alloc, sz_drew, sz_drewN] at S1); clear hb1 S0; (try clear C0); have C1 := S1.out.facts; simp only [facts, apart, cellsAt, Nat.zero_add, Nat.reduceAdd, and_true] at C1)
        | (go_at_call 30; refine (ref2_Fits _ _).mono ?_; rintro e w' ⟨rfl, rfl⟩))
    have HBf := S1.out.bl
    go_ret2
    exact ⟨rfl, (by repeat (first | exact Below.refl _ _ | assumption | refine bl_alloc ?_ _ | refine bl_drewN ?_ _ | refine bl_drew ?_ | refine bl_set ?_ (by first | (simp; done) | (simp; omega) | (dsimp only; omega)) _ | refine bl_then ?_ (by assumption)))⟩

theorem nd_prod {a b : Int} (h : fitB a = true) (h2 : fitB b = true) : nd (a * b) ≤ 8 := by have h1 := nd_i64 (fitB_i64 h); have h2 := nd_i64 (fitB_i64 h2); have := nd_mul a b; omega
theorem nd_up {a : Int} (h : fitB a = true) : nd (a * pow2 40) ≤ 8 := by have h1 := nd_i64 (fitB_i64 h); have h2 := nd_pow2 40; have := nd_mul a (pow2 40); omega
theorem nd_ev (x : Int) {b : Int} (hb : b ≠ 0) : nd (ev x b) ≤ nd x + 1 := by
  have hk : (ev x b).natAbs ≤ x.natAbs + 1 := by
    have key : ∀ y d : Int, 0 < d → (evP y d).natAbs ≤ y.natAbs + 1 := by
      intro y d hd
      have h1 := div_abs (a := y) hd
      unfold evP; split <;> omega
    unfold ev
    split
    · have := key (-x) (-b) (by omega); omega
    · exact key x b (by omega)
  have h2 := nd_add (x.natAbs : Int) 1
  have h3 : nd (ev x b) ≤ nd ((x.natAbs : Int) + 1) := nd_mono (by omega)
  have h4 : nd (x.natAbs : Int) = nd x := by unfold nd dg; rw [Int.natAbs_natCast]
  have h5 : nd 1 ≤ 1 := nd_le_of (by decide)
  by_cases hx : nd x = 0
  · have := (nd_zero_iff x).1 hx
    subst this
    have : (ev 0 b).natAbs ≤ 1 := by simpa using hk
    have h6 : nd (ev 0 b) ≤ nd 1 := nd_mono (by omega)
    omega
  · omega
theorem mulZ_ev (a b : Int) : mulZ a b = ev (a * b) (pow2 40) := by have := pow2_pos 40; unfold mulZ ev; rw [if_neg (by omega)]
set_option maxRecDepth 100000 in
set_option maxHeartbeats 2000000 in
theorem ref2_Add (a b : Int) (w : World) :
    Calls Tryd.prog 25 #[.int .i64 a, .int .i64 b] w fun e w' => e = .returned (.tuple #[.int .i64 (bothV a b (a + b)), .int .i64 (bothE a b (a + b))]) ∧ Below w.heap.size w w' := by
  have S0 := Asd.mk (St.refl w)
  cases h1 : fitB a
  · rw [(both_no1 h1).1, (both_no1 h1).2]
    go_enter Tryd.func25, Tryd.ntmps25
    go_wp2_with (go_at_call 30; refine (ref2_Fits _ _).mono ?_; rintro e w' ⟨rfl, rfl⟩)
    go_ret2
    exact ⟨rfl, (by repeat (first | exact Below.refl _ _ | assumption | refine bl_alloc ?_ _ | refine bl_drewN ?_ _ | refine bl_drew ?_ | refine bl_set ?_ (by first | (simp; done) | (simp; omega) | (dsimp only; omega)) _ | refine bl_then ?_ (by assumption)))⟩
  · cases h2 : fitB b
    · rw [(both_no2 h2).1, (both_no2 h2).2]
      go_enter Tryd.func25, Tryd.ntmps25
      go_wp2_with (go_at_call 30; refine (ref2_Fits _ _).mono ?_; rintro e w' ⟨rfl, rfl⟩)
      go_ret2
      exact ⟨rfl, (by repeat (first | exact Below.refl _ _ | assumption | refine bl_alloc ?_ _ | refine bl_drewN ?_ _ | refine bl_drew ?_ | refine bl_set ?_ (by first | (simp; done) | (simp; omega) | (dsimp only; omega)) _ | refine bl_then ?_ (by assumption)))⟩
    · rw [(both_yes h1 h2).1, (both_yes h1 h2).2]
      have I1 := Asd.mk (fitB_i64 h1)
      have I2 := Asd.mk (fitB_i64 h2)
      have n1 : Asd (nd a ≤ 10000) := ⟨by have := nd_i64 I1.out; omega⟩
      have n2 : Asd (nd b ≤ 10000) := ⟨by have := nd_i64 I2.out; omega⟩
      have n3 : Asd (nd (a + b) ≤ 5000) := ⟨by have k1 := nd_i64 I1.out; have k2 := nd_i64 I2.out; have k3 := nd_add a (b); omega⟩
      go_enter Tryd.func25, Tryd.ntmps25
      go_wp2_with (first
          | (go_at_call 69; replace S3 := S3; refine (ref2_To (a + b) A3 c3 n3.out _ (by exact RB.below (S3.out.rb 0 rfl) (by with_reducible repeat (first | exact Below.refl _ _ | refine bl_alloc ?_ _ | refine bl_drewN ?_ _ | refine bl_drew ?_)))).mono ?_; rintro e w4 ⟨rfl, hb4⟩; apply St.step (w0 := w) (hb := hb4); (focus (with_reducible repeat (first | exact S3.out | apply St.lay | apply St.drew | apply St.drewN))); intro S4; (try simp only [sz_alloc, sz_drew, sz_drewN] at S4); clear hb4 S3; (try clear C3); have C4 := S4.out.facts; simp only [facts, apart, cellsAt, Nat.zero_add, Nat.reduceAdd, and_true] at C4)
          | (go_at_call 46; replace S2 := S2; refine (ref_Add a b A1 A2 c1 c2 n1.out n2.out _ (by exact RB.below (S2.out.rb 1 rfl) (by with_reducible repeat (first | exact Below.refl _ _ | refine bl_alloc ?_ _ | refine bl_drewN ?_ _ | refine bl_drew ?_))) (by exact RB.below (S2.out.rb 0 rfl) (by with_reducible repeat (first | exact Below.refl _ _ | refine bl_alloc ?_ _ | refine bl_drewN ?_ _ | refine bl_drew ?_)))).mono ?_; rintro e w3 ⟨A3, c3, rfl, hr3, hb3⟩; apply St.stepB (w0 := w) (hb := hb3) (hr := hr3); (focus (with_reducible repeat (first | exact S2.out | apply St.lay | apply St.drew | apply St.drewN))); intro S3; (try simp only [sz_alloc, sz_drew, sz_drewN] at S3); clear hr3 hb3 S2; (try clear C2); have C3 := S3.out.facts; simp only [facts, apart, cellsAt, Nat.zero_add, Nat.reduceAdd, and_true] at C3)
          | (go_at_call 41; replace S1 := S1; refine (ref_Of b I2.out _).mono ?_; rintro e w2 ⟨A2, c2, rfl, hr2, hb2⟩; apply St.stepB (w0 := w) (hb := hb2) (hr := hr2); (focus (with_reducible repeat (first | exact S1.out | apply St.lay | apply St.drew | apply St.drewN))); intro S2; (try simp only [sz_alloc, sz_drew, sz_drewN] at S2); clear hr2 hb2 S1; (try clear C1); have C2 := S2.out.facts; simp only [facts, apart, cellsAt, Nat.zero_add, Nat.reduceAdd, and_true] at C2)
          | (go_at_call 41; replace S0 := S0; refine (ref_Of a I1.out _).mono ?_; rintro e w1 ⟨A1, c1, rfl, hr1, hb1⟩; apply St.stepB (w0 := w) (hb := hb1) (hr := hr1); (focus (with_reducible repeat (first | exact S0.out | apply St.lay | apply St.drew | apply St.drewN))); intro S1; (try simp only [sz_alloc, sz_drew, sz_drewN] at S1); clear hr1 hb1 S0; (try clear C0); have C1 := S1.out.facts; simp only [facts, apart, cellsAt, Nat.zero_add, Nat.reduceAdd, and_true] at C1)
          | (go_at_call 30; refine (ref2_Fits _ _).mono ?_; rintro e w' ⟨rfl, rfl⟩))
      have HBf := S4.out.bl
      go_ret2
      exact ⟨rfl, (by repeat (first | exact Below.refl _ _ | assumption | refine bl_alloc ?_ _ | refine bl_drewN ?_ _ | refine bl_drew ?_ | refine bl_set ?_ (by first | (simp; done) | (simp; omega) | (dsimp only; omega)) _ | refine bl_then ?_ (by assumption)))⟩
set_option maxRecDepth 100000 in
set_option maxHeartbeats 2000000 in
theorem ref2_Sub (a b : Int) (w : World) :
    Calls Tryd.prog 27 #[.int .i64 a, .int .i64 b] w fun e w' => e = .returned (.tuple #[.int .i64 (bothV a b (a - b)), .int .i64 (bothE a b (a - b))]) ∧ Below w.heap.size w w' := by
  have S0 := Asd.mk (St.refl w)
  cases h1 : fitB a
  · rw [(both_no1 h1).1, (both_no1 h1).2]
    go_enter Tryd.func27, Tryd.ntmps27
    go_wp2_with (go_at_call 30; refine (ref2_Fits _ _).mono ?_; rintro e w' ⟨rfl, rfl⟩)
    go_ret2
    exact ⟨rfl, (by repeat (first | exact Below.refl _ _ | assumption | refine bl_alloc ?_ _ | refine bl_drewN ?_ _ | refine bl_drew ?_ | refine bl_set ?_ (by first | (simp; done) | (simp; omega) | (dsimp only; omega)) _ | refine bl_then ?_ (by assumption)))⟩
  · cases h2 : fitB b
    · rw [(both_no2 h2).1, (both_no2 h2).2]
      go_enter Tryd.func27, Tryd.ntmps27
      go_wp2_with (go_at_call 30; refine (ref2_Fits _ _).mono ?_; rintro e w' ⟨rfl, rfl⟩)
      go_ret2
      exact ⟨rfl, (by repeat (first | exact Below.refl _ _ | assumption | refine bl_alloc ?_ _ | refine bl_drewN ?_ _ | refine bl_drew ?_ | refine bl_set ?_ (by first | (simp; done) | (simp; omega) | (dsimp only; omega)) _ | refine bl_then ?_ (by assumption)))⟩
    · rw [(both_yes h1 h2).1, (both_yes h1 h2).2]
      have I1 := Asd.mk (fitB_i64 h1)
      have I2 := Asd.mk (fitB_i64 h2)
      have n1 : Asd (nd a ≤ 10000) := ⟨by have := nd_i64 I1.out; omega⟩
      have n2 : Asd (nd b ≤ 10000) := ⟨by have := nd_i64 I2.out; omega⟩
      have n3 : Asd (nd (a - b) ≤ 5000) := ⟨by have k1 := nd_i64 I1.out; have k2 := nd_i64 I2.out; have k3 := nd_add a (-b); rw [nd_neg] at k3; rw [show a - b = a + -b from by omega]; omega⟩
      go_enter Tryd.func27, Tryd.ntmps27
      go_wp2_with (first
          | (go_at_call 69; replace S3 := S3; refine (ref2_To (a - b) A3 c3 n3.out _ (by exact RB.below (S3.out.rb 0 rfl) (by with_reducible repeat (first | exact Below.refl _ _ | refine bl_alloc ?_ _ | refine bl_drewN ?_ _ | refine bl_drew ?_)))).mono ?_; rintro e w4 ⟨rfl, hb4⟩; apply St.step (w0 := w) (hb := hb4); (focus (with_reducible repeat (first | exact S3.out | apply St.lay | apply St.drew | apply St.drewN))); intro S4; (try simp only [sz_alloc, sz_drew, sz_drewN] at S4); clear hb4 S3; (try clear C3); have C4 := S4.out.facts; simp only [facts, apart, cellsAt, Nat.zero_add, Nat.reduceAdd, and_true] at C4)
          | (go_at_call 47; replace S2 := S2; refine (ref_Sub a b A1 A2 c1 c2 n1.out n2.out _ (by exact RB.below (S2.out.rb 1 rfl) (by with_reducible repeat (first | exact Below.refl _ _ | refine bl_alloc ?_ _ | refine bl_drewN ?_ _ | refine bl_drew ?_))) (by exact RB.below (S2.out.rb 0 rfl) (by with_reducible repeat (first | exact Below.refl _ _ | refine bl_alloc ?_ _ | refine bl_drewN ?_ _ | refine bl_drew ?_)))).mono ?_; rintro e w3 ⟨A3, c3, rfl, hr3, hb3⟩; apply St.stepB (w0 := w) (hb := hb3) (hr := hr3); (focus (with_reducible repeat (first | exact S2.out | apply St.lay | apply St.drew | apply St.drewN))); intro S3; (try simp only [sz_alloc, sz_drew, sz_drewN] at S3); clear hr3 hb3 S2; (try clear C2); have C3 := S3.out.facts; simp only [facts, apart, cellsAt, Nat.zero_add, Nat.reduceAdd, and_true] at C3)
          | (go_at_call 41; replace S1 := S1; refine (ref_Of b I2.out _).mono ?_; rintro e w2 ⟨A2, c2, rfl, hr2, hb2⟩; apply St.stepB (w0 := w) (hb := hb2) (hr := hr2); (focus (with_reducible repeat (first | exact S1.out | apply St.lay | apply St.drew | apply St.drewN))); intro S2; (try simp only [sz_alloc, sz_drew, sz_drewN] at S2); clear hr2 hb2 S1; (try clear C1); have C2 := S2.out.facts; simp only [facts, apart, cellsAt, Nat.zero_add, Nat.reduceAdd, and_true] at C2)
          | (go_at_call 41; replace S0 := S0; refine (ref_Of a I1.out _).mono ?_; rintro e w1 ⟨A1, c1, rfl, hr1, hb1⟩; apply St.stepB (w0 := w) (hb := hb1) (hr := hr1); (focus (with_reducible repeat (first | exact S0.out | apply St.lay | apply St.drew | apply St.drewN))); intro S1; (try simp only [sz_alloc, sz_drew, sz_drewN] at S1); clear hr1 hb1 S0; (try clear C0); have C1 := S1.out.facts; simp only [facts, apart, cellsAt, Nat.zero_add, Nat.reduceAdd, and_true] at C1)
          | (go_at_call 30; refine (ref2_Fits _ _).mono ?_; rintro e w' ⟨rfl, rfl⟩))
      have HBf := S4.out.bl
      go_ret2
      exact ⟨rfl, (by repeat (first | exact Below.refl _ _ | assumption | refine bl_alloc ?_ _ | refine bl_drewN ?_ _ | refine bl_drew ?_ | refine bl_set ?_ (by first | (simp; done) | (simp; omega) | (dsimp only; omega)) _ | refine bl_then ?_ (by assumption)))⟩
set_option maxRecDepth 100000 in
set_option maxHeartbeats 2000000 in
theorem ref2_Mul (a b : Int) (w : World) :
    Calls Tryd.prog 57 #[.int .i64 a, .int .i64 b] w fun e w' => e = .returned (.tuple #[.int .i64 (bothV a b (mulZ a b)), .int .i64 (bothE a b (mulZ a b))]) ∧ Below w.heap.size w w' := by
  have S0 := Asd.mk (St.refl w)
  cases h1 : fitB a
  · rw [(both_no1 h1).1, (both_no1 h1).2]
    go_enter Tryd.func57, Tryd.ntmps57
    go_wp2_with (go_at_call 30; refine (ref2_Fits _ _).mono ?_; rintro e w' ⟨rfl, rfl⟩)
    go_ret2
    exact ⟨rfl, (by repeat (first | exact Below.refl _ _ | assumption | refine bl_alloc ?_ _ | refine bl_drewN ?_ _ | refine bl_drew ?_ | refine bl_set ?_ (by first | (simp; done) | (simp; omega) | (dsimp only; omega)) _ | refine bl_then ?_ (by assumption)))⟩
  · cases h2 : fitB b
    · rw [(both_no2 h2).1, (both_no2 h2).2]
      go_enter Tryd.func57, Tryd.ntmps57
      go_wp2_with (go_at_call 30; refine (ref2_Fits _ _).mono ?_; rintro e w' ⟨rfl, rfl⟩)
      go_ret2
      exact ⟨rfl, (by repeat (first | exact Below.refl _ _ | assumption | refine bl_alloc ?_ _ | refine bl_drewN ?_ _ | refine bl_drew ?_ | refine bl_set ?_ (by first | (simp; done) | (simp; omega) | (dsimp only; omega)) _ | refine bl_then ?_ (by assumption)))⟩
    · rw [(both_yes h1 h2).1, (both_yes h1 h2).2]
      have I1 := Asd.mk (fitB_i64 h1)
      have I2 := Asd.mk (fitB_i64 h2)
      have n1 : Asd (nd a ≤ 10000) := ⟨by have := nd_i64 I1.out; omega⟩
      have n2 : Asd (nd b ≤ 10000) := ⟨by have := nd_i64 I2.out; omega⟩
      have n3 : Asd (nd (a * b) ≤ 2000) := ⟨by have := nd_prod h1 h2; omega⟩
      have n4 : Asd (nd (pow2 40) ≤ 2000) := ⟨by rw [nd_pow2]; omega⟩
      have P0 : Asd (pow2 40 ≠ 0) := ⟨by have := pow2_pos 40; omega⟩
      have n5 : Asd (nd (ev (a * b) (pow2 40)) ≤ 5000) := ⟨by have := nd_ev (a * b) P0.out; have := n3.out; omega⟩
      rw [mulZ_ev]
      go_enter Tryd.func57, Tryd.ntmps57
      go_wp2_with (first
          | (go_at_call 69; replace S5 := S5; refine (ref2_To (ev (a * b) (pow2 40)) A5 c5 n5.out _ (by exact RB.below (S5.out.rb 0 rfl) (by with_reducible repeat (first | exact Below.refl _ _ | refine bl_alloc ?_ _ | refine bl_drewN ?_ _ | refine bl_drew ?_)))).mono ?_; rintro e w6 ⟨rfl, hb6⟩; apply St.step (w0 := w) (hb := hb6); (focus (with_reducible repeat (first | exact S5.out | apply St.lay | apply St.drew | apply St.drewN))); intro S6; (try simp only [sz_alloc, sz_drew, sz_drewN] at S6); clear hb6 S5; (try clear C5); have C6 := S6.out.facts; simp only [facts, apart, cellsAt, Nat.zero_add, Nat.reduceAdd, and_true] at C6)
          | (go_at_call 44; replace S4 := S4; refine (ref_Even_any (a * b) (pow2 40) A3 A4 c3 c4 P0.out n3.out n4.out _ (by exact RB.below (S4.out.rb 1 rfl) (by with_reducible repeat (first | exact Below.refl _ _ | refine bl_alloc ?_ _ | refine bl_drewN ?_ _ | refine bl_drew ?_))) (by exact RB.below (S4.out.rb 0 rfl) (by with_reducible repeat (first | exact Below.refl _ _ | refine bl_alloc ?_ _ | refine bl_drewN ?_ _ | refine bl_drew ?_)))).mono ?_; rintro e w5 ⟨A5, c5, rfl, hr5, hb5⟩; apply St.stepB (w0 := w) (hb := hb5) (hr := hr5); (focus (with_reducible repeat (first | exact S4.out | apply St.lay | apply St.drew | apply St.drewN))); intro S5; (try simp only [sz_alloc, sz_drew, sz_drewN] at S5); clear hr5 hb5 S4; (try clear C4); have C5 := S5.out.facts; simp only [facts, apart, cellsAt, Nat.zero_add, Nat.reduceAdd, and_true] at C5)
          | (go_at_call 53; replace S3 := S3; refine (ref_Power 40 (by omega) _).mono ?_; rintro e w4 ⟨A4, c4, rfl, hr4, hb4⟩; apply St.stepB (w0 := w) (hb := hb4) (hr := hr4); (focus (with_reducible repeat (first | exact S3.out | apply St.lay | apply St.drew | apply St.drewN))); intro S4; (try simp only [sz_alloc, sz_drew, sz_drewN] at S4); clear hr4 hb4 S3; (try clear C3); have C4 := S4.out.facts; simp only [facts, apart, cellsAt, Nat.zero_add, Nat.reduceAdd, and_true] at C4)
          | (go_at_call 52; replace S2 := S2; refine (ref_Mul a b A1 A2 c1 c2 n1.out n2.out _ (by exact RB.below (S2.out.rb 1 rfl) (by with_reducible repeat (first | exact Below.refl _ _ | refine bl_alloc ?_ _ | refine bl_drewN ?_ _ | refine bl_drew ?_))) (by exact RB.below (S2.out.rb 0 rfl) (by with_reducible repeat (first | exact Below.refl _ _ | refine bl_alloc ?_ _ | refine bl_drewN ?_ _ | refine bl_drew ?_)))).mono ?_; rintro e w3 ⟨A3, c3, rfl, hr3, hb3⟩; apply St.stepB (w0 := w) (hb := hb3) (hr := hr3); (focus (with_reducible repeat (first | exact S2.out | apply St.lay | apply St.drew | apply St.drewN))); intro S3; (try simp only [sz_alloc, sz_drew, sz_drewN] at S3); clear hr3 hb3 S2; (try clear C2); have C3 := S3.out.facts; simp only [facts, apart, cellsAt, Nat.zero_add, Nat.reduceAdd, and_true] at C3)
          | (go_at_call 41; replace S1 := S1; refine (ref_Of b I2.out _).mono ?_; rintro e w2 ⟨A2, c2, rfl, hr2, hb2⟩; apply St.stepB (w0 := w) (hb := hb2) (hr := hr2); (focus (with_reducible repeat (first | exact S1.out | apply St.lay | apply St.drew | apply St.drewN))); intro S2; (try simp only [sz_alloc, sz_drew, sz_drewN] at S2); clear hr2 hb2 S1; (try clear C1); have C2 := S2.out.facts; simp only [facts, apart, cellsAt, Nat.zero_add, Nat.reduceAdd, and_true] at C2)
          | (go_at_call 41; replace S0 := S0; refine (ref_Of a I1.out _).mono ?_; rintro e w1 ⟨A1, c1, rfl, hr1, hb1⟩; apply St.stepB (w0 := w) (hb := hb1) (hr := hr1); (focus (with_reducible repeat (first | exact S0.out | apply St.lay | apply St.drew | apply St.drewN))); intro S1; (try simp only [sz_alloc, sz_drew, sz_drewN] at S1); clear hr1 hb1 S0; (try clear C0); have C1 := S1.out.facts; simp only [facts, apart, cellsAt, Nat.zero_add, Nat.reduceAdd, and_true] at C1)
          | (go_at_call 30; refine (ref2_Fits _ _).mono ?_; rintro e w' ⟨rfl, rfl⟩))
      have HBf := S6.out.bl
      go_ret2
      exact ⟨rfl, (by repeat (first | exact Below.refl _ _ | assumption | refine bl_alloc ?_ _ | refine bl_drewN ?_ _ | refine bl_drew ?_ | refine bl_set ?_ (by first | (simp; done) | (simp; omega) | (dsimp only; omega)) _ | refine bl_then ?_ (by assumption)))⟩
set_option maxRecDepth 100000 in
set_option maxHeartbeats 2000000 in
theorem ref2_Div (a b : Int) (w : World) :
    Calls Tryd.prog 59 #[.int .i64 a, .int .i64 b] w fun e w' => e = .returned (.tuple #[.int .i64 (divV a b (divZ a b)), .int .i64 (divE a b (divZ a b))]) ∧ Below w.heap.size w w' := by
  have S0 := Asd.mk (St.refl w)
  cases h1 : fitB a
  · rw [(div_no1 h1).1, (div_no1 h1).2]
    go_enter Tryd.func59, Tryd.ntmps59
    go_wp2_with (go_at_call 30; refine (ref2_Fits _ _).mono ?_; rintro e w' ⟨rfl, rfl⟩)
    go_ret2
    exact ⟨rfl, (by repeat (first | exact Below.refl _ _ | assumption | refine bl_alloc ?_ _ | refine bl_drewN ?_ _ | refine bl_drew ?_ | refine bl_set ?_ (by first | (simp; done) | (simp; omega) | (dsimp only; omega)) _ | refine bl_then ?_ (by assumption)))⟩
  · cases h2 : fitB b
    · rw [(div_no2 h2).1, (div_no2 h2).2]
      go_enter Tryd.func59, Tryd.ntmps59
      go_wp2_with (go_at_call 30; refine (ref2_Fits _ _).mono ?_; rintro e w' ⟨rfl, rfl⟩)
      go_ret2
      exact ⟨rfl, (by repeat (first | exact Below.refl _ _ | assumption | refine bl_alloc ?_ _ | refine bl_drewN ?_ _ | refine bl_drew ?_ | refine bl_set ?_ (by first | (simp; done) | (simp; omega) | (dsimp only; omega)) _ | refine bl_then ?_ (by assumption)))⟩
    · by_cases h0 : b = 0
      · subst h0
        rw [(div_zero h1).1, (div_zero h1).2]
        go_enter Tryd.func59, Tryd.ntmps59
        go_wp2_with (go_at_call 30; refine (ref2_Fits _ _).mono ?_; rintro e w' ⟨rfl, rfl⟩)
        go_ret2
        exact ⟨rfl, (by repeat (first | exact Below.refl _ _ | assumption | refine bl_alloc ?_ _ | refine bl_drewN ?_ _ | refine bl_drew ?_ | refine bl_set ?_ (by first | (simp; done) | (simp; omega) | (dsimp only; omega)) _ | refine bl_then ?_ (by assumption)))⟩
      · rw [(div_yes h1 h2 h0).1, (div_yes h1 h2 h0).2]
        have H0 := Asd.mk h0
        have q : (b == 0) = false := beq_eq_false_iff_ne.2 h0
        have I1 := Asd.mk (fitB_i64 h1)
        have I2 := Asd.mk (fitB_i64 h2)
        have n1 : Asd (nd a ≤ 10000) := ⟨by have := nd_i64 I1.out; omega⟩
        have n2 : Asd (nd b ≤ 10000) := ⟨by have := nd_i64 I2.out; omega⟩
        have n3 : Asd (nd (a * pow2 40) ≤ 2000) := ⟨by have := nd_up h1; omega⟩
        have n4 : Asd (nd (pow2 40) ≤ 10000) := ⟨by rw [nd_pow2]; omega⟩
        have n6 : Asd (nd b ≤ 2000) := ⟨by have := nd_i64 I2.out; omega⟩
        have n5 : Asd (nd (ev (a * pow2 40) b) ≤ 5000) := ⟨by have := nd_ev (a * pow2 40) h0; have := n3.out; omega⟩
        clear h0
        rw [show divZ a b = ev (a * pow2 40) b from rfl]
        go_enter Tryd.func59, Tryd.ntmps59
        go_wp2_with (first
            | (go_at_call 69; replace S5 := S5; refine (ref2_To (ev (a * pow2 40) b) A5 c5 n5.out _ (by exact RB.below (S5.out.rb 0 rfl) (by with_reducible repeat (first | exact Below.refl _ _ | refine bl_alloc ?_ _ | refine bl_drewN ?_ _ | refine bl_drew ?_)))).mono ?_; rintro e w6 ⟨rfl, hb6⟩; apply St.step (w0 := w) (hb := hb6); (focus (with_reducible repeat (first | exact S5.out | apply St.lay | apply St.drew | apply St.drewN))); intro S6; (try simp only [sz_alloc, sz_drew, sz_drewN] at S6); clear hb6 S5; (try clear C5); have C6 := S6.out.facts; simp only [facts, apart, cellsAt, Nat.zero_add, Nat.reduceAdd, and_true] at C6)
            | (go_at_call 44; replace S4 := S4; refine (ref_Even_any (a * pow2 40) b A3 A4 c3 c4 H0.out n3.out n6.out _ (by exact RB.below (S4.out.rb 1 rfl) (by with_reducible repeat (first | exact Below.refl _ _ | refine bl_alloc ?_ _ | refine bl_drewN ?_ _ | refine bl_drew ?_))) (by exact RB.below (S4.out.rb 0 rfl) (by with_reducible repeat (first | exact Below.refl _ _ | refine bl_alloc ?_ _ | refine bl_drewN ?_ _ | refine bl_drew ?_)))).mono ?_; rintro e w5 ⟨A5, c5, rfl, hr5, hb5⟩; apply St.stepB (w0 := w) (hb := hb5) (hr := hr5); (focus (with_reducible repeat (first | exact S4.out | apply St.lay | apply St.drew | apply St.drewN))); intro S5; (try simp only [sz_alloc, sz_drew, sz_drewN] at S5); clear hr5 hb5 S4; (try clear C4); have C5 := S5.out.facts; simp only [facts, apart, cellsAt, Nat.zero_add, Nat.reduceAdd, and_true] at C5)
            | (go_at_call 41; replace S3 := S3; refine (ref_Of b I2.out _).mono ?_; rintro e w4 ⟨A4, c4, rfl, hr4, hb4⟩; apply St.stepB (w0 := w) (hb := hb4) (hr := hr4); (focus (with_reducible repeat (first | exact S3.out | apply St.lay | apply St.drew | apply St.drewN))); intro S4; (try simp only [sz_alloc, sz_drew, sz_drewN] at S4); clear hr4 hb4 S3; (try clear C3); have C4 := S4.out.facts; simp only [facts, apart, cellsAt, Nat.zero_add, Nat.reduceAdd, and_true] at C4)
            | (go_at_call 52; replace S2 := S2; refine (ref_Mul a (pow2 40) A1 A2 c1 c2 n1.out n4.out _ (by exact RB.below (S2.out.rb 1 rfl) (by with_reducible repeat (first | exact Below.refl _ _ | refine bl_alloc ?_ _ | refine bl_drewN ?_ _ | refine bl_drew ?_))) (by exact RB.below (S2.out.rb 0 rfl) (by with_reducible repeat (first | exact Below.refl _ _ | refine bl_alloc ?_ _ | refine bl_drewN ?_ _ | refine bl_drew ?_)))).mono ?_; rintro e w3 ⟨A3, c3, rfl, hr3, hb3⟩; apply St.stepB (w0 := w) (hb := hb3) (hr := hr3); (focus (with_reducible repeat (first | exact S2.out | apply St.lay | apply St.drew | apply St.drewN))); intro S3; (try simp only [sz_alloc, sz_drew, sz_drewN] at S3); clear hr3 hb3 S2; (try clear C2); have C3 := S3.out.facts; simp only [facts, apart, cellsAt, Nat.zero_add, Nat.reduceAdd, and_true] at C3)
            | (go_at_call 53; replace S1 := S1; refine (ref_Power 40 (by omega) _).mono ?_; rintro e w2 ⟨A2, c2, rfl, hr2, hb2⟩; apply St.stepB (w0 := w) (hb := hb2) (hr := hr2); (focus (with_reducible repeat (first | exact S1.out | apply St.lay | apply St.drew | apply St.drewN))); intro S2; (try simp only [sz_alloc, sz_drew, sz_drewN] at S2); clear hr2 hb2 S1; (try clear C1); have C2 := S2.out.facts; simp only [facts, apart, cellsAt, Nat.zero_add, Nat.reduceAdd, and_true] at C2)
            | (go_at_call 41; replace S0 := S0; refine (ref_Of a I1.out _).mono ?_; rintro e w1 ⟨A1, c1, rfl, hr1, hb1⟩; apply St.stepB (w0 := w) (hb := hb1) (hr := hr1); (focus (with_reducible repeat (first | exact S0.out | apply St.lay | apply St.drew | apply St.drewN))); intro S1; (try simp only [sz_alloc, sz_drew, sz_drewN] at S1); clear hr1 hb1 S0; (try clear C0); have C1 := S1.out.facts; simp only [facts, apart, cellsAt, Nat.zero_add, Nat.reduceAdd, and_true] at C1)
            | (go_at_call 30; refine (ref2_Fits _ _).mono ?_; rintro e w' ⟨rfl, rfl⟩))
        have HBf := S6.out.bl
        go_ret2
        exact ⟨rfl, (by repeat (first | exact Below.refl _ _ | assumption | refine bl_alloc ?_ _ | refine bl_drewN ?_ _ | refine bl_drew ?_ | refine bl_set ?_ (by first | (simp; done) | (simp; omega) | (dsimp only; omega)) _ | refine bl_then ?_ (by assumption)))⟩

end Go.Proofs.YtgodfbhjfhdihaaDoor
