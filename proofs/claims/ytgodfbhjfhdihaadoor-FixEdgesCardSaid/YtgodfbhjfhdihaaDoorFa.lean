/- Walks of layer 2 (fix): sums and differences, products and quotients. -/
import Derived.Test.YtgodfbhjfhdihaaDoorFp
import Derived.Test.YtgodfbhjfhdihaaDoorWl
import Derived.Test.YtgodfbhjfhdihaaDoorSt
namespace Go.Proofs.YtgodfbhjfhdihaaDoor
open Go.RowKit
set_option linter.unusedSimpArgs false
set_option linter.unusedVariables false
attribute [local go_sem] nlt2 nlt3 nlt4 nlt5 nlt6 nlt7 nlt8 nlt9 nlt10 nlt11 nlt12

theorem fit_dec (x : Int) : (decide (-288230376151711744 ≤ x) && decide (x ≤ 288230376151711744)) = fitB x := by unfold fitB; rw [Bool.eq_iff_iff]; simp
theorem ret2_i {k l : IntKind} {x y a b : Int} (h : x = a) (h2 : y = b) : Ending.returned (.tuple #[.int k x, .int l y]) = .returned (.tuple #[.int k a, .int l b]) := by rw [h, h2]
set_option maxHeartbeats 400000 in
theorem fix_Fits (x : Int) (w : World) : Calls Tryd.prog 29 #[.int .i64 x] w fun e w' => e = .returned (.bool (fitB x)) ∧ w = w' := by
  cases h : fitB x
  · have k := fitB_false.1 h
    clear h
    rcases Int.lt_or_le x (-288230376151711744) with k1 | k1
    · clear k
      go_enter Tryd.func29, Tryd.ntmps29
      go_wp2
      go_ret
      exact ⟨by first | rfl | exact ret_bool (by simp; omega), rfl⟩
    · have k2 : 288230376151711744 < x := by omega
      clear k
      go_enter Tryd.func29, Tryd.ntmps29
      go_wp2
      go_ret
      exact ⟨by first | rfl | exact ret_bool (by simp; omega), rfl⟩
  · obtain ⟨k1, k2⟩ := fitB_true.1 h
    clear h
    go_enter Tryd.func29, Tryd.ntmps29
    go_wp2
    go_ret
    exact ⟨by first | rfl | exact ret_bool (by simp; omega), rfl⟩

set_option maxHeartbeats 400000 in
theorem fix_Add1 (a b : Int) (h : fitB a = true) (h2 : fitB b = true) (w : World) : Calls Tryd.prog 67 #[.int .i64 a, .int .i64 b] w fun e w' => e = .returned (.tuple #[.int .i64 (a + b), .int .i64 0]) ∧ w = w' := by
  obtain ⟨k1, k2⟩ := fitB_true.1 h
  obtain ⟨k3, k4⟩ := fitB_true.1 h2
  clear h h2
  go_enter Tryd.func67, Tryd.ntmps67
  go_wp2
  go_ret2
  exact ⟨rfl, rfl⟩

set_option maxHeartbeats 400000 in
theorem fix_Sub1 (a b : Int) (h : fitB a = true) (h2 : fitB b = true) (w : World) : Calls Tryd.prog 70 #[.int .i64 a, .int .i64 b] w fun e w' => e = .returned (.tuple #[.int .i64 (a - b), .int .i64 0]) ∧ w = w' := by
  obtain ⟨k1, k2⟩ := fitB_true.1 h
  obtain ⟨k3, k4⟩ := fitB_true.1 h2
  clear h h2
  go_enter Tryd.func70, Tryd.ntmps70
  go_wp2
  go_ret2
  exact ⟨rfl, rfl⟩

set_option maxHeartbeats 400000 in
theorem fix_same (x : Int) (w : World) : Calls Tryd.prog 68 #[.int .i64 x] w fun e w' => e = .returned (.tuple #[.int .i64 x, .int .i64 0]) ∧ w = w' := by
  go_enter Tryd.func68, Tryd.ntmps68
  go_wp2
  go_ret2
  exact ⟨rfl, rfl⟩

set_option maxRecDepth 100000 in
set_option maxHeartbeats 2000000 in
theorem fix_bothAdd (a b : Int) (w : World) : Calls Tryd.prog 66 #[.int .i64 a, .int .i64 b, .func (.func 67) #[] #[], .func (.func 68) #[] #[]] w fun e w' => e = .returned (.tuple #[.int .i64 (bothV a b (a + b)), .int .i64 (bothE a b (a + b))]) ∧ w = w' := by
  cases h1 : fitB a
  · rw [(both_no1 h1).1, (both_no1 h1).2]
    go_enter Tryd.func66, Tryd.ntmps66
    go_wp2_with (go_at_call 29; refine (fix_Fits _ _).mono ?_; rintro e w' ⟨rfl, rfl⟩)
    go_ret2
    exact ⟨rfl, rfl⟩
  · cases h2 : fitB b
    · rw [(both_no2 h2).1, (both_no2 h2).2]
      go_enter Tryd.func66, Tryd.ntmps66
      go_wp2_with (go_at_call 29; refine (fix_Fits _ _).mono ?_; rintro e w' ⟨rfl, rfl⟩)
      go_ret2
      exact ⟨rfl, rfl⟩
    · rw [(both_yes h1 h2).1, (both_yes h1 h2).2]
      have H := Asd.mk (fun W => fix_Add1 a b h1 h2 W)
      cases h3 : fitB (a + b)
      · rw [(to_not h3).1, (to_not h3).2]
        go_enter Tryd.func66, Tryd.ntmps66
        go_wp2_with (first | (go_at_call 29; refine (fix_Fits _ _).mono ?_; rintro e w' ⟨rfl, rfl⟩) | (go_at_call 67; refine (H.out _).mono ?_; rintro e w' ⟨rfl, rfl⟩) | (go_at_call 68; refine (fix_same _ _).mono ?_; rintro e w' ⟨rfl, rfl⟩))
        go_ret2
        exact ⟨rfl, rfl⟩
      · rw [(to_fit h3).1, (to_fit h3).2]
        go_enter Tryd.func66, Tryd.ntmps66
        go_wp2_with (first | (go_at_call 29; refine (fix_Fits _ _).mono ?_; rintro e w' ⟨rfl, rfl⟩) | (go_at_call 67; refine (H.out _).mono ?_; rintro e w' ⟨rfl, rfl⟩) | (go_at_call 68; refine (fix_same _ _).mono ?_; rintro e w' ⟨rfl, rfl⟩))
        go_ret2
        exact ⟨rfl, rfl⟩
set_option maxHeartbeats 400000 in
theorem fix_Add (a b : Int) (w : World) : Calls Tryd.prog 24 #[.int .i64 a, .int .i64 b] w fun e w' => e = .returned (.tuple #[.int .i64 (bothV a b (a + b)), .int .i64 (bothE a b (a + b))]) ∧ w = w' := by
  go_enter Tryd.func24, Tryd.ntmps24
  go_wp2_with (go_at_call 66; refine (fix_bothAdd a b _).mono ?_; rintro e w' ⟨rfl, rfl⟩)
  go_ret2
  exact ⟨rfl, rfl⟩
set_option maxRecDepth 100000 in
set_option maxHeartbeats 2000000 in
theorem fix_bothSub (a b : Int) (w : World) : Calls Tryd.prog 66 #[.int .i64 a, .int .i64 b, .func (.func 70) #[] #[], .func (.func 68) #[] #[]] w fun e w' => e = .returned (.tuple #[.int .i64 (bothV a b (a - b)), .int .i64 (bothE a b (a - b))]) ∧ w = w' := by
  cases h1 : fitB a
  · rw [(both_no1 h1).1, (both_no1 h1).2]
    go_enter Tryd.func66, Tryd.ntmps66
    go_wp2_with (go_at_call 29; refine (fix_Fits _ _).mono ?_; rintro e w' ⟨rfl, rfl⟩)
    go_ret2
    exact ⟨rfl, rfl⟩
  · cases h2 : fitB b
    · rw [(both_no2 h2).1, (both_no2 h2).2]
      go_enter Tryd.func66, Tryd.ntmps66
      go_wp2_with (go_at_call 29; refine (fix_Fits _ _).mono ?_; rintro e w' ⟨rfl, rfl⟩)
      go_ret2
      exact ⟨rfl, rfl⟩
    · rw [(both_yes h1 h2).1, (both_yes h1 h2).2]
      have H := Asd.mk (fun W => fix_Sub1 a b h1 h2 W)
      cases h3 : fitB (a - b)
      · rw [(to_not h3).1, (to_not h3).2]
        go_enter Tryd.func66, Tryd.ntmps66
        go_wp2_with (first | (go_at_call 29; refine (fix_Fits _ _).mono ?_; rintro e w' ⟨rfl, rfl⟩) | (go_at_call 70; refine (H.out _).mono ?_; rintro e w' ⟨rfl, rfl⟩) | (go_at_call 68; refine (fix_same _ _).mono ?_; rintro e w' ⟨rfl, rfl⟩))
        go_ret2
        exact ⟨rfl, rfl⟩
      · rw [(to_fit h3).1, (to_fit h3).2]
        go_enter Tryd.func66, Tryd.ntmps66
        go_wp2_with (first | (go_at_call 29; refine (fix_Fits _ _).mono ?_; rintro e w' ⟨rfl, rfl⟩) | (go_at_call 70; refine (H.out _).mono ?_; rintro e w' ⟨rfl, rfl⟩) | (go_at_call 68; refine (fix_same _ _).mono ?_; rintro e w' ⟨rfl, rfl⟩))
        go_ret2
        exact ⟨rfl, rfl⟩
set_option maxHeartbeats 400000 in
theorem fix_Sub (a b : Int) (w : World) : Calls Tryd.prog 26 #[.int .i64 a, .int .i64 b] w fun e w' => e = .returned (.tuple #[.int .i64 (bothV a b (a - b)), .int .i64 (bothE a b (a - b))]) ∧ w = w' := by
  go_enter Tryd.func26, Tryd.ntmps26
  go_wp2_with (go_at_call 66; refine (fix_bothSub a b _).mono ?_; rintro e w' ⟨rfl, rfl⟩)
  go_ret2
  exact ⟨rfl, rfl⟩

end Go.Proofs.YtgodfbhjfhdihaaDoor
