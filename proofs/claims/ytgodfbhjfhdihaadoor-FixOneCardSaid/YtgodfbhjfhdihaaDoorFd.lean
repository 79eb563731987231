/- Walks of layer 2 (fix): clamped, going out, coming in; the reference's; the chapter's example. -/
import Derived.Test.YtgodfbhjfhdihaaDoorFb
import Derived.Test.YtgodfbhjfhdihaaDoorFc
import Derived.WalkMore
namespace Go.Proofs.YtgodfbhjfhdihaaDoor
open Go.RowKit
set_option linter.unusedSimpArgs false
set_option linter.unusedVariables false
attribute [local go_sem] nlt2 nlt3 nlt4 nlt5 nlt6 nlt7 nlt8 nlt9 nlt10 nlt11 nlt12
attribute [local go_sem] field_D

theorem pow2_24 : pow2 24 = 16777216 := by decide
set_option maxRecDepth 100000 in
set_option maxHeartbeats 1000000 in
theorem fix_Clamp (x m : Int) (hx : I64 x) (hm : I64 m) (w : World) : Calls Tryd.prog 33 #[.int .i64 x, .int .i64 m] w fun e w' => e = .returned (.int .i64 (clampZ x m)) ∧ w = w' := by
  obtain ⟨b1, b2⟩ := hx
  obtain ⟨b3, b4⟩ := hm
  by_cases k1 : m < 0
  · go_enter Tryd.func33, Tryd.ntmps33
    go_wp2
    all_goals (go_ret; exact ⟨ret_int (by unfold clampZ; (repeat' split) <;> omega), rfl⟩)
  · have k0 : 0 ≤ m := by omega
    by_cases k2 : m < x
    · go_enter Tryd.func33, Tryd.ntmps33
      go_wp2
      all_goals (go_ret; exact ⟨ret_int (by unfold clampZ; (repeat' split) <;> omega), rfl⟩)
    · by_cases k3 : x < -m
      · go_enter Tryd.func33, Tryd.ntmps33
        go_wp2
        all_goals (go_ret; exact ⟨ret_int (by unfold clampZ; (repeat' split) <;> omega), rfl⟩)
      · go_enter Tryd.func33, Tryd.ntmps33
        go_wp2
        all_goals (go_ret; exact ⟨ret_int (by unfold clampZ; (repeat' split) <;> omega), rfl⟩)
set_option maxRecDepth 100000 in
set_option maxHeartbeats 1000000 in
theorem ref2_Clamp (x m : Int) (hx : I64 x) (hm : I64 m) (w : World) : Calls Tryd.prog 34 #[.int .i64 x, .int .i64 m] w fun e w' => e = .returned (.int .i64 (clampZ x m)) ∧ w = w' := by
  obtain ⟨b1, b2⟩ := hx
  obtain ⟨b3, b4⟩ := hm
  by_cases k1 : m < 0
  · go_enter Tryd.func34, Tryd.ntmps34
    go_wp2
    all_goals (go_ret; exact ⟨ret_int (by unfold clampZ; (repeat' split) <;> omega), rfl⟩)
  · have k0 : 0 ≤ m := by omega
    by_cases k2 : m < x
    · go_enter Tryd.func34, Tryd.ntmps34
      go_wp2
      all_goals (go_ret; exact ⟨ret_int (by unfold clampZ; (repeat' split) <;> omega), rfl⟩)
    · by_cases k3 : x < -m
      · go_enter Tryd.func34, Tryd.ntmps34
        go_wp2
        all_goals (go_ret; exact ⟨ret_int (by unfold clampZ; (repeat' split) <;> omega), rfl⟩)
      · go_enter Tryd.func34, Tryd.ntmps34
        go_wp2
        all_goals (go_ret; exact ⟨ret_int (by unfold clampZ; (repeat' split) <;> omega), rfl⟩)

theorem ev_out (x : Int) : ev x (pow2 24) = outZ x := by have := pow2_pos 24; unfold outZ ev; rw [if_neg (by omega)]
set_option maxRecDepth 100000 in
set_option maxHeartbeats 1000000 in
theorem fix_Out (x : Int) (hx : I64 x) (w : World) : Calls Tryd.prog 35 #[.int .i64 x] w fun e w' => e = .returned (.int .i64 (outZ x)) ∧ Below w.heap.size w w' := by
  have S0 := Asd.mk (St.refl w)
  have HW := Asd.mk (i64_W128 hx)
  have HZ := Asd.mk (int_mid (out_i64 hx))
  go_enter Tryd.func35, Tryd.ntmps35
  go_wp2_with (first
      | (go_at_call 54; replace S2 := S2; refine (wide_Int (outZ x) _).mono ?_; rintro e w3 ⟨rfl, hb3⟩; rw [HZ.out.1, HZ.out.2]; apply St.step (w0 := w) (hb := hb3); (focus (with_reducible repeat (first | exact S2.out | apply St.lay | apply St.drew | apply St.drewN))); intro S3; (try simp only [sz_alloc, sz_drew, sz_drewN] at S3); clear hb3 S2; (try clear C2); have C3 := S3.out.facts; simp only [facts, apart, cellsAt, Nat.zero_add, Nat.reduceAdd, and_true] at C3)
      | (go_at_call 51; replace S1 := S1; refine (wide_Half_loop x 24 (by decide) HW.out _).mono ?_; rintro e w2 ⟨rfl, hb2⟩; apply St.step (w0 := w) (hb := hb2); (focus (with_reducible repeat (first | exact S1.out | apply St.lay | apply St.drew | apply St.drewN))); intro S2; (try simp only [sz_alloc, sz_drew, sz_drewN] at S2); clear hb2 S1; (try clear C1); have C2 := S2.out.facts; simp only [facts, apart, cellsAt, Nat.zero_add, Nat.reduceAdd, and_true] at C2)
      | (go_at_call 23; replace S0 := S0; refine (wide_Of x hx _).mono ?_; rintro e w1 ⟨rfl, hb1⟩; apply St.step (w0 := w) (hb := hb1); (focus (with_reducible repeat (first | exact S0.out | apply St.lay | apply St.drew | apply St.drewN))); intro S1; (try simp only [sz_alloc, sz_drew, sz_drewN] at S1); clear hb1 S0; (try clear C0); have C1 := S1.out.facts; simp only [facts, apart, cellsAt, Nat.zero_add, Nat.reduceAdd, and_true] at C1))
  have HBf := S3.out.bl
  go_ret
  exact ⟨rfl, (by repeat (first | exact Below.refl _ _ | assumption | refine bl_alloc ?_ _ | refine bl_drewN ?_ _ | refine bl_drew ?_ | refine bl_set ?_ (by first | (simp; done) | (simp; omega) | (dsimp only; omega)) _ | refine bl_then ?_ (by assumption)))⟩
set_option maxRecDepth 100000 in
set_option maxHeartbeats 1000000 in
theorem ref2_Out (x : Int) (hx : I64 x) (w : World) : Calls Tryd.prog 36 #[.int .i64 x] w fun e w' => e = .returned (.int .i64 (outZ x)) ∧ Below w.heap.size w w' := by
  have S0 := Asd.mk (St.refl w)
  have HI := Asd.mk (out_i64 hx)
  have HE := Asd.mk (fun (A B : Option Addr) (c d : Nat) (W : World) (h1 : RB W A c x) (h2 : RB W B d (pow2 24)) => ref_Even_any x (pow2 24) A B c d (by rw [pow2_24]; decide) (by have := nd_i64 hx; omega) (by rw [nd_pow2]; omega) W h1 h2)
  rw [ev_out] at HE
  go_enter Tryd.func36, Tryd.ntmps36
  go_wp2_with (first
      | (go_at_call 55; replace S3 := S3; refine (ref_Int_fits (outZ x) A3 c3 HI.out _ (by exact RB.below (S3.out.rb 0 rfl) (by with_reducible repeat (first | exact Below.refl _ _ | refine bl_alloc ?_ _ | refine bl_drewN ?_ _ | refine bl_drew ?_)))).mono ?_; rintro e w4 ⟨rfl, hb4⟩; apply St.step (w0 := w) (hb := hb4); (focus (with_reducible repeat (first | exact S3.out | apply St.lay | apply St.drew | apply St.drewN))); intro S4; (try simp only [sz_alloc, sz_drew, sz_drewN] at S4); clear hb4 S3; (try clear C3); have C4 := S4.out.facts; simp only [facts, apart, cellsAt, Nat.zero_add, Nat.reduceAdd, and_true] at C4)
      | (go_at_call 44; replace S2 := S2; refine (HE.out A1 A2 c1 c2 _ (by exact RB.below (S2.out.rb 1 rfl) (by with_reducible repeat (first | exact Below.refl _ _ | refine bl_alloc ?_ _ | refine bl_drewN ?_ _ | refine bl_drew ?_))) (by exact RB.below (S2.out.rb 0 rfl) (by with_reducible repeat (first | exact Below.refl _ _ | refine bl_alloc ?_ _ | refine bl_drewN ?_ _ | refine bl_drew ?_)))).mono ?_; rintro e w3 ⟨A3, c3, rfl, hr3, hb3⟩; apply St.stepB (w0 := w) (hb := hb3) (hr := hr3); (focus (with_reducible repeat (first | exact S2.out | apply St.lay | apply St.drew | apply St.drewN))); intro S3; (try simp only [sz_alloc, sz_drew, sz_drewN] at S3); clear hr3 hb3 S2; (try clear C2); have C3 := S3.out.facts; simp only [facts, apart, cellsAt, Nat.zero_add, Nat.reduceAdd, and_true] at C3)
      | (go_at_call 53; replace S1 := S1; refine (ref_Power 24 (by omega) _).mono ?_; rintro e w2 ⟨A2, c2, rfl, hr2, hb2⟩; apply St.stepB (w0 := w) (hb := hb2) (hr := hr2); (focus (with_reducible repeat (first | exact S1.out | apply St.lay | apply St.drew | apply St.drewN))); intro S2; (try simp only [sz_alloc, sz_drew, sz_drewN] at S2); clear hr2 hb2 S1; (try clear C1); have C2 := S2.out.facts; simp only [facts, apart, cellsAt, Nat.zero_add, Nat.reduceAdd, and_true] at C2)
      | (go_at_call 41; replace S0 := S0; refine (ref_Of x hx _).mono ?_; rintro e w1 ⟨A1, c1, rfl, hr1, hb1⟩; apply St.stepB (w0 := w) (hb := hb1) (hr := hr1); (focus (with_reducible repeat (first | exact S0.out | apply St.lay | apply St.drew | apply St.drewN))); intro S1; (try simp only [sz_alloc, sz_drew, sz_drewN] at S1); clear hr1 hb1 S0; (try clear C0); have C1 := S1.out.facts; simp only [facts, apart, cellsAt, Nat.zero_add, Nat.reduceAdd, and_true] at C1))
  have HBf := S4.out.bl
  go_ret
  exact ⟨rfl, (by repeat (first | exact Below.refl _ _ | assumption | refine bl_alloc ?_ _ | refine bl_drewN ?_ _ | refine bl_drew ?_ | refine bl_set ?_ (by first | (simp; done) | (simp; omega) | (dsimp only; omega)) _ | refine bl_then ?_ (by assumption)))⟩
set_option maxRecDepth 100000 in
set_option maxHeartbeats 1000000 in
theorem ref2_In (x : Int) (hx : I64 x) (w : World) : Calls Tryd.prog 32 #[.int .i64 x] w fun e w' => e = .returned (.tuple #[.int .i64 (toV (x * 16777216)), .int .i64 (toE (x * 16777216))]) ∧ Below w.heap.size w w' := by
  have S0 := Asd.mk (St.refl w)
  have HE := Asd.mk (fun (A B : Option Addr) (c d : Nat) (W : World) (h1 : RB W A c x) (h2 : RB W B d (pow2 24)) => ref_Mul x (pow2 24) A B c d (by have := nd_i64 hx; omega) (by rw [nd_pow2]; omega) W h1 h2)
  have n1 : Asd (nd (x * 16777216) ≤ 5000) := ⟨by have h1 := nd_i64 hx; have h2 := nd_pow2 24; have h3 := nd_mul x (pow2 24); rw [← pow2_24]; omega⟩
  rw [show x * pow2 24 = x * 16777216 by rw [pow2_24]] at HE
  go_enter Tryd.func32, Tryd.ntmps32
  go_wp2_with (first
      | (go_at_call 69; replace S3 := S3; refine (ref2_To (x * 16777216) A3 c3 n1.out _ (by exact RB.below (S3.out.rb 0 rfl) (by with_reducible repeat (first | exact Below.refl _ _ | refine bl_alloc ?_ _ | refine bl_drewN ?_ _ | refine bl_drew ?_)))).mono ?_; rintro e w4 ⟨rfl, hb4⟩; apply St.step (w0 := w) (hb := hb4); (focus (with_reducible repeat (first | exact S3.out | apply St.lay | apply St.drew | apply St.drewN))); intro S4; (try simp only [sz_alloc, sz_drew, sz_drewN] at S4); clear hb4 S3; (try clear C3); have C4 := S4.out.facts; simp only [facts, apart, cellsAt, Nat.zero_add, Nat.reduceAdd, and_true] at C4)
      | (go_at_call 52; replace S2 := S2; refine (HE.out A1 A2 c1 c2 _ (by exact RB.below (S2.out.rb 1 rfl) (by with_reducible repeat (first | exact Below.refl _ _ | refine bl_alloc ?_ _ | refine bl_drewN ?_ _ | refine bl_drew ?_))) (by exact RB.below (S2.out.rb 0 rfl) (by with_reducible repeat (first | exact Below.refl _ _ | refine bl_alloc ?_ _ | refine bl_drewN ?_ _ | refine bl_drew ?_)))).mono ?_; rintro e w3 ⟨A3, c3, rfl, hr3, hb3⟩; apply St.stepB (w0 := w) (hb := hb3) (hr := hr3); (focus (with_reducible repeat (first | exact S2.out | apply St.lay | apply St.drew | apply St.drewN))); intro S3; (try simp only [sz_alloc, sz_drew, sz_drewN] at S3); clear hr3 hb3 S2; (try clear C2); have C3 := S3.out.facts; simp only [facts, apart, cellsAt, Nat.zero_add, Nat.reduceAdd, and_true] at C3)
      | (go_at_call 53; replace S1 := S1; refine (ref_Power 24 (by omega) _).mono ?_; rintro e w2 ⟨A2, c2, rfl, hr2, hb2⟩; apply St.stepB (w0 := w) (hb := hb2) (hr := hr2); (focus (with_reducible repeat (first | exact S1.out | apply St.lay | apply St.drew | apply St.drewN))); intro S2; (try simp only [sz_alloc, sz_drew, sz_drewN] at S2); clear hr2 hb2 S1; (try clear C1); have C2 := S2.out.facts; simp only [facts, apart, cellsAt, Nat.zero_add, Nat.reduceAdd, and_true] at C2)
      | (go_at_call 41; replace S0 := S0; refine (ref_Of x hx _).mono ?_; rintro e w1 ⟨A1, c1, rfl, hr1, hb1⟩; apply St.stepB (w0 := w) (hb := hb1) (hr := hr1); (focus (with_reducible repeat (first | exact S0.out | apply St.lay | apply St.drew | apply St.drewN))); intro S1; (try simp only [sz_alloc, sz_drew, sz_drewN] at S1); clear hr1 hb1 S0; (try clear C0); have C1 := S1.out.facts; simp only [facts, apart, cellsAt, Nat.zero_add, Nat.reduceAdd, and_true] at C1))
  have HBf := S4.out.bl
  go_ret2
  exact ⟨rfl, (by repeat (first | exact Below.refl _ _ | assumption | refine bl_alloc ?_ _ | refine bl_drewN ?_ _ | refine bl_drew ?_ | refine bl_set ?_ (by first | (simp; done) | (simp; omega) | (dsimp only; omega)) _ | refine bl_then ?_ (by assumption)))⟩
set_option maxRecDepth 100000 in
set_option maxHeartbeats 1000000 in
theorem fix_In (x : Int) (hx : I64 x) (w : World) (hg : GN w) : Calls Tryd.prog 31 #[.int .i64 x] w fun e w' => e = .returned (.tuple #[.int .i64 (toV (x * 16777216)), .int .i64 (toE (x * 16777216))]) ∧ Below w.heap.size w w' := by
  have S0 := Asd.mk (St.refl w)
  have HG := Asd.mk hg
  clear hg
  cases h3 : fitB (x * 16777216)
  · rw [(to_not h3).1, (to_not h3).2]
    by_cases h4 : I64 (x * 16777216)
    · have HZ := Asd.mk (int_mid h4)
      clear h4
      go_enter Tryd.func31, Tryd.ntmps31
      go_wp2_with (first
          | (go_at_call 54; replace S1 := S1; refine (wide_Int (x * 16777216) _).mono ?_; rintro e w2 ⟨rfl, hb2⟩; rw [HZ.out.1, HZ.out.2]; apply St.step (w0 := w) (hb := hb2); (focus (with_reducible repeat (first | exact S1.out | apply St.lay | apply St.drew | apply St.drewN))); intro S2; (try simp only [sz_alloc, sz_drew, sz_drewN] at S2); clear hb2 S1; (try clear C1); have C2 := S2.out.facts; simp only [facts, apart, cellsAt, Nat.zero_add, Nat.reduceAdd, and_true] at C2)
          | (go_at_call 21; replace S0 := S0; refine (wide_Mul x 16777216 hx (by decide) _ (by exact HG.out.below (by with_reducible repeat (first | exact S0.out.bl | refine bl_alloc ?_ _ | refine bl_drewN ?_ _ | refine bl_drew ?_)))).mono ?_; rintro e w1 ⟨rfl, hb1⟩; apply St.step (w0 := w) (hb := hb1); (focus (with_reducible repeat (first | exact S0.out | apply St.lay | apply St.drew | apply St.drewN))); intro S1; (try simp only [sz_alloc, sz_drew, sz_drewN] at S1); clear hb1 S0; (try clear C0); have C1 := S1.out.facts; simp only [facts, apart, cellsAt, Nat.zero_add, Nat.reduceAdd, and_true] at C1)
          | (go_at_call 29; refine (fix_Fits _ _).mono ?_; rintro e w' ⟨rfl, rfl⟩))
      have HBf := S2.out.bl
      go_ret2
      exact ⟨rfl, (by repeat (first | exact Below.refl _ _ | assumption | refine bl_alloc ?_ _ | refine bl_drewN ?_ _ | refine bl_drew ?_ | refine bl_set ?_ (by first | (simp; done) | (simp; omega) | (dsimp only; omega)) _ | refine bl_then ?_ (by assumption)))⟩
    · have HZ := Asd.mk (int_big h4)
      clear h4
      go_enter Tryd.func31, Tryd.ntmps31
      go_wp2_with (first
          | (go_at_call 54; replace S1 := S1; refine (wide_Int (x * 16777216) _).mono ?_; rintro e w2 ⟨rfl, hb2⟩; rw [HZ.out.1, HZ.out.2]; apply St.step (w0 := w) (hb := hb2); (focus (with_reducible repeat (first | exact S1.out | apply St.lay | apply St.drew | apply St.drewN))); intro S2; (try simp only [sz_alloc, sz_drew, sz_drewN] at S2); clear hb2 S1; (try clear C1); have C2 := S2.out.facts; simp only [facts, apart, cellsAt, Nat.zero_add, Nat.reduceAdd, and_true] at C2)
          | (go_at_call 21; replace S0 := S0; refine (wide_Mul x 16777216 hx (by decide) _ (by exact HG.out.below (by with_reducible repeat (first | exact S0.out.bl | refine bl_alloc ?_ _ | refine bl_drewN ?_ _ | refine bl_drew ?_)))).mono ?_; rintro e w1 ⟨rfl, hb1⟩; apply St.step (w0 := w) (hb := hb1); (focus (with_reducible repeat (first | exact S0.out | apply St.lay | apply St.drew | apply St.drewN))); intro S1; (try simp only [sz_alloc, sz_drew, sz_drewN] at S1); clear hb1 S0; (try clear C0); have C1 := S1.out.facts; simp only [facts, apart, cellsAt, Nat.zero_add, Nat.reduceAdd, and_true] at C1)
          | (go_at_call 29; refine (fix_Fits _ _).mono ?_; rintro e w' ⟨rfl, rfl⟩))
      have HBf := S2.out.bl
      go_ret2
      exact ⟨rfl, (by repeat (first | exact Below.refl _ _ | assumption | refine bl_alloc ?_ _ | refine bl_drewN ?_ _ | refine bl_drew ?_ | refine bl_set ?_ (by first | (simp; done) | (simp; omega) | (dsimp only; omega)) _ | refine bl_then ?_ (by assumption)))⟩
  · rw [(to_fit h3).1, (to_fit h3).2]
    have HZ := Asd.mk (int_ok h3)
    go_enter Tryd.func31, Tryd.ntmps31
    go_wp2_with (first
        | (go_at_call 54; replace S1 := S1; refine (wide_Int (x * 16777216) _).mono ?_; rintro e w2 ⟨rfl, hb2⟩; rw [HZ.out.1, HZ.out.2]; apply St.step (w0 := w) (hb := hb2); (focus (with_reducible repeat (first | exact S1.out | apply St.lay | apply St.drew | apply St.drewN))); intro S2; (try simp only [sz_alloc, sz_drew, sz_drewN] at S2); clear hb2 S1; (try clear C1); have C2 := S2.out.facts; simp only [facts, apart, cellsAt, Nat.zero_add, Nat.reduceAdd, and_true] at C2)
        | (go_at_call 21; replace S0 := S0; refine (wide_Mul x 16777216 hx (by decide) _ (by exact HG.out.below (by with_reducible repeat (first | exact S0.out.bl | refine bl_alloc ?_ _ | refine bl_drewN ?_ _ | refine bl_drew ?_)))).mono ?_; rintro e w1 ⟨rfl, hb1⟩; apply St.step (w0 := w) (hb := hb1); (focus (with_reducible repeat (first | exact S0.out | apply St.lay | apply St.drew | apply St.drewN))); intro S1; (try simp only [sz_alloc, sz_drew, sz_drewN] at S1); clear hb1 S0; (try clear C0); have C1 := S1.out.facts; simp only [facts, apart, cellsAt, Nat.zero_add, Nat.reduceAdd, and_true] at C1)
        | (go_at_call 29; refine (fix_Fits _ _).mono ?_; rintro e w' ⟨rfl, rfl⟩))
    have HBf := S2.out.bl
    go_ret2
    exact ⟨rfl, (by repeat (first | exact Below.refl _ _ | assumption | refine bl_alloc ?_ _ | refine bl_drewN ?_ _ | refine bl_drew ?_ | refine bl_set ?_ (by first | (simp; done) | (simp; omega) | (dsimp only; omega)) _ | refine bl_then ?_ (by assumption)))⟩

theorem law02_ex : bothV 1649267441664 1649267441664 (mulZ 1649267441664 1649267441664) = 2473901162496 ∧ bothE 1649267441664 1649267441664 (mulZ 1649267441664 1649267441664) = 0 := by decide
set_option maxRecDepth 100000 in
set_option maxHeartbeats 1000000 in
theorem law02_fixed (w : World) (hg : GN w) : Calls Tryd.prog 28 #[] w fun e w' => e = .returned (.bool true) ∧ Below w.heap.size w w' := by
  have S0 := Asd.mk (St.refl w)
  have HG := Asd.mk hg
  have HX := Asd.mk law02_ex
  clear hg
  go_enter Tryd.func28, Tryd.ntmps28
  go_wp2_with (first
      | (go_at_call 56; replace S0 := S0; refine (fix_Mul 1649267441664 1649267441664 _ (by exact HG.out.below (by with_reducible repeat (first | exact S0.out.bl | refine bl_alloc ?_ _ | refine bl_drewN ?_ _ | refine bl_drew ?_)))).mono ?_; rintro e w1 ⟨rfl, hb1⟩; rw [HX.out.1, HX.out.2]; apply St.step (w0 := w) (hb := hb1); (focus (with_reducible repeat (first | exact S0.out | apply St.lay | apply St.drew | apply St.drewN))); intro S1; (try simp only [sz_alloc, sz_drew, sz_drewN] at S1); clear hb1 S0; (try clear C0); have C1 := S1.out.facts; simp only [facts, apart, cellsAt, Nat.zero_add, Nat.reduceAdd, and_true] at C1))
  have HBf := S1.out.bl
  go_ret
  exact ⟨rfl, (by repeat (first | exact Below.refl _ _ | assumption | refine bl_alloc ?_ _ | refine bl_drewN ?_ _ | refine bl_drew ?_ | refine bl_set ?_ (by first | (simp; done) | (simp; omega) | (dsimp only; omega)) _ | refine bl_then ?_ (by assumption)))⟩

end Go.Proofs.YtgodfbhjfhdihaaDoor
