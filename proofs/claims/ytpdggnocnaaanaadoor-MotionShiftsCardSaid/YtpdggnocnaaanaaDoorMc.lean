/- Walks of the laws of layer 7 (motion), by plans: MotionShifts. -/
import Derived.Test.YtpdggnocnaaanaaDoorMb
namespace Go.Proofs.YtpdggnocnaaanaaDoor
open Go.RowKit
set_option linter.unusedSimpArgs false
set_option linter.unusedVariables false
theorem shifts_h {x : Nat → Int} {t y : Int} (h0 : -72057594037927936 ≤ x 0 ∧ x 0 ≤ 72057594037927936) (h1 : -1125899906842624 ≤ x 1 ∧ x 1 ≤ 1125899906842624) (h2 : -1125899906842624 ≤ x 2 ∧ x 2 ≤ 1125899906842624) (h3 : -1125899906842624 ≤ t ∧ t ≤ 1125899906842624) (h4 : -1125899906842624 ≤ y ∧ y ≤ 1125899906842624) :
    onE x t = 0 ∧ onE (v3 (x 0 + y) (x 1) (x 2)) t = 0 ∧ onE (v3 (x 0) (x 1) (x 2 + y)) (t + y) = 0 ∧
    (onV (v3 (x 0 + y) (x 1) (x 2)) t 0 = onV x t 0 + y ∧ onV (v3 (x 0 + y) (x 1) (x 2)) t 1 = onV x t 1 ∧ onV (v3 (x 0 + y) (x 1) (x 2)) t 2 = onV x t 2) ∧
    (onV (v3 (x 0) (x 1) (x 2 + y)) (t + y) 0 = onV x t 0 ∧ onV (v3 (x 0) (x 1) (x 2 + y)) (t + y) 1 = onV x t 1 ∧ onV (v3 (x 0) (x 1) (x 2 + y)) (t + y) 2 = onV x t 2 + y) ∧
    (-144115188075855872 ≤ onV x t 0 ∧ onV x t 0 ≤ 144115188075855872) ∧ onV x t 2 = x 2 := by
  obtain ⟨p, q⟩ := small_on (x := x) (t := t) (by omega) h1 (by omega) (by omega)
  obtain ⟨p1, q1⟩ := small_on (x := v3 (x 0 + y) (x 1) (x 2)) (t := t) (by show _ ≤ x 0 + y ∧ x 0 + y ≤ _; omega) h1 (by show _ ≤ x 2 ∧ x 2 ≤ _; omega) (by omega)
  obtain ⟨p2, q2⟩ := small_on (x := v3 (x 0) (x 1) (x 2 + y)) (t := t + y) (by show _ ≤ x 0 ∧ x 0 ≤ _; omega) h1 (by show _ ≤ x 2 + y ∧ x 2 + y ≤ _; omega) (by omega)
  have e1 := ev15s (z := x 1 * 256 + (t - x 2)) (by omega)
  have d : t + y - (x 2 + y) = t - x 2 := by omega
  have r0 := q 0
  have r1 := q 1
  have r2 := q 2
  have s0 := q1 0
  have s1 := q1 1
  have s2 := q1 2
  have t0 := q2 0
  have t1 := q2 1
  have t2 := q2 2
  simp only [v3, d] at r0 r1 r2 s0 s1 s2 t0 t1 t2
  refine ⟨p, p1, p2, ⟨?_, ?_, ?_⟩, ⟨?_, ?_, ?_⟩, ?_, r2⟩ <;> omega
theorem eq3 {a b c d e f : Int} (h1 : a = d) (h2 : b = e) (h3 : c = f) : ([a, b, c] == [d, e, f]) = true := by subst h1 h2 h3; simp
set_option maxRecDepth 1000000 in
set_option maxHeartbeats 8000000 in
theorem law_MotionShifts_plan (x : Nat → Int) (t y : Int) (w : World) (R : Ending → World → Prop) (hG : St w w [] []) (hE : Ex w [])
    (h : ∀ r1 : Nat, r1 = r1 ∧ r1 = r1 ∧ CallV Tryd.prog w [(r1, [.int .i64 (x 0), .int .i64 (x 1), .int .i64 (x 2)])] [] 13 #[.agg #[.int .i64 (x 0), .int .i64 (x 1), .int .i64 (x 2)], .agg #[.int .i64 72057594037927936, .int .i64 1125899906842624, .int .i64 1125899906842624]] (.agg #[.int .i64 (clampZ (x 0) 72057594037927936), .int .i64 (clampZ (x 1) 1125899906842624), .int .i64 (clampZ (x 2) 1125899906842624)]) ∧ EqV Tryd.prog 23 (.agg #[.int .i64 (x 0), .int .i64 (x 1), .int .i64 (x 2)]) (.agg #[.int .i64 (clampZ (x 0) 72057594037927936), .int .i64 (clampZ (x 1) 1125899906842624), .int .i64 (clampZ (x 2) 1125899906842624)]) ([(x 0), (x 1), (x 2)] == [(clampZ (x 0) 72057594037927936), (clampZ (x 1) 1125899906842624), (clampZ (x 2) 1125899906842624)]) ∧ (((!([(x 0), (x 1), (x 2)] == [(clampZ (x 0) 72057594037927936), (clampZ (x 1) 1125899906842624), (clampZ (x 2) 1125899906842624)])) = true → CallV Tryd.prog w [(r1, [.int .i64 (x 0), .int .i64 (x 1), .int .i64 (x 2)])] [] 14 #[] (.bool true) ∧ (True) ∧ (LeafV R w [(r1, [.int .i64 (x 0), .int .i64 (x 1), .int .i64 (x 2)])] [] (.bool true))) ∧ ((!([(x 0), (x 1), (x 2)] == [(clampZ (x 0) 72057594037927936), (clampZ (x 1) 1125899906842624), (clampZ (x 2) 1125899906842624)])) = false → ∀ u4 : Int, u4 = (IntKind.i64.wrap (0 - t)) → (∀ u5 : Int, u5 = (if u4 > t then u4 else t) → (((decide (u5 > 1125899906842624)) = true → CallV Tryd.prog w [(r1, [.int .i64 (x 0), .int .i64 (x 1), .int .i64 (x 2)])] [] 14 #[] (.bool true) ∧ (True) ∧ (LeafV R w [(r1, [.int .i64 (x 0), .int .i64 (x 1), .int .i64 (x 2)])] [] (.bool true))) ∧ ((decide (u5 > 1125899906842624)) = false → ((decide (t < (-1125899906842624))) = true → CallV Tryd.prog w [(r1, [.int .i64 (x 0), .int .i64 (x 1), .int .i64 (x 2)])] [] 14 #[] (.bool true) ∧ (True) ∧ (LeafV R w [(r1, [.int .i64 (x 0), .int .i64 (x 1), .int .i64 (x 2)])] [] (.bool true))) ∧ ((decide (t < (-1125899906842624))) = false → ∀ u10 : Int, u10 = (IntKind.i64.wrap (0 - y)) → (∀ u11 : Int, u11 = (if u10 > y then u10 else y) → (((decide (u11 > 1125899906842624)) = true → CallV Tryd.prog w [(r1, [.int .i64 (x 0), .int .i64 (x 1), .int .i64 (x 2)])] [] 14 #[] (.bool true) ∧ (True) ∧ (LeafV R w [(r1, [.int .i64 (x 0), .int .i64 (x 1), .int .i64 (x 2)])] [] (.bool true))) ∧ ((decide (u11 > 1125899906842624)) = false → ((decide (y < (-1125899906842624))) = true → CallV Tryd.prog w [(r1, [.int .i64 (x 0), .int .i64 (x 1), .int .i64 (x 2)])] [] 14 #[] (.bool true) ∧ (True) ∧ (LeafV R w [(r1, [.int .i64 (x 0), .int .i64 (x 1), .int .i64 (x 2)])] [] (.bool true))) ∧ ((decide (y < (-1125899906842624))) = false → r1 = r1 ∧ CallV Tryd.prog w [(r1, [.int .i64 (x 0), .int .i64 (x 1), .int .i64 (x 2)])] [] 15 #[.agg #[.int .i64 (x 0), .int .i64 (x 1), .int .i64 (x 2)], .int .i64 t] (.tuple #[.agg #[.int .i64 (onV x t 0), .int .i64 (onV x t 1), .int .i64 (onV x t 2)], .int .i64 (onE x t)]) ∧ (∀ r16 : Nat, (r16 = r16 ∧ (r16 = r16 ∧ (r16 = r16 ∧ (True)))) ∧ r1 = r1 ∧ Value.int .i64 (IntKind.i64.wrap ((x 0) + y)) = .int .i64 ((x 0) + y) ∧ r1 = r1 ∧ r1 = r1 ∧ CallV Tryd.prog w [(r1, [.int .i64 (x 0), .int .i64 (x 1), .int .i64 (x 2)]), (r16, [.int .i64 (onV x t 0), .int .i64 (onV x t 1), .int .i64 (onV x t 2)])] [] 15 #[.agg #[.int .i64 ((x 0) + y), .int .i64 (x 1), .int .i64 (x 2)], .int .i64 t] (.tuple #[.agg #[.int .i64 (onV (v3 ((x 0) + y) (x 1) (x 2)) t 0), .int .i64 (onV (v3 ((x 0) + y) (x 1) (x 2)) t 1), .int .i64 (onV (v3 ((x 0) + y) (x 1) (x 2)) t 2)], .int .i64 (onE (v3 ((x 0) + y) (x 1) (x 2)) t)]) ∧ (∀ r17 : Nat, (r17 = r17 ∧ (r17 = r17 ∧ (r17 = r17 ∧ (True)))) ∧ r1 = r1 ∧ r1 = r1 ∧ r1 = r1 ∧ Value.int .i64 (IntKind.i64.wrap ((x 2) + y)) = .int .i64 ((x 2) + y) ∧ Value.int .i64 (IntKind.i64.wrap (t + y)) = .int .i64 (t + y) ∧ CallV Tryd.prog w [(r1, [.int .i64 (x 0), .int .i64 (x 1), .int .i64 (x 2)]), (r16, [.int .i64 (onV x t 0), .int .i64 (onV x t 1), .int .i64 (onV x t 2)]), (r17, [.int .i64 (onV (v3 ((x 0) + y) (x 1) (x 2)) t 0), .int .i64 (onV (v3 ((x 0) + y) (x 1) (x 2)) t 1), .int .i64 (onV (v3 ((x 0) + y) (x 1) (x 2)) t 2)])] [] 15 #[.agg #[.int .i64 (x 0), .int .i64 (x 1), .int .i64 ((x 2) + y)], .int .i64 (t + y)] (.tuple #[.agg #[.int .i64 (onV (v3 (x 0) (x 1) ((x 2) + y)) (t + y) 0), .int .i64 (onV (v3 (x 0) (x 1) ((x 2) + y)) (t + y) 1), .int .i64 (onV (v3 (x 0) (x 1) ((x 2) + y)) (t + y) 2)], .int .i64 (onE (v3 (x 0) (x 1) ((x 2) + y)) (t + y))]) ∧ (∀ r18 : Nat, (r18 = r18 ∧ (r18 = r18 ∧ (r18 = r18 ∧ (True)))) ∧ CallV Tryd.prog w [(r1, [.int .i64 (x 0), .int .i64 (x 1), .int .i64 (x 2)]), (r16, [.int .i64 (onV x t 0), .int .i64 (onV x t 1), .int .i64 (onV x t 2)]), (r17, [.int .i64 (onV (v3 ((x 0) + y) (x 1) (x 2)) t 0), .int .i64 (onV (v3 ((x 0) + y) (x 1) (x 2)) t 1), .int .i64 (onV (v3 ((x 0) + y) (x 1) (x 2)) t 2)]), (r18, [.int .i64 (onV (v3 (x 0) (x 1) ((x 2) + y)) (t + y) 0), .int .i64 (onV (v3 (x 0) (x 1) ((x 2) + y)) (t + y) 1), .int .i64 (onV (v3 (x 0) (x 1) ((x 2) + y)) (t + y) 2)])] [] 14 #[] (.bool true) ∧ Value.bool ((onE x t) == 0) = .bool true ∧ Value.bool ((onE (v3 ((x 0) + y) (x 1) (x 2)) t) == 0) = .bool true ∧ Value.bool ((onE (v3 (x 0) (x 1) ((x 2) + y)) (t + y)) == 0) = .bool true ∧ r17 = r17 ∧ r16 = r16 ∧ Value.int .i64 (IntKind.i64.wrap ((onV x t 0) + y)) = .int .i64 ((onV x t 0) + y) ∧ r16 = r16 ∧ r16 = r16 ∧ EqV Tryd.prog 23 (.agg #[.int .i64 (onV (v3 ((x 0) + y) (x 1) (x 2)) t 0), .int .i64 (onV (v3 ((x 0) + y) (x 1) (x 2)) t 1), .int .i64 (onV (v3 ((x 0) + y) (x 1) (x 2)) t 2)]) (.agg #[.int .i64 ((onV x t 0) + y), .int .i64 (onV x t 1), .int .i64 (onV x t 2)]) ([(onV (v3 ((x 0) + y) (x 1) (x 2)) t 0), (onV (v3 ((x 0) + y) (x 1) (x 2)) t 1), (onV (v3 ((x 0) + y) (x 1) (x 2)) t 2)] == [((onV x t 0) + y), (onV x t 1), (onV x t 2)]) ∧ Value.bool ([(onV (v3 ((x 0) + y) (x 1) (x 2)) t 0), (onV (v3 ((x 0) + y) (x 1) (x 2)) t 1), (onV (v3 ((x 0) + y) (x 1) (x 2)) t 2)] == [((onV x t 0) + y), (onV x t 1), (onV x t 2)]) = .bool true ∧ r18 = r18 ∧ r16 = r16 ∧ r16 = r16 ∧ r16 = r16 ∧ Value.int .i64 (IntKind.i64.wrap ((onV x t 2) + y)) = .int .i64 ((onV x t 2) + y) ∧ EqV Tryd.prog 23 (.agg #[.int .i64 (onV (v3 (x 0) (x 1) ((x 2) + y)) (t + y) 0), .int .i64 (onV (v3 (x 0) (x 1) ((x 2) + y)) (t + y) 1), .int .i64 (onV (v3 (x 0) (x 1) ((x 2) + y)) (t + y) 2)]) (.agg #[.int .i64 (onV x t 0), .int .i64 (onV x t 1), .int .i64 ((onV x t 2) + y)]) ([(onV (v3 (x 0) (x 1) ((x 2) + y)) (t + y) 0), (onV (v3 (x 0) (x 1) ((x 2) + y)) (t + y) 1), (onV (v3 (x 0) (x 1) ((x 2) + y)) (t + y) 2)] == [(onV x t 0), (onV x t 1), ((onV x t 2) + y)]) ∧ (True) ∧ (LeafV R w [(r1, [.int .i64 (x 0), .int .i64 (x 1), .int .i64 (x 2)]), (r16, [.int .i64 (onV x t 0), .int .i64 (onV x t 1), .int .i64 (onV x t 2)]), (r17, [.int .i64 (onV (v3 ((x 0) + y) (x 1) (x 2)) t 0), .int .i64 (onV (v3 ((x 0) + y) (x 1) (x 2)) t 1), .int .i64 (onV (v3 ((x 0) + y) (x 1) (x 2)) t 2)]), (r18, [.int .i64 (onV (v3 (x 0) (x 1) ((x 2) + y)) (t + y) 0), .int .i64 (onV (v3 (x 0) (x 1) ((x 2) + y)) (t + y) 1), .int .i64 (onV (v3 (x 0) (x 1) ((x 2) + y)) (t + y) 2)])] [] (.bool ([(onV (v3 (x 0) (x 1) ((x 2) + y)) (t + y) 0), (onV (v3 (x 0) (x 1) ((x 2) + y)) (t + y) 1), (onV (v3 (x 0) (x 1) ((x 2) + y)) (t + y) 2)] == [(onV x t 0), (onV x t 1), ((onV x t 2) + y)]))))))))))))))))) : Calls Tryd.prog 4 #[.agg #[.int .i64 (x 0), .int .i64 (x 1), .int .i64 (x 2)], .int .i64 t, .int .i64 y] w R :=
  calls_of_plan (f := 4) (es := []) (c := Tryd.f4.body.getD .skip) (tmps := #[.agg #[.int .i64 (x 0), .int .i64 (x 1), .int .i64 (x 2)], .int .i64 t, .int .i64 y, undef, undef, undef, undef, undef, undef, undef, undef, undef, undef, undef, undef, undef, undef, undef, undef, undef, undef, undef, undef, undef, undef, undef, undef, undef, undef, undef, undef, undef, undef, undef, undef, undef, undef, undef, undef, undef, undef, undef, undef, undef, undef, undef, undef, undef, undef, undef, undef, undef, undef, undef, undef, undef, undef, undef, undef, undef, undef, undef, undef, undef, undef, undef, undef, undef, undef, undef, undef, undef, undef, undef, undef, undef, undef, undef, undef, undef, undef, undef, undef, undef, undef, undef, undef, undef, undef, undef, undef, undef, undef, undef, undef, undef, undef, undef, undef, undef, undef, undef, undef, undef, undef, undef, undef, undef, undef, undef, undef, undef, undef, undef, undef, undef])
    (.s [.c, .c] (.new (fun r1 => .s [.v, .c, .c, .c, .d [], .at 0 false, .own 0, .at 1 false, .own 0, .at 2 false, .v, .at 3 true, .call (.agg #[.int .i64 (clampZ (x 0) 72057594037927936), .int .i64 (clampZ (x 1) 1125899906842624), .int .i64 (clampZ (x 2) 1125899906842624)]), .at 4 false, .eq ([(x 0), (x 1), (x 2)] == [(clampZ (x 0) 72057594037927936), (clampZ (x 1) 1125899906842624), (clampZ (x 2) 1125899906842624)]), .at 5 false, .v] (.split 18 (.s [.at 6 false, .u, .at 7 false, .u, .at 8 false, .u, .at 9 false, .u, .at 10 false, .u, .at 11 false, .v, .at 12 false, .v, .at 13 false, .u, .at 14 false, .u, .at 15 false, .v, .at 16 false, .v, .at 17 false, .u, .at 18 false, .u, .at 19 false, .u, .at 20 false, .u, .at 21 false, .u, .at 22 false, .v, .at 23 false, .v, .at 24 false, .u, .at 25 false, .u, .at 26 false, .v, .c, .c, .c, .c, .call (.bool true), .v, .c] (.ret [])) (.s [.at 6 false, .v, .at 7 false, .v, .at 8 false, .v] (.gen 21 (fun u4 => .s [.at 9 false, .v] (.gen 22 (fun u5 => .s [.at 10 false, .v, .at 11 false, .v, .at 12 false, .v] (.split 25 (.s [.at 13 false, .u, .at 14 false, .u, .at 15 false, .v, .at 16 false, .v, .at 17 false, .u, .at 18 false, .u, .at 19 false, .u, .at 20 false, .u, .at 21 false, .u, .at 22 false, .v, .at 23 false, .v, .at 24 false, .u, .at 25 false, .u, .at 26 false, .v, .c, .c, .c, .c, .call (.bool true), .v, .c] (.ret [])) (.s [.at 13 false, .v, .at 14 false, .v, .at 15 false, .v, .at 16 false, .v] (.split 29 (.s [.at 17 false, .u, .at 18 false, .u, .at 19 false, .u, .at 20 false, .u, .at 21 false, .u, .at 22 false, .v, .at 23 false, .v, .at 24 false, .u, .at 25 false, .u, .at 26 false, .v, .c, .c, .c, .c, .call (.bool true), .v, .c] (.ret [])) (.s [.at 17 false, .v, .at 18 false, .v, .at 19 false, .v] (.gen 32 (fun u10 => .s [.at 20 false, .v] (.gen 33 (fun u11 => .s [.at 21 false, .v, .at 22 false, .v, .at 23 false, .v] (.split 36 (.s [.at 24 false, .u, .at 25 false, .u, .at 26 false, .v, .c, .c, .c, .c, .call (.bool true), .v, .c] (.ret [])) (.s [.at 24 false, .v, .at 25 false, .v, .at 26 false, .v, .c] (.split 39 (.s [.c, .c, .c, .call (.bool true), .v, .c] (.ret [])) (.s [.c, .c, .c, .c, .own 0, .v, .call (.tuple #[.agg #[.int .i64 (onV x t 0), .int .i64 (onV x t 1), .int .i64 (onV x t 2)], .int .i64 (onE x t)]), .v, .v, .v] (.new (fun r16 => .s [.put 1, .v, .c, .c, .c, .v, .own 0, .v, .v, .setv 51 (.int .i64 ((x 0) + y)), .v, .own 0, .v, .own 0, .v, .v, .call (.tuple #[.agg #[.int .i64 (onV (v3 ((x 0) + y) (x 1) (x 2)) t 0), .int .i64 (onV (v3 ((x 0) + y) (x 1) (x 2)) t 1), .int .i64 (onV (v3 ((x 0) + y) (x 1) (x 2)) t 2)], .int .i64 (onE (v3 ((x 0) + y) (x 1) (x 2)) t)]), .v, .v, .v] (.new (fun r17 => .s [.put 2, .v, .c, .c, .c, .v, .own 0, .v, .own 0, .v, .own 0, .v, .v, .setv 69 (.int .i64 ((x 2) + y)), .v, .v, .v, .v, .setv 73 (.int .i64 (t + y)), .call (.tuple #[.agg #[.int .i64 (onV (v3 (x 0) (x 1) ((x 2) + y)) (t + y) 0), .int .i64 (onV (v3 (x 0) (x 1) ((x 2) + y)) (t + y) 1), .int .i64 (onV (v3 (x 0) (x 1) ((x 2) + y)) (t + y) 2)], .int .i64 (onE (v3 (x 0) (x 1) ((x 2) + y)) (t + y))]), .v, .v, .v] (.new (fun r18 => .s [.put 3, .v, .c, .c, .c, .call (.bool true), .v, .v, .v, .v, .v, .setv 82 (.bool true), .v, .v, .v, .v, .setv 86 (.bool true), .v, .v, .v, .v, .setv 90 (.bool true), .own 2, .v, .own 1, .v, .v, .setv 95 (.int .i64 ((onV x t 0) + y)), .v, .own 1, .v, .own 1, .v, .eq ([(onV (v3 ((x 0) + y) (x 1) (x 2)) t 0), (onV (v3 ((x 0) + y) (x 1) (x 2)) t 1), (onV (v3 ((x 0) + y) (x 1) (x 2)) t 2)] == [((onV x t 0) + y), (onV x t 1), (onV x t 2)]), .v, .v, .setv 103 (.bool true), .own 3, .v, .own 1, .v, .own 1, .v, .own 1, .v, .v, .setv 112 (.int .i64 ((onV x t 2) + y)), .v, .eq ([(onV (v3 (x 0) (x 1) ((x 2) + y)) (t + y) 0), (onV (v3 (x 0) (x 1) ((x 2) + y)) (t + y) 1), (onV (v3 (x 0) (x 1) ((x 2) + y)) (t + y) 2)] == [(onV x t 0), (onV x t 1), ((onV x t 2) + y)]), .v, .v, .c] (.ret []))))))))))))))))))))))))))))
    (by kernel_rfl) hG hE Tryd.func4 (by kernel_rfl) (by kernel_rfl) (Eq.mpr (by kernel_rfl) h)
set_option maxRecDepth 1000000 in
set_option maxHeartbeats 8000000 in
theorem law_MotionShifts (x : Nat → Int) (t y : Int) (hx : ∀ i, I64 (x i)) (ht : I64 t) (hy : I64 y) (w : World) (hg : GN w) : Calls Tryd.prog 4 #[.agg #[.int .i64 (x 0), .int .i64 (x 1), .int .i64 (x 2)], .int .i64 t, .int .i64 y] w (fun e w' => e = .returned (.bool true) ∧ Below w.heap.size w w') := by
  refine law_MotionShifts_plan x t y w _ (St.refl w) Ex.nil ?_
  intro r1
  refine ⟨rfl, rfl, (CallV.be fun W hS => motion_Kept x (v3 72057594037927936 1125899906842624 1125899906842624) hx (v3_all (p := I64) (by decide) (by decide) (by decide)) W), (fun W => eqVec _ _ _ _ _ _ W), ?_⟩
  refine ⟨?_, ?_⟩
  · intro h20
    have h2 : ([(x 0), (x 1), (x 2)] == [(clampZ (x 0) 72057594037927936), (clampZ (x 1) 1125899906842624), (clampZ (x 2) 1125899906842624)]) = false := by simpa only [Bool.not_eq_true', Bool.not_eq_false'] using h20
    have h2p : ¬ ([(x 0), (x 1), (x 2)] = [(clampZ (x 0) 72057594037927936), (clampZ (x 1) 1125899906842624), (clampZ (x 2) 1125899906842624)]) := by simpa only [beq_iff_eq, beq_eq_false_iff_ne, ne_eq] using h2
    refine ⟨(CallV.be fun W hS => law07_fixed W (hg.below hS.bl)), trivial, ?_⟩
    exact fun W hS => ⟨rfl, hS.bl⟩
  · intro h30
    have h3 : ([(x 0), (x 1), (x 2)] == [(clampZ (x 0) 72057594037927936), (clampZ (x 1) 1125899906842624), (clampZ (x 2) 1125899906842624)]) = true := by simpa only [Bool.not_eq_true', Bool.not_eq_false'] using h30
    have h3p : [(x 0), (x 1), (x 2)] = [(clampZ (x 0) 72057594037927936), (clampZ (x 1) 1125899906842624), (clampZ (x 2) 1125899906842624)] := by simpa only [beq_iff_eq, beq_eq_false_iff_ne, ne_eq] using h3
    obtain ⟨K0, K1, K2⟩ := kept_in h3p
    intro u4 eu4
    intro u5 eu5
    rw [maxI] at eu5
    refine ⟨?_, ?_⟩
    · intro h6
      have h6p : u5 > 1125899906842624 := by simpa using h6
      refine ⟨(CallV.be fun W hS => law07_fixed W (hg.below hS.bl)), trivial, ?_⟩
      exact fun W hS => ⟨rfl, hS.bl⟩
    · intro h7
      have h7p : ¬ (u5 > 1125899906842624) := by simpa using h7
      refine ⟨?_, ?_⟩
      · intro h8
        have h8p : t < (-1125899906842624) := by simpa using h8
        refine ⟨(CallV.be fun W hS => law07_fixed W (hg.below hS.bl)), trivial, ?_⟩
        exact fun W hS => ⟨rfl, hS.bl⟩
      · intro h9
        have h9p : ¬ (t < (-1125899906842624)) := by simpa using h9
        intro u10 eu10
        intro u11 eu11
        rw [maxI] at eu11
        refine ⟨?_, ?_⟩
        · intro h12
          have h12p : u11 > 1125899906842624 := by simpa using h12
          refine ⟨(CallV.be fun W hS => law07_fixed W (hg.below hS.bl)), trivial, ?_⟩
          exact fun W hS => ⟨rfl, hS.bl⟩
        · intro h13
          have h13p : ¬ (u11 > 1125899906842624) := by simpa using h13
          refine ⟨?_, ?_⟩
          · intro h14
            have h14p : y < (-1125899906842624) := by simpa using h14
            refine ⟨(CallV.be fun W hS => law07_fixed W (hg.below hS.bl)), trivial, ?_⟩
            exact fun W hS => ⟨rfl, hS.bl⟩
          · intro h15
            have h15p : ¬ (y < (-1125899906842624)) := by simpa using h15
            obtain ⟨P0, P1, P2, ⟨Q0, Q1, Q2⟩, ⟨R0, R1, R2⟩, Z0, Z2⟩ := shifts_h (x := x) (t := t) (y := y) K0 K1 K2 (by omega) (by omega)
            refine ⟨rfl, (CallV.be fun W hS => motion_On x t hx ht W (hg.below hS.bl)), ?_⟩
            intro r16
            refine ⟨⟨rfl, rfl, rfl, trivial⟩, rfl, congrArg (Value.int .i64) (wrapI (by omega)), rfl, rfl, (CallV.be fun W hS => motion_On (v3 ((x 0) + y) (x 1) (x 2)) t (v3_all (p := I64) (by unfold I64; omega) (hx 1) (hx 2)) ht W (hg.below hS.bl)), ?_⟩
            intro r17
            refine ⟨⟨rfl, rfl, rfl, trivial⟩, rfl, rfl, rfl, congrArg (Value.int .i64) (wrapI (by omega)), congrArg (Value.int .i64) (wrapI (by omega)), (CallV.be fun W hS => motion_On (v3 (x 0) (x 1) ((x 2) + y)) (t + y) (v3_all (p := I64) (hx 0) (hx 1) (by unfold I64; omega)) (by unfold I64; omega) W (hg.below hS.bl)), ?_⟩
            intro r18
            refine ⟨⟨rfl, rfl, rfl, trivial⟩, (CallV.be fun W hS => law07_fixed W (hg.below hS.bl)), congrArg Value.bool (beq_iff_eq.2 P0), congrArg Value.bool (beq_iff_eq.2 P1), congrArg Value.bool (beq_iff_eq.2 P2), rfl, rfl, congrArg (Value.int .i64) (wrapI (by omega)), rfl, rfl, (fun W => eqVec _ _ _ _ _ _ W), congrArg Value.bool (eq3 Q0 Q1 Q2), rfl, rfl, rfl, rfl, congrArg (Value.int .i64) (wrapI (by omega)), (fun W => eqVec _ _ _ _ _ _ W), trivial, ?_⟩
            exact fun W hS => ⟨congrArg (fun q => Ending.returned (Value.bool q)) (eq3 R0 R1 R2), hS.bl⟩

end Go.Proofs.YtpdggnocnaaanaaDoor
