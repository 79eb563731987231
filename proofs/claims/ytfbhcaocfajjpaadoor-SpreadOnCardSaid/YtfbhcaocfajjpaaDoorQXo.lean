/- Layer 5's reference: the sum; by plans. -/
import Derived.Test.YtfbhcaocfajjpaaDoorQSr
import Derived.Test.YtfbhcaocfajjpaaDoorQFc
import Derived.Test.YtfbhcaocfajjpaaDoorQZj
namespace Go.Proofs.YtfbhcaocfajjpaaDoor
open Go.RowKit
set_option linter.unusedSimpArgs false
set_option linter.unusedVariables false
set_option maxRecDepth 1000000 in
set_option maxHeartbeats 8000000 in
theorem ref5_Add6_plan (a b : Nat → Int) (B : Base) (w : World) (R : Ending → World → Prop) (hG : Sx B w [] [] [] []) (hE : ExX B [])
    (h : ∀ r1 : Nat, ∀ r4 : Nat, ∀ r7 : Nat, let bs8 : Blks := [(r1, [.int .i64 (a 0), .int .i64 (a 1), .int .i64 (a 2), .int .i64 (a 3), .int .i64 (a 4), .int .i64 (a 5)]), (r4, [.int .i64 (b 0), .int .i64 (b 1), .int .i64 (b 2), .int .i64 (b 3), .int .i64 (b 4), .int .i64 (b 5)]), (r7, [.int .i64 0, .int .i64 0, .int .i64 0, .int .i64 0, .int .i64 0, .int .i64 0])]; let rs9 : Rws := [(0, 23, 6), (1, 23, 6), (2, 23, 6)]; (r1 = r1 ∧ CallVX Tryd.prog B bs8 [] rs9 [] 20 #[.agg #[.int .i64 (a 0), .int .i64 (a 1), .int .i64 (a 2), .int .i64 (a 3), .int .i64 (a 4), .int .i64 (a 5)]] (.bool (fits6 a)) ∧ (((!(fits6 a)) = true → (r7 = r7 ∧ (r7 = r7 ∧ (r7 = r7 ∧ (r7 = r7 ∧ (r7 = r7 ∧ (r7 = r7 ∧ (True))))))) ∧ (True) ∧ (r7 = r7 ∧ (True)) ∧ (LeafX B R bs8 [] rs9 [] (.tuple #[.agg #[.int .i64 0, .int .i64 0, .int .i64 0, .int .i64 0, .int .i64 0, .int .i64 0], .int .i64 1]))) ∧ ((!(fits6 a)) = false → r4 = r4 ∧ CallVX Tryd.prog B bs8 [] rs9 [] 20 #[.agg #[.int .i64 (b 0), .int .i64 (b 1), .int .i64 (b 2), .int .i64 (b 3), .int .i64 (b 4), .int .i64 (b 5)]] (.bool (fits6 b)) ∧ (((!(fits6 b)) = true → (r7 = r7 ∧ (r7 = r7 ∧ (r7 = r7 ∧ (r7 = r7 ∧ (r7 = r7 ∧ (r7 = r7 ∧ (True))))))) ∧ (True) ∧ (r7 = r7 ∧ (True)) ∧ (LeafX B R bs8 [] rs9 [] (.tuple #[.agg #[.int .i64 0, .int .i64 0, .int .i64 0, .int .i64 0, .int .i64 0, .int .i64 0], .int .i64 1]))) ∧ ((!(fits6 b)) = false → ∀ r14 : Nat, let bs15 : Blks := [(r1, [.int .i64 (a 0), .int .i64 (a 1), .int .i64 (a 2), .int .i64 (a 3), .int .i64 (a 4), .int .i64 (a 5)]), (r4, [.int .i64 (b 0), .int .i64 (b 1), .int .i64 (b 2), .int .i64 (b 3), .int .i64 (b 4), .int .i64 (b 5)]), (r7, [.int .i64 0, .int .i64 0, .int .i64 0, .int .i64 0, .int .i64 0, .int .i64 0]), (r14, [.int .i64 0, .int .i64 0, .int .i64 0, .int .i64 0, .int .i64 0, .int .i64 0])]; let rs16 : Rws := [(0, 23, 6), (1, 23, 6), (2, 23, 6), (3, 23, 6)]; ((r14 = r14 ∧ (r14 = r14 ∧ (r14 = r14 ∧ (r14 = r14 ∧ (r14 = r14 ∧ (r14 = r14 ∧ (True))))))) ∧ (True) ∧ r1 = r1 ∧ r4 = r4 ∧ CallVX Tryd.prog B bs15 [] rs16 [] 34 #[.int .i64 (a 0), .int .i64 (b 0)] (.tuple #[.int .i64 (bothV (a 0) (b 0) ((a 0) + (b 0))), .int .i64 (bothE (a 0) (b 0) ((a 0) + (b 0)))]) ∧ ((((bothE (a 0) (b 0) ((a 0) + (b 0))) != 0) = true → (r7 = r7 ∧ (r7 = r7 ∧ (r7 = r7 ∧ (r7 = r7 ∧ (r7 = r7 ∧ (r7 = r7 ∧ (True))))))) ∧ (True) ∧ (r7 = r7 ∧ (True)) ∧ (LeafX B R bs15 [] rs16 [] (.tuple #[.agg #[.int .i64 0, .int .i64 0, .int .i64 0, .int .i64 0, .int .i64 0, .int .i64 0], .int .i64 (bothE (a 0) (b 0) ((a 0) + (b 0)))]))) ∧ (((bothE (a 0) (b 0) ((a 0) + (b 0))) != 0) = false → (r14 = r14 ∧ (True)) ∧ (True) ∧ (let bs19 : Blks := [(r1, [.int .i64 (a 0), .int .i64 (a 1), .int .i64 (a 2), .int .i64 (a 3), .int .i64 (a 4), .int .i64 (a 5)]), (r4, [.int .i64 (b 0), .int .i64 (b 1), .int .i64 (b 2), .int .i64 (b 3), .int .i64 (b 4), .int .i64 (b 5)]), (r7, [.int .i64 0, .int .i64 0, .int .i64 0, .int .i64 0, .int .i64 0, .int .i64 0]), (r14, [.int .i64 (bothV (a 0) (b 0) ((a 0) + (b 0))), .int .i64 0, .int .i64 0, .int .i64 0, .int .i64 0, .int .i64 0])]; (r1 = r1 ∧ r4 = r4 ∧ CallVX Tryd.prog B bs19 [] rs16 [] 34 #[.int .i64 (a 1), .int .i64 (b 1)] (.tuple #[.int .i64 (bothV (a 1) (b 1) ((a 1) + (b 1))), .int .i64 (bothE (a 1) (b 1) ((a 1) + (b 1)))]) ∧ ((((bothE (a 1) (b 1) ((a 1) + (b 1))) != 0) = true → (r7 = r7 ∧ (r7 = r7 ∧ (r7 = r7 ∧ (r7 = r7 ∧ (r7 = r7 ∧ (r7 = r7 ∧ (True))))))) ∧ (True) ∧ (r7 = r7 ∧ (True)) ∧ (LeafX B R bs19 [] rs16 [] (.tuple #[.agg #[.int .i64 0, .int .i64 0, .int .i64 0, .int .i64 0, .int .i64 0, .int .i64 0], .int .i64 (bothE (a 1) (b 1) ((a 1) + (b 1)))]))) ∧ (((bothE (a 1) (b 1) ((a 1) + (b 1))) != 0) = false → (r14 = r14 ∧ (True)) ∧ (True) ∧ (let bs22 : Blks := [(r1, [.int .i64 (a 0), .int .i64 (a 1), .int .i64 (a 2), .int .i64 (a 3), .int .i64 (a 4), .int .i64 (a 5)]), (r4, [.int .i64 (b 0), .int .i64 (b 1), .int .i64 (b 2), .int .i64 (b 3), .int .i64 (b 4), .int .i64 (b 5)]), (r7, [.int .i64 0, .int .i64 0, .int .i64 0, .int .i64 0, .int .i64 0, .int .i64 0]), (r14, [.int .i64 (bothV (a 0) (b 0) ((a 0) + (b 0))), .int .i64 (bothV (a 1) (b 1) ((a 1) + (b 1))), .int .i64 0, .int .i64 0, .int .i64 0, .int .i64 0])]; (r1 = r1 ∧ r4 = r4 ∧ CallVX Tryd.prog B bs22 [] rs16 [] 34 #[.int .i64 (a 2), .int .i64 (b 2)] (.tuple #[.int .i64 (bothV (a 2) (b 2) ((a 2) + (b 2))), .int .i64 (bothE (a 2) (b 2) ((a 2) + (b 2)))]) ∧ ((((bothE (a 2) (b 2) ((a 2) + (b 2))) != 0) = true → (r7 = r7 ∧ (r7 = r7 ∧ (r7 = r7 ∧ (r7 = r7 ∧ (r7 = r7 ∧ (r7 = r7 ∧ (True))))))) ∧ (True) ∧ (r7 = r7 ∧ (True)) ∧ (LeafX B R bs22 [] rs16 [] (.tuple #[.agg #[.int .i64 0, .int .i64 0, .int .i64 0, .int .i64 0, .int .i64 0, .int .i64 0], .int .i64 (bothE (a 2) (b 2) ((a 2) + (b 2)))]))) ∧ (((bothE (a 2) (b 2) ((a 2) + (b 2))) != 0) = false → (r14 = r14 ∧ (True)) ∧ (True) ∧ (let bs25 : Blks := [(r1, [.int .i64 (a 0), .int .i64 (a 1), .int .i64 (a 2), .int .i64 (a 3), .int .i64 (a 4), .int .i64 (a 5)]), (r4, [.int .i64 (b 0), .int .i64 (b 1), .int .i64 (b 2), .int .i64 (b 3), .int .i64 (b 4), .int .i64 (b 5)]), (r7, [.int .i64 0, .int .i64 0, .int .i64 0, .int .i64 0, .int .i64 0, .int .i64 0]), (r14, [.int .i64 (bothV (a 0) (b 0) ((a 0) + (b 0))), .int .i64 (bothV (a 1) (b 1) ((a 1) + (b 1))), .int .i64 (bothV (a 2) (b 2) ((a 2) + (b 2))), .int .i64 0, .int .i64 0, .int .i64 0])]; (r1 = r1 ∧ r4 = r4 ∧ CallVX Tryd.prog B bs25 [] rs16 [] 34 #[.int .i64 (a 3), .int .i64 (b 3)] (.tuple #[.int .i64 (bothV (a 3) (b 3) ((a 3) + (b 3))), .int .i64 (bothE (a 3) (b 3) ((a 3) + (b 3)))]) ∧ ((((bothE (a 3) (b 3) ((a 3) + (b 3))) != 0) = true → (r7 = r7 ∧ (r7 = r7 ∧ (r7 = r7 ∧ (r7 = r7 ∧ (r7 = r7 ∧ (r7 = r7 ∧ (True))))))) ∧ (True) ∧ (r7 = r7 ∧ (True)) ∧ (LeafX B R bs25 [] rs16 [] (.tuple #[.agg #[.int .i64 0, .int .i64 0, .int .i64 0, .int .i64 0, .int .i64 0, .int .i64 0], .int .i64 (bothE (a 3) (b 3) ((a 3) + (b 3)))]))) ∧ (((bothE (a 3) (b 3) ((a 3) + (b 3))) != 0) = false → (r14 = r14 ∧ (True)) ∧ (True) ∧ (let bs28 : Blks := [(r1, [.int .i64 (a 0), .int .i64 (a 1), .int .i64 (a 2), .int .i64 (a 3), .int .i64 (a 4), .int .i64 (a 5)]), (r4, [.int .i64 (b 0), .int .i64 (b 1), .int .i64 (b 2), .int .i64 (b 3), .int .i64 (b 4), .int .i64 (b 5)]), (r7, [.int .i64 0, .int .i64 0, .int .i64 0, .int .i64 0, .int .i64 0, .int .i64 0]), (r14, [.int .i64 (bothV (a 0) (b 0) ((a 0) + (b 0))), .int .i64 (bothV (a 1) (b 1) ((a 1) + (b 1))), .int .i64 (bothV (a 2) (b 2) ((a 2) + (b 2))), .int .i64 (bothV (a 3) (b 3) ((a 3) + (b 3))), .int .i64 0, .int .i64 0])]; (r1 = r1 ∧ r4 = r4 ∧ CallVX Tryd.prog B bs28 [] rs16 [] 34 #[.int .i64 (a 4), .int .i64 (b 4)] (.tuple #[.int .i64 (bothV (a 4) (b 4) ((a 4) + (b 4))), .int .i64 (bothE (a 4) (b 4) ((a 4) + (b 4)))]) ∧ ((((bothE (a 4) (b 4) ((a 4) + (b 4))) != 0) = true → (r7 = r7 ∧ (r7 = r7 ∧ (r7 = r7 ∧ (r7 = r7 ∧ (r7 = r7 ∧ (r7 = r7 ∧ (True))))))) ∧ (True) ∧ (r7 = r7 ∧ (True)) ∧ (LeafX B R bs28 [] rs16 [] (.tuple #[.agg #[.int .i64 0, .int .i64 0, .int .i64 0, .int .i64 0, .int .i64 0, .int .i64 0], .int .i64 (bothE (a 4) (b 4) ((a 4) + (b 4)))]))) ∧ (((bothE (a 4) (b 4) ((a 4) + (b 4))) != 0) = false → (r14 = r14 ∧ (True)) ∧ (True) ∧ (let bs31 : Blks := [(r1, [.int .i64 (a 0), .int .i64 (a 1), .int .i64 (a 2), .int .i64 (a 3), .int .i64 (a 4), .int .i64 (a 5)]), (r4, [.int .i64 (b 0), .int .i64 (b 1), .int .i64 (b 2), .int .i64 (b 3), .int .i64 (b 4), .int .i64 (b 5)]), (r7, [.int .i64 0, .int .i64 0, .int .i64 0, .int .i64 0, .int .i64 0, .int .i64 0]), (r14, [.int .i64 (bothV (a 0) (b 0) ((a 0) + (b 0))), .int .i64 (bothV (a 1) (b 1) ((a 1) + (b 1))), .int .i64 (bothV (a 2) (b 2) ((a 2) + (b 2))), .int .i64 (bothV (a 3) (b 3) ((a 3) + (b 3))), .int .i64 (bothV (a 4) (b 4) ((a 4) + (b 4))), .int .i64 0])]; (r1 = r1 ∧ r4 = r4 ∧ CallVX Tryd.prog B bs31 [] rs16 [] 34 #[.int .i64 (a 5), .int .i64 (b 5)] (.tuple #[.int .i64 (bothV (a 5) (b 5) ((a 5) + (b 5))), .int .i64 (bothE (a 5) (b 5) ((a 5) + (b 5)))]) ∧ ((((bothE (a 5) (b 5) ((a 5) + (b 5))) != 0) = true → (r7 = r7 ∧ (r7 = r7 ∧ (r7 = r7 ∧ (r7 = r7 ∧ (r7 = r7 ∧ (r7 = r7 ∧ (True))))))) ∧ (True) ∧ (r7 = r7 ∧ (True)) ∧ (LeafX B R bs31 [] rs16 [] (.tuple #[.agg #[.int .i64 0, .int .i64 0, .int .i64 0, .int .i64 0, .int .i64 0, .int .i64 0], .int .i64 (bothE (a 5) (b 5) ((a 5) + (b 5)))]))) ∧ (((bothE (a 5) (b 5) ((a 5) + (b 5))) != 0) = false → (r14 = r14 ∧ (True)) ∧ (True) ∧ (r14 = r14 ∧ (r7 = r7 ∧ (r7 = r7 ∧ (r7 = r7 ∧ (r7 = r7 ∧ (r7 = r7 ∧ (r7 = r7 ∧ (True))))))) ∧ (True) ∧ (let bs35 : Blks := [(r1, [.int .i64 (a 0), .int .i64 (a 1), .int .i64 (a 2), .int .i64 (a 3), .int .i64 (a 4), .int .i64 (a 5)]), (r4, [.int .i64 (b 0), .int .i64 (b 1), .int .i64 (b 2), .int .i64 (b 3), .int .i64 (b 4), .int .i64 (b 5)]), (r7, [.int .i64 (bothV (a 0) (b 0) ((a 0) + (b 0))), .int .i64 (bothV (a 1) (b 1) ((a 1) + (b 1))), .int .i64 (bothV (a 2) (b 2) ((a 2) + (b 2))), .int .i64 (bothV (a 3) (b 3) ((a 3) + (b 3))), .int .i64 (bothV (a 4) (b 4) ((a 4) + (b 4))), .int .i64 (bothV (a 5) (b 5) ((a 5) + (b 5)))]), (r14, [.int .i64 (bothV (a 0) (b 0) ((a 0) + (b 0))), .int .i64 (bothV (a 1) (b 1) ((a 1) + (b 1))), .int .i64 (bothV (a 2) (b 2) ((a 2) + (b 2))), .int .i64 (bothV (a 3) (b 3) ((a 3) + (b 3))), .int .i64 (bothV (a 4) (b 4) ((a 4) + (b 4))), .int .i64 (bothV (a 5) (b 5) ((a 5) + (b 5)))])]; ((r7 = r7 ∧ (True)) ∧ (LeafX B R bs35 [] rs16 [] (.tuple #[.agg #[.int .i64 (bothV (a 0) (b 0) ((a 0) + (b 0))), .int .i64 (bothV (a 1) (b 1) ((a 1) + (b 1))), .int .i64 (bothV (a 2) (b 2) ((a 2) + (b 2))), .int .i64 (bothV (a 3) (b 3) ((a 3) + (b 3))), .int .i64 (bothV (a 4) (b 4) ((a 4) + (b 4))), .int .i64 (bothV (a 5) (b 5) ((a 5) + (b 5)))], .int .i64 0])))))))))))))))))))))))))))))))))) : Calls Tryd.prog 12 #[.agg #[.int .i64 (a 0), .int .i64 (a 1), .int .i64 (a 2), .int .i64 (a 3), .int .i64 (a 4), .int .i64 (a 5)], .agg #[.int .i64 (b 0), .int .i64 (b 1), .int .i64 (b 2), .int .i64 (b 3), .int .i64 (b 4), .int .i64 (b 5)]] w R :=
  calls_of_planX (f := 12) (B := B) (es := []) (c := Tryd.f12.body.getD .skip) (tmps := #[.agg #[.int .i64 (a 0), .int .i64 (a 1), .int .i64 (a 2), .int .i64 (a 3), .int .i64 (a 4), .int .i64 (a 5)], .agg #[.int .i64 (b 0), .int .i64 (b 1), .int .i64 (b 2), .int .i64 (b 3), .int .i64 (b 4), .int .i64 (b 5)], undef, undef, undef, undef, undef, undef, undef, undef, undef, undef, undef, undef, undef, undef, undef, undef, undef, undef, undef, undef, undef, undef, undef, undef, undef, undef, undef, undef, undef, undef, undef, undef, undef, undef, undef, undef, undef, undef, undef, undef])
    (.s [.c, .c] (.new (fun r1 => .new (fun r4 => .new (fun r7 => .s [.v, .c, .c, .c, .c, .own 0, .call (.bool (fits6 a)), .v, .v] (.split 13 (.s [.u, .u, .u, .v, .c, .c, .c, .c, .v, .put 2, .v, .c] (.ret [2])) (.s [.own 1, .call (.bool (fits6 b)), .v, .v, .c] (.split 17 (.s [.c, .c, .c, .v, .put 2, .v, .c] (.ret [2])) (.s [.c, .c, .c, .c, .v] (.new (fun r14 => .s [.put 3, .c, .c, .c, .c, .v, .c, .c, .c, .c, .c, .c, .v, .v, .c, .c, .c, .c, .c, .c, .d [], .at 0 false, .v, .at 1 false, .v, .at 2 false, .own 0, .at 3 false, .v, .at 4 false, .v, .at 5 false, .own 1, .at 6 true, .call (.tuple #[.int .i64 (bothV (a 0) (b 0) ((a 0) + (b 0))), .int .i64 (bothE (a 0) (b 0) ((a 0) + (b 0)))]), .at 7 false, .v, .at 8 false, .v, .at 9 false, .v, .at 10 false, .v, .at 11 false, .v, .c, .c, .c, .c, .v, .v, .c] (.split 35 (.s [.c, .c, .c, .v, .v, .put 2, .v, .c] (.ret [2])) (.s [.c, .c, .c, .v, .v, .v, .put 3] (.s [.c, .c, .c, .v, .v, .v, .c, .c, .c, .c, .c, .v, .v, .c, .c, .c, .c, .c, .c, .d [], .at 0 false, .v, .at 1 false, .v, .at 2 false, .own 0, .at 3 false, .v, .at 4 false, .v, .at 5 false, .own 1, .at 6 true, .call (.tuple #[.int .i64 (bothV (a 1) (b 1) ((a 1) + (b 1))), .int .i64 (bothE (a 1) (b 1) ((a 1) + (b 1)))]), .at 7 false, .v, .at 8 false, .v, .at 9 false, .v, .at 10 false, .v, .at 11 false, .v, .c, .c, .c, .c, .v, .v, .c] (.split 35 (.s [.c, .c, .c, .v, .v, .put 2, .v, .c] (.ret [2])) (.s [.c, .c, .c, .v, .v, .v, .put 3] (.s [.c, .c, .c, .v, .v, .v, .c, .c, .c, .c, .c, .v, .v, .c, .c, .c, .c, .c, .c, .d [], .at 0 false, .v, .at 1 false, .v, .at 2 false, .own 0, .at 3 false, .v, .at 4 false, .v, .at 5 false, .own 1, .at 6 true, .call (.tuple #[.int .i64 (bothV (a 2) (b 2) ((a 2) + (b 2))), .int .i64 (bothE (a 2) (b 2) ((a 2) + (b 2)))]), .at 7 false, .v, .at 8 false, .v, .at 9 false, .v, .at 10 false, .v, .at 11 false, .v, .c, .c, .c, .c, .v, .v, .c] (.split 35 (.s [.c, .c, .c, .v, .v, .put 2, .v, .c] (.ret [2])) (.s [.c, .c, .c, .v, .v, .v, .put 3] (.s [.c, .c, .c, .v, .v, .v, .c, .c, .c, .c, .c, .v, .v, .c, .c, .c, .c, .c, .c, .d [], .at 0 false, .v, .at 1 false, .v, .at 2 false, .own 0, .at 3 false, .v, .at 4 false, .v, .at 5 false, .own 1, .at 6 true, .call (.tuple #[.int .i64 (bothV (a 3) (b 3) ((a 3) + (b 3))), .int .i64 (bothE (a 3) (b 3) ((a 3) + (b 3)))]), .at 7 false, .v, .at 8 false, .v, .at 9 false, .v, .at 10 false, .v, .at 11 false, .v, .c, .c, .c, .c, .v, .v, .c] (.split 35 (.s [.c, .c, .c, .v, .v, .put 2, .v, .c] (.ret [2])) (.s [.c, .c, .c, .v, .v, .v, .put 3] (.s [.c, .c, .c, .v, .v, .v, .c, .c, .c, .c, .c, .v, .v, .c, .c, .c, .c, .c, .c, .d [], .at 0 false, .v, .at 1 false, .v, .at 2 false, .own 0, .at 3 false, .v, .at 4 false, .v, .at 5 false, .own 1, .at 6 true, .call (.tuple #[.int .i64 (bothV (a 4) (b 4) ((a 4) + (b 4))), .int .i64 (bothE (a 4) (b 4) ((a 4) + (b 4)))]), .at 7 false, .v, .at 8 false, .v, .at 9 false, .v, .at 10 false, .v, .at 11 false, .v, .c, .c, .c, .c, .v, .v, .c] (.split 35 (.s [.c, .c, .c, .v, .v, .put 2, .v, .c] (.ret [2])) (.s [.c, .c, .c, .v, .v, .v, .put 3] (.s [.c, .c, .c, .v, .v, .v, .c, .c, .c, .c, .c, .v, .v, .c, .c, .c, .c, .c, .c, .d [], .at 0 false, .v, .at 1 false, .v, .at 2 false, .own 0, .at 3 false, .v, .at 4 false, .v, .at 5 false, .own 1, .at 6 true, .call (.tuple #[.int .i64 (bothV (a 5) (b 5) ((a 5) + (b 5))), .int .i64 (bothE (a 5) (b 5) ((a 5) + (b 5)))]), .at 7 false, .v, .at 8 false, .v, .at 9 false, .v, .at 10 false, .v, .at 11 false, .v, .c, .c, .c, .c, .v, .v, .c] (.split 35 (.s [.c, .c, .c, .v, .v, .put 2, .v, .c] (.ret [2])) (.s [.c, .c, .c, .v, .v, .v, .put 3] (.s [.c, .c, .c, .v, .v, .v, .c, .c, .c, .c, .c, .v, .v, .c, .c, .c, .c, .c, .own 3, .put 2] (.s [.v, .c] (.ret [2])))))))))))))))))))))))))))))))
    (by kernel_rfl) hG hE Tryd.func12 (by kernel_rfl) (by kernel_rfl) (Eq.mpr (by kernel_rfl) h)
set_option maxRecDepth 1000000 in
set_option maxHeartbeats 8000000 in
theorem ref5_Add6 (a b : Nat → Int)  (w : World)   : Calls Tryd.prog 12 #[.agg #[.int .i64 (a 0), .int .i64 (a 1), .int .i64 (a 2), .int .i64 (a 3), .int .i64 (a 4), .int .i64 (a 5)], .agg #[.int .i64 (b 0), .int .i64 (b 1), .int .i64 (b 2), .int .i64 (b 3), .int .i64 (b 4), .int .i64 (b 5)]] w (fun e w' => e = .returned (.tuple #[.agg #[.int .i64 (addV a b 0), .int .i64 (addV a b 1), .int .i64 (addV a b 2), .int .i64 (addV a b 3), .int .i64 (addV a b 4), .int .i64 (addV a b 5)], .int .i64 (addE a b)]) ∧ Below w.heap.size w w') := by
  refine ref5_Add6_plan a b (⟨w, fun _ => False⟩ : Base) w _ (Sx.refl w _) ExX.nil ?_
  intro r1
  intro r4
  intro r7
  intro bs8 rs9
  refine ⟨rfl, (CallVX.be fun W hS => ref5_Fits a W), ?_⟩
  refine ⟨?_, ?_⟩
  · intro h100
    have h10 : (fits6 a) = false := by simpa using h100
    refine ⟨⟨rfl, rfl, rfl, rfl, rfl, rfl, trivial⟩, trivial, ⟨rfl, trivial⟩, ?_⟩
    have F := ad6_1 (a := a) (b := b) (by simp [h10])
    exact fun W hS => ⟨by simp only [F.1, F.2], hS.bl⟩
  · intro h110
    have h11 : (fits6 a) = true := by simpa using h110
    obtain ⟨fa0, fa1, fa2, fa3, fa4, fa5⟩ := s6_all h11
    refine ⟨rfl, (CallVX.be fun W hS => ref5_Fits b W), ?_⟩
    refine ⟨?_, ?_⟩
    · intro h120
      have h12 : (fits6 b) = false := by simpa using h120
      refine ⟨⟨rfl, rfl, rfl, rfl, rfl, rfl, trivial⟩, trivial, ⟨rfl, trivial⟩, ?_⟩
      have F := ad6_1 (a := a) (b := b) (by simp [h12])
      exact fun W hS => ⟨by simp only [F.1, F.2], hS.bl⟩
    · intro h130
      have h13 : (fits6 b) = true := by simpa using h130
      obtain ⟨fb0, fb1, fb2, fb3, fb4, fb5⟩ := s6_all h13
      intro r14
      intro bs15 rs16
      refine ⟨⟨rfl, rfl, rfl, rfl, rfl, rfl, trivial⟩, trivial, rfl, rfl, (CallVX.be fun W hS => ref2_Add (a 0) (b 0)  W ), ?_⟩
      refine ⟨?_, ?_⟩
      · intro h17
        have h17p : ¬ ((bothE (a 0) (b 0) ((a 0) + (b 0))) = 0) := by simpa using h17
        have X := s6_err fa0 fb0 h17p
        refine ⟨⟨rfl, rfl, rfl, rfl, rfl, rfl, trivial⟩, trivial, ⟨rfl, trivial⟩, ?_⟩
        have F := ad6_3 h11 h13 (allB_not (k := 0) (by decide) X.2)
        exact fun W hS => ⟨by simp only [F.1, F.2, X.1], hS.bl⟩
      · intro h18
        have h18p : (bothE (a 0) (b 0) ((a 0) + (b 0))) = 0 := by simpa using h18
        have A0 := s6_ok fa0 fb0 h18p
        refine ⟨⟨rfl, trivial⟩, trivial, ?_⟩
        intro bs19
        refine ⟨rfl, rfl, (CallVX.be fun W hS => ref2_Add (a 1) (b 1)  W ), ?_⟩
        refine ⟨?_, ?_⟩
        · intro h20
          have h20p : ¬ ((bothE (a 1) (b 1) ((a 1) + (b 1))) = 0) := by simpa using h20
          have X := s6_err fa1 fb1 h20p
          refine ⟨⟨rfl, rfl, rfl, rfl, rfl, rfl, trivial⟩, trivial, ⟨rfl, trivial⟩, ?_⟩
          have F := ad6_3 h11 h13 (allB_not (k := 1) (by decide) X.2)
          exact fun W hS => ⟨by simp only [F.1, F.2, X.1], hS.bl⟩
        · intro h21
          have h21p : (bothE (a 1) (b 1) ((a 1) + (b 1))) = 0 := by simpa using h21
          have A1 := s6_ok fa1 fb1 h21p
          refine ⟨⟨rfl, trivial⟩, trivial, ?_⟩
          intro bs22
          refine ⟨rfl, rfl, (CallVX.be fun W hS => ref2_Add (a 2) (b 2)  W ), ?_⟩
          refine ⟨?_, ?_⟩
          · intro h23
            have h23p : ¬ ((bothE (a 2) (b 2) ((a 2) + (b 2))) = 0) := by simpa using h23
            have X := s6_err fa2 fb2 h23p
            refine ⟨⟨rfl, rfl, rfl, rfl, rfl, rfl, trivial⟩, trivial, ⟨rfl, trivial⟩, ?_⟩
            have F := ad6_3 h11 h13 (allB_not (k := 2) (by decide) X.2)
            exact fun W hS => ⟨by simp only [F.1, F.2, X.1], hS.bl⟩
          · intro h24
            have h24p : (bothE (a 2) (b 2) ((a 2) + (b 2))) = 0 := by simpa using h24
            have A2 := s6_ok fa2 fb2 h24p
            refine ⟨⟨rfl, trivial⟩, trivial, ?_⟩
            intro bs25
            refine ⟨rfl, rfl, (CallVX.be fun W hS => ref2_Add (a 3) (b 3)  W ), ?_⟩
            refine ⟨?_, ?_⟩
            · intro h26
              have h26p : ¬ ((bothE (a 3) (b 3) ((a 3) + (b 3))) = 0) := by simpa using h26
              have X := s6_err fa3 fb3 h26p
              refine ⟨⟨rfl, rfl, rfl, rfl, rfl, rfl, trivial⟩, trivial, ⟨rfl, trivial⟩, ?_⟩
              have F := ad6_3 h11 h13 (allB_not (k := 3) (by decide) X.2)
              exact fun W hS => ⟨by simp only [F.1, F.2, X.1], hS.bl⟩
            · intro h27
              have h27p : (bothE (a 3) (b 3) ((a 3) + (b 3))) = 0 := by simpa using h27
              have A3 := s6_ok fa3 fb3 h27p
              refine ⟨⟨rfl, trivial⟩, trivial, ?_⟩
              intro bs28
              refine ⟨rfl, rfl, (CallVX.be fun W hS => ref2_Add (a 4) (b 4)  W ), ?_⟩
              refine ⟨?_, ?_⟩
              · intro h29
                have h29p : ¬ ((bothE (a 4) (b 4) ((a 4) + (b 4))) = 0) := by simpa using h29
                have X := s6_err fa4 fb4 h29p
                refine ⟨⟨rfl, rfl, rfl, rfl, rfl, rfl, trivial⟩, trivial, ⟨rfl, trivial⟩, ?_⟩
                have F := ad6_3 h11 h13 (allB_not (k := 4) (by decide) X.2)
                exact fun W hS => ⟨by simp only [F.1, F.2, X.1], hS.bl⟩
              · intro h30
                have h30p : (bothE (a 4) (b 4) ((a 4) + (b 4))) = 0 := by simpa using h30
                have A4 := s6_ok fa4 fb4 h30p
                refine ⟨⟨rfl, trivial⟩, trivial, ?_⟩
                intro bs31
                refine ⟨rfl, rfl, (CallVX.be fun W hS => ref2_Add (a 5) (b 5)  W ), ?_⟩
                refine ⟨?_, ?_⟩
                · intro h32
                  have h32p : ¬ ((bothE (a 5) (b 5) ((a 5) + (b 5))) = 0) := by simpa using h32
                  have X := s6_err fa5 fb5 h32p
                  refine ⟨⟨rfl, rfl, rfl, rfl, rfl, rfl, trivial⟩, trivial, ⟨rfl, trivial⟩, ?_⟩
                  have F := ad6_3 h11 h13 (allB_not (k := 5) (by decide) X.2)
                  exact fun W hS => ⟨by simp only [F.1, F.2, X.1], hS.bl⟩
                · intro h33
                  have h33p : (bothE (a 5) (b 5) ((a 5) + (b 5))) = 0 := by simpa using h33
                  have A5 := s6_ok fa5 fb5 h33p
                  refine ⟨⟨rfl, trivial⟩, trivial, ?_⟩
                  refine ⟨rfl, ⟨rfl, rfl, rfl, rfl, rfl, rfl, trivial⟩, trivial, ?_⟩
                  intro bs35
                  refine ⟨⟨rfl, trivial⟩, ?_⟩
                  have F := ad6_0 h11 h13 (s6_of A0.2 A1.2 A2.2 A3.2 A4.2 A5.2)
                  exact fun W hS => ⟨by simp only [F.1, F.2, A0.1, A1.1, A2.1, A3.1, A4.1, A5.1], hS.bl⟩

end Go.Proofs.YtfbhcaocfajjpaaDoor
