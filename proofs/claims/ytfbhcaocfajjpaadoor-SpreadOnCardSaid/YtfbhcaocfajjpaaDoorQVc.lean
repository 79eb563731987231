/- Walks of layer 4 (vec) and of its reference, second part, by plans. -/
import Derived.Test.YtfbhcaocfajjpaaDoorQVb
namespace Go.Proofs.YtfbhcaocfajjpaaDoor
open Go.RowKit
set_option linter.unusedSimpArgs false
set_option linter.unusedVariables false
set_option maxRecDepth 1000000 in
theorem ref4_Fits_plan (a : Nat → Int) (w : World) (R : Ending → World → Prop) (hG : St w w [] []) (hE : Ex w [])
    (h : ∀ r1 : Nat, r1 = r1 ∧ CallV Tryd.prog w [(r1, [.int .i64 (a 0), .int .i64 (a 1), .int .i64 (a 2)])] [] 54 #[.int .i64 (a 0)] (.bool (fitB (a 0))) ∧ (((fitB (a 0)) = true → r1 = r1 ∧ CallV Tryd.prog w [(r1, [.int .i64 (a 0), .int .i64 (a 1), .int .i64 (a 2)])] [] 54 #[.int .i64 (a 1)] (.bool (fitB (a 1))) ∧ (((fitB (a 1)) = true → r1 = r1 ∧ CallV Tryd.prog w [(r1, [.int .i64 (a 0), .int .i64 (a 1), .int .i64 (a 2)])] [] 54 #[.int .i64 (a 2)] (.bool (fitB (a 2))) ∧ (True) ∧ (LeafV R w [(r1, [.int .i64 (a 0), .int .i64 (a 1), .int .i64 (a 2)])] [] (.bool (fitB (a 2))))) ∧ ((fitB (a 1)) = false → (True) ∧ (LeafV R w [(r1, [.int .i64 (a 0), .int .i64 (a 1), .int .i64 (a 2)])] [] (.bool false))))) ∧ ((fitB (a 0)) = false → (True) ∧ (LeafV R w [(r1, [.int .i64 (a 0), .int .i64 (a 1), .int .i64 (a 2)])] [] (.bool false))))) : Calls Tryd.prog 47 #[.agg #[.int .i64 (a 0), .int .i64 (a 1), .int .i64 (a 2)]] w R :=
  calls_of_plan (f := 47) (es := []) (c := Tryd.f47.body.getD .skip) (tmps := #[.agg #[.int .i64 (a 0), .int .i64 (a 1), .int .i64 (a 2)], undef, undef, undef, undef, undef, undef, undef, undef, undef, undef, undef, undef, undef, undef, undef])
    (.s [.c, .c] (.new (fun r1 => .s [.v, .c, .c, .c, .v, .own 0, .call (.bool (fitB (a 0))), .v] (.split 6 (.s [.v, .own 0, .call (.bool (fitB (a 1))), .v, .v] (.split 11 (.s [.v, .own 0, .call (.bool (fitB (a 2))), .v, .v, .c] (.ret [])) (.s [.u, .u, .u, .v, .v, .c] (.ret [])))) (.s [.u, .u, .u, .v, .v, .u, .u, .u, .v, .v, .c] (.ret []))))))
    (by kernel_rfl) hG hE Tryd.func47 (by kernel_rfl) (by kernel_rfl) (Eq.mpr (by kernel_rfl) h)
set_option maxRecDepth 1000000 in
set_option maxHeartbeats 8000000 in
theorem ref4_Fits (a : Nat → Int)  (w : World)  : Calls Tryd.prog 47 #[.agg #[.int .i64 (a 0), .int .i64 (a 1), .int .i64 (a 2)]] w (fun e w' => e = .returned (.bool (fits3 a)) ∧ Below w.heap.size w w') := by
  refine ref4_Fits_plan a w _ (St.refl w) Ex.nil ?_
  intro r1
  refine ⟨rfl, (CallV.of fun W hS => ref2_Fits (a 0)  W ), ?_⟩
  refine ⟨?_, ?_⟩
  · intro h2
    refine ⟨rfl, (CallV.of fun W hS => ref2_Fits (a 1)  W ), ?_⟩
    refine ⟨?_, ?_⟩
    · intro h3
      refine ⟨rfl, (CallV.of fun W hS => ref2_Fits (a 2)  W ), trivial, ?_⟩
      exact fun W hS => ⟨by simp only [fits3, h2, h3, bne, Bool.false_and, Bool.and_false, Bool.not_true, Bool.not_false, Bool.and_self, Bool.true_and, Bool.and_true, Bool.or_self, Bool.or_true, Bool.or_false, Bool.true_or, Bool.false_or], hS.bl⟩
    · intro h4
      refine ⟨trivial, ?_⟩
      exact fun W hS => ⟨by simp only [fits3, h2, h4, bne, Bool.false_and, Bool.and_false, Bool.not_true, Bool.not_false, Bool.and_self, Bool.true_and, Bool.and_true, Bool.or_self, Bool.or_true, Bool.or_false, Bool.true_or, Bool.false_or], hS.bl⟩
  · intro h5
    refine ⟨trivial, ?_⟩
    exact fun W hS => ⟨by simp only [fits3, h5, bne, Bool.false_and, Bool.and_false, Bool.not_true, Bool.not_false, Bool.and_self, Bool.true_and, Bool.and_true, Bool.or_self, Bool.or_true, Bool.or_false, Bool.true_or, Bool.false_or], hS.bl⟩
end Go.Proofs.YtfbhcaocfajjpaaDoor
