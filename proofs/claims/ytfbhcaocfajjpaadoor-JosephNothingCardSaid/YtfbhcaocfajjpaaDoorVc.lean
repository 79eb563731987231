/- Walks of layer 4 (vec) and of its reference, second part, by plans. -/
import Derived.Test.YtfbhcaocfajjpaaDoorVb
namespace Go.Proofs.YtfbhcaocfajjpaaDoor
open Go.RowKit
set_option linter.unusedSimpArgs false
set_option linter.unusedVariables false
theorem ev_pow (z : Int) (n : Nat) : ev z (pow2 n) = evP z (pow2 n) := by have := pow2_pos n; unfold ev; rw [if_neg (by omega)]
theorem dotS_eq (a b : Nat → Int) : ((0 + a 0 * b 0) + a 1 * b 1) + a 2 * b 2 = dotS a b := by unfold dotS; rw [Int.zero_add]
theorem prod_bd3 {a b : Int} (h : fitB a = true) (h2 : fitB b = true) : -83076749736557242056487941267521536 ≤ a * b ∧ a * b ≤ 83076749736557242056487941267521536 := by
  have := fit_prod h h2; omega
theorem wide_Add_in (a b : Int) (ha : W128 a) (hb : W128 b) (h : W128 (a + b)) (w : World) (hg : GN w) : Calls Tryd.prog 53 #[.agg #[.int .i64 (whi a), .int .u64 (wlo a)], .agg #[.int .i64 (whi b), .int .u64 (wlo b)]] w fun e w' => e = .returned (.tuple #[.agg #[.int .i64 (whi (a + b)), .int .u64 (wlo (a + b))], .int .i64 0]) ∧ Below w.heap.size w w' := by
  have k := wide_Add a b ha hb w hg
  rw [(fitW_of h).1, (fitW_of h).2] at k
  exact k
theorem toV_i64 (z : Int) : I64 (toV z) := by
  unfold toV; split
  · rename_i h; exact fitB_i64 h
  · decide
theorem bothV_i64 (a b z : Int) : I64 (bothV a b z) := by unfold bothV; split; exact toV_i64 z; decide
theorem eV_i64 (a b c : Int) {x : Int} (h : I64 x) : I64 (eV a b c x) := by unfold eV; split; exact h; decide
theorem vaddV_i64 (a b : Nat → Int) (i : Nat) : I64 (vaddV a b i) := by unfold vaddV; split; exact eV_i64 _ _ _ (bothV_i64 _ _ _); decide
theorem vscV_i64 (a : Nat → Int) (k : Int) (i : Nat) : I64 (vscV a k i) := by unfold vscV; split; exact eV_i64 _ _ _ (bothV_i64 _ _ _); decide
def min3 (a b c : Int) : Int := min (min a b) c
set_option maxRecDepth 1000000 in
theorem ref4_Fits_plan (a : Nat → Int) (w : World) (R : Ending → World → Prop) (hG : St w w [] []) (hE : Ex w [])
    (h : ∀ r1 : Nat, r1 = r1 ∧ CallV Tryd.prog w [(r1, [.int .i64 (a 0), .int .i64 (a 1), .int .i64 (a 2)])] [] 54 #[.int .i64 (a 0)] (.bool (fitB (a 0))) ∧ (((fitB (a 0)) = true → r1 = r1 ∧ CallV Tryd.prog w [(r1, [.int .i64 (a 0), .int .i64 (a 1), .int .i64 (a 2)])] [] 54 #[.int .i64 (a 1)] (.bool (fitB (a 1))) ∧ (((fitB (a 1)) = true → r1 = r1 ∧ CallV Tryd.prog w [(r1, [.int .i64 (a 0), .int .i64 (a 1), .int .i64 (a 2)])] [] 54 #[.int .i64 (a 2)] (.bool (fitB (a 2))) ∧ (True) ∧ (LeafV R w [(r1, [.int .i64 (a 0), .int .i64 (a 1), .int .i64 (a 2)])] [] (.bool (fitB (a 2))))) ∧ ((fitB (a 1)) = false → (True) ∧ (LeafV R w [(r1, [.int .i64 (a 0), .int .i64 (a 1), .int .i64 (a 2)])] [] (.bool false))))) ∧ ((fitB (a 0)) = false → (True) ∧ (LeafV R w [(r1, [.int .i64 (a 0), .int .i64 (a 1), .int .i64 (a 2)])] [] (.bool false))))) : Calls Tryd.prog 47 #[.agg #[.int .i64 (a 0), .int .i64 (a 1), .int .i64 (a 2)]] w R :=
  calls_of_plan (f := 47) (es := []) (c := Tryd.f47.body.getD .skip) (tmps := #[.agg #[.int .i64 (a 0), .int .i64 (a 1), .int .i64 (a 2)], undef, undef, undef, undef, undef, undef, undef, undef, undef, undef, undef, undef, undef, undef, undef])
    (.s [.c, .c] (.new (fun r1 => .s [.v, .c, .c, .c, .v, .own 0, .call (.bool (fitB (a 0))), .v] (.split 6 (.s [.v, .own 0, .call (.bool (fitB (a 1))), .v, .v] (.split 11 (.s [.v, .own 0, .call (.bool (fitB (a 2))), .v, .v, .c] (.ret [])) (.s [.u, .u, .u, .v, .v, .c] (.ret [])))) (.s [.u, .u, .u, .v, .v, .u, .u, .u, .v, .v, .c] (.ret []))))))
    (by kernel_rfl) hG hE Tryd.func47 (by kernel_rfl) (by kernel_rfl) (Eq.mpr (by kernel_rfl) h)
set_option maxRecDepth 1000000 in
set_option maxHeartbeats 8000000 in
theorem ref4_Fits (a : Nat → Int)  (w : World)  : Calls Tryd.prog 47 #[.agg #[.int .i64 (a 0), .int .i64 (a 1), .int .i64 (a 2)]] w (fun e w' => e = .returned (.bool (fits3 a)) ∧ Below w.heap.size w w') := by
  refine ref4_Fits_plan a w _ (St.refl w) Ex.nil ?_
  intro r1
  refine ⟨rfl, (CallV.of fun W hS => ref2_Fits (a 0)  W ), ?_⟩
  refine ⟨?_, ?_⟩
  · intro h2
    refine ⟨rfl, (CallV.of fun W hS => ref2_Fits (a 1)  W ), ?_⟩
    refine ⟨?_, ?_⟩
    · intro h3
      refine ⟨rfl, (CallV.of fun W hS => ref2_Fits (a 2)  W ), trivial, ?_⟩
      exact fun W hS => ⟨by simp only [fits3, h2, h3, bne, Bool.false_and, Bool.and_false, Bool.not_true, Bool.not_false, Bool.and_self, Bool.true_and, Bool.and_true, Bool.or_self, Bool.or_true, Bool.or_false, Bool.true_or, Bool.false_or], hS.bl⟩
    · intro h4
      refine ⟨trivial, ?_⟩
      exact fun W hS => ⟨by simp only [fits3, h2, h4, bne, Bool.false_and, Bool.and_false, Bool.not_true, Bool.not_false, Bool.and_self, Bool.true_and, Bool.and_true, Bool.or_self, Bool.or_true, Bool.or_false, Bool.true_or, Bool.false_or], hS.bl⟩
  · intro h5
    refine ⟨trivial, ?_⟩
    exact fun W hS => ⟨by simp only [fits3, h5, bne, Bool.false_and, Bool.and_false, Bool.not_true, Bool.not_false, Bool.and_self, Bool.true_and, Bool.and_true, Bool.or_self, Bool.or_true, Bool.or_false, Bool.true_or, Bool.false_or], hS.bl⟩
end Go.Proofs.YtfbhcaocfajjpaaDoor
