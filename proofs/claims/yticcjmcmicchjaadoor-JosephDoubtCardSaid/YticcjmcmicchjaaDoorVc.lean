/- Walks of layer 4 (vec) and of its reference, second part, by plans. -/
import Derived.Test.YticcjmcmicchjaaDoorVb
namespace Go.Proofs.YticcjmcmicchjaaDoor
open Go.RowKit
set_option linter.unusedSimpArgs false
set_option linter.unusedVariables false
theorem ev_pow (z : Int) (n : Nat) : ev z (pow2 n) = evP z (pow2 n) := by have := pow2_pos n; unfold ev; rw [if_neg (by omega)]
theorem dotS_eq (a b : Nat → Int) : ((0 + a 0 * b 0) + a 1 * b 1) + a 2 * b 2 = dotS a b := by unfold dotS; rw [Int.zero_add]
theorem prod_bd3 {a b : Int} (h : fitB a = true) (h2 : fitB b = true) : -83076749736557242056487941267521536 ≤ a * b ∧ a * b ≤ 83076749736557242056487941267521536 := by
  have := fit_prod h h2; omega
theorem wide_Add_in (a b : Int) (ha : W128 a) (hb : W128 b) (h : W128 (a + b)) (w : World) (hg : GN w) : Calls Tryd.prog 37 #[.agg #[.int .i64 (whi a), .int .u64 (wlo a)], .agg #[.int .i64 (whi b), .int .u64 (wlo b)]] w fun e w' => e = .returned (.tuple #[.agg #[.int .i64 (whi (a + b)), .int .u64 (wlo (a + b))], .int .i64 0]) ∧ Below w.heap.size w w' := by
  have k := wide_Add a b ha hb w hg
  rw [(fitW_of h).1, (fitW_of h).2] at k
  exact k
theorem toV_i64 (z : Int) : I64 (toV z) := by
  unfold toV; split
  · rename_i h; exact fitB_i64 h
  · decide
theorem bothV_i64 (a b z : Int) : I64 (bothV a b z) := by unfold bothV; split; exact toV_i64 z; decide
theorem eV_i64 (a b c : Int) {x : Int} (h : I64 x) : I64 (eV a b c x) := by unfold eV; split; exact h; decide
theorem vaddV_i64 (a b : Nat → Int) (i : Nat) : I64 (vaddV a b i) := by unfold vaddV; split; exact eV_i64 _ _ _ (bothV_i64 _ _ _); decide
theorem vscV_i64 (a : Nat → Int) (k : Int) (i : Nat) : I64 (vscV a k i) := by unfold vscV; split; exact eV_i64 _ _ _ (bothV_i64 _ _ _); decide
def min3 (a b c : Int) : Int := min (min a b) c
set_option maxRecDepth 1000000 in
theorem ref4_Fits_plan (a : Nat → Int) (w : World) (R : Ending → World → Prop) (hG : St w w [] []) (hE : Ex w [])
    (h : ∀ r1 : Nat, r1 = r1 ∧ CallV Tryd.prog w [(r1, [.int .i64 (a 0), .int .i64 (a 1), .int .i64 (a 2)])] [] 28 #[.int .i64 (a 0)] (.bool (fitB (a 0))) ∧ (((fitB (a 0)) = true → r1 = r1 ∧ CallV Tryd.prog w [(r1, [.int .i64 (a 0), .int .i64 (a 1), .int .i64 (a 2)])] [] 28 #[.int .i64 (a 1)] (.bool (fitB (a 1))) ∧ (((fitB (a 1)) = true → r1 = r1 ∧ CallV Tryd.prog w [(r1, [.int .i64 (a 0), .int .i64 (a 1), .int .i64 (a 2)])] [] 28 #[.int .i64 (a 2)] (.bool (fitB (a 2))) ∧ (True) ∧ (LeafV R w [(r1, [.int .i64 (a 0), .int .i64 (a 1), .int .i64 (a 2)])] [] (.bool (fitB (a 2))))) ∧ ((fitB (a 1)) = false → (True) ∧ (LeafV R w [(r1, [.int .i64 (a 0), .int .i64 (a 1), .int .i64 (a 2)])] [] (.bool false))))) ∧ ((fitB (a 0)) = false → (True) ∧ (LeafV R w [(r1, [.int .i64 (a 0), .int .i64 (a 1), .int .i64 (a 2)])] [] (.bool false))))) : Calls Tryd.prog 27 #[.agg #[.int .i64 (a 0), .int .i64 (a 1), .int .i64 (a 2)]] w R :=
  calls_of_plan (f := 27) (es := []) (c := Tryd.f27.body.getD .skip) (tmps := #[.agg #[.int .i64 (a 0), .int .i64 (a 1), .int .i64 (a 2)], undef, undef, undef, undef, undef, undef, undef, undef, undef, undef, undef, undef, undef, undef, undef])
    (.s [.c, .c] (.new (fun r1 => .s [.v, .c, .c, .c, .v, .own 0, .call (.bool (fitB (a 0))), .v] (.split 6 (.s [.v, .own 0, .call (.bool (fitB (a 1))), .v, .v] (.split 11 (.s [.v, .own 0, .call (.bool (fitB (a 2))), .v, .v, .c] (.ret [])) (.s [.u, .u, .u, .v, .v, .c] (.ret [])))) (.s [.u, .u, .u, .v, .v, .u, .u, .u, .v, .v, .c] (.ret []))))))
    (by kernel_rfl) hG hE Tryd.func27 (by kernel_rfl) (by kernel_rfl) (Eq.mpr (by kernel_rfl) h)
set_option maxRecDepth 1000000 in
set_option maxHeartbeats 8000000 in
theorem ref4_Fits (a : Nat → Int)  (w : World)  : Calls Tryd.prog 27 #[.agg #[.int .i64 (a 0), .int .i64 (a 1), .int .i64 (a 2)]] w (fun e w' => e = .returned (.bool (fits3 a)) ∧ Below w.heap.size w w') := by
  refine ref4_Fits_plan a w _ (St.refl w) Ex.nil ?_
  intro r1
  refine ⟨rfl, (CallV.of fun W hS => ref2_Fits (a 0)  W ), ?_⟩
  refine ⟨?_, ?_⟩
  · intro h2
    refine ⟨rfl, (CallV.of fun W hS => ref2_Fits (a 1)  W ), ?_⟩
    refine ⟨?_, ?_⟩
    · intro h3
      refine ⟨rfl, (CallV.of fun W hS => ref2_Fits (a 2)  W ), trivial, ?_⟩
      exact fun W hS => ⟨by simp only [fits3, h2, h3, bne, Bool.false_and, Bool.and_false, Bool.not_true, Bool.not_false, Bool.and_self, Bool.true_and, Bool.and_true, Bool.or_self, Bool.or_true, Bool.or_false, Bool.true_or, Bool.false_or], hS.bl⟩
    · intro h4
      refine ⟨trivial, ?_⟩
      exact fun W hS => ⟨by simp only [fits3, h2, h4, bne, Bool.false_and, Bool.and_false, Bool.not_true, Bool.not_false, Bool.and_self, Bool.true_and, Bool.and_true, Bool.or_self, Bool.or_true, Bool.or_false, Bool.true_or, Bool.false_or], hS.bl⟩
  · intro h5
    refine ⟨trivial, ?_⟩
    exact fun W hS => ⟨by simp only [fits3, h5, bne, Bool.false_and, Bool.and_false, Bool.not_true, Bool.not_false, Bool.and_self, Bool.true_and, Bool.and_true, Bool.or_self, Bool.or_true, Bool.or_false, Bool.true_or, Bool.false_or], hS.bl⟩
set_option maxRecDepth 1000000 in
theorem ref4_Add_plan (a b : Nat → Int) (w : World) (R : Ending → World → Prop) (hG : St w w [] []) (hE : Ex w [])
    (h : ∀ r1 : Nat, ∀ r2 : Nat, ∀ r3 : Nat, ∀ r4 : Nat, (r4 = r4 ∧ (r4 = r4 ∧ (r4 = r4 ∧ (True)))) ∧ r1 = r1 ∧ CallV Tryd.prog w [(r1, [.int .i64 (a 0), .int .i64 (a 1), .int .i64 (a 2)]), (r2, [.int .i64 (b 0), .int .i64 (b 1), .int .i64 (b 2)]), (r3, [.int .i64 0, .int .i64 0, .int .i64 0]), (r4, [.int .i64 0, .int .i64 0, .int .i64 0])] [] 27 #[.agg #[.int .i64 (a 0), .int .i64 (a 1), .int .i64 (a 2)]] (.bool (fits3 a)) ∧ (((!(fits3 a)) = true → r4 = r4 ∧ (r3 = r3 ∧ (r3 = r3 ∧ (r3 = r3 ∧ (True)))) ∧ (r3 = r3 ∧ (True)) ∧ (LeafV R w [(r1, [.int .i64 (a 0), .int .i64 (a 1), .int .i64 (a 2)]), (r2, [.int .i64 (b 0), .int .i64 (b 1), .int .i64 (b 2)]), (r3, [.int .i64 0, .int .i64 0, .int .i64 0]), (r4, [.int .i64 0, .int .i64 0, .int .i64 0])] [] (.tuple #[.agg #[.int .i64 0, .int .i64 0, .int .i64 0], .int .i64 1]))) ∧ ((!(fits3 a)) = false → r2 = r2 ∧ CallV Tryd.prog w [(r1, [.int .i64 (a 0), .int .i64 (a 1), .int .i64 (a 2)]), (r2, [.int .i64 (b 0), .int .i64 (b 1), .int .i64 (b 2)]), (r3, [.int .i64 0, .int .i64 0, .int .i64 0]), (r4, [.int .i64 0, .int .i64 0, .int .i64 0])] [] 27 #[.agg #[.int .i64 (b 0), .int .i64 (b 1), .int .i64 (b 2)]] (.bool (fits3 b)) ∧ (((!(fits3 b)) = true → r4 = r4 ∧ (r3 = r3 ∧ (r3 = r3 ∧ (r3 = r3 ∧ (True)))) ∧ (r3 = r3 ∧ (True)) ∧ (LeafV R w [(r1, [.int .i64 (a 0), .int .i64 (a 1), .int .i64 (a 2)]), (r2, [.int .i64 (b 0), .int .i64 (b 1), .int .i64 (b 2)]), (r3, [.int .i64 0, .int .i64 0, .int .i64 0]), (r4, [.int .i64 0, .int .i64 0, .int .i64 0])] [] (.tuple #[.agg #[.int .i64 0, .int .i64 0, .int .i64 0], .int .i64 1]))) ∧ ((!(fits3 b)) = false → r1 = r1 ∧ r2 = r2 ∧ CallV Tryd.prog w [(r1, [.int .i64 (a 0), .int .i64 (a 1), .int .i64 (a 2)]), (r2, [.int .i64 (b 0), .int .i64 (b 1), .int .i64 (b 2)]), (r3, [.int .i64 0, .int .i64 0, .int .i64 0]), (r4, [.int .i64 0, .int .i64 0, .int .i64 0])] [] 56 #[.int .i64 (a 0), .int .i64 (b 0)] (.tuple #[.int .i64 (bothV (a 0) (b 0) ((a 0) + (b 0))), .int .i64 (bothE (a 0) (b 0) ((a 0) + (b 0)))]) ∧ ((((bothE (a 0) (b 0) ((a 0) + (b 0))) != 0) = true → (r3 = r3 ∧ (r3 = r3 ∧ (r3 = r3 ∧ (True)))) ∧ (r3 = r3 ∧ (True)) ∧ (LeafV R w [(r1, [.int .i64 (a 0), .int .i64 (a 1), .int .i64 (a 2)]), (r2, [.int .i64 (b 0), .int .i64 (b 1), .int .i64 (b 2)]), (r3, [.int .i64 0, .int .i64 0, .int .i64 0]), (r4, [.int .i64 0, .int .i64 0, .int .i64 0])] [] (.tuple #[.agg #[.int .i64 0, .int .i64 0, .int .i64 0], .int .i64 (bothE (a 0) (b 0) ((a 0) + (b 0)))]))) ∧ (((bothE (a 0) (b 0) ((a 0) + (b 0))) != 0) = false → (r4 = r4 ∧ (True)) ∧ r1 = r1 ∧ r2 = r2 ∧ CallV Tryd.prog w [(r1, [.int .i64 (a 0), .int .i64 (a 1), .int .i64 (a 2)]), (r2, [.int .i64 (b 0), .int .i64 (b 1), .int .i64 (b 2)]), (r3, [.int .i64 0, .int .i64 0, .int .i64 0]), (r4, [.int .i64 (bothV (a 0) (b 0) ((a 0) + (b 0))), .int .i64 0, .int .i64 0])] [] 56 #[.int .i64 (a 1), .int .i64 (b 1)] (.tuple #[.int .i64 (bothV (a 1) (b 1) ((a 1) + (b 1))), .int .i64 (bothE (a 1) (b 1) ((a 1) + (b 1)))]) ∧ ((((bothE (a 1) (b 1) ((a 1) + (b 1))) != 0) = true → (r3 = r3 ∧ (r3 = r3 ∧ (r3 = r3 ∧ (True)))) ∧ (r3 = r3 ∧ (True)) ∧ (LeafV R w [(r1, [.int .i64 (a 0), .int .i64 (a 1), .int .i64 (a 2)]), (r2, [.int .i64 (b 0), .int .i64 (b 1), .int .i64 (b 2)]), (r3, [.int .i64 0, .int .i64 0, .int .i64 0]), (r4, [.int .i64 (bothV (a 0) (b 0) ((a 0) + (b 0))), .int .i64 0, .int .i64 0])] [] (.tuple #[.agg #[.int .i64 0, .int .i64 0, .int .i64 0], .int .i64 (bothE (a 1) (b 1) ((a 1) + (b 1)))]))) ∧ (((bothE (a 1) (b 1) ((a 1) + (b 1))) != 0) = false → (r4 = r4 ∧ (True)) ∧ r1 = r1 ∧ r2 = r2 ∧ CallV Tryd.prog w [(r1, [.int .i64 (a 0), .int .i64 (a 1), .int .i64 (a 2)]), (r2, [.int .i64 (b 0), .int .i64 (b 1), .int .i64 (b 2)]), (r3, [.int .i64 0, .int .i64 0, .int .i64 0]), (r4, [.int .i64 (bothV (a 0) (b 0) ((a 0) + (b 0))), .int .i64 (bothV (a 1) (b 1) ((a 1) + (b 1))), .int .i64 0])] [] 56 #[.int .i64 (a 2), .int .i64 (b 2)] (.tuple #[.int .i64 (bothV (a 2) (b 2) ((a 2) + (b 2))), .int .i64 (bothE (a 2) (b 2) ((a 2) + (b 2)))]) ∧ ((((bothE (a 2) (b 2) ((a 2) + (b 2))) != 0) = true → (r3 = r3 ∧ (r3 = r3 ∧ (r3 = r3 ∧ (True)))) ∧ (r3 = r3 ∧ (True)) ∧ (LeafV R w [(r1, [.int .i64 (a 0), .int .i64 (a 1), .int .i64 (a 2)]), (r2, [.int .i64 (b 0), .int .i64 (b 1), .int .i64 (b 2)]), (r3, [.int .i64 0, .int .i64 0, .int .i64 0]), (r4, [.int .i64 (bothV (a 0) (b 0) ((a 0) + (b 0))), .int .i64 (bothV (a 1) (b 1) ((a 1) + (b 1))), .int .i64 0])] [] (.tuple #[.agg #[.int .i64 0, .int .i64 0, .int .i64 0], .int .i64 (bothE (a 2) (b 2) ((a 2) + (b 2)))]))) ∧ (((bothE (a 2) (b 2) ((a 2) + (b 2))) != 0) = false → (r4 = r4 ∧ (True)) ∧ r4 = r4 ∧ (r3 = r3 ∧ (r3 = r3 ∧ (r3 = r3 ∧ (True)))) ∧ (r3 = r3 ∧ (True)) ∧ (LeafV R w [(r1, [.int .i64 (a 0), .int .i64 (a 1), .int .i64 (a 2)]), (r2, [.int .i64 (b 0), .int .i64 (b 1), .int .i64 (b 2)]), (r3, [.int .i64 (bothV (a 0) (b 0) ((a 0) + (b 0))), .int .i64 (bothV (a 1) (b 1) ((a 1) + (b 1))), .int .i64 (bothV (a 2) (b 2) ((a 2) + (b 2)))]), (r4, [.int .i64 (bothV (a 0) (b 0) ((a 0) + (b 0))), .int .i64 (bothV (a 1) (b 1) ((a 1) + (b 1))), .int .i64 (bothV (a 2) (b 2) ((a 2) + (b 2)))])] [] (.tuple #[.agg #[.int .i64 (bothV (a 0) (b 0) ((a 0) + (b 0))), .int .i64 (bothV (a 1) (b 1) ((a 1) + (b 1))), .int .i64 (bothV (a 2) (b 2) ((a 2) + (b 2)))], .int .i64 0]))))))))))))) : Calls Tryd.prog 34 #[.agg #[.int .i64 (a 0), .int .i64 (a 1), .int .i64 (a 2)], .agg #[.int .i64 (b 0), .int .i64 (b 1), .int .i64 (b 2)]] w R :=
  calls_of_plan (f := 34) (es := []) (c := Tryd.f34.body.getD .skip) (tmps := #[.agg #[.int .i64 (a 0), .int .i64 (a 1), .int .i64 (a 2)], .agg #[.int .i64 (b 0), .int .i64 (b 1), .int .i64 (b 2)], undef, undef, undef, undef, undef, undef, undef, undef, undef, undef, undef, undef, undef, undef, undef, undef, undef, undef, undef, undef, undef, undef, undef, undef, undef, undef, undef, undef, undef, undef, undef, undef, undef, undef, undef, undef, undef, undef, undef, undef])
    (.s [.c, .c] (.new (fun r1 => .new (fun r2 => .new (fun r3 => .s [.v, .c, .c, .c, .v] (.new (fun r4 => .s [.put 3, .c, .c, .c, .c, .own 0, .call (.bool (fits3 a)), .v, .v] (.split 14 (.s [.u, .u, .u, .v, .c, .c, .c, .c, .own 3, .put 2, .v, .c] (.ret [2])) (.s [.own 1, .call (.bool (fits3 b)), .v, .v, .c] (.split 18 (.s [.c, .c, .c, .own 3, .put 2, .v, .c] (.ret [2])) (.s [.c, .c, .c, .c, .c, .v, .c, .c, .c, .c, .c, .c, .v, .v, .c, .c, .c, .c, .c, .c, .d [], .at 0 false, .v, .at 1 false, .v, .at 2 false, .own 0, .at 3 false, .v, .at 4 false, .v, .at 5 false, .own 1, .at 6 true, .call (.tuple #[.int .i64 (bothV (a 0) (b 0) ((a 0) + (b 0))), .int .i64 (bothE (a 0) (b 0) ((a 0) + (b 0)))]), .at 7 false, .v, .at 8 false, .v, .at 9 false, .v, .at 10 false, .v, .at 11 false, .v, .c, .c, .c, .c, .v, .v, .c] (.split 35 (.s [.c, .c, .c, .v, .v, .put 2, .v, .c] (.ret [2])) (.s [.c, .c, .c, .v, .v, .v, .put 3, .c, .c, .c, .v, .v, .v, .c, .c, .c, .c, .c, .v, .v, .c, .c, .c, .c, .c, .c, .d [], .at 0 false, .v, .at 1 false, .v, .at 2 false, .own 0, .at 3 false, .v, .at 4 false, .v, .at 5 false, .own 1, .at 6 true, .call (.tuple #[.int .i64 (bothV (a 1) (b 1) ((a 1) + (b 1))), .int .i64 (bothE (a 1) (b 1) ((a 1) + (b 1)))]), .at 7 false, .v, .at 8 false, .v, .at 9 false, .v, .at 10 false, .v, .at 11 false, .v, .c, .c, .c, .c, .v, .v, .c] (.split 35 (.s [.c, .c, .c, .v, .v, .put 2, .v, .c] (.ret [2])) (.s [.c, .c, .c, .v, .v, .v, .put 3, .c, .c, .c, .v, .v, .v, .c, .c, .c, .c, .c, .v, .v, .c, .c, .c, .c, .c, .c, .d [], .at 0 false, .v, .at 1 false, .v, .at 2 false, .own 0, .at 3 false, .v, .at 4 false, .v, .at 5 false, .own 1, .at 6 true, .call (.tuple #[.int .i64 (bothV (a 2) (b 2) ((a 2) + (b 2))), .int .i64 (bothE (a 2) (b 2) ((a 2) + (b 2)))]), .at 7 false, .v, .at 8 false, .v, .at 9 false, .v, .at 10 false, .v, .at 11 false, .v, .c, .c, .c, .c, .v, .v, .c] (.split 35 (.s [.c, .c, .c, .v, .v, .put 2, .v, .c] (.ret [2])) (.s [.c, .c, .c, .v, .v, .v, .put 3, .c, .c, .c, .v, .v, .v, .c, .c, .c, .c, .c, .v, .v, .c, .c, .c, .c, .c, .own 3, .put 2, .v, .c] (.ret [2]))))))))))))))))))
    (by kernel_rfl) hG hE Tryd.func34 (by kernel_rfl) (by kernel_rfl) (Eq.mpr (by kernel_rfl) h)
set_option maxRecDepth 1000000 in
set_option maxHeartbeats 8000000 in
theorem ref4_Add (a b : Nat → Int)  (w : World)  : Calls Tryd.prog 34 #[.agg #[.int .i64 (a 0), .int .i64 (a 1), .int .i64 (a 2)], .agg #[.int .i64 (b 0), .int .i64 (b 1), .int .i64 (b 2)]] w (fun e w' => e = .returned (.tuple #[.agg #[.int .i64 (vaddV a b 0), .int .i64 (vaddV a b 1), .int .i64 (vaddV a b 2)], .int .i64 (vaddE a b)]) ∧ Below w.heap.size w w') := by
  refine ref4_Add_plan a b w _ (St.refl w) Ex.nil ?_
  intro r1
  intro r2
  intro r3
  intro r4
  refine ⟨⟨rfl, rfl, rfl, trivial⟩, rfl, (CallV.be fun W hS => ref4_Fits a W), ?_⟩
  refine ⟨?_, ?_⟩
  · intro h50
    have h5 : (fits3 a) = false := by simpa using h50
    refine ⟨rfl, ⟨rfl, rfl, rfl, trivial⟩, ⟨rfl, trivial⟩, ?_⟩
    have F := vadd_no (a := a) (b := b) (by rw [h5]; rfl)
    exact fun W hS => ⟨by simp only [F.1, F.2], hS.bl⟩
  · intro h60
    have h6 : (fits3 a) = true := by simpa using h60
    refine ⟨rfl, (CallV.be fun W hS => ref4_Fits b W), ?_⟩
    refine ⟨?_, ?_⟩
    · intro h70
      have h7 : (fits3 b) = false := by simpa using h70
      refine ⟨rfl, ⟨rfl, rfl, rfl, trivial⟩, ⟨rfl, trivial⟩, ?_⟩
      have F := vadd_no (a := a) (b := b) (by rw [h6, h7]; rfl)
      exact fun W hS => ⟨by simp only [F.1, F.2], hS.bl⟩
    · intro h80
      have h8 : (fits3 b) = true := by simpa using h80
      refine ⟨rfl, rfl, (CallV.be fun W hS => ref2_Add (a 0) (b 0)  W ), ?_⟩
      refine ⟨?_, ?_⟩
      · intro h9
        have h9p : ¬ ((bothE (a 0) (b 0) ((a 0) + (b 0))) = 0) := by simpa using h9
        refine ⟨⟨rfl, rfl, rfl, trivial⟩, ⟨rfl, trivial⟩, ?_⟩
        have F := vadd_yes h6 h8
        have G := each_1 (e0 := bothE (a 0) (b 0) (a 0 + b 0)) (e1 := bothE (a 1) (b 1) (a 1 + b 1)) (e2 := bothE (a 2) (b 2) (a 2 + b 2)) h9p
        exact fun W hS => ⟨by simp only [F.1, F.2, vaddY, vscY, vaddX, vscX, G.1, G.2], hS.bl⟩
      · intro h10
        have h10p : (bothE (a 0) (b 0) ((a 0) + (b 0))) = 0 := by simpa using h10
        refine ⟨⟨rfl, trivial⟩, rfl, rfl, (CallV.be fun W hS => ref2_Add (a 1) (b 1)  W ), ?_⟩
        refine ⟨?_, ?_⟩
        · intro h11
          have h11p : ¬ ((bothE (a 1) (b 1) ((a 1) + (b 1))) = 0) := by simpa using h11
          refine ⟨⟨rfl, rfl, rfl, trivial⟩, ⟨rfl, trivial⟩, ?_⟩
          have F := vadd_yes h6 h8
          have G := each_2 (e0 := bothE (a 0) (b 0) (a 0 + b 0)) (e1 := bothE (a 1) (b 1) (a 1 + b 1)) (e2 := bothE (a 2) (b 2) (a 2 + b 2)) h10p h11p
          exact fun W hS => ⟨by simp only [F.1, F.2, vaddY, vscY, vaddX, vscX, G.1, G.2], hS.bl⟩
        · intro h12
          have h12p : (bothE (a 1) (b 1) ((a 1) + (b 1))) = 0 := by simpa using h12
          refine ⟨⟨rfl, trivial⟩, rfl, rfl, (CallV.be fun W hS => ref2_Add (a 2) (b 2)  W ), ?_⟩
          refine ⟨?_, ?_⟩
          · intro h13
            have h13p : ¬ ((bothE (a 2) (b 2) ((a 2) + (b 2))) = 0) := by simpa using h13
            refine ⟨⟨rfl, rfl, rfl, trivial⟩, ⟨rfl, trivial⟩, ?_⟩
            have F := vadd_yes h6 h8
            have G := each_3 (e0 := bothE (a 0) (b 0) (a 0 + b 0)) (e1 := bothE (a 1) (b 1) (a 1 + b 1)) (e2 := bothE (a 2) (b 2) (a 2 + b 2)) h10p h12p h13p
            exact fun W hS => ⟨by simp only [F.1, F.2, vaddY, vscY, vaddX, vscX, G.1, G.2], hS.bl⟩
          · intro h14
            have h14p : (bothE (a 2) (b 2) ((a 2) + (b 2))) = 0 := by simpa using h14
            refine ⟨⟨rfl, trivial⟩, rfl, ⟨rfl, rfl, rfl, trivial⟩, ⟨rfl, trivial⟩, ?_⟩
            have F := vadd_yes h6 h8
            have G := each_4 (e0 := bothE (a 0) (b 0) (a 0 + b 0)) (e1 := bothE (a 1) (b 1) (a 1 + b 1)) (e2 := bothE (a 2) (b 2) (a 2 + b 2)) h10p h12p h14p
            exact fun W hS => ⟨by simp only [F.1, F.2, vaddY, vscY, vaddX, vscX, G.1, G.2], hS.bl⟩
set_option maxRecDepth 1000000 in
theorem ref4_Scale_plan (a : Nat → Int) (k : Int) (w : World) (R : Ending → World → Prop) (hG : St w w [] []) (hE : Ex w [])
    (h : ∀ r1 : Nat, ∀ r2 : Nat, ∀ r3 : Nat, (r3 = r3 ∧ (r3 = r3 ∧ (r3 = r3 ∧ (True)))) ∧ r1 = r1 ∧ CallV Tryd.prog w [(r1, [.int .i64 (a 0), .int .i64 (a 1), .int .i64 (a 2)]), (r2, [.int .i64 0, .int .i64 0, .int .i64 0]), (r3, [.int .i64 0, .int .i64 0, .int .i64 0])] [] 27 #[.agg #[.int .i64 (a 0), .int .i64 (a 1), .int .i64 (a 2)]] (.bool (fits3 a)) ∧ (((!(fits3 a)) = true → r3 = r3 ∧ (r2 = r2 ∧ (r2 = r2 ∧ (r2 = r2 ∧ (True)))) ∧ (r2 = r2 ∧ (True)) ∧ (LeafV R w [(r1, [.int .i64 (a 0), .int .i64 (a 1), .int .i64 (a 2)]), (r2, [.int .i64 0, .int .i64 0, .int .i64 0]), (r3, [.int .i64 0, .int .i64 0, .int .i64 0])] [] (.tuple #[.agg #[.int .i64 0, .int .i64 0, .int .i64 0], .int .i64 1]))) ∧ ((!(fits3 a)) = false → CallV Tryd.prog w [(r1, [.int .i64 (a 0), .int .i64 (a 1), .int .i64 (a 2)]), (r2, [.int .i64 0, .int .i64 0, .int .i64 0]), (r3, [.int .i64 0, .int .i64 0, .int .i64 0])] [] 28 #[.int .i64 k] (.bool (fitB k)) ∧ (((!(fitB k)) = true → r3 = r3 ∧ (r2 = r2 ∧ (r2 = r2 ∧ (r2 = r2 ∧ (True)))) ∧ (r2 = r2 ∧ (True)) ∧ (LeafV R w [(r1, [.int .i64 (a 0), .int .i64 (a 1), .int .i64 (a 2)]), (r2, [.int .i64 0, .int .i64 0, .int .i64 0]), (r3, [.int .i64 0, .int .i64 0, .int .i64 0])] [] (.tuple #[.agg #[.int .i64 0, .int .i64 0, .int .i64 0], .int .i64 1]))) ∧ ((!(fitB k)) = false → r1 = r1 ∧ CallV Tryd.prog w [(r1, [.int .i64 (a 0), .int .i64 (a 1), .int .i64 (a 2)]), (r2, [.int .i64 0, .int .i64 0, .int .i64 0]), (r3, [.int .i64 0, .int .i64 0, .int .i64 0])] [] 54 #[.int .i64 (a 0), .int .i64 k] (.tuple #[.int .i64 (bothV (a 0) k (mulZ (a 0) k)), .int .i64 (bothE (a 0) k (mulZ (a 0) k))]) ∧ ((((bothE (a 0) k (mulZ (a 0) k)) != 0) = true → (r2 = r2 ∧ (r2 = r2 ∧ (r2 = r2 ∧ (True)))) ∧ (r2 = r2 ∧ (True)) ∧ (LeafV R w [(r1, [.int .i64 (a 0), .int .i64 (a 1), .int .i64 (a 2)]), (r2, [.int .i64 0, .int .i64 0, .int .i64 0]), (r3, [.int .i64 0, .int .i64 0, .int .i64 0])] [] (.tuple #[.agg #[.int .i64 0, .int .i64 0, .int .i64 0], .int .i64 (bothE (a 0) k (mulZ (a 0) k))]))) ∧ (((bothE (a 0) k (mulZ (a 0) k)) != 0) = false → (r3 = r3 ∧ (True)) ∧ r1 = r1 ∧ CallV Tryd.prog w [(r1, [.int .i64 (a 0), .int .i64 (a 1), .int .i64 (a 2)]), (r2, [.int .i64 0, .int .i64 0, .int .i64 0]), (r3, [.int .i64 (bothV (a 0) k (mulZ (a 0) k)), .int .i64 0, .int .i64 0])] [] 54 #[.int .i64 (a 1), .int .i64 k] (.tuple #[.int .i64 (bothV (a 1) k (mulZ (a 1) k)), .int .i64 (bothE (a 1) k (mulZ (a 1) k))]) ∧ ((((bothE (a 1) k (mulZ (a 1) k)) != 0) = true → (r2 = r2 ∧ (r2 = r2 ∧ (r2 = r2 ∧ (True)))) ∧ (r2 = r2 ∧ (True)) ∧ (LeafV R w [(r1, [.int .i64 (a 0), .int .i64 (a 1), .int .i64 (a 2)]), (r2, [.int .i64 0, .int .i64 0, .int .i64 0]), (r3, [.int .i64 (bothV (a 0) k (mulZ (a 0) k)), .int .i64 0, .int .i64 0])] [] (.tuple #[.agg #[.int .i64 0, .int .i64 0, .int .i64 0], .int .i64 (bothE (a 1) k (mulZ (a 1) k))]))) ∧ (((bothE (a 1) k (mulZ (a 1) k)) != 0) = false → (r3 = r3 ∧ (True)) ∧ r1 = r1 ∧ CallV Tryd.prog w [(r1, [.int .i64 (a 0), .int .i64 (a 1), .int .i64 (a 2)]), (r2, [.int .i64 0, .int .i64 0, .int .i64 0]), (r3, [.int .i64 (bothV (a 0) k (mulZ (a 0) k)), .int .i64 (bothV (a 1) k (mulZ (a 1) k)), .int .i64 0])] [] 54 #[.int .i64 (a 2), .int .i64 k] (.tuple #[.int .i64 (bothV (a 2) k (mulZ (a 2) k)), .int .i64 (bothE (a 2) k (mulZ (a 2) k))]) ∧ ((((bothE (a 2) k (mulZ (a 2) k)) != 0) = true → (r2 = r2 ∧ (r2 = r2 ∧ (r2 = r2 ∧ (True)))) ∧ (r2 = r2 ∧ (True)) ∧ (LeafV R w [(r1, [.int .i64 (a 0), .int .i64 (a 1), .int .i64 (a 2)]), (r2, [.int .i64 0, .int .i64 0, .int .i64 0]), (r3, [.int .i64 (bothV (a 0) k (mulZ (a 0) k)), .int .i64 (bothV (a 1) k (mulZ (a 1) k)), .int .i64 0])] [] (.tuple #[.agg #[.int .i64 0, .int .i64 0, .int .i64 0], .int .i64 (bothE (a 2) k (mulZ (a 2) k))]))) ∧ (((bothE (a 2) k (mulZ (a 2) k)) != 0) = false → (r3 = r3 ∧ (True)) ∧ r3 = r3 ∧ (r2 = r2 ∧ (r2 = r2 ∧ (r2 = r2 ∧ (True)))) ∧ (r2 = r2 ∧ (True)) ∧ (LeafV R w [(r1, [.int .i64 (a 0), .int .i64 (a 1), .int .i64 (a 2)]), (r2, [.int .i64 (bothV (a 0) k (mulZ (a 0) k)), .int .i64 (bothV (a 1) k (mulZ (a 1) k)), .int .i64 (bothV (a 2) k (mulZ (a 2) k))]), (r3, [.int .i64 (bothV (a 0) k (mulZ (a 0) k)), .int .i64 (bothV (a 1) k (mulZ (a 1) k)), .int .i64 (bothV (a 2) k (mulZ (a 2) k))])] [] (.tuple #[.agg #[.int .i64 (bothV (a 0) k (mulZ (a 0) k)), .int .i64 (bothV (a 1) k (mulZ (a 1) k)), .int .i64 (bothV (a 2) k (mulZ (a 2) k))], .int .i64 0]))))))))))))) : Calls Tryd.prog 33 #[.agg #[.int .i64 (a 0), .int .i64 (a 1), .int .i64 (a 2)], .int .i64 k] w R :=
  calls_of_plan (f := 33) (es := []) (c := Tryd.f33.body.getD .skip) (tmps := #[.agg #[.int .i64 (a 0), .int .i64 (a 1), .int .i64 (a 2)], .int .i64 k, undef, undef, undef, undef, undef, undef, undef, undef, undef, undef, undef, undef, undef, undef, undef, undef, undef, undef, undef, undef, undef, undef, undef, undef, undef, undef, undef, undef, undef, undef, undef, undef, undef, undef, undef, undef, undef, undef])
    (.s [.c, .c] (.new (fun r1 => .new (fun r2 => .s [.v, .c, .c, .c, .v] (.new (fun r3 => .s [.put 2, .c, .c, .c, .c, .own 0, .call (.bool (fits3 a)), .v, .v] (.split 14 (.s [.u, .u, .u, .v, .c, .c, .c, .c, .own 2, .put 1, .v, .c] (.ret [1])) (.s [.v, .call (.bool (fitB k)), .v, .v, .c] (.split 18 (.s [.c, .c, .c, .own 2, .put 1, .v, .c] (.ret [1])) (.s [.c, .c, .c, .c, .c, .v, .c, .c, .c, .c, .c, .c, .v, .v, .c, .c, .c, .c, .c, .c, .c, .v, .v, .own 0, .v, .call (.tuple #[.int .i64 (bothV (a 0) k (mulZ (a 0) k)), .int .i64 (bothE (a 0) k (mulZ (a 0) k))]), .v, .v, .v, .v, .v, .c, .c, .c, .c, .v, .v, .c] (.split 33 (.s [.c, .c, .c, .v, .v, .put 1, .v, .c] (.ret [1])) (.s [.c, .c, .c, .v, .v, .v, .put 2, .c, .c, .c, .v, .v, .v, .c, .c, .c, .c, .c, .v, .v, .c, .c, .c, .c, .c, .c, .c, .v, .v, .own 0, .v, .call (.tuple #[.int .i64 (bothV (a 1) k (mulZ (a 1) k)), .int .i64 (bothE (a 1) k (mulZ (a 1) k))]), .v, .v, .v, .v, .v, .c, .c, .c, .c, .v, .v, .c] (.split 33 (.s [.c, .c, .c, .v, .v, .put 1, .v, .c] (.ret [1])) (.s [.c, .c, .c, .v, .v, .v, .put 2, .c, .c, .c, .v, .v, .v, .c, .c, .c, .c, .c, .v, .v, .c, .c, .c, .c, .c, .c, .c, .v, .v, .own 0, .v, .call (.tuple #[.int .i64 (bothV (a 2) k (mulZ (a 2) k)), .int .i64 (bothE (a 2) k (mulZ (a 2) k))]), .v, .v, .v, .v, .v, .c, .c, .c, .c, .v, .v, .c] (.split 33 (.s [.c, .c, .c, .v, .v, .put 1, .v, .c] (.ret [1])) (.s [.c, .c, .c, .v, .v, .v, .put 2, .c, .c, .c, .v, .v, .v, .c, .c, .c, .c, .c, .v, .v, .c, .c, .c, .c, .c, .own 2, .put 1, .v, .c] (.ret [1])))))))))))))))))
    (by kernel_rfl) hG hE Tryd.func33 (by kernel_rfl) (by kernel_rfl) (Eq.mpr (by kernel_rfl) h)
set_option maxRecDepth 1000000 in
set_option maxHeartbeats 8000000 in
theorem ref4_Scale (a : Nat → Int) (k : Int)  (w : World)  : Calls Tryd.prog 33 #[.agg #[.int .i64 (a 0), .int .i64 (a 1), .int .i64 (a 2)], .int .i64 k] w (fun e w' => e = .returned (.tuple #[.agg #[.int .i64 (vscV a k 0), .int .i64 (vscV a k 1), .int .i64 (vscV a k 2)], .int .i64 (vscE a k)]) ∧ Below w.heap.size w w') := by
  refine ref4_Scale_plan a k w _ (St.refl w) Ex.nil ?_
  intro r1
  intro r2
  intro r3
  refine ⟨⟨rfl, rfl, rfl, trivial⟩, rfl, (CallV.be fun W hS => ref4_Fits a W), ?_⟩
  refine ⟨?_, ?_⟩
  · intro h40
    have h4 : (fits3 a) = false := by simpa using h40
    refine ⟨rfl, ⟨rfl, rfl, rfl, trivial⟩, ⟨rfl, trivial⟩, ?_⟩
    have F := vsc_no (a := a) (k := k) (by rw [h4]; rfl)
    exact fun W hS => ⟨by simp only [F.1, F.2], hS.bl⟩
  · intro h50
    have h5 : (fits3 a) = true := by simpa using h50
    refine ⟨(CallV.of fun W hS => ref2_Fits k  W ), ?_⟩
    refine ⟨?_, ?_⟩
    · intro h60
      have h6 : (fitB k) = false := by simpa using h60
      refine ⟨rfl, ⟨rfl, rfl, rfl, trivial⟩, ⟨rfl, trivial⟩, ?_⟩
      have F := vsc_no (a := a) (k := k) (by rw [h5, h6]; rfl)
      exact fun W hS => ⟨by simp only [F.1, F.2], hS.bl⟩
    · intro h70
      have h7 : (fitB k) = true := by simpa using h70
      refine ⟨rfl, (CallV.be fun W hS => ref2_Mul (a 0) k  W ), ?_⟩
      refine ⟨?_, ?_⟩
      · intro h8
        have h8p : ¬ ((bothE (a 0) k (mulZ (a 0) k)) = 0) := by simpa using h8
        refine ⟨⟨rfl, rfl, rfl, trivial⟩, ⟨rfl, trivial⟩, ?_⟩
        have F := vsc_yes h5 h7
        have G := each_1 (e0 := bothE (a 0) k (mulZ (a 0) k)) (e1 := bothE (a 1) k (mulZ (a 1) k)) (e2 := bothE (a 2) k (mulZ (a 2) k)) h8p
        exact fun W hS => ⟨by simp only [F.1, F.2, vaddY, vscY, vaddX, vscX, G.1, G.2], hS.bl⟩
      · intro h9
        have h9p : (bothE (a 0) k (mulZ (a 0) k)) = 0 := by simpa using h9
        refine ⟨⟨rfl, trivial⟩, rfl, (CallV.be fun W hS => ref2_Mul (a 1) k  W ), ?_⟩
        refine ⟨?_, ?_⟩
        · intro h10
          have h10p : ¬ ((bothE (a 1) k (mulZ (a 1) k)) = 0) := by simpa using h10
          refine ⟨⟨rfl, rfl, rfl, trivial⟩, ⟨rfl, trivial⟩, ?_⟩
          have F := vsc_yes h5 h7
          have G := each_2 (e0 := bothE (a 0) k (mulZ (a 0) k)) (e1 := bothE (a 1) k (mulZ (a 1) k)) (e2 := bothE (a 2) k (mulZ (a 2) k)) h9p h10p
          exact fun W hS => ⟨by simp only [F.1, F.2, vaddY, vscY, vaddX, vscX, G.1, G.2], hS.bl⟩
        · intro h11
          have h11p : (bothE (a 1) k (mulZ (a 1) k)) = 0 := by simpa using h11
          refine ⟨⟨rfl, trivial⟩, rfl, (CallV.be fun W hS => ref2_Mul (a 2) k  W ), ?_⟩
          refine ⟨?_, ?_⟩
          · intro h12
            have h12p : ¬ ((bothE (a 2) k (mulZ (a 2) k)) = 0) := by simpa using h12
            refine ⟨⟨rfl, rfl, rfl, trivial⟩, ⟨rfl, trivial⟩, ?_⟩
            have F := vsc_yes h5 h7
            have G := each_3 (e0 := bothE (a 0) k (mulZ (a 0) k)) (e1 := bothE (a 1) k (mulZ (a 1) k)) (e2 := bothE (a 2) k (mulZ (a 2) k)) h9p h11p h12p
            exact fun W hS => ⟨by simp only [F.1, F.2, vaddY, vscY, vaddX, vscX, G.1, G.2], hS.bl⟩
          · intro h13
            have h13p : (bothE (a 2) k (mulZ (a 2) k)) = 0 := by simpa using h13
            refine ⟨⟨rfl, trivial⟩, rfl, ⟨rfl, rfl, rfl, trivial⟩, ⟨rfl, trivial⟩, ?_⟩
            have F := vsc_yes h5 h7
            have G := each_4 (e0 := bothE (a 0) k (mulZ (a 0) k)) (e1 := bothE (a 1) k (mulZ (a 1) k)) (e2 := bothE (a 2) k (mulZ (a 2) k)) h9p h11p h13p
            exact fun W hS => ⟨by simp only [F.1, F.2, vaddY, vscY, vaddX, vscX, G.1, G.2], hS.bl⟩
end Go.Proofs.YticcjmcmicchjaaDoor
