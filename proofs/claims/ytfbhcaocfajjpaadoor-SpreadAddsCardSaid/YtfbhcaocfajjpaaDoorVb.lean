/- Walks of layer 4 (vec) and of its reference, by plans. -/
import Derived.Test.YtfbhcaocfajjpaaDoorFp
import Derived.Test.YtfbhcaocfajjpaaDoorFc
namespace Go.Proofs.YtfbhcaocfajjpaaDoor
open Go.RowKit
set_option linter.unusedSimpArgs false
set_option linter.unusedVariables false
theorem bothE_i64 {a b z : Int} : I64 (bothE a b z) := by
  unfold bothE toE I64; split
  · split <;> omega
  · omega
set_option maxRecDepth 1000000 in
theorem fix_Clamp_plan (x m : Int) (w : World) (R : Ending → World → Prop) (hG : St w w [] []) (hE : Ex w [])
    (h : ∀ u1 : Int, u1 = (if 0 > m then 0 else m) → (Value.int .i64 (IntKind.i64.wrap (0 - u1)) = .int .i64 (0 - u1) ∧ (∀ u2 : Int, u2 = (if u1 < x then u1 else x) → (∀ u3 : Int, u3 = (if u2 > (0 - u1) then u2 else (0 - u1)) → ((True) ∧ (LeafV R w [] [] (.int .i64 u3))))))) : Calls Tryd.prog 124 #[.int .i64 x, .int .i64 m] w R :=
  calls_of_plan (f := 124) (es := []) (c := Tryd.f124.body.getD .skip) (tmps := #[.int .i64 x, .int .i64 m, undef, undef, undef, undef, undef, undef, undef, undef, undef, undef, undef])
    (.s [.c, .c, .v, .c, .c, .c, .v, .v] (.gen 6 (fun u1 => .s [.v, .c, .c, .c, .v, .v, .setv 8 (.int .i64 (0 - u1)), .v, .v, .v] (.gen 11 (fun u2 => .s [.v] (.gen 12 (fun u3 => .s [.v, .c] (.ret []))))))))
    (by kernel_rfl) hG hE Tryd.func124 (by kernel_rfl) (by kernel_rfl) (Eq.mpr (by kernel_rfl) h)
set_option maxRecDepth 1000000 in
set_option maxHeartbeats 8000000 in
theorem fix_Clamp (x m : Int) (hx : I64 x) (hm : I64 m) (w : World)  : Calls Tryd.prog 124 #[.int .i64 x, .int .i64 m] w (fun e w' => e = .returned (.int .i64 (clampZ x m)) ∧ Below w.heap.size w w') := by
  unfold I64 at hx hm
  refine fix_Clamp_plan x m w _ (St.refl w) Ex.nil ?_
  intro u1 eu1
  rw [maxI] at eu1
  refine ⟨congrArg (Value.int .i64) (wrapI (by omega)), ?_⟩
  intro u2 eu2
  rw [minI] at eu2
  intro u3 eu3
  rw [maxI] at eu3
  refine ⟨trivial, ?_⟩
  have F : u3 = clampZ x m := by unfold clampZ; (repeat' split) <;> omega
  exact fun W hS => ⟨ret_int F, hS.bl⟩
set_option maxRecDepth 1000000 in
theorem vec_Clamp1_plan (x m : Int) (w : World) (R : Ending → World → Prop) (hG : St w w [] []) (hE : Ex w [])
    (h : CallV Tryd.prog w [] [] 124 #[.int .i64 x, .int .i64 m] (.int .i64 (clampZ x m)) ∧ (True) ∧ (LeafV R w [] [] (.tuple #[.int .i64 (clampZ x m), .int .i64 0]))) : Calls Tryd.prog 123 #[.int .i64 x, .int .i64 m] w R :=
  calls_of_plan (f := 123) (es := []) (c := Tryd.f123.body.getD .skip) (tmps := #[.int .i64 x, .int .i64 m, undef, undef, undef, undef, undef, undef, undef])
    (.s [.c, .c, .v, .v, .c, .c, .c, .v, .v, .call (.int .i64 (clampZ x m)), .v, .v, .c] (.ret []))
    (by kernel_rfl) hG hE Tryd.func123 (by kernel_rfl) (by kernel_rfl) (Eq.mpr (by kernel_rfl) h)
set_option maxRecDepth 1000000 in
set_option maxHeartbeats 8000000 in
theorem vec_Clamp1 (x m : Int) (hx : I64 x) (hm : I64 m) (w : World)  : Calls Tryd.prog 123 #[.int .i64 x, .int .i64 m] w (fun e w' => e = .returned (.tuple #[.int .i64 (clampZ x m), .int .i64 0]) ∧ Below w.heap.size w w') := by
  refine vec_Clamp1_plan x m w _ (St.refl w) Ex.nil ?_
  refine ⟨(CallV.be fun W hS => fix_Clamp x m hx hm W ), trivial, ?_⟩
  exact fun W hS => ⟨rfl, hS.bl⟩
set_option maxRecDepth 1000000 in
theorem each_Add_plan (a b : Nat → Int) (w : World) (R : Ending → World → Prop) (hG : St w w [] []) (hE : Ex w [])
    (h : ∀ r1 : Nat, ∀ r2 : Nat, ∀ r3 : Nat, ∀ r4 : Nat, r1 = r1 ∧ r2 = r2 ∧ CallV Tryd.prog w [(r1, [.int .i64 (a 0), .int .i64 (a 1), .int .i64 (a 2)]), (r2, [.int .i64 (b 0), .int .i64 (b 1), .int .i64 (b 2)]), (r3, [.int .i64 0, .int .i64 0, .int .i64 0]), (r4, [.int .i64 0, .int .i64 0, .int .i64 0])] [] 70 #[.int .i64 (a 0), .int .i64 (b 0)] (.tuple #[.int .i64 (bothV (a 0) (b 0) ((a 0) + (b 0))), .int .i64 (bothE (a 0) (b 0) ((a 0) + (b 0)))]) ∧ ((((bothE (a 0) (b 0) ((a 0) + (b 0))) != 0) = true → (r3 = r3 ∧ (r3 = r3 ∧ (r3 = r3 ∧ (True)))) ∧ (r3 = r3 ∧ (True)) ∧ (LeafV R w [(r1, [.int .i64 (a 0), .int .i64 (a 1), .int .i64 (a 2)]), (r2, [.int .i64 (b 0), .int .i64 (b 1), .int .i64 (b 2)]), (r3, [.int .i64 0, .int .i64 0, .int .i64 0]), (r4, [.int .i64 0, .int .i64 0, .int .i64 0])] [] (.tuple #[.agg #[.int .i64 0, .int .i64 0, .int .i64 0], .int .i64 (bothE (a 0) (b 0) ((a 0) + (b 0)))]))) ∧ (((bothE (a 0) (b 0) ((a 0) + (b 0))) != 0) = false → (r4 = r4 ∧ (True)) ∧ r1 = r1 ∧ r2 = r2 ∧ CallV Tryd.prog w [(r1, [.int .i64 (a 0), .int .i64 (a 1), .int .i64 (a 2)]), (r2, [.int .i64 (b 0), .int .i64 (b 1), .int .i64 (b 2)]), (r3, [.int .i64 0, .int .i64 0, .int .i64 0]), (r4, [.int .i64 (bothV (a 0) (b 0) ((a 0) + (b 0))), .int .i64 0, .int .i64 0])] [] 70 #[.int .i64 (a 1), .int .i64 (b 1)] (.tuple #[.int .i64 (bothV (a 1) (b 1) ((a 1) + (b 1))), .int .i64 (bothE (a 1) (b 1) ((a 1) + (b 1)))]) ∧ ((((bothE (a 1) (b 1) ((a 1) + (b 1))) != 0) = true → (r3 = r3 ∧ (r3 = r3 ∧ (r3 = r3 ∧ (True)))) ∧ (r3 = r3 ∧ (True)) ∧ (LeafV R w [(r1, [.int .i64 (a 0), .int .i64 (a 1), .int .i64 (a 2)]), (r2, [.int .i64 (b 0), .int .i64 (b 1), .int .i64 (b 2)]), (r3, [.int .i64 0, .int .i64 0, .int .i64 0]), (r4, [.int .i64 (bothV (a 0) (b 0) ((a 0) + (b 0))), .int .i64 0, .int .i64 0])] [] (.tuple #[.agg #[.int .i64 0, .int .i64 0, .int .i64 0], .int .i64 (bothE (a 1) (b 1) ((a 1) + (b 1)))]))) ∧ (((bothE (a 1) (b 1) ((a 1) + (b 1))) != 0) = false → (r4 = r4 ∧ (True)) ∧ r1 = r1 ∧ r2 = r2 ∧ CallV Tryd.prog w [(r1, [.int .i64 (a 0), .int .i64 (a 1), .int .i64 (a 2)]), (r2, [.int .i64 (b 0), .int .i64 (b 1), .int .i64 (b 2)]), (r3, [.int .i64 0, .int .i64 0, .int .i64 0]), (r4, [.int .i64 (bothV (a 0) (b 0) ((a 0) + (b 0))), .int .i64 (bothV (a 1) (b 1) ((a 1) + (b 1))), .int .i64 0])] [] 70 #[.int .i64 (a 2), .int .i64 (b 2)] (.tuple #[.int .i64 (bothV (a 2) (b 2) ((a 2) + (b 2))), .int .i64 (bothE (a 2) (b 2) ((a 2) + (b 2)))]) ∧ ((((bothE (a 2) (b 2) ((a 2) + (b 2))) != 0) = true → (r3 = r3 ∧ (r3 = r3 ∧ (r3 = r3 ∧ (True)))) ∧ (r3 = r3 ∧ (True)) ∧ (LeafV R w [(r1, [.int .i64 (a 0), .int .i64 (a 1), .int .i64 (a 2)]), (r2, [.int .i64 (b 0), .int .i64 (b 1), .int .i64 (b 2)]), (r3, [.int .i64 0, .int .i64 0, .int .i64 0]), (r4, [.int .i64 (bothV (a 0) (b 0) ((a 0) + (b 0))), .int .i64 (bothV (a 1) (b 1) ((a 1) + (b 1))), .int .i64 0])] [] (.tuple #[.agg #[.int .i64 0, .int .i64 0, .int .i64 0], .int .i64 (bothE (a 2) (b 2) ((a 2) + (b 2)))]))) ∧ (((bothE (a 2) (b 2) ((a 2) + (b 2))) != 0) = false → (r4 = r4 ∧ (True)) ∧ r4 = r4 ∧ (r3 = r3 ∧ (r3 = r3 ∧ (r3 = r3 ∧ (True)))) ∧ (r3 = r3 ∧ (True)) ∧ (LeafV R w [(r1, [.int .i64 (a 0), .int .i64 (a 1), .int .i64 (a 2)]), (r2, [.int .i64 (b 0), .int .i64 (b 1), .int .i64 (b 2)]), (r3, [.int .i64 (bothV (a 0) (b 0) ((a 0) + (b 0))), .int .i64 (bothV (a 1) (b 1) ((a 1) + (b 1))), .int .i64 (bothV (a 2) (b 2) ((a 2) + (b 2)))]), (r4, [.int .i64 (bothV (a 0) (b 0) ((a 0) + (b 0))), .int .i64 (bothV (a 1) (b 1) ((a 1) + (b 1))), .int .i64 (bothV (a 2) (b 2) ((a 2) + (b 2)))])] [] (.tuple #[.agg #[.int .i64 (bothV (a 0) (b 0) ((a 0) + (b 0))), .int .i64 (bothV (a 1) (b 1) ((a 1) + (b 1))), .int .i64 (bothV (a 2) (b 2) ((a 2) + (b 2)))], .int .i64 0]))))))))) : Calls Tryd.prog 111 #[.agg #[.int .i64 (a 0), .int .i64 (a 1), .int .i64 (a 2)], .agg #[.int .i64 (b 0), .int .i64 (b 1), .int .i64 (b 2)], .func (.func 70) #[] #[]] w R :=
  calls_of_plan (f := 111) (es := []) (c := Tryd.f111.body.getD .skip) (tmps := #[.agg #[.int .i64 (a 0), .int .i64 (a 1), .int .i64 (a 2)], .agg #[.int .i64 (b 0), .int .i64 (b 1), .int .i64 (b 2)], .func (.func 70) #[] #[], undef, undef, undef, undef, undef, undef, undef, undef, undef, undef, undef, undef, undef, undef, undef, undef, undef, undef, undef, undef, undef, undef, undef, undef, undef, undef, undef, undef, undef, undef, undef, undef])
    (.s [.c, .c] (.new (fun r1 => .new (fun r2 => .new (fun r3 => .s [.v, .c, .c, .c] (.new (fun r4 => .s [.c, .c, .c, .c, .v, .c, .c, .c, .c, .c, .v, .c, .c, .c, .c, .c, .c, .c, .c, .v, .v, .c, .c, .d [], .at 0 false, .v, .at 1 false, .v, .at 2 false, .v, .at 3 false, .own 0, .at 4 false, .v, .at 5 false, .v, .at 6 false, .own 1, .at 7 true, .call (.tuple #[.int .i64 (bothV (a 0) (b 0) ((a 0) + (b 0))), .int .i64 (bothE (a 0) (b 0) ((a 0) + (b 0)))]), .at 8 false, .v, .at 9 false, .v, .at 10 false, .v, .at 11 false, .v, .at 12 false, .v, .c, .c, .c, .c, .v, .v, .c] (.split 27 (.s [.c, .c, .c, .v, .v, .put 2, .v, .c] (.ret [2])) (.s [.c, .c, .c, .v, .v, .v, .put 3, .c, .c, .c, .v, .v, .c, .c, .c, .c, .v, .c, .c, .c, .c, .c, .c, .c, .c, .v, .v, .c, .c, .d [], .at 0 false, .v, .at 1 false, .v, .at 2 false, .v, .at 3 false, .own 0, .at 4 false, .v, .at 5 false, .v, .at 6 false, .own 1, .at 7 true, .call (.tuple #[.int .i64 (bothV (a 1) (b 1) ((a 1) + (b 1))), .int .i64 (bothE (a 1) (b 1) ((a 1) + (b 1)))]), .at 8 false, .v, .at 9 false, .v, .at 10 false, .v, .at 11 false, .v, .at 12 false, .v, .c, .c, .c, .c, .v, .v, .c] (.split 27 (.s [.c, .c, .c, .v, .v, .put 2, .v, .c] (.ret [2])) (.s [.c, .c, .c, .v, .v, .v, .put 3, .c, .c, .c, .v, .v, .c, .c, .c, .c, .v, .c, .c, .c, .c, .c, .c, .c, .c, .v, .v, .c, .c, .d [], .at 0 false, .v, .at 1 false, .v, .at 2 false, .v, .at 3 false, .own 0, .at 4 false, .v, .at 5 false, .v, .at 6 false, .own 1, .at 7 true, .call (.tuple #[.int .i64 (bothV (a 2) (b 2) ((a 2) + (b 2))), .int .i64 (bothE (a 2) (b 2) ((a 2) + (b 2)))]), .at 8 false, .v, .at 9 false, .v, .at 10 false, .v, .at 11 false, .v, .at 12 false, .v, .c, .c, .c, .c, .v, .v, .c] (.split 27 (.s [.c, .c, .c, .v, .v, .put 2, .v, .c] (.ret [2])) (.s [.c, .c, .c, .v, .v, .v, .put 3, .c, .c, .c, .v, .v, .c, .c, .c, .c, .v, .c, .c, .c, .c, .c, .c, .own 3, .put 2, .v, .c] (.ret [2]))))))))))))))
    (by kernel_rfl) hG hE Tryd.func111 (by kernel_rfl) (by kernel_rfl) (Eq.mpr (by kernel_rfl) h)
set_option maxRecDepth 1000000 in
set_option maxHeartbeats 8000000 in
theorem each_Add (a b : Nat → Int)  (w : World)  : Calls Tryd.prog 111 #[.agg #[.int .i64 (a 0), .int .i64 (a 1), .int .i64 (a 2)], .agg #[.int .i64 (b 0), .int .i64 (b 1), .int .i64 (b 2)], .func (.func 70) #[] #[]] w (fun e w' => e = .returned (.tuple #[.agg #[.int .i64 (eV (vaddY a b 0) (vaddY a b 1) (vaddY a b 2) (vaddX a b 0)), .int .i64 (eV (vaddY a b 0) (vaddY a b 1) (vaddY a b 2) (vaddX a b 1)), .int .i64 (eV (vaddY a b 0) (vaddY a b 1) (vaddY a b 2) (vaddX a b 2))], .int .i64 (eE (vaddY a b 0) (vaddY a b 1) (vaddY a b 2))]) ∧ Below w.heap.size w w') := by
  refine each_Add_plan a b w _ (St.refl w) Ex.nil ?_
  intro r1
  intro r2
  intro r3
  intro r4
  refine ⟨rfl, rfl, (CallV.be fun W hS => fix_Add (a 0) (b 0)  W ), ?_⟩
  refine ⟨?_, ?_⟩
  · intro h5
    have h5p : ¬ ((bothE (a 0) (b 0) ((a 0) + (b 0))) = 0) := by simpa using h5
    refine ⟨⟨rfl, rfl, rfl, trivial⟩, ⟨rfl, trivial⟩, ?_⟩
    have F := each_1 (e0 := bothE (a 0) (b 0) ((a 0) + (b 0))) (e1 := bothE (a 1) (b 1) ((a 1) + (b 1))) (e2 := bothE (a 2) (b 2) ((a 2) + (b 2))) h5p
    exact fun W hS => ⟨by simp only [vaddY, vscY, vaddX, vscX, F.1, F.2], hS.bl⟩
  · intro h6
    have h6p : (bothE (a 0) (b 0) ((a 0) + (b 0))) = 0 := by simpa using h6
    refine ⟨⟨rfl, trivial⟩, rfl, rfl, (CallV.be fun W hS => fix_Add (a 1) (b 1)  W ), ?_⟩
    refine ⟨?_, ?_⟩
    · intro h7
      have h7p : ¬ ((bothE (a 1) (b 1) ((a 1) + (b 1))) = 0) := by simpa using h7
      refine ⟨⟨rfl, rfl, rfl, trivial⟩, ⟨rfl, trivial⟩, ?_⟩
      have F := each_2 (e0 := bothE (a 0) (b 0) ((a 0) + (b 0))) (e1 := bothE (a 1) (b 1) ((a 1) + (b 1))) (e2 := bothE (a 2) (b 2) ((a 2) + (b 2))) h6p h7p
      exact fun W hS => ⟨by simp only [vaddY, vscY, vaddX, vscX, F.1, F.2], hS.bl⟩
    · intro h8
      have h8p : (bothE (a 1) (b 1) ((a 1) + (b 1))) = 0 := by simpa using h8
      refine ⟨⟨rfl, trivial⟩, rfl, rfl, (CallV.be fun W hS => fix_Add (a 2) (b 2)  W ), ?_⟩
      refine ⟨?_, ?_⟩
      · intro h9
        have h9p : ¬ ((bothE (a 2) (b 2) ((a 2) + (b 2))) = 0) := by simpa using h9
        refine ⟨⟨rfl, rfl, rfl, trivial⟩, ⟨rfl, trivial⟩, ?_⟩
        have F := each_3 (e0 := bothE (a 0) (b 0) ((a 0) + (b 0))) (e1 := bothE (a 1) (b 1) ((a 1) + (b 1))) (e2 := bothE (a 2) (b 2) ((a 2) + (b 2))) h6p h8p h9p
        exact fun W hS => ⟨by simp only [vaddY, vscY, vaddX, vscX, F.1, F.2], hS.bl⟩
      · intro h10
        have h10p : (bothE (a 2) (b 2) ((a 2) + (b 2))) = 0 := by simpa using h10
        refine ⟨⟨rfl, trivial⟩, rfl, ⟨rfl, rfl, rfl, trivial⟩, ⟨rfl, trivial⟩, ?_⟩
        have F := each_4 (e0 := bothE (a 0) (b 0) ((a 0) + (b 0))) (e1 := bothE (a 1) (b 1) ((a 1) + (b 1))) (e2 := bothE (a 2) (b 2) ((a 2) + (b 2))) h6p h8p h10p
        exact fun W hS => ⟨by simp only [vaddY, vscY, vaddX, vscX, F.1, F.2], hS.bl⟩
set_option maxRecDepth 1000000 in
theorem each_Clamp_plan (a m : Nat → Int) (w : World) (R : Ending → World → Prop) (hG : St w w [] []) (hE : Ex w [])
    (h : ∀ r1 : Nat, ∀ r2 : Nat, ∀ r3 : Nat, ∀ r4 : Nat, r1 = r1 ∧ r2 = r2 ∧ CallV Tryd.prog w [(r1, [.int .i64 (a 0), .int .i64 (a 1), .int .i64 (a 2)]), (r2, [.int .i64 (m 0), .int .i64 (m 1), .int .i64 (m 2)]), (r3, [.int .i64 0, .int .i64 0, .int .i64 0]), (r4, [.int .i64 0, .int .i64 0, .int .i64 0])] [] 123 #[.int .i64 (a 0), .int .i64 (m 0)] (.tuple #[.int .i64 (clampZ (a 0) (m 0)), .int .i64 0]) ∧ (r4 = r4 ∧ (True)) ∧ r1 = r1 ∧ r2 = r2 ∧ CallV Tryd.prog w [(r1, [.int .i64 (a 0), .int .i64 (a 1), .int .i64 (a 2)]), (r2, [.int .i64 (m 0), .int .i64 (m 1), .int .i64 (m 2)]), (r3, [.int .i64 0, .int .i64 0, .int .i64 0]), (r4, [.int .i64 (clampZ (a 0) (m 0)), .int .i64 0, .int .i64 0])] [] 123 #[.int .i64 (a 1), .int .i64 (m 1)] (.tuple #[.int .i64 (clampZ (a 1) (m 1)), .int .i64 0]) ∧ (r4 = r4 ∧ (True)) ∧ r1 = r1 ∧ r2 = r2 ∧ CallV Tryd.prog w [(r1, [.int .i64 (a 0), .int .i64 (a 1), .int .i64 (a 2)]), (r2, [.int .i64 (m 0), .int .i64 (m 1), .int .i64 (m 2)]), (r3, [.int .i64 0, .int .i64 0, .int .i64 0]), (r4, [.int .i64 (clampZ (a 0) (m 0)), .int .i64 (clampZ (a 1) (m 1)), .int .i64 0])] [] 123 #[.int .i64 (a 2), .int .i64 (m 2)] (.tuple #[.int .i64 (clampZ (a 2) (m 2)), .int .i64 0]) ∧ (r4 = r4 ∧ (True)) ∧ r4 = r4 ∧ (r3 = r3 ∧ (r3 = r3 ∧ (r3 = r3 ∧ (True)))) ∧ (r3 = r3 ∧ (True)) ∧ (LeafV R w [(r1, [.int .i64 (a 0), .int .i64 (a 1), .int .i64 (a 2)]), (r2, [.int .i64 (m 0), .int .i64 (m 1), .int .i64 (m 2)]), (r3, [.int .i64 (clampZ (a 0) (m 0)), .int .i64 (clampZ (a 1) (m 1)), .int .i64 (clampZ (a 2) (m 2))]), (r4, [.int .i64 (clampZ (a 0) (m 0)), .int .i64 (clampZ (a 1) (m 1)), .int .i64 (clampZ (a 2) (m 2))])] [] (.tuple #[.agg #[.int .i64 (clampZ (a 0) (m 0)), .int .i64 (clampZ (a 1) (m 1)), .int .i64 (clampZ (a 2) (m 2))], .int .i64 0]))) : Calls Tryd.prog 111 #[.agg #[.int .i64 (a 0), .int .i64 (a 1), .int .i64 (a 2)], .agg #[.int .i64 (m 0), .int .i64 (m 1), .int .i64 (m 2)], .func (.func 123) #[] #[]] w R :=
  calls_of_plan (f := 111) (es := []) (c := Tryd.f111.body.getD .skip) (tmps := #[.agg #[.int .i64 (a 0), .int .i64 (a 1), .int .i64 (a 2)], .agg #[.int .i64 (m 0), .int .i64 (m 1), .int .i64 (m 2)], .func (.func 123) #[] #[], undef, undef, undef, undef, undef, undef, undef, undef, undef, undef, undef, undef, undef, undef, undef, undef, undef, undef, undef, undef, undef, undef, undef, undef, undef, undef, undef, undef, undef, undef, undef, undef])
    (.s [.c, .c] (.new (fun r1 => .new (fun r2 => .new (fun r3 => .s [.v, .c, .c, .c] (.new (fun r4 => .s [.c, .c, .c, .c, .v, .c, .c, .c, .c, .c, .v, .c, .c, .c, .c, .c, .c, .c, .c, .v, .v, .c, .c, .d [], .at 0 false, .v, .at 1 false, .v, .at 2 false, .v, .at 3 false, .own 0, .at 4 false, .v, .at 5 false, .v, .at 6 false, .own 1, .at 7 true, .call (.tuple #[.int .i64 (clampZ (a 0) (m 0)), .int .i64 0]), .at 8 false, .v, .at 9 false, .v, .at 10 false, .v, .at 11 false, .v, .at 12 false, .v, .c, .c, .c, .c, .v, .v, .c, .c, .c, .c, .v, .v, .v, .put 3, .c, .c, .c, .v, .v, .c, .c, .c, .c, .v, .c, .c, .c, .c, .c, .c, .c, .c, .v, .v, .c, .c, .d [], .at 0 false, .v, .at 1 false, .v, .at 2 false, .v, .at 3 false, .own 0, .at 4 false, .v, .at 5 false, .v, .at 6 false, .own 1, .at 7 true, .call (.tuple #[.int .i64 (clampZ (a 1) (m 1)), .int .i64 0]), .at 8 false, .v, .at 9 false, .v, .at 10 false, .v, .at 11 false, .v, .at 12 false, .v, .c, .c, .c, .c, .v, .v, .c, .c, .c, .c, .v, .v, .v, .put 3, .c, .c, .c, .v, .v, .c, .c, .c, .c, .v, .c, .c, .c, .c, .c, .c, .c, .c, .v, .v, .c, .c, .d [], .at 0 false, .v, .at 1 false, .v, .at 2 false, .v, .at 3 false, .own 0, .at 4 false, .v, .at 5 false, .v, .at 6 false, .own 1, .at 7 true, .call (.tuple #[.int .i64 (clampZ (a 2) (m 2)), .int .i64 0]), .at 8 false, .v, .at 9 false, .v, .at 10 false, .v, .at 11 false, .v, .at 12 false, .v, .c, .c, .c, .c, .v, .v, .c, .c, .c, .c, .v, .v, .v, .put 3, .c, .c, .c, .v, .v, .c, .c, .c, .c, .v, .c, .c, .c, .c, .c, .c, .own 3, .put 2, .v, .c] (.ret [2]))))))))
    (by kernel_rfl) hG hE Tryd.func111 (by kernel_rfl) (by kernel_rfl) (Eq.mpr (by kernel_rfl) h)
set_option maxRecDepth 1000000 in
set_option maxHeartbeats 8000000 in
theorem each_Clamp (a m : Nat → Int) (ha : ∀ i, I64 (a i)) (hm : ∀ i, I64 (m i)) (w : World)  : Calls Tryd.prog 111 #[.agg #[.int .i64 (a 0), .int .i64 (a 1), .int .i64 (a 2)], .agg #[.int .i64 (m 0), .int .i64 (m 1), .int .i64 (m 2)], .func (.func 123) #[] #[]] w (fun e w' => e = .returned (.tuple #[.agg #[.int .i64 (clampZ (a 0) (m 0)), .int .i64 (clampZ (a 1) (m 1)), .int .i64 (clampZ (a 2) (m 2))], .int .i64 0]) ∧ Below w.heap.size w w') := by
  refine each_Clamp_plan a m w _ (St.refl w) Ex.nil ?_
  intro r1
  intro r2
  intro r3
  intro r4
  refine ⟨rfl, rfl, (CallV.be fun W hS => vec_Clamp1 (a 0) (m 0) (ha 0) (hm 0) W), ⟨rfl, trivial⟩, rfl, rfl, (CallV.be fun W hS => vec_Clamp1 (a 1) (m 1) (ha 1) (hm 1) W), ⟨rfl, trivial⟩, rfl, rfl, (CallV.be fun W hS => vec_Clamp1 (a 2) (m 2) (ha 2) (hm 2) W), ⟨rfl, trivial⟩, rfl, ⟨rfl, rfl, rfl, trivial⟩, ⟨rfl, trivial⟩, ?_⟩
  exact fun W hS => ⟨rfl, hS.bl⟩
set_option maxRecDepth 1000000 in
theorem vec_Clamp_plan (a m : Nat → Int) (w : World) (R : Ending → World → Prop) (hG : St w w [] []) (hE : Ex w [])
    (h : ∀ r1 : Nat, ∀ r2 : Nat, ∀ r3 : Nat, r1 = r1 ∧ r2 = r2 ∧ CallV Tryd.prog w [(r1, [.int .i64 (a 0), .int .i64 (a 1), .int .i64 (a 2)]), (r2, [.int .i64 (m 0), .int .i64 (m 1), .int .i64 (m 2)]), (r3, [.int .i64 0, .int .i64 0, .int .i64 0])] [] 111 #[.agg #[.int .i64 (a 0), .int .i64 (a 1), .int .i64 (a 2)], .agg #[.int .i64 (m 0), .int .i64 (m 1), .int .i64 (m 2)], .func (.func 123) #[] #[]] (.tuple #[.agg #[.int .i64 (clampZ (a 0) (m 0)), .int .i64 (clampZ (a 1) (m 1)), .int .i64 (clampZ (a 2) (m 2))], .int .i64 0]) ∧ (∀ r4 : Nat, (r4 = r4 ∧ (r4 = r4 ∧ (r4 = r4 ∧ (True)))) ∧ r4 = r4 ∧ (r3 = r3 ∧ (r3 = r3 ∧ (r3 = r3 ∧ (True)))) ∧ (r3 = r3 ∧ (True)) ∧ (LeafV R w [(r1, [.int .i64 (a 0), .int .i64 (a 1), .int .i64 (a 2)]), (r2, [.int .i64 (m 0), .int .i64 (m 1), .int .i64 (m 2)]), (r3, [.int .i64 (clampZ (a 0) (m 0)), .int .i64 (clampZ (a 1) (m 1)), .int .i64 (clampZ (a 2) (m 2))]), (r4, [.int .i64 (clampZ (a 0) (m 0)), .int .i64 (clampZ (a 1) (m 1)), .int .i64 (clampZ (a 2) (m 2))])] [] (.agg #[.int .i64 (clampZ (a 0) (m 0)), .int .i64 (clampZ (a 1) (m 1)), .int .i64 (clampZ (a 2) (m 2))])))) : Calls Tryd.prog 95 #[.agg #[.int .i64 (a 0), .int .i64 (a 1), .int .i64 (a 2)], .agg #[.int .i64 (m 0), .int .i64 (m 1), .int .i64 (m 2)]] w R :=
  calls_of_plan (f := 95) (es := []) (c := Tryd.f95.body.getD .skip) (tmps := #[.agg #[.int .i64 (a 0), .int .i64 (a 1), .int .i64 (a 2)], .agg #[.int .i64 (m 0), .int .i64 (m 1), .int .i64 (m 2)], undef, undef, undef, undef, undef, undef, undef, undef, undef, undef, undef, undef])
    (.s [.c, .c] (.new (fun r1 => .new (fun r2 => .new (fun r3 => .s [.c, .c, .c, .own 0, .own 1, .call (.tuple #[.agg #[.int .i64 (clampZ (a 0) (m 0)), .int .i64 (clampZ (a 1) (m 1)), .int .i64 (clampZ (a 2) (m 2))], .int .i64 0]), .v, .v, .v] (.new (fun r4 => .s [.put 3, .v, .c, .c, .c, .own 3, .put 2, .c] (.ret [2]))))))))
    (by kernel_rfl) hG hE Tryd.func95 (by kernel_rfl) (by kernel_rfl) (Eq.mpr (by kernel_rfl) h)
set_option maxRecDepth 1000000 in
set_option maxHeartbeats 8000000 in
theorem vec_Clamp (a m : Nat → Int) (ha : ∀ i, I64 (a i)) (hm : ∀ i, I64 (m i)) (w : World)  : Calls Tryd.prog 95 #[.agg #[.int .i64 (a 0), .int .i64 (a 1), .int .i64 (a 2)], .agg #[.int .i64 (m 0), .int .i64 (m 1), .int .i64 (m 2)]] w (fun e w' => e = .returned (.agg #[.int .i64 (clampZ (a 0) (m 0)), .int .i64 (clampZ (a 1) (m 1)), .int .i64 (clampZ (a 2) (m 2))]) ∧ Below w.heap.size w w') := by
  refine vec_Clamp_plan a m w _ (St.refl w) Ex.nil ?_
  intro r1
  intro r2
  intro r3
  refine ⟨rfl, rfl, (CallV.be fun W hS => each_Clamp a m ha hm W), ?_⟩
  intro r4
  refine ⟨⟨rfl, rfl, rfl, trivial⟩, rfl, ⟨rfl, rfl, rfl, trivial⟩, ⟨rfl, trivial⟩, ?_⟩
  exact fun W hS => ⟨rfl, hS.bl⟩
set_option maxRecDepth 1000000 in
theorem vec_Fits_plan (a : Nat → Int) (w : World) (R : Ending → World → Prop) (hG : St w w [] []) (hE : Ex w [])
    (h : ∀ r1 : Nat, r1 = r1 ∧ r1 = r1 ∧ CallV Tryd.prog w [(r1, [.int .i64 (a 0), .int .i64 (a 1), .int .i64 (a 2)])] [] 95 #[.agg #[.int .i64 (a 0), .int .i64 (a 1), .int .i64 (a 2)], .agg #[.int .i64 288230376151711744, .int .i64 288230376151711744, .int .i64 288230376151711744]] (.agg #[.int .i64 (clampZ (a 0) 288230376151711744), .int .i64 (clampZ (a 1) 288230376151711744), .int .i64 (clampZ (a 2) 288230376151711744)]) ∧ EqV Tryd.prog 25 (.agg #[.int .i64 (a 0), .int .i64 (a 1), .int .i64 (a 2)]) (.agg #[.int .i64 (clampZ (a 0) 288230376151711744), .int .i64 (clampZ (a 1) 288230376151711744), .int .i64 (clampZ (a 2) 288230376151711744)]) ([(a 0), (a 1), (a 2)] == [(clampZ (a 0) 288230376151711744), (clampZ (a 1) 288230376151711744), (clampZ (a 2) 288230376151711744)]) ∧ (True) ∧ (LeafV R w [(r1, [.int .i64 (a 0), .int .i64 (a 1), .int .i64 (a 2)])] [] (.bool ([(a 0), (a 1), (a 2)] == [(clampZ (a 0) 288230376151711744), (clampZ (a 1) 288230376151711744), (clampZ (a 2) 288230376151711744)])))) : Calls Tryd.prog 43 #[.agg #[.int .i64 (a 0), .int .i64 (a 1), .int .i64 (a 2)]] w R :=
  calls_of_plan (f := 43) (es := []) (c := Tryd.f43.body.getD .skip) (tmps := #[.agg #[.int .i64 (a 0), .int .i64 (a 1), .int .i64 (a 2)], undef, undef, undef, undef, undef, undef, undef])
    (.s [.c, .c] (.new (fun r1 => .s [.v, .c, .c, .d [], .at 0 false, .own 0, .at 1 false, .own 0, .at 2 false, .v, .at 3 true, .call (.agg #[.int .i64 (clampZ (a 0) 288230376151711744), .int .i64 (clampZ (a 1) 288230376151711744), .int .i64 (clampZ (a 2) 288230376151711744)]), .at 4 false, .eq ([(a 0), (a 1), (a 2)] == [(clampZ (a 0) 288230376151711744), (clampZ (a 1) 288230376151711744), (clampZ (a 2) 288230376151711744)]), .at 5 false, .v, .c] (.ret []))))
    (by kernel_rfl) hG hE Tryd.func43 (by kernel_rfl) (by kernel_rfl) (Eq.mpr (by kernel_rfl) h)
set_option maxRecDepth 1000000 in
set_option maxHeartbeats 8000000 in
theorem vec_Fits (a : Nat → Int) (ha : ∀ i, I64 (a i)) (w : World)  : Calls Tryd.prog 43 #[.agg #[.int .i64 (a 0), .int .i64 (a 1), .int .i64 (a 2)]] w (fun e w' => e = .returned (.bool (fits3 a)) ∧ Below w.heap.size w w') := by
  refine vec_Fits_plan a w _ (St.refl w) Ex.nil ?_
  intro r1
  refine ⟨rfl, rfl, (CallV.be fun W hS => vec_Clamp a (v3 288230376151711744 288230376151711744 288230376151711744) ha (v3_all (p := I64) (by decide) (by decide) (by decide)) W), (fun W => eqVec _ _ _ _ _ _ W), trivial, ?_⟩
  exact fun W hS => ⟨by rw [clamp3_fit]; rfl, hS.bl⟩
set_option maxRecDepth 1000000 in
theorem vec_Add_plan (a b : Nat → Int) (w : World) (R : Ending → World → Prop) (hG : St w w [] []) (hE : Ex w [])
    (h : ∀ r1 : Nat, ∀ r2 : Nat, ∀ r3 : Nat, r1 = r1 ∧ CallV Tryd.prog w [(r1, [.int .i64 (a 0), .int .i64 (a 1), .int .i64 (a 2)]), (r2, [.int .i64 (b 0), .int .i64 (b 1), .int .i64 (b 2)]), (r3, [.int .i64 0, .int .i64 0, .int .i64 0])] [] 43 #[.agg #[.int .i64 (a 0), .int .i64 (a 1), .int .i64 (a 2)]] (.bool (fits3 a)) ∧ (((!(fits3 a)) = true → (r3 = r3 ∧ (r3 = r3 ∧ (r3 = r3 ∧ (True)))) ∧ (r3 = r3 ∧ (True)) ∧ (LeafV R w [(r1, [.int .i64 (a 0), .int .i64 (a 1), .int .i64 (a 2)]), (r2, [.int .i64 (b 0), .int .i64 (b 1), .int .i64 (b 2)]), (r3, [.int .i64 0, .int .i64 0, .int .i64 0])] [] (.tuple #[.agg #[.int .i64 0, .int .i64 0, .int .i64 0], .int .i64 1]))) ∧ ((!(fits3 a)) = false → r2 = r2 ∧ CallV Tryd.prog w [(r1, [.int .i64 (a 0), .int .i64 (a 1), .int .i64 (a 2)]), (r2, [.int .i64 (b 0), .int .i64 (b 1), .int .i64 (b 2)]), (r3, [.int .i64 0, .int .i64 0, .int .i64 0])] [] 43 #[.agg #[.int .i64 (b 0), .int .i64 (b 1), .int .i64 (b 2)]] (.bool (fits3 b)) ∧ (((!(fits3 b)) = true → (r3 = r3 ∧ (r3 = r3 ∧ (r3 = r3 ∧ (True)))) ∧ (r3 = r3 ∧ (True)) ∧ (LeafV R w [(r1, [.int .i64 (a 0), .int .i64 (a 1), .int .i64 (a 2)]), (r2, [.int .i64 (b 0), .int .i64 (b 1), .int .i64 (b 2)]), (r3, [.int .i64 0, .int .i64 0, .int .i64 0])] [] (.tuple #[.agg #[.int .i64 0, .int .i64 0, .int .i64 0], .int .i64 1]))) ∧ ((!(fits3 b)) = false → r1 = r1 ∧ r2 = r2 ∧ CallV Tryd.prog w [(r1, [.int .i64 (a 0), .int .i64 (a 1), .int .i64 (a 2)]), (r2, [.int .i64 (b 0), .int .i64 (b 1), .int .i64 (b 2)]), (r3, [.int .i64 0, .int .i64 0, .int .i64 0])] [] 111 #[.agg #[.int .i64 (a 0), .int .i64 (a 1), .int .i64 (a 2)], .agg #[.int .i64 (b 0), .int .i64 (b 1), .int .i64 (b 2)], .func (.func 70) #[] #[]] (.tuple #[.agg #[.int .i64 (eV (vaddY a b 0) (vaddY a b 1) (vaddY a b 2) (vaddX a b 0)), .int .i64 (eV (vaddY a b 0) (vaddY a b 1) (vaddY a b 2) (vaddX a b 1)), .int .i64 (eV (vaddY a b 0) (vaddY a b 1) (vaddY a b 2) (vaddX a b 2))], .int .i64 (eE (vaddY a b 0) (vaddY a b 1) (vaddY a b 2))]) ∧ (r3 = r3 ∧ (r3 = r3 ∧ (r3 = r3 ∧ (True)))) ∧ (r3 = r3 ∧ (True)) ∧ (LeafV R w [(r1, [.int .i64 (a 0), .int .i64 (a 1), .int .i64 (a 2)]), (r2, [.int .i64 (b 0), .int .i64 (b 1), .int .i64 (b 2)]), (r3, [.int .i64 (eV (vaddY a b 0) (vaddY a b 1) (vaddY a b 2) (vaddX a b 0)), .int .i64 (eV (vaddY a b 0) (vaddY a b 1) (vaddY a b 2) (vaddX a b 1)), .int .i64 (eV (vaddY a b 0) (vaddY a b 1) (vaddY a b 2) (vaddX a b 2))])] [] (.tuple #[.agg #[.int .i64 (eV (vaddY a b 0) (vaddY a b 1) (vaddY a b 2) (vaddX a b 0)), .int .i64 (eV (vaddY a b 0) (vaddY a b 1) (vaddY a b 2) (vaddX a b 1)), .int .i64 (eV (vaddY a b 0) (vaddY a b 1) (vaddY a b 2) (vaddX a b 2))], .int .i64 (eE (vaddY a b 0) (vaddY a b 1) (vaddY a b 2))]))))))) : Calls Tryd.prog 73 #[.agg #[.int .i64 (a 0), .int .i64 (a 1), .int .i64 (a 2)], .agg #[.int .i64 (b 0), .int .i64 (b 1), .int .i64 (b 2)]] w R :=
  calls_of_plan (f := 73) (es := []) (c := Tryd.f73.body.getD .skip) (tmps := #[.agg #[.int .i64 (a 0), .int .i64 (a 1), .int .i64 (a 2)], .agg #[.int .i64 (b 0), .int .i64 (b 1), .int .i64 (b 2)], undef, undef, undef, undef, undef, undef, undef, undef, undef, undef, undef, undef, undef, undef, undef, undef, undef, undef])
    (.s [.c, .c] (.new (fun r1 => .new (fun r2 => .new (fun r3 => .s [.v, .c, .c, .c, .c, .own 0, .call (.bool (fits3 a)), .v, .v] (.split 9 (.s [.u, .u, .u, .v, .c, .c, .c, .c, .v, .put 2, .v, .c] (.ret [2])) (.s [.own 1, .call (.bool (fits3 b)), .v, .v, .c] (.split 13 (.s [.c, .c, .c, .v, .put 2, .v, .c] (.ret [2])) (.s [.c, .c, .c, .c, .own 0, .own 1, .call (.tuple #[.agg #[.int .i64 (eV (vaddY a b 0) (vaddY a b 1) (vaddY a b 2) (vaddX a b 0)), .int .i64 (eV (vaddY a b 0) (vaddY a b 1) (vaddY a b 2) (vaddX a b 1)), .int .i64 (eV (vaddY a b 0) (vaddY a b 1) (vaddY a b 2) (vaddX a b 2))], .int .i64 (eE (vaddY a b 0) (vaddY a b 1) (vaddY a b 2))]), .v, .v, .put 2, .v, .c] (.ret [2]))))))))))
    (by kernel_rfl) hG hE Tryd.func73 (by kernel_rfl) (by kernel_rfl) (Eq.mpr (by kernel_rfl) h)
set_option maxRecDepth 1000000 in
set_option maxHeartbeats 8000000 in
theorem vec_Add (a b : Nat → Int) (ha : ∀ i, I64 (a i)) (hb : ∀ i, I64 (b i)) (w : World)  : Calls Tryd.prog 73 #[.agg #[.int .i64 (a 0), .int .i64 (a 1), .int .i64 (a 2)], .agg #[.int .i64 (b 0), .int .i64 (b 1), .int .i64 (b 2)]] w (fun e w' => e = .returned (.tuple #[.agg #[.int .i64 (vaddV a b 0), .int .i64 (vaddV a b 1), .int .i64 (vaddV a b 2)], .int .i64 (vaddE a b)]) ∧ Below w.heap.size w w') := by
  refine vec_Add_plan a b w _ (St.refl w) Ex.nil ?_
  intro r1
  intro r2
  intro r3
  refine ⟨rfl, (CallV.be fun W hS => vec_Fits a ha W), ?_⟩
  refine ⟨?_, ?_⟩
  · intro h40
    have h4 : (fits3 a) = false := by simpa using h40
    refine ⟨⟨rfl, rfl, rfl, trivial⟩, ⟨rfl, trivial⟩, ?_⟩
    have F := vadd_no (a := a) (b := b) (by rw [h4]; rfl)
    exact fun W hS => ⟨by simp only [F.1, F.2], hS.bl⟩
  · intro h50
    have h5 : (fits3 a) = true := by simpa using h50
    refine ⟨rfl, (CallV.be fun W hS => vec_Fits b hb W), ?_⟩
    refine ⟨?_, ?_⟩
    · intro h60
      have h6 : (fits3 b) = false := by simpa using h60
      refine ⟨⟨rfl, rfl, rfl, trivial⟩, ⟨rfl, trivial⟩, ?_⟩
      have F := vadd_no (a := a) (b := b) (by rw [h5, h6]; rfl)
      exact fun W hS => ⟨by simp only [F.1, F.2], hS.bl⟩
    · intro h70
      have h7 : (fits3 b) = true := by simpa using h70
      refine ⟨rfl, rfl, (CallV.be fun W hS => each_Add a b W), ⟨rfl, rfl, rfl, trivial⟩, ⟨rfl, trivial⟩, ?_⟩
      have F := vadd_yes h5 h7
      exact fun W hS => ⟨by simp only [F.1, F.2], hS.bl⟩
set_option maxRecDepth 1000000 in
theorem vec_Scale1_plan (x y k : Int) (b : Nat) (w : World) (R : Ending → World → Prop) (hG : St w w [] []) (hE : Ex w [(b, [.int .i64 k])])
    (h : b = b ∧ CallV Tryd.prog w [] [] 64 #[.int .i64 x, .int .i64 k] (.tuple #[.int .i64 (bothV x k (mulZ x k)), .int .i64 (bothE x k (mulZ x k))]) ∧ (True) ∧ (LeafV R w [] [] (.tuple #[.int .i64 (bothV x k (mulZ x k)), .int .i64 (bothE x k (mulZ x k))]))) : Calls Tryd.prog 112 #[.int .i64 x, .int .i64 y, .pointer (some ⟨b, 0, none⟩)] w R :=
  calls_of_plan (f := 112) (es := [(b, [.int .i64 k])]) (c := Tryd.f112.body.getD .skip) (tmps := #[.int .i64 x, .int .i64 y, .pointer (some ⟨b, 0, none⟩), undef, undef, undef, undef, undef, undef, undef, undef, undef])
    (.s [.c, .c, .v, .v, .c, .c, .c, .v, .ext 0, .call (.tuple #[.int .i64 (bothV x k (mulZ x k)), .int .i64 (bothE x k (mulZ x k))]), .v, .v, .v, .v, .c] (.ret []))
    (by kernel_rfl) hG hE Tryd.func112 (by kernel_rfl) (by kernel_rfl) (Eq.mpr (by kernel_rfl) h)
set_option maxRecDepth 1000000 in
set_option maxHeartbeats 8000000 in
theorem vec_Scale1 (x y k : Int) (b : Nat)  (w : World) (hg : GN w) (hc : w.cell? ⟨b, 0, none⟩ = some (.int .i64 k)) : Calls Tryd.prog 112 #[.int .i64 x, .int .i64 y, .pointer (some ⟨b, 0, none⟩)] w (fun e w' => e = .returned (.tuple #[.int .i64 (bothV x k (mulZ x k)), .int .i64 (bothE x k (mulZ x k))]) ∧ Below w.heap.size w w') := by
  refine vec_Scale1_plan x y k b w _ (St.refl w) (by exact Ex.cons (exOf (by exact ⟨hc, trivial⟩)) (Ex.nil)) ?_
  refine ⟨rfl, (CallV.be fun W hS => fix_Mul x k  W (hg.below hS.bl)), trivial, ?_⟩
  exact fun W hS => ⟨rfl, hS.bl⟩
set_option maxRecDepth 1000000 in
theorem each_Scale_plan (a b : Nat → Int) (k : Int) (c : Nat) (w : World) (R : Ending → World → Prop) (hG : St w w [] []) (hE : Ex w [])
    (h : ∀ r1 : Nat, ∀ r2 : Nat, ∀ r3 : Nat, ∀ r4 : Nat, r1 = r1 ∧ r2 = r2 ∧ CallV Tryd.prog w [(r1, [.int .i64 (a 0), .int .i64 (a 1), .int .i64 (a 2)]), (r2, [.int .i64 (b 0), .int .i64 (b 1), .int .i64 (b 2)]), (r3, [.int .i64 0, .int .i64 0, .int .i64 0]), (r4, [.int .i64 0, .int .i64 0, .int .i64 0])] [] 112 #[.int .i64 (a 0), .int .i64 (b 0), .pointer (some ⟨c, 0, none⟩)] (.tuple #[.int .i64 (bothV (a 0) k (mulZ (a 0) k)), .int .i64 (bothE (a 0) k (mulZ (a 0) k))]) ∧ ((((bothE (a 0) k (mulZ (a 0) k)) != 0) = true → (r3 = r3 ∧ (r3 = r3 ∧ (r3 = r3 ∧ (True)))) ∧ (r3 = r3 ∧ (True)) ∧ (LeafV R w [(r1, [.int .i64 (a 0), .int .i64 (a 1), .int .i64 (a 2)]), (r2, [.int .i64 (b 0), .int .i64 (b 1), .int .i64 (b 2)]), (r3, [.int .i64 0, .int .i64 0, .int .i64 0]), (r4, [.int .i64 0, .int .i64 0, .int .i64 0])] [] (.tuple #[.agg #[.int .i64 0, .int .i64 0, .int .i64 0], .int .i64 (bothE (a 0) k (mulZ (a 0) k))]))) ∧ (((bothE (a 0) k (mulZ (a 0) k)) != 0) = false → (r4 = r4 ∧ (True)) ∧ r1 = r1 ∧ r2 = r2 ∧ CallV Tryd.prog w [(r1, [.int .i64 (a 0), .int .i64 (a 1), .int .i64 (a 2)]), (r2, [.int .i64 (b 0), .int .i64 (b 1), .int .i64 (b 2)]), (r3, [.int .i64 0, .int .i64 0, .int .i64 0]), (r4, [.int .i64 (bothV (a 0) k (mulZ (a 0) k)), .int .i64 0, .int .i64 0])] [] 112 #[.int .i64 (a 1), .int .i64 (b 1), .pointer (some ⟨c, 0, none⟩)] (.tuple #[.int .i64 (bothV (a 1) k (mulZ (a 1) k)), .int .i64 (bothE (a 1) k (mulZ (a 1) k))]) ∧ ((((bothE (a 1) k (mulZ (a 1) k)) != 0) = true → (r3 = r3 ∧ (r3 = r3 ∧ (r3 = r3 ∧ (True)))) ∧ (r3 = r3 ∧ (True)) ∧ (LeafV R w [(r1, [.int .i64 (a 0), .int .i64 (a 1), .int .i64 (a 2)]), (r2, [.int .i64 (b 0), .int .i64 (b 1), .int .i64 (b 2)]), (r3, [.int .i64 0, .int .i64 0, .int .i64 0]), (r4, [.int .i64 (bothV (a 0) k (mulZ (a 0) k)), .int .i64 0, .int .i64 0])] [] (.tuple #[.agg #[.int .i64 0, .int .i64 0, .int .i64 0], .int .i64 (bothE (a 1) k (mulZ (a 1) k))]))) ∧ (((bothE (a 1) k (mulZ (a 1) k)) != 0) = false → (r4 = r4 ∧ (True)) ∧ r1 = r1 ∧ r2 = r2 ∧ CallV Tryd.prog w [(r1, [.int .i64 (a 0), .int .i64 (a 1), .int .i64 (a 2)]), (r2, [.int .i64 (b 0), .int .i64 (b 1), .int .i64 (b 2)]), (r3, [.int .i64 0, .int .i64 0, .int .i64 0]), (r4, [.int .i64 (bothV (a 0) k (mulZ (a 0) k)), .int .i64 (bothV (a 1) k (mulZ (a 1) k)), .int .i64 0])] [] 112 #[.int .i64 (a 2), .int .i64 (b 2), .pointer (some ⟨c, 0, none⟩)] (.tuple #[.int .i64 (bothV (a 2) k (mulZ (a 2) k)), .int .i64 (bothE (a 2) k (mulZ (a 2) k))]) ∧ ((((bothE (a 2) k (mulZ (a 2) k)) != 0) = true → (r3 = r3 ∧ (r3 = r3 ∧ (r3 = r3 ∧ (True)))) ∧ (r3 = r3 ∧ (True)) ∧ (LeafV R w [(r1, [.int .i64 (a 0), .int .i64 (a 1), .int .i64 (a 2)]), (r2, [.int .i64 (b 0), .int .i64 (b 1), .int .i64 (b 2)]), (r3, [.int .i64 0, .int .i64 0, .int .i64 0]), (r4, [.int .i64 (bothV (a 0) k (mulZ (a 0) k)), .int .i64 (bothV (a 1) k (mulZ (a 1) k)), .int .i64 0])] [] (.tuple #[.agg #[.int .i64 0, .int .i64 0, .int .i64 0], .int .i64 (bothE (a 2) k (mulZ (a 2) k))]))) ∧ (((bothE (a 2) k (mulZ (a 2) k)) != 0) = false → (r4 = r4 ∧ (True)) ∧ r4 = r4 ∧ (r3 = r3 ∧ (r3 = r3 ∧ (r3 = r3 ∧ (True)))) ∧ (r3 = r3 ∧ (True)) ∧ (LeafV R w [(r1, [.int .i64 (a 0), .int .i64 (a 1), .int .i64 (a 2)]), (r2, [.int .i64 (b 0), .int .i64 (b 1), .int .i64 (b 2)]), (r3, [.int .i64 (bothV (a 0) k (mulZ (a 0) k)), .int .i64 (bothV (a 1) k (mulZ (a 1) k)), .int .i64 (bothV (a 2) k (mulZ (a 2) k))]), (r4, [.int .i64 (bothV (a 0) k (mulZ (a 0) k)), .int .i64 (bothV (a 1) k (mulZ (a 1) k)), .int .i64 (bothV (a 2) k (mulZ (a 2) k))])] [] (.tuple #[.agg #[.int .i64 (bothV (a 0) k (mulZ (a 0) k)), .int .i64 (bothV (a 1) k (mulZ (a 1) k)), .int .i64 (bothV (a 2) k (mulZ (a 2) k))], .int .i64 0]))))))))) : Calls Tryd.prog 111 #[.agg #[.int .i64 (a 0), .int .i64 (a 1), .int .i64 (a 2)], .agg #[.int .i64 (b 0), .int .i64 (b 1), .int .i64 (b 2)], .func (.func 112) #[] #[.pointer (some ⟨c, 0, none⟩)]] w R :=
  calls_of_plan (f := 111) (es := []) (c := Tryd.f111.body.getD .skip) (tmps := #[.agg #[.int .i64 (a 0), .int .i64 (a 1), .int .i64 (a 2)], .agg #[.int .i64 (b 0), .int .i64 (b 1), .int .i64 (b 2)], .func (.func 112) #[] #[.pointer (some ⟨c, 0, none⟩)], undef, undef, undef, undef, undef, undef, undef, undef, undef, undef, undef, undef, undef, undef, undef, undef, undef, undef, undef, undef, undef, undef, undef, undef, undef, undef, undef, undef, undef, undef, undef, undef])
    (.s [.c, .c] (.new (fun r1 => .new (fun r2 => .new (fun r3 => .s [.v, .c, .c, .c] (.new (fun r4 => .s [.c, .c, .c, .c, .v, .c, .c, .c, .c, .c, .v, .c, .c, .c, .c, .c, .c, .c, .c, .v, .v, .c, .c, .d [], .at 0 false, .v, .at 1 false, .v, .at 2 false, .v, .at 3 false, .own 0, .at 4 false, .v, .at 5 false, .v, .at 6 false, .own 1, .at 7 true, .call (.tuple #[.int .i64 (bothV (a 0) k (mulZ (a 0) k)), .int .i64 (bothE (a 0) k (mulZ (a 0) k))]), .at 8 false, .v, .at 9 false, .v, .at 10 false, .v, .at 11 false, .v, .at 12 false, .v, .c, .c, .c, .c, .v, .v, .c] (.split 27 (.s [.c, .c, .c, .v, .v, .put 2, .v, .c] (.ret [2])) (.s [.c, .c, .c, .v, .v, .v, .put 3, .c, .c, .c, .v, .v, .c, .c, .c, .c, .v, .c, .c, .c, .c, .c, .c, .c, .c, .v, .v, .c, .c, .d [], .at 0 false, .v, .at 1 false, .v, .at 2 false, .v, .at 3 false, .own 0, .at 4 false, .v, .at 5 false, .v, .at 6 false, .own 1, .at 7 true, .call (.tuple #[.int .i64 (bothV (a 1) k (mulZ (a 1) k)), .int .i64 (bothE (a 1) k (mulZ (a 1) k))]), .at 8 false, .v, .at 9 false, .v, .at 10 false, .v, .at 11 false, .v, .at 12 false, .v, .c, .c, .c, .c, .v, .v, .c] (.split 27 (.s [.c, .c, .c, .v, .v, .put 2, .v, .c] (.ret [2])) (.s [.c, .c, .c, .v, .v, .v, .put 3, .c, .c, .c, .v, .v, .c, .c, .c, .c, .v, .c, .c, .c, .c, .c, .c, .c, .c, .v, .v, .c, .c, .d [], .at 0 false, .v, .at 1 false, .v, .at 2 false, .v, .at 3 false, .own 0, .at 4 false, .v, .at 5 false, .v, .at 6 false, .own 1, .at 7 true, .call (.tuple #[.int .i64 (bothV (a 2) k (mulZ (a 2) k)), .int .i64 (bothE (a 2) k (mulZ (a 2) k))]), .at 8 false, .v, .at 9 false, .v, .at 10 false, .v, .at 11 false, .v, .at 12 false, .v, .c, .c, .c, .c, .v, .v, .c] (.split 27 (.s [.c, .c, .c, .v, .v, .put 2, .v, .c] (.ret [2])) (.s [.c, .c, .c, .v, .v, .v, .put 3, .c, .c, .c, .v, .v, .c, .c, .c, .c, .v, .c, .c, .c, .c, .c, .c, .own 3, .put 2, .v, .c] (.ret [2]))))))))))))))
    (by kernel_rfl) hG hE Tryd.func111 (by kernel_rfl) (by kernel_rfl) (Eq.mpr (by kernel_rfl) h)
set_option maxRecDepth 1000000 in
set_option maxHeartbeats 8000000 in
theorem each_Scale (a b : Nat → Int) (k : Int) (c : Nat)  (w : World) (hg : GN w) (hc : w.cell? ⟨c, 0, none⟩ = some (.int .i64 k)) : Calls Tryd.prog 111 #[.agg #[.int .i64 (a 0), .int .i64 (a 1), .int .i64 (a 2)], .agg #[.int .i64 (b 0), .int .i64 (b 1), .int .i64 (b 2)], .func (.func 112) #[] #[.pointer (some ⟨c, 0, none⟩)]] w (fun e w' => e = .returned (.tuple #[.agg #[.int .i64 (eV (vscY a k 0) (vscY a k 1) (vscY a k 2) (vscX a k 0)), .int .i64 (eV (vscY a k 0) (vscY a k 1) (vscY a k 2) (vscX a k 1)), .int .i64 (eV (vscY a k 0) (vscY a k 1) (vscY a k 2) (vscX a k 2))], .int .i64 (eE (vscY a k 0) (vscY a k 1) (vscY a k 2))]) ∧ Below w.heap.size w w') := by
  refine each_Scale_plan a b k c w _ (St.refl w) Ex.nil ?_
  intro r1
  intro r2
  intro r3
  intro r4
  refine ⟨rfl, rfl, (CallV.be fun W hS => vec_Scale1 (a 0) (b 0) k c W (hg.below hS.bl) (cell_bl hS.bl hc)), ?_⟩
  refine ⟨?_, ?_⟩
  · intro h5
    have h5p : ¬ ((bothE (a 0) k (mulZ (a 0) k)) = 0) := by simpa using h5
    refine ⟨⟨rfl, rfl, rfl, trivial⟩, ⟨rfl, trivial⟩, ?_⟩
    have F := each_1 (e0 := bothE (a 0) k (mulZ (a 0) k)) (e1 := bothE (a 1) k (mulZ (a 1) k)) (e2 := bothE (a 2) k (mulZ (a 2) k)) h5p
    exact fun W hS => ⟨by simp only [vaddY, vscY, vaddX, vscX, F.1, F.2], hS.bl⟩
  · intro h6
    have h6p : (bothE (a 0) k (mulZ (a 0) k)) = 0 := by simpa using h6
    refine ⟨⟨rfl, trivial⟩, rfl, rfl, (CallV.be fun W hS => vec_Scale1 (a 1) (b 1) k c W (hg.below hS.bl) (cell_bl hS.bl hc)), ?_⟩
    refine ⟨?_, ?_⟩
    · intro h7
      have h7p : ¬ ((bothE (a 1) k (mulZ (a 1) k)) = 0) := by simpa using h7
      refine ⟨⟨rfl, rfl, rfl, trivial⟩, ⟨rfl, trivial⟩, ?_⟩
      have F := each_2 (e0 := bothE (a 0) k (mulZ (a 0) k)) (e1 := bothE (a 1) k (mulZ (a 1) k)) (e2 := bothE (a 2) k (mulZ (a 2) k)) h6p h7p
      exact fun W hS => ⟨by simp only [vaddY, vscY, vaddX, vscX, F.1, F.2], hS.bl⟩
    · intro h8
      have h8p : (bothE (a 1) k (mulZ (a 1) k)) = 0 := by simpa using h8
      refine ⟨⟨rfl, trivial⟩, rfl, rfl, (CallV.be fun W hS => vec_Scale1 (a 2) (b 2) k c W (hg.below hS.bl) (cell_bl hS.bl hc)), ?_⟩
      refine ⟨?_, ?_⟩
      · intro h9
        have h9p : ¬ ((bothE (a 2) k (mulZ (a 2) k)) = 0) := by simpa using h9
        refine ⟨⟨rfl, rfl, rfl, trivial⟩, ⟨rfl, trivial⟩, ?_⟩
        have F := each_3 (e0 := bothE (a 0) k (mulZ (a 0) k)) (e1 := bothE (a 1) k (mulZ (a 1) k)) (e2 := bothE (a 2) k (mulZ (a 2) k)) h6p h8p h9p
        exact fun W hS => ⟨by simp only [vaddY, vscY, vaddX, vscX, F.1, F.2], hS.bl⟩
      · intro h10
        have h10p : (bothE (a 2) k (mulZ (a 2) k)) = 0 := by simpa using h10
        refine ⟨⟨rfl, trivial⟩, rfl, ⟨rfl, rfl, rfl, trivial⟩, ⟨rfl, trivial⟩, ?_⟩
        have F := each_4 (e0 := bothE (a 0) k (mulZ (a 0) k)) (e1 := bothE (a 1) k (mulZ (a 1) k)) (e2 := bothE (a 2) k (mulZ (a 2) k)) h6p h8p h10p
        exact fun W hS => ⟨by simp only [vaddY, vscY, vaddX, vscX, F.1, F.2], hS.bl⟩
set_option maxRecDepth 1000000 in
theorem vec_Scale_plan (a : Nat → Int) (k : Int) (w : World) (R : Ending → World → Prop) (hG : St w w [] []) (hE : Ex w [])
    (h : ∀ r1 : Nat, ∀ r2 : Nat, ∀ r3 : Nat, r1 = r1 ∧ CallV Tryd.prog w [(r1, [.int .i64 (a 0), .int .i64 (a 1), .int .i64 (a 2)]), (r2, [.int .i64 k]), (r3, [.int .i64 0, .int .i64 0, .int .i64 0])] [] 43 #[.agg #[.int .i64 (a 0), .int .i64 (a 1), .int .i64 (a 2)]] (.bool (fits3 a)) ∧ (((!(fits3 a)) = true → (r3 = r3 ∧ (r3 = r3 ∧ (r3 = r3 ∧ (True)))) ∧ (r3 = r3 ∧ (True)) ∧ (LeafV R w [(r1, [.int .i64 (a 0), .int .i64 (a 1), .int .i64 (a 2)]), (r2, [.int .i64 k]), (r3, [.int .i64 0, .int .i64 0, .int .i64 0])] [] (.tuple #[.agg #[.int .i64 0, .int .i64 0, .int .i64 0], .int .i64 1]))) ∧ ((!(fits3 a)) = false → r2 = r2 ∧ CallV Tryd.prog w [(r1, [.int .i64 (a 0), .int .i64 (a 1), .int .i64 (a 2)]), (r2, [.int .i64 k]), (r3, [.int .i64 0, .int .i64 0, .int .i64 0])] [] 46 #[.int .i64 k] (.bool (fitB k)) ∧ (((!(fitB k)) = true → (r3 = r3 ∧ (r3 = r3 ∧ (r3 = r3 ∧ (True)))) ∧ (r3 = r3 ∧ (True)) ∧ (LeafV R w [(r1, [.int .i64 (a 0), .int .i64 (a 1), .int .i64 (a 2)]), (r2, [.int .i64 k]), (r3, [.int .i64 0, .int .i64 0, .int .i64 0])] [] (.tuple #[.agg #[.int .i64 0, .int .i64 0, .int .i64 0], .int .i64 1]))) ∧ ((!(fitB k)) = false → r1 = r1 ∧ r1 = r1 ∧ CallV Tryd.prog w [(r1, [.int .i64 (a 0), .int .i64 (a 1), .int .i64 (a 2)]), (r2, [.int .i64 k]), (r3, [.int .i64 0, .int .i64 0, .int .i64 0])] [] 111 #[.agg #[.int .i64 (a 0), .int .i64 (a 1), .int .i64 (a 2)], .agg #[.int .i64 (a 0), .int .i64 (a 1), .int .i64 (a 2)], .func (.func 112) #[] #[.pointer (some ⟨r2, 0, none⟩)]] (.tuple #[.agg #[.int .i64 (eV (vscY a k 0) (vscY a k 1) (vscY a k 2) (vscX a k 0)), .int .i64 (eV (vscY a k 0) (vscY a k 1) (vscY a k 2) (vscX a k 1)), .int .i64 (eV (vscY a k 0) (vscY a k 1) (vscY a k 2) (vscX a k 2))], .int .i64 (eE (vscY a k 0) (vscY a k 1) (vscY a k 2))]) ∧ (r3 = r3 ∧ (r3 = r3 ∧ (r3 = r3 ∧ (True)))) ∧ (r3 = r3 ∧ (True)) ∧ (LeafV R w [(r1, [.int .i64 (a 0), .int .i64 (a 1), .int .i64 (a 2)]), (r2, [.int .i64 k]), (r3, [.int .i64 (eV (vscY a k 0) (vscY a k 1) (vscY a k 2) (vscX a k 0)), .int .i64 (eV (vscY a k 0) (vscY a k 1) (vscY a k 2) (vscX a k 1)), .int .i64 (eV (vscY a k 0) (vscY a k 1) (vscY a k 2) (vscX a k 2))])] [] (.tuple #[.agg #[.int .i64 (eV (vscY a k 0) (vscY a k 1) (vscY a k 2) (vscX a k 0)), .int .i64 (eV (vscY a k 0) (vscY a k 1) (vscY a k 2) (vscX a k 1)), .int .i64 (eV (vscY a k 0) (vscY a k 1) (vscY a k 2) (vscX a k 2))], .int .i64 (eE (vscY a k 0) (vscY a k 1) (vscY a k 2))]))))))) : Calls Tryd.prog 72 #[.agg #[.int .i64 (a 0), .int .i64 (a 1), .int .i64 (a 2)], .int .i64 k] w R :=
  calls_of_plan (f := 72) (es := []) (c := Tryd.f72.body.getD .skip) (tmps := #[.agg #[.int .i64 (a 0), .int .i64 (a 1), .int .i64 (a 2)], .int .i64 k, undef, undef, undef, undef, undef, undef, undef, undef, undef, undef, undef, undef, undef, undef, undef, undef, undef, undef, undef])
    (.s [.c, .c] (.new (fun r1 => .new (fun r2 => .new (fun r3 => .s [.v, .c, .c, .c, .c, .own 0, .call (.bool (fits3 a)), .v, .v] (.split 9 (.s [.u, .u, .u, .v, .c, .c, .c, .c, .v, .put 2, .v, .c] (.ret [2])) (.s [.own 1, .call (.bool (fitB k)), .v, .v, .c] (.split 13 (.s [.c, .c, .c, .v, .put 2, .v, .c] (.ret [2])) (.s [.c, .c, .c, .c, .own 0, .own 0, .v, .call (.tuple #[.agg #[.int .i64 (eV (vscY a k 0) (vscY a k 1) (vscY a k 2) (vscX a k 0)), .int .i64 (eV (vscY a k 0) (vscY a k 1) (vscY a k 2) (vscX a k 1)), .int .i64 (eV (vscY a k 0) (vscY a k 1) (vscY a k 2) (vscX a k 2))], .int .i64 (eE (vscY a k 0) (vscY a k 1) (vscY a k 2))]), .v, .v, .put 2, .v, .c] (.ret [2]))))))))))
    (by kernel_rfl) hG hE Tryd.func72 (by kernel_rfl) (by kernel_rfl) (Eq.mpr (by kernel_rfl) h)
set_option maxRecDepth 1000000 in
set_option maxHeartbeats 8000000 in
theorem vec_Scale (a : Nat → Int) (k : Int) (ha : ∀ i, I64 (a i)) (w : World) (hg : GN w) : Calls Tryd.prog 72 #[.agg #[.int .i64 (a 0), .int .i64 (a 1), .int .i64 (a 2)], .int .i64 k] w (fun e w' => e = .returned (.tuple #[.agg #[.int .i64 (vscV a k 0), .int .i64 (vscV a k 1), .int .i64 (vscV a k 2)], .int .i64 (vscE a k)]) ∧ Below w.heap.size w w') := by
  refine vec_Scale_plan a k w _ (St.refl w) Ex.nil ?_
  intro r1
  intro r2
  intro r3
  refine ⟨rfl, (CallV.be fun W hS => vec_Fits a ha W), ?_⟩
  refine ⟨?_, ?_⟩
  · intro h40
    have h4 : (fits3 a) = false := by simpa using h40
    refine ⟨⟨rfl, rfl, rfl, trivial⟩, ⟨rfl, trivial⟩, ?_⟩
    have F := vsc_no (a := a) (k := k) (by rw [h4]; rfl)
    exact fun W hS => ⟨by simp only [F.1, F.2], hS.bl⟩
  · intro h50
    have h5 : (fits3 a) = true := by simpa using h50
    refine ⟨rfl, (CallV.of fun W hS => fix_Fits k  W ), ?_⟩
    refine ⟨?_, ?_⟩
    · intro h60
      have h6 : (fitB k) = false := by simpa using h60
      refine ⟨⟨rfl, rfl, rfl, trivial⟩, ⟨rfl, trivial⟩, ?_⟩
      have F := vsc_no (a := a) (k := k) (by rw [h5, h6]; rfl)
      exact fun W hS => ⟨by simp only [F.1, F.2], hS.bl⟩
    · intro h70
      have h7 : (fitB k) = true := by simpa using h70
      refine ⟨rfl, rfl, (CallV.be fun W hS => each_Scale a a k r2 W (hg.below hS.bl) (hS.cell 1 0 rfl rfl)), ⟨rfl, rfl, rfl, trivial⟩, ⟨rfl, trivial⟩, ?_⟩
      have F := vsc_yes h5 h7
      exact fun W hS => ⟨by simp only [F.1, F.2], hS.bl⟩

end Go.Proofs.YtfbhcaocfajjpaaDoor
