/- Walks of layer 4 (vec) and of its reference, by plans. -/
import Derived.Test.YtfbhcaocfajjpaaDoorQFp
import Derived.Test.YtfbhcaocfajjpaaDoorQFc
namespace Go.Proofs.YtfbhcaocfajjpaaDoor
open Go.RowKit
set_option linter.unusedSimpArgs false
set_option linter.unusedVariables false
set_option maxRecDepth 1000000 in
theorem fix_Clamp_plan (x m : Int) (w : World) (R : Ending → World → Prop) (hG : St w w [] []) (hE : Ex w [])
    (h : ∀ u1 : Int, u1 = (if 0 > m then 0 else m) → (Value.int .i64 (IntKind.i64.wrap (0 - u1)) = .int .i64 (0 - u1) ∧ (∀ u2 : Int, u2 = (if u1 < x then u1 else x) → (∀ u3 : Int, u3 = (if u2 > (0 - u1) then u2 else (0 - u1)) → ((True) ∧ (LeafV R w [] [] (.int .i64 u3))))))) : Calls Tryd.prog 124 #[.int .i64 x, .int .i64 m] w R :=
  calls_of_plan (f := 124) (es := []) (c := Tryd.f124.body.getD .skip) (tmps := #[.int .i64 x, .int .i64 m, undef, undef, undef, undef, undef, undef, undef, undef, undef, undef, undef])
    (.s [.c, .c, .v, .c, .c, .c, .v, .v] (.gen 6 (fun u1 => .s [.v, .c, .c, .c, .v, .v, .setv 8 (.int .i64 (0 - u1)), .v, .v, .v] (.gen 11 (fun u2 => .s [.v] (.gen 12 (fun u3 => .s [.v, .c] (.ret []))))))))
    (by kernel_rfl) hG hE Tryd.func124 (by kernel_rfl) (by kernel_rfl) (Eq.mpr (by kernel_rfl) h)
set_option maxRecDepth 1000000 in
set_option maxHeartbeats 8000000 in
theorem fix_Clamp (x m : Int) (hx : I64 x) (hm : I64 m) (w : World)  : Calls Tryd.prog 124 #[.int .i64 x, .int .i64 m] w (fun e w' => e = .returned (.int .i64 (clampZ x m)) ∧ Below w.heap.size w w') := by
  unfold I64 at hx hm
  refine fix_Clamp_plan x m w _ (St.refl w) Ex.nil ?_
  intro u1 eu1
  rw [maxI] at eu1
  refine ⟨congrArg (Value.int .i64) (wrapI (by omega)), ?_⟩
  intro u2 eu2
  rw [minI] at eu2
  intro u3 eu3
  rw [maxI] at eu3
  refine ⟨trivial, ?_⟩
  have F : u3 = clampZ x m := by unfold clampZ; (repeat' split) <;> omega
  exact fun W hS => ⟨ret_int F, hS.bl⟩
set_option maxRecDepth 1000000 in
theorem vec_Clamp1_plan (x m : Int) (w : World) (R : Ending → World → Prop) (hG : St w w [] []) (hE : Ex w [])
    (h : CallV Tryd.prog w [] [] 124 #[.int .i64 x, .int .i64 m] (.int .i64 (clampZ x m)) ∧ (True) ∧ (LeafV R w [] [] (.tuple #[.int .i64 (clampZ x m), .int .i64 0]))) : Calls Tryd.prog 123 #[.int .i64 x, .int .i64 m] w R :=
  calls_of_plan (f := 123) (es := []) (c := Tryd.f123.body.getD .skip) (tmps := #[.int .i64 x, .int .i64 m, undef, undef, undef, undef, undef, undef, undef])
    (.s [.c, .c, .v, .v, .c, .c, .c, .v, .v, .call (.int .i64 (clampZ x m)), .v, .v, .c] (.ret []))
    (by kernel_rfl) hG hE Tryd.func123 (by kernel_rfl) (by kernel_rfl) (Eq.mpr (by kernel_rfl) h)
set_option maxRecDepth 1000000 in
set_option maxHeartbeats 8000000 in
theorem vec_Clamp1 (x m : Int) (hx : I64 x) (hm : I64 m) (w : World)  : Calls Tryd.prog 123 #[.int .i64 x, .int .i64 m] w (fun e w' => e = .returned (.tuple #[.int .i64 (clampZ x m), .int .i64 0]) ∧ Below w.heap.size w w') := by
  refine vec_Clamp1_plan x m w _ (St.refl w) Ex.nil ?_
  refine ⟨(CallV.be fun W hS => fix_Clamp x m hx hm W ), trivial, ?_⟩
  exact fun W hS => ⟨rfl, hS.bl⟩
set_option maxRecDepth 1000000 in
theorem each_Clamp_plan (a m : Nat → Int) (w : World) (R : Ending → World → Prop) (hG : St w w [] []) (hE : Ex w [])
    (h : ∀ r1 : Nat, ∀ r2 : Nat, ∀ r3 : Nat, ∀ r4 : Nat, r1 = r1 ∧ r2 = r2 ∧ CallV Tryd.prog w [(r1, [.int .i64 (a 0), .int .i64 (a 1), .int .i64 (a 2)]), (r2, [.int .i64 (m 0), .int .i64 (m 1), .int .i64 (m 2)]), (r3, [.int .i64 0, .int .i64 0, .int .i64 0]), (r4, [.int .i64 0, .int .i64 0, .int .i64 0])] [] 123 #[.int .i64 (a 0), .int .i64 (m 0)] (.tuple #[.int .i64 (clampZ (a 0) (m 0)), .int .i64 0]) ∧ (r4 = r4 ∧ (True)) ∧ r1 = r1 ∧ r2 = r2 ∧ CallV Tryd.prog w [(r1, [.int .i64 (a 0), .int .i64 (a 1), .int .i64 (a 2)]), (r2, [.int .i64 (m 0), .int .i64 (m 1), .int .i64 (m 2)]), (r3, [.int .i64 0, .int .i64 0, .int .i64 0]), (r4, [.int .i64 (clampZ (a 0) (m 0)), .int .i64 0, .int .i64 0])] [] 123 #[.int .i64 (a 1), .int .i64 (m 1)] (.tuple #[.int .i64 (clampZ (a 1) (m 1)), .int .i64 0]) ∧ (r4 = r4 ∧ (True)) ∧ r1 = r1 ∧ r2 = r2 ∧ CallV Tryd.prog w [(r1, [.int .i64 (a 0), .int .i64 (a 1), .int .i64 (a 2)]), (r2, [.int .i64 (m 0), .int .i64 (m 1), .int .i64 (m 2)]), (r3, [.int .i64 0, .int .i64 0, .int .i64 0]), (r4, [.int .i64 (clampZ (a 0) (m 0)), .int .i64 (clampZ (a 1) (m 1)), .int .i64 0])] [] 123 #[.int .i64 (a 2), .int .i64 (m 2)] (.tuple #[.int .i64 (clampZ (a 2) (m 2)), .int .i64 0]) ∧ (r4 = r4 ∧ (True)) ∧ r4 = r4 ∧ (r3 = r3 ∧ (r3 = r3 ∧ (r3 = r3 ∧ (True)))) ∧ (r3 = r3 ∧ (True)) ∧ (LeafV R w [(r1, [.int .i64 (a 0), .int .i64 (a 1), .int .i64 (a 2)]), (r2, [.int .i64 (m 0), .int .i64 (m 1), .int .i64 (m 2)]), (r3, [.int .i64 (clampZ (a 0) (m 0)), .int .i64 (clampZ (a 1) (m 1)), .int .i64 (clampZ (a 2) (m 2))]), (r4, [.int .i64 (clampZ (a 0) (m 0)), .int .i64 (clampZ (a 1) (m 1)), .int .i64 (clampZ (a 2) (m 2))])] [] (.tuple #[.agg #[.int .i64 (clampZ (a 0) (m 0)), .int .i64 (clampZ (a 1) (m 1)), .int .i64 (clampZ (a 2) (m 2))], .int .i64 0]))) : Calls Tryd.prog 111 #[.agg #[.int .i64 (a 0), .int .i64 (a 1), .int .i64 (a 2)], .agg #[.int .i64 (m 0), .int .i64 (m 1), .int .i64 (m 2)], .func (.func 123) #[] #[]] w R :=
  calls_of_plan (f := 111) (es := []) (c := Tryd.f111.body.getD .skip) (tmps := #[.agg #[.int .i64 (a 0), .int .i64 (a 1), .int .i64 (a 2)], .agg #[.int .i64 (m 0), .int .i64 (m 1), .int .i64 (m 2)], .func (.func 123) #[] #[], undef, undef, undef, undef, undef, undef, undef, undef, undef, undef, undef, undef, undef, undef, undef, undef, undef, undef, undef, undef, undef, undef, undef, undef, undef, undef, undef, undef, undef, undef, undef, undef])
    (.s [.c, .c] (.new (fun r1 => .new (fun r2 => .new (fun r3 => .s [.v, .c, .c, .c] (.new (fun r4 => .s [.c, .c, .c, .c, .v, .c, .c, .c, .c, .c, .v, .c, .c, .c, .c, .c, .c, .c, .c, .v, .v, .c, .c, .d [], .at 0 false, .v, .at 1 false, .v, .at 2 false, .v, .at 3 false, .own 0, .at 4 false, .v, .at 5 false, .v, .at 6 false, .own 1, .at 7 true, .call (.tuple #[.int .i64 (clampZ (a 0) (m 0)), .int .i64 0]), .at 8 false, .v, .at 9 false, .v, .at 10 false, .v, .at 11 false, .v, .at 12 false, .v, .c, .c, .c, .c, .v, .v, .c, .c, .c, .c, .v, .v, .v, .put 3, .c, .c, .c, .v, .v, .c, .c, .c, .c, .v, .c, .c, .c, .c, .c, .c, .c, .c, .v, .v, .c, .c, .d [], .at 0 false, .v, .at 1 false, .v, .at 2 false, .v, .at 3 false, .own 0, .at 4 false, .v, .at 5 false, .v, .at 6 false, .own 1, .at 7 true, .call (.tuple #[.int .i64 (clampZ (a 1) (m 1)), .int .i64 0]), .at 8 false, .v, .at 9 false, .v, .at 10 false, .v, .at 11 false, .v, .at 12 false, .v, .c, .c, .c, .c, .v, .v, .c, .c, .c, .c, .v, .v, .v, .put 3, .c, .c, .c, .v, .v, .c, .c, .c, .c, .v, .c, .c, .c, .c, .c, .c, .c, .c, .v, .v, .c, .c, .d [], .at 0 false, .v, .at 1 false, .v, .at 2 false, .v, .at 3 false, .own 0, .at 4 false, .v, .at 5 false, .v, .at 6 false, .own 1, .at 7 true, .call (.tuple #[.int .i64 (clampZ (a 2) (m 2)), .int .i64 0]), .at 8 false, .v, .at 9 false, .v, .at 10 false, .v, .at 11 false, .v, .at 12 false, .v, .c, .c, .c, .c, .v, .v, .c, .c, .c, .c, .v, .v, .v, .put 3, .c, .c, .c, .v, .v, .c, .c, .c, .c, .v, .c, .c, .c, .c, .c, .c, .own 3, .put 2, .v, .c] (.ret [2]))))))))
    (by kernel_rfl) hG hE Tryd.func111 (by kernel_rfl) (by kernel_rfl) (Eq.mpr (by kernel_rfl) h)
set_option maxRecDepth 1000000 in
set_option maxHeartbeats 8000000 in
theorem each_Clamp (a m : Nat → Int) (ha : ∀ i, I64 (a i)) (hm : ∀ i, I64 (m i)) (w : World)  : Calls Tryd.prog 111 #[.agg #[.int .i64 (a 0), .int .i64 (a 1), .int .i64 (a 2)], .agg #[.int .i64 (m 0), .int .i64 (m 1), .int .i64 (m 2)], .func (.func 123) #[] #[]] w (fun e w' => e = .returned (.tuple #[.agg #[.int .i64 (clampZ (a 0) (m 0)), .int .i64 (clampZ (a 1) (m 1)), .int .i64 (clampZ (a 2) (m 2))], .int .i64 0]) ∧ Below w.heap.size w w') := by
  refine each_Clamp_plan a m w _ (St.refl w) Ex.nil ?_
  intro r1
  intro r2
  intro r3
  intro r4
  refine ⟨rfl, rfl, (CallV.be fun W hS => vec_Clamp1 (a 0) (m 0) (ha 0) (hm 0) W), ⟨rfl, trivial⟩, rfl, rfl, (CallV.be fun W hS => vec_Clamp1 (a 1) (m 1) (ha 1) (hm 1) W), ⟨rfl, trivial⟩, rfl, rfl, (CallV.be fun W hS => vec_Clamp1 (a 2) (m 2) (ha 2) (hm 2) W), ⟨rfl, trivial⟩, rfl, ⟨rfl, rfl, rfl, trivial⟩, ⟨rfl, trivial⟩, ?_⟩
  exact fun W hS => ⟨rfl, hS.bl⟩
set_option maxRecDepth 1000000 in
theorem vec_Clamp_plan (a m : Nat → Int) (w : World) (R : Ending → World → Prop) (hG : St w w [] []) (hE : Ex w [])
    (h : ∀ r1 : Nat, ∀ r2 : Nat, ∀ r3 : Nat, r1 = r1 ∧ r2 = r2 ∧ CallV Tryd.prog w [(r1, [.int .i64 (a 0), .int .i64 (a 1), .int .i64 (a 2)]), (r2, [.int .i64 (m 0), .int .i64 (m 1), .int .i64 (m 2)]), (r3, [.int .i64 0, .int .i64 0, .int .i64 0])] [] 111 #[.agg #[.int .i64 (a 0), .int .i64 (a 1), .int .i64 (a 2)], .agg #[.int .i64 (m 0), .int .i64 (m 1), .int .i64 (m 2)], .func (.func 123) #[] #[]] (.tuple #[.agg #[.int .i64 (clampZ (a 0) (m 0)), .int .i64 (clampZ (a 1) (m 1)), .int .i64 (clampZ (a 2) (m 2))], .int .i64 0]) ∧ (∀ r4 : Nat, (r4 = r4 ∧ (r4 = r4 ∧ (r4 = r4 ∧ (True)))) ∧ r4 = r4 ∧ (r3 = r3 ∧ (r3 = r3 ∧ (r3 = r3 ∧ (True)))) ∧ (r3 = r3 ∧ (True)) ∧ (LeafV R w [(r1, [.int .i64 (a 0), .int .i64 (a 1), .int .i64 (a 2)]), (r2, [.int .i64 (m 0), .int .i64 (m 1), .int .i64 (m 2)]), (r3, [.int .i64 (clampZ (a 0) (m 0)), .int .i64 (clampZ (a 1) (m 1)), .int .i64 (clampZ (a 2) (m 2))]), (r4, [.int .i64 (clampZ (a 0) (m 0)), .int .i64 (clampZ (a 1) (m 1)), .int .i64 (clampZ (a 2) (m 2))])] [] (.agg #[.int .i64 (clampZ (a 0) (m 0)), .int .i64 (clampZ (a 1) (m 1)), .int .i64 (clampZ (a 2) (m 2))])))) : Calls Tryd.prog 95 #[.agg #[.int .i64 (a 0), .int .i64 (a 1), .int .i64 (a 2)], .agg #[.int .i64 (m 0), .int .i64 (m 1), .int .i64 (m 2)]] w R :=
  calls_of_plan (f := 95) (es := []) (c := Tryd.f95.body.getD .skip) (tmps := #[.agg #[.int .i64 (a 0), .int .i64 (a 1), .int .i64 (a 2)], .agg #[.int .i64 (m 0), .int .i64 (m 1), .int .i64 (m 2)], undef, undef, undef, undef, undef, undef, undef, undef, undef, undef, undef, undef])
    (.s [.c, .c] (.new (fun r1 => .new (fun r2 => .new (fun r3 => .s [.c, .c, .c, .own 0, .own 1, .call (.tuple #[.agg #[.int .i64 (clampZ (a 0) (m 0)), .int .i64 (clampZ (a 1) (m 1)), .int .i64 (clampZ (a 2) (m 2))], .int .i64 0]), .v, .v, .v] (.new (fun r4 => .s [.put 3, .v, .c, .c, .c, .own 3, .put 2, .c] (.ret [2]))))))))
    (by kernel_rfl) hG hE Tryd.func95 (by kernel_rfl) (by kernel_rfl) (Eq.mpr (by kernel_rfl) h)
set_option maxRecDepth 1000000 in
set_option maxHeartbeats 8000000 in
theorem vec_Clamp (a m : Nat → Int) (ha : ∀ i, I64 (a i)) (hm : ∀ i, I64 (m i)) (w : World)  : Calls Tryd.prog 95 #[.agg #[.int .i64 (a 0), .int .i64 (a 1), .int .i64 (a 2)], .agg #[.int .i64 (m 0), .int .i64 (m 1), .int .i64 (m 2)]] w (fun e w' => e = .returned (.agg #[.int .i64 (clampZ (a 0) (m 0)), .int .i64 (clampZ (a 1) (m 1)), .int .i64 (clampZ (a 2) (m 2))]) ∧ Below w.heap.size w w') := by
  refine vec_Clamp_plan a m w _ (St.refl w) Ex.nil ?_
  intro r1
  intro r2
  intro r3
  refine ⟨rfl, rfl, (CallV.be fun W hS => each_Clamp a m ha hm W), ?_⟩
  intro r4
  refine ⟨⟨rfl, rfl, rfl, trivial⟩, rfl, ⟨rfl, rfl, rfl, trivial⟩, ⟨rfl, trivial⟩, ?_⟩
  exact fun W hS => ⟨rfl, hS.bl⟩
set_option maxRecDepth 1000000 in
theorem vec_Fits_plan (a : Nat → Int) (w : World) (R : Ending → World → Prop) (hG : St w w [] []) (hE : Ex w [])
    (h : ∀ r1 : Nat, r1 = r1 ∧ r1 = r1 ∧ CallV Tryd.prog w [(r1, [.int .i64 (a 0), .int .i64 (a 1), .int .i64 (a 2)])] [] 95 #[.agg #[.int .i64 (a 0), .int .i64 (a 1), .int .i64 (a 2)], .agg #[.int .i64 288230376151711744, .int .i64 288230376151711744, .int .i64 288230376151711744]] (.agg #[.int .i64 (clampZ (a 0) 288230376151711744), .int .i64 (clampZ (a 1) 288230376151711744), .int .i64 (clampZ (a 2) 288230376151711744)]) ∧ EqV Tryd.prog 25 (.agg #[.int .i64 (a 0), .int .i64 (a 1), .int .i64 (a 2)]) (.agg #[.int .i64 (clampZ (a 0) 288230376151711744), .int .i64 (clampZ (a 1) 288230376151711744), .int .i64 (clampZ (a 2) 288230376151711744)]) ([(a 0), (a 1), (a 2)] == [(clampZ (a 0) 288230376151711744), (clampZ (a 1) 288230376151711744), (clampZ (a 2) 288230376151711744)]) ∧ (True) ∧ (LeafV R w [(r1, [.int .i64 (a 0), .int .i64 (a 1), .int .i64 (a 2)])] [] (.bool ([(a 0), (a 1), (a 2)] == [(clampZ (a 0) 288230376151711744), (clampZ (a 1) 288230376151711744), (clampZ (a 2) 288230376151711744)])))) : Calls Tryd.prog 43 #[.agg #[.int .i64 (a 0), .int .i64 (a 1), .int .i64 (a 2)]] w R :=
  calls_of_plan (f := 43) (es := []) (c := Tryd.f43.body.getD .skip) (tmps := #[.agg #[.int .i64 (a 0), .int .i64 (a 1), .int .i64 (a 2)], undef, undef, undef, undef, undef, undef, undef])
    (.s [.c, .c] (.new (fun r1 => .s [.v, .c, .c, .d [], .at 0 false, .own 0, .at 1 false, .own 0, .at 2 false, .v, .at 3 true, .call (.agg #[.int .i64 (clampZ (a 0) 288230376151711744), .int .i64 (clampZ (a 1) 288230376151711744), .int .i64 (clampZ (a 2) 288230376151711744)]), .at 4 false, .eq ([(a 0), (a 1), (a 2)] == [(clampZ (a 0) 288230376151711744), (clampZ (a 1) 288230376151711744), (clampZ (a 2) 288230376151711744)]), .at 5 false, .v, .c] (.ret []))))
    (by kernel_rfl) hG hE Tryd.func43 (by kernel_rfl) (by kernel_rfl) (Eq.mpr (by kernel_rfl) h)
set_option maxRecDepth 1000000 in
set_option maxHeartbeats 8000000 in
theorem vec_Fits (a : Nat → Int) (ha : ∀ i, I64 (a i)) (w : World)  : Calls Tryd.prog 43 #[.agg #[.int .i64 (a 0), .int .i64 (a 1), .int .i64 (a 2)]] w (fun e w' => e = .returned (.bool (fits3 a)) ∧ Below w.heap.size w w') := by
  refine vec_Fits_plan a w _ (St.refl w) Ex.nil ?_
  intro r1
  refine ⟨rfl, rfl, (CallV.be fun W hS => vec_Clamp a (v3 288230376151711744 288230376151711744 288230376151711744) ha (v3_all (p := I64) (by decide) (by decide) (by decide)) W), (fun W => eqVec _ _ _ _ _ _ W), trivial, ?_⟩
  exact fun W hS => ⟨by rw [clamp3_fit]; rfl, hS.bl⟩
end Go.Proofs.YtfbhcaocfajjpaaDoor
