/- Walks of the laws of layer 10 (gate), by plans. -/
import Derived.Test.YtlinfennhfphiaaDoorGa
namespace Go.Proofs.YtlinfennhfphiaaDoor
open Go.RowKit
set_option linter.unusedSimpArgs false
set_option linter.unusedVariables false
theorem pass_true {y s g : Int} (h : passB y s g = true) : (-288230376151711744 ≤ y ∧ y ≤ 288230376151711744) ∧ (1 ≤ s ∧ s ≤ 288230376151711744) ∧ (0 ≤ g ∧ g ≤ 1000) ∧ y * y ≤ g * s * pow2 40 := by
  unfold passB at h; simp only [Bool.and_eq_true, decide_eq_true_eq] at h
  obtain ⟨h1, h2, h3, h4⟩ := h
  obtain ⟨a, b, c⟩ := right_true h1
  exact ⟨fitB_true.1 a, ⟨c, (fitB_true.1 b).2⟩, ⟨h2, h3⟩, h4⟩
theorem pass_mono {y s g y' s' g' : Int} (h : passB y s g = true) (hy : y' * y' ≤ y * y) (h1 : -288230376151711744 ≤ y' ∧ y' ≤ 288230376151711744) (h2 : s ≤ s' ∧ s' ≤ 288230376151711744) (h3 : g ≤ g' ∧ g' ≤ 1000) : passB y' s' g' = true := by
  obtain ⟨a, b, c, d⟩ := pass_true h
  rw [pass_val (right_mk (fitB_true.2 h1) (fitB_true.2 (by omega)) (by omega)) (by omega) h3.2, decide_eq_true_eq]
  have e : g * s ≤ g' * s' := Int.mul_le_mul h3.1 h2.1 (by omega) (by omega)
  have := Int.mul_le_mul_of_nonneg_right e (Int.le_of_lt (pow2_pos 40))
  omega
theorem half_abs (y : Int) : Int.tdiv y 2 * Int.tdiv y 2 ≤ y * y ∧ (0 ≤ y → 0 ≤ Int.tdiv y 2 ∧ Int.tdiv y 2 ≤ y) ∧ (y ≤ 0 → y ≤ Int.tdiv y 2 ∧ Int.tdiv y 2 ≤ 0) := by
  rcases Int.le_total 0 y with q | q
  · have e : Int.tdiv y 2 = y / 2 := Int.tdiv_eq_ediv_of_nonneg q
    rw [e]
    exact ⟨Int.mul_le_mul (by omega) (by omega) (by omega) q, fun _ => by omega, fun _ => by omega⟩
  · have e : Int.tdiv y 2 = -((-y) / 2) := by
      have := Int.tdiv_eq_ediv_of_nonneg (a := -y) (b := 2) (by omega)
      rw [Int.neg_tdiv] at this; omega
    rw [e]
    refine ⟨?_, fun _ => by omega, fun _ => by omega⟩
    have := Int.mul_le_mul (a := (-y) / 2) (b := (-y) / 2) (c := -y) (d := -y) (by omega) (by omega) (by omega) (by omega)
    rw [Int.neg_mul_neg] at this ⊢; omega
theorem half_in {y : Int} (h : I64 y) : -9223372036854775808 ≤ Int.tdiv y 2 ∧ Int.tdiv y 2 ≤ 9223372036854775807 := by
  have := half_abs y
  unfold I64 at h; omega
theorem wider_no {y s g : Int} (h : passB y s g = false) (h1 : leastE y s = 0) (h2 : ¬ g < leastV y s) : g > 1000 := by
  unfold leastE at h1
  unfold leastV at h2
  cases hr : rightB y s
  · rw [hr] at h1; simp at h1
  · rw [hr, if_pos rfl] at h1 h2
    by_cases q : leastQ y s > 1000
    · rw [if_pos q] at h1; omega
    · rw [if_neg q] at h2
      have a := leastQ_in (y := y) (right_true hr).2.2
      refine Int.not_le.1 (fun k => ?_)
      have := (pass_mid hr (by omega) k).2 h
      omega
set_option maxRecDepth 1000000 in
set_option maxHeartbeats 8000000 in
theorem law10_fixed_plan  (w : World) (R : Ending → World → Prop) (hG : St w w [] []) (hE : Ex w [])
    (h : CallV Tryd.prog w [] [] 25 #[.int .i64 3298534883328, .int .i64 1099511627776] (.tuple #[.int .i64 (leastV 3298534883328 1099511627776), .int .i64 (leastE 3298534883328 1099511627776)]) ∧ Value.bool ((leastV 3298534883328 1099511627776) == 9) = .bool true ∧ Value.bool ((leastE 3298534883328 1099511627776) == 0) = .bool true ∧ CallV Tryd.prog w [] [] 28 #[.int .i64 3298534883328, .int .i64 1099511627776, .int .i64 9] (.bool (passB 3298534883328 1099511627776 9)) ∧ Value.bool (passB 3298534883328 1099511627776 9) = .bool true ∧ CallV Tryd.prog w [] [] 28 #[.int .i64 3298534883328, .int .i64 1099511627776, .int .i64 8] (.bool (passB 3298534883328 1099511627776 8)) ∧ (True) ∧ (LeafV R w [] [] (.bool (!(passB 3298534883328 1099511627776 8))))) : Calls Tryd.prog 27 #[] w R :=
  calls_of_plan (f := 27) (es := []) (c := Tryd.f27.body.getD .skip) (tmps := #[undef, undef, undef, undef, undef, undef, undef, undef, undef, undef, undef, undef, undef, undef, undef, undef, undef, undef, undef, undef])
    (.s [.c, .c, .v, .c, .c, .c, .call (.tuple #[.int .i64 (leastV 3298534883328 1099511627776), .int .i64 (leastE 3298534883328 1099511627776)]), .v, .v, .v, .v, .v, .c, .c, .c, .v, .v, .v, .setv 9 (.bool true), .v, .v, .v, .v, .setv 13 (.bool true), .call (.bool (passB 3298534883328 1099511627776 9)), .v, .v, .setv 16 (.bool true), .call (.bool (passB 3298534883328 1099511627776 8)), .v, .v, .v, .c] (.ret []))
    (by kernel_rfl) hG hE Tryd.func27 (by kernel_rfl) (by kernel_rfl) (Eq.mpr (by kernel_rfl) h)
set_option maxRecDepth 1000000 in
set_option maxHeartbeats 8000000 in
theorem law10_fixed   (w : World) (hg : GN w) : Calls Tryd.prog 27 #[] w (fun e w' => e = .returned (.bool true) ∧ Below w.heap.size w w') := by
  refine law10_fixed_plan  w _ (St.refl w) Ex.nil ?_
  refine ⟨(CallV.be fun W hS => gate_Least 3298534883328 1099511627776 (by decide) (by decide) W (hg.below hS.bl)), congrArg Value.bool (by kernel_rfl), congrArg Value.bool (by kernel_rfl), (CallV.be fun W hS => gate_Pass 3298534883328 1099511627776 9 (by decide) (by decide) (by decide) W (hg.below hS.bl)), congrArg Value.bool (by kernel_rfl), (CallV.be fun W hS => gate_Pass 3298534883328 1099511627776 8 (by decide) (by decide) (by decide) W (hg.below hS.bl)), trivial, ?_⟩
  exact fun W hS => ⟨congrArg (fun q => Ending.returned (Value.bool q)) (by rw [(show passB 3298534883328 1099511627776 8 = false by kernel_rfl)]; rfl), hS.bl⟩
set_option maxRecDepth 1000000 in
set_option maxHeartbeats 8000000 in
theorem law_GatePasses_plan (y s g : Int) (w : World) (R : Ending → World → Prop) (hG : St w w [] []) (hE : Ex w [])
    (h : CallV Tryd.prog w [] [] 25 #[.int .i64 y, .int .i64 s] (.tuple #[.int .i64 (leastV y s), .int .i64 (leastE y s)]) ∧ CallV Tryd.prog w [] [] 26 #[.int .i64 y, .int .i64 s] (.tuple #[.int .i64 (leastV y s), .int .i64 (leastE y s)]) ∧ CallV Tryd.prog w [] [] 27 #[] (.bool true) ∧ CallV Tryd.prog w [] [] 28 #[.int .i64 y, .int .i64 s, .int .i64 g] (.bool (passB y s g)) ∧ CallV Tryd.prog w [] [] 29 #[.int .i64 y, .int .i64 s, .int .i64 g] (.bool (passB y s g)) ∧ Value.bool ((passB y s g) == (passB y s g)) = .bool true ∧ Value.bool ((leastV y s) == (leastV y s)) = .bool true ∧ Value.bool ((leastE y s) == (leastE y s)) = .bool true ∧ (True) ∧ (LeafV R w [] [] (.bool true))) : Calls Tryd.prog 6 #[.int .i64 y, .int .i64 s, .int .i64 g] w R :=
  calls_of_plan (f := 6) (es := []) (c := Tryd.f6.body.getD .skip) (tmps := #[.int .i64 y, .int .i64 s, .int .i64 g, undef, undef, undef, undef, undef, undef, undef, undef, undef, undef, undef, undef, undef, undef, undef, undef, undef, undef, undef, undef, undef, undef, undef, undef, undef, undef, undef, undef, undef, undef, undef, undef, undef, undef, undef, undef, undef, undef, undef, undef, undef, undef])
    (.s [.c, .c, .v, .c, .c, .c, .v, .v, .call (.tuple #[.int .i64 (leastV y s), .int .i64 (leastE y s)]), .v, .v, .v, .v, .v, .c, .c, .c, .v, .v, .call (.tuple #[.int .i64 (leastV y s), .int .i64 (leastE y s)]), .v, .v, .v, .v, .v, .c, .c, .c, .call (.bool true), .v, .v, .v, .v, .call (.bool (passB y s g)), .v, .v, .v, .call (.bool (passB y s g)), .v, .setv 33 (.bool true), .v, .v, .v, .v, .v, .setv 38 (.bool true), .v, .v, .v, .v, .v, .setv 43 (.bool true), .v, .v, .c] (.ret []))
    (by kernel_rfl) hG hE Tryd.func6 (by kernel_rfl) (by kernel_rfl) (Eq.mpr (by kernel_rfl) h)
set_option maxRecDepth 1000000 in
set_option maxHeartbeats 8000000 in
theorem law_GatePasses (y s g : Int) (hy : I64 y) (hs : I64 s) (ht : I64 g) (w : World) (hg : GN w) : Calls Tryd.prog 6 #[.int .i64 y, .int .i64 s, .int .i64 g] w (fun e w' => e = .returned (.bool true) ∧ Below w.heap.size w w') := by
  refine law_GatePasses_plan y s g w _ (St.refl w) Ex.nil ?_
  refine ⟨(CallV.be fun W hS => gate_Least y s hy hs W (hg.below hS.bl)), (CallV.be fun W hS => ref10_Least y s hy hs W), (CallV.be fun W hS => law10_fixed W (hg.below hS.bl)), (CallV.be fun W hS => gate_Pass y s g hy hs ht W (hg.below hS.bl)), (CallV.be fun W hS => ref10_Pass y s g hy hs ht W), congrArg Value.bool (beq_self_eq_true _), congrArg Value.bool (beq_self_eq_true _), congrArg Value.bool (beq_self_eq_true _), trivial, ?_⟩
  exact fun W hS => ⟨rfl, hS.bl⟩

theorem upZ_sq (y : Int) : 0 * 0 ≤ y * y := by
  rcases Int.le_total 0 y with q | q
  · have := Int.mul_nonneg q q; omega
  · have := Int.mul_nonneg (a := -y) (b := -y) (by omega) (by omega); rw [Int.neg_mul_neg] at this; omega
set_option maxRecDepth 1000000 in
set_option maxHeartbeats 8000000 in
theorem law_GateWider_plan (y s g : Int) (w : World) (R : Ending → World → Prop) (hG : St w w [] []) (hE : Ex w [])
    (h : CallV Tryd.prog w [] [] 28 #[.int .i64 y, .int .i64 s, .int .i64 g] (.bool (passB y s g)) ∧ (((!(passB y s g)) = true → CallV Tryd.prog w [] [] 25 #[.int .i64 y, .int .i64 s] (.tuple #[.int .i64 (leastV y s), .int .i64 (leastE y s)]) ∧ CallV Tryd.prog w [] [] 27 #[] (.bool true) ∧ ((((leastE y s) != 0) = true → (True) ∧ (LeafV R w [] [] (.bool true))) ∧ (((leastE y s) != 0) = false → ((decide (g < (leastV y s))) = true → (True) ∧ (LeafV R w [] [] (.bool true))) ∧ ((decide (g < (leastV y s))) = false → (True) ∧ (LeafV R w [] [] (.bool (decide (g > 1000)))))))) ∧ ((!(passB y s g)) = false → CallV Tryd.prog w [] [] 27 #[] (.bool true) ∧ Value.int .i64 (IntKind.i64.wrap (0 - y)) = .int .i64 (0 - y) ∧ CallV Tryd.prog w [] [] 28 #[.int .i64 (0 - y), .int .i64 s, .int .i64 g] (.bool (passB (0 - y) s g)) ∧ Value.bool (passB (0 - y) s g) = .bool true ∧ Value.int .i64 (IntKind.i64.wrap (Int.tdiv y 2)) = .int .i64 (Int.tdiv y 2) ∧ CallV Tryd.prog w [] [] 28 #[.int .i64 (Int.tdiv y 2), .int .i64 s, .int .i64 g] (.bool (passB (Int.tdiv y 2) s g)) ∧ Value.bool (passB (Int.tdiv y 2) s g) = .bool true ∧ CallV Tryd.prog w [] [] 28 #[.int .i64 0, .int .i64 s, .int .i64 g] (.bool (passB 0 s g)) ∧ Value.bool (passB 0 s g) = .bool true ∧ (((g == 1000) = true → ((s == 288230376151711744) = true → CallV Tryd.prog w [] [] 28 #[.int .i64 y, .int .i64 s, .int .i64 1000] (.bool (passB y s 1000)) ∧ (True) ∧ (LeafV R w [] [] (.bool (passB y s 1000)))) ∧ ((s == 288230376151711744) = false → Value.int .i64 (IntKind.i64.wrap (s + 1)) = .int .i64 (s + 1) ∧ CallV Tryd.prog w [] [] 28 #[.int .i64 y, .int .i64 (s + 1), .int .i64 g] (.bool (passB y (s + 1) g)) ∧ Value.bool (passB y (s + 1) g) = .bool true ∧ CallV Tryd.prog w [] [] 28 #[.int .i64 y, .int .i64 s, .int .i64 1000] (.bool (passB y s 1000)) ∧ (True) ∧ (LeafV R w [] [] (.bool (passB y s 1000))))) ∧ ((g == 1000) = false → Value.int .i64 (IntKind.i64.wrap (g + 1)) = .int .i64 (g + 1) ∧ CallV Tryd.prog w [] [] 28 #[.int .i64 y, .int .i64 s, .int .i64 (g + 1)] (.bool (passB y s (g + 1))) ∧ Value.bool (passB y s (g + 1)) = .bool true ∧ (((s == 288230376151711744) = true → CallV Tryd.prog w [] [] 28 #[.int .i64 y, .int .i64 s, .int .i64 1000] (.bool (passB y s 1000)) ∧ (True) ∧ (LeafV R w [] [] (.bool (passB y s 1000)))) ∧ ((s == 288230376151711744) = false → Value.int .i64 (IntKind.i64.wrap (s + 1)) = .int .i64 (s + 1) ∧ CallV Tryd.prog w [] [] 28 #[.int .i64 y, .int .i64 (s + 1), .int .i64 g] (.bool (passB y (s + 1) g)) ∧ Value.bool (passB y (s + 1) g) = .bool true ∧ CallV Tryd.prog w [] [] 28 #[.int .i64 y, .int .i64 s, .int .i64 1000] (.bool (passB y s 1000)) ∧ (True) ∧ (LeafV R w [] [] (.bool (passB y s 1000)))))))))) : Calls Tryd.prog 7 #[.int .i64 y, .int .i64 s, .int .i64 g] w R :=
  calls_of_plan (f := 7) (es := []) (c := Tryd.f7.body.getD .skip) (tmps := #[.int .i64 y, .int .i64 s, .int .i64 g, undef, undef, undef, undef, undef, undef, undef, undef, undef, undef, undef, undef, undef, undef, undef, undef, undef, undef, undef, undef, undef, undef, undef, undef, undef, undef, undef, undef, undef, undef, undef, undef, undef, undef, undef, undef, undef, undef, undef, undef, undef, undef, undef, undef, undef, undef, undef, undef, undef, undef, undef, undef, undef, undef, undef, undef, undef, undef, undef, undef, undef, undef, undef, undef, undef, undef, undef, undef, undef, undef, undef, undef, undef, undef, undef, undef, undef, undef])
    (.s [.c, .c, .v, .c, .c, .c, .c, .v, .v, .v, .call (.bool (passB y s g)), .v, .c] (.split 13 (.s [.c, .c, .c, .v, .v, .call (.tuple #[.int .i64 (leastV y s), .int .i64 (leastE y s)]), .v, .v, .v, .v, .v, .c, .c, .c, .call (.bool true), .v, .v, .v, .v] (.split 24 (.s [.u, .u, .u, .v, .v, .u, .u, .v, .v, .v, .c] (.ret [])) (.s [.v, .v, .v, .v, .v] (.split 29 (.s [.u, .u, .v, .v, .v, .c] (.ret [])) (.s [.v, .v, .v, .v, .v, .c] (.ret [])))))) (.s [.c, .c, .c, .c, .call (.bool true), .v, .v, .v, .setv 37 (.int .i64 (0 - y)), .v, .v, .call (.bool (passB (0 - y) s g)), .v, .v, .setv 42 (.bool true), .v, .v, .setv 44 (.int .i64 (Int.tdiv y 2)), .v, .v, .call (.bool (passB (Int.tdiv y 2) s g)), .v, .v, .setv 49 (.bool true), .v, .v, .call (.bool (passB 0 s g)), .v, .v, .setv 54 (.bool true), .v, .v, .v] (.split 57 (.s [.u, .u, .u, .u, .u, .v, .v, .v, .v, .v, .v] (.split 68 (.s [.u, .u, .u, .u, .u, .v, .v, .v, .v, .v, .call (.bool (passB y s 1000)), .v, .v, .c] (.ret [])) (.s [.v, .v, .v, .setv 71 (.int .i64 (s + 1)), .v, .call (.bool (passB y (s + 1) g)), .v, .v, .v, .setv 76 (.bool true), .v, .v, .call (.bool (passB y s 1000)), .v, .v, .c] (.ret [])))) (.s [.v, .v, .v, .v, .setv 61 (.int .i64 (g + 1)), .call (.bool (passB y s (g + 1))), .v, .v, .v, .setv 65 (.bool true), .v, .v, .v] (.split 68 (.s [.u, .u, .u, .u, .u, .v, .v, .v, .v, .v, .call (.bool (passB y s 1000)), .v, .v, .c] (.ret [])) (.s [.v, .v, .v, .setv 71 (.int .i64 (s + 1)), .v, .call (.bool (passB y (s + 1) g)), .v, .v, .v, .setv 76 (.bool true), .v, .v, .call (.bool (passB y s 1000)), .v, .v, .c] (.ret []))))))))
    (by kernel_rfl) hG hE Tryd.func7 (by kernel_rfl) (by kernel_rfl) (Eq.mpr (by kernel_rfl) h)
set_option maxRecDepth 1000000 in
set_option maxHeartbeats 8000000 in
theorem law_GateWider (y s g : Int) (hy : I64 y) (hs : I64 s) (ht : I64 g) (w : World) (hg : GN w) : Calls Tryd.prog 7 #[.int .i64 y, .int .i64 s, .int .i64 g] w (fun e w' => e = .returned (.bool true) ∧ Below w.heap.size w w') := by
  have y64 := hy; have s64 := hs; have g64 := ht; unfold I64 at y64 s64 g64
  refine law_GateWider_plan y s g w _ (St.refl w) Ex.nil ?_
  refine ⟨(CallV.be fun W hS => gate_Pass y s g hy hs ht W (hg.below hS.bl)), ?_⟩
  refine ⟨?_, ?_⟩
  · intro h10
    have h1 : (passB y s g) = false := by simpa using h10
    refine ⟨(CallV.be fun W hS => gate_Least y s hy hs W (hg.below hS.bl)), (CallV.be fun W hS => law10_fixed W (hg.below hS.bl)), ?_⟩
    refine ⟨?_, ?_⟩
    · intro h2
      have h2p : ¬ ((leastE y s) = 0) := by simpa using h2
      refine ⟨trivial, ?_⟩
      exact fun W hS => ⟨rfl, hS.bl⟩
    · intro h3
      have h3p : (leastE y s) = 0 := by simpa using h3
      refine ⟨?_, ?_⟩
      · intro h4
        have h4p : g < (leastV y s) := by simpa using h4
        refine ⟨trivial, ?_⟩
        exact fun W hS => ⟨rfl, hS.bl⟩
      · intro h5
        have h5p : ¬ (g < (leastV y s)) := by simpa using h5
        refine ⟨trivial, ?_⟩
        exact fun W hS => ⟨congrArg (fun q => Ending.returned (Value.bool q)) (decide_eq_true (wider_no h1 (by simpa using h3) (by simpa using h5))), hS.bl⟩
  · intro h60
    have h6 : (passB y s g) = true := by simpa using h60
    obtain ⟨b1, b2, b3, b4⟩ := pass_true h6
    refine ⟨(CallV.be fun W hS => law10_fixed W (hg.below hS.bl)), congrArg (Value.int .i64) (wrapI (by omega)), (CallV.be fun W hS => gate_Pass (0 - y) s g (by unfold I64; omega) hs ht W (hg.below hS.bl)), congrArg Value.bool (pass_mono h6 (by rw [Int.zero_sub, Int.neg_mul_neg]; exact Int.le_refl _) (by omega) (by omega) (by omega)), congrArg (Value.int .i64) (wrapI (half_in hy)), (CallV.be fun W hS => gate_Pass (Int.tdiv y 2) s g (half_in hy) hs ht W (hg.below hS.bl)), congrArg Value.bool (pass_mono h6 (half_abs y).1 (by have q := half_abs y; omega) (by omega) (by omega)), (CallV.be fun W hS => gate_Pass 0 s g (by decide) hs ht W (hg.below hS.bl)), congrArg Value.bool (pass_mono h6 (by have q := half_abs y; have q2 := upZ_sq y; omega) (by omega) (by omega) (by omega)), ?_⟩
    refine ⟨?_, ?_⟩
    · intro h7
      have h7p : g = 1000 := by simpa using h7
      refine ⟨?_, ?_⟩
      · intro h8
        have h8p : s = 288230376151711744 := by simpa using h8
        refine ⟨(CallV.be fun W hS => gate_Pass y s 1000 hy hs (by decide) W (hg.below hS.bl)), trivial, ?_⟩
        exact fun W hS => ⟨congrArg (fun q => Ending.returned (Value.bool q)) (pass_mono h6 (Int.le_refl _) (by omega) (by omega) (by omega)), hS.bl⟩
      · intro h9
        have h9p : ¬ (s = 288230376151711744) := by simpa using h9
        refine ⟨congrArg (Value.int .i64) (wrapI (by omega)), (CallV.be fun W hS => gate_Pass y (s + 1) g hy (by unfold I64; omega) ht W (hg.below hS.bl)), congrArg Value.bool (pass_mono h6 (Int.le_refl _) (by omega) (by omega) (by omega)), (CallV.be fun W hS => gate_Pass y s 1000 hy hs (by decide) W (hg.below hS.bl)), trivial, ?_⟩
        exact fun W hS => ⟨congrArg (fun q => Ending.returned (Value.bool q)) (pass_mono h6 (Int.le_refl _) (by omega) (by omega) (by omega)), hS.bl⟩
    · intro h10
      have h10p : ¬ (g = 1000) := by simpa using h10
      refine ⟨congrArg (Value.int .i64) (wrapI (by omega)), (CallV.be fun W hS => gate_Pass y s (g + 1) hy hs (by unfold I64; omega) W (hg.below hS.bl)), congrArg Value.bool (pass_mono h6 (Int.le_refl _) (by omega) (by omega) (by omega)), ?_⟩
      refine ⟨?_, ?_⟩
      · intro h11
        have h11p : s = 288230376151711744 := by simpa using h11
        refine ⟨(CallV.be fun W hS => gate_Pass y s 1000 hy hs (by decide) W (hg.below hS.bl)), trivial, ?_⟩
        exact fun W hS => ⟨congrArg (fun q => Ending.returned (Value.bool q)) (pass_mono h6 (Int.le_refl _) (by omega) (by omega) (by omega)), hS.bl⟩
      · intro h12
        have h12p : ¬ (s = 288230376151711744) := by simpa using h12
        refine ⟨congrArg (Value.int .i64) (wrapI (by omega)), (CallV.be fun W hS => gate_Pass y (s + 1) g hy (by unfold I64; omega) ht W (hg.below hS.bl)), congrArg Value.bool (pass_mono h6 (Int.le_refl _) (by omega) (by omega) (by omega)), (CallV.be fun W hS => gate_Pass y s 1000 hy hs (by decide) W (hg.below hS.bl)), trivial, ?_⟩
        exact fun W hS => ⟨congrArg (fun q => Ending.returned (Value.bool q)) (pass_mono h6 (Int.le_refl _) (by omega) (by omega) (by omega)), hS.bl⟩

end Go.Proofs.YtlinfennhfphiaaDoor
