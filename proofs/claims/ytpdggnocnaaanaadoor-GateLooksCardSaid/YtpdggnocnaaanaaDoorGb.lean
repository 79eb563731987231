/- Walks of the laws of layer 10 (gate), by plans. -/
import Derived.Test.YtpdggnocnaaanaaDoorGa
namespace Go.Proofs.YtpdggnocnaaanaaDoor
open Go.RowKit
set_option linter.unusedSimpArgs false
set_option linter.unusedVariables false
theorem pass_true {y s g : Int} (h : passB y s g = true) : (-288230376151711744 ≤ y ∧ y ≤ 288230376151711744) ∧ (1 ≤ s ∧ s ≤ 288230376151711744) ∧ (0 ≤ g ∧ g ≤ 1000) ∧ y * y ≤ g * s * pow2 40 := by
  unfold passB at h; simp only [Bool.and_eq_true, decide_eq_true_eq] at h
  obtain ⟨h1, h2, h3, h4⟩ := h
  obtain ⟨a, b, c⟩ := right_true h1
  exact ⟨fitB_true.1 a, ⟨c, (fitB_true.1 b).2⟩, ⟨h2, h3⟩, h4⟩
theorem pass_mono {y s g y' s' g' : Int} (h : passB y s g = true) (hy : y' * y' ≤ y * y) (h1 : -288230376151711744 ≤ y' ∧ y' ≤ 288230376151711744) (h2 : s ≤ s' ∧ s' ≤ 288230376151711744) (h3 : g ≤ g' ∧ g' ≤ 1000) : passB y' s' g' = true := by
  obtain ⟨a, b, c, d⟩ := pass_true h
  rw [pass_val (right_mk (fitB_true.2 h1) (fitB_true.2 (by omega)) (by omega)) (by omega) h3.2, decide_eq_true_eq]
  have e : g * s ≤ g' * s' := Int.mul_le_mul h3.1 h2.1 (by omega) (by omega)
  have := Int.mul_le_mul_of_nonneg_right e (Int.le_of_lt (pow2_pos 40))
  omega
theorem half_abs (y : Int) : Int.tdiv y 2 * Int.tdiv y 2 ≤ y * y ∧ (0 ≤ y → 0 ≤ Int.tdiv y 2 ∧ Int.tdiv y 2 ≤ y) ∧ (y ≤ 0 → y ≤ Int.tdiv y 2 ∧ Int.tdiv y 2 ≤ 0) := by
  rcases Int.le_total 0 y with q | q
  · have e : Int.tdiv y 2 = y / 2 := Int.tdiv_eq_ediv_of_nonneg q
    rw [e]
    exact ⟨Int.mul_le_mul (by omega) (by omega) (by omega) q, fun _ => by omega, fun _ => by omega⟩
  · have e : Int.tdiv y 2 = -((-y) / 2) := by
      have := Int.tdiv_eq_ediv_of_nonneg (a := -y) (b := 2) (by omega)
      rw [Int.neg_tdiv] at this; omega
    rw [e]
    refine ⟨?_, fun _ => by omega, fun _ => by omega⟩
    have := Int.mul_le_mul (a := (-y) / 2) (b := (-y) / 2) (c := -y) (d := -y) (by omega) (by omega) (by omega) (by omega)
    rw [Int.neg_mul_neg] at this ⊢; omega
theorem half_in {y : Int} (h : I64 y) : -9223372036854775808 ≤ Int.tdiv y 2 ∧ Int.tdiv y 2 ≤ 9223372036854775807 := by
  have := half_abs y
  unfold I64 at h; omega
theorem wider_no {y s g : Int} (h : passB y s g = false) (h1 : leastE y s = 0) (h2 : ¬ g < leastV y s) : g > 1000 := by
  unfold leastE at h1
  unfold leastV at h2
  cases hr : rightB y s
  · rw [hr] at h1; simp at h1
  · rw [hr, if_pos rfl] at h1 h2
    by_cases q : leastQ y s > 1000
    · rw [if_pos q] at h1; omega
    · rw [if_neg q] at h2
      have a := leastQ_in (y := y) (right_true hr).2.2
      refine Int.not_le.1 (fun k => ?_)
      have := (pass_mid hr (by omega) k).2 h
      omega
set_option maxRecDepth 1000000 in
set_option maxHeartbeats 8000000 in
theorem law10_fixed_plan  (w : World) (R : Ending → World → Prop) (hG : St w w [] []) (hE : Ex w [])
    (h : CallV Tryd.prog w [] [] 76 #[.int .i64 3298534883328, .int .i64 1099511627776] (.tuple #[.int .i64 (leastV 3298534883328 1099511627776), .int .i64 (leastE 3298534883328 1099511627776)]) ∧ Value.bool ((leastV 3298534883328 1099511627776) == 9) = .bool true ∧ Value.bool ((leastE 3298534883328 1099511627776) == 0) = .bool true ∧ CallV Tryd.prog w [] [] 77 #[.int .i64 3298534883328, .int .i64 1099511627776, .int .i64 9] (.bool (passB 3298534883328 1099511627776 9)) ∧ Value.bool (passB 3298534883328 1099511627776 9) = .bool true ∧ CallV Tryd.prog w [] [] 77 #[.int .i64 3298534883328, .int .i64 1099511627776, .int .i64 8] (.bool (passB 3298534883328 1099511627776 8)) ∧ (True) ∧ (LeafV R w [] [] (.bool (!(passB 3298534883328 1099511627776 8))))) : Calls Tryd.prog 36 #[] w R :=
  calls_of_plan (f := 36) (es := []) (c := Tryd.f36.body.getD .skip) (tmps := #[undef, undef, undef, undef, undef, undef, undef, undef, undef, undef, undef, undef, undef, undef, undef, undef, undef, undef, undef, undef])
    (.s [.c, .c, .v, .c, .c, .c, .call (.tuple #[.int .i64 (leastV 3298534883328 1099511627776), .int .i64 (leastE 3298534883328 1099511627776)]), .v, .v, .v, .v, .v, .c, .c, .c, .v, .v, .v, .setv 9 (.bool true), .v, .v, .v, .v, .setv 13 (.bool true), .call (.bool (passB 3298534883328 1099511627776 9)), .v, .v, .setv 16 (.bool true), .call (.bool (passB 3298534883328 1099511627776 8)), .v, .v, .v, .c] (.ret []))
    (by kernel_rfl) hG hE Tryd.func36 (by kernel_rfl) (by kernel_rfl) (Eq.mpr (by kernel_rfl) h)
set_option maxRecDepth 1000000 in
set_option maxHeartbeats 8000000 in
theorem law10_fixed   (w : World) (hg : GN w) : Calls Tryd.prog 36 #[] w (fun e w' => e = .returned (.bool true) ∧ Below w.heap.size w w') := by
  refine law10_fixed_plan  w _ (St.refl w) Ex.nil ?_
  refine ⟨(CallV.be fun W hS => gate_Least 3298534883328 1099511627776 (by decide) (by decide) W (hg.below hS.bl)), congrArg Value.bool (by kernel_rfl), congrArg Value.bool (by kernel_rfl), (CallV.be fun W hS => gate_Pass 3298534883328 1099511627776 9 (by decide) (by decide) (by decide) W (hg.below hS.bl)), congrArg Value.bool (by kernel_rfl), (CallV.be fun W hS => gate_Pass 3298534883328 1099511627776 8 (by decide) (by decide) (by decide) W (hg.below hS.bl)), trivial, ?_⟩
  exact fun W hS => ⟨congrArg (fun q => Ending.returned (Value.bool q)) (by rw [(show passB 3298534883328 1099511627776 8 = false by kernel_rfl)]; rfl), hS.bl⟩
theorem upZ_sq (y : Int) : 0 * 0 ≤ y * y := by
  rcases Int.le_total 0 y with q | q
  · have := Int.mul_nonneg q q; omega
  · have := Int.mul_nonneg (a := -y) (b := -y) (by omega) (by omega); rw [Int.neg_mul_neg] at this; omega
end Go.Proofs.YtpdggnocnaaanaaDoor
