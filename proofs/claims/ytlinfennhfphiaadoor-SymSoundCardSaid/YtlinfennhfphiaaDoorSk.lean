/- Plain laws of layer 5 (sym): what is sound over a floor is so over each lower one; a diagonal over itself; with a diagonal from 0 on. -/
import Derived.Test.YtlinfennhfphiaaDoorSj
namespace Go.Proofs.YtlinfennhfphiaaDoor
set_option linter.unusedSimpArgs false
set_option linter.unusedVariables false
theorem soundB_true {m f : Nat → Int} : soundB m f = true ↔ fits6 m = true ∧ (f 0 ≤ m 0 ∧ f 1 ≤ m 3 ∧ f 2 ≤ m 5) ∧
    (m 1 * m 1 ≤ (m 3 - f 1) * (m 0 - f 0) ∧ m 2 * m 2 ≤ (m 5 - f 2) * (m 0 - f 0) ∧ m 4 * m 4 ≤ (m 5 - f 2) * (m 3 - f 1)) := by
  unfold soundB abB
  simp only [Bool.and_eq_true, decide_eq_true_eq, Bool.not_eq_true', decide_eq_false_iff_not, Int.not_lt]
theorem mul_mono {a b c d : Int} (h1 : a ≤ c) (h2 : b ≤ d) (ha : 0 ≤ a) (hb : 0 ≤ b) : a * b ≤ c * d :=
  Int.mul_le_mul h1 h2 hb (by omega)
theorem sound_low {m f g : Nat → Int} (h : soundB m f = true) (h0 : g 0 ≤ f 0) (h1 : g 1 ≤ f 1) (h2 : g 2 ≤ f 2) : soundB m g = true := by
  obtain ⟨hf, ⟨a0, a1, a2⟩, b0, b1, b2⟩ := soundB_true.1 h
  refine soundB_true.2 ⟨hf, ⟨by omega, by omega, by omega⟩, Int.le_trans b0 (mul_mono (by omega) (by omega) (by omega) (by omega)), Int.le_trans b1 (mul_mono (by omega) (by omega) (by omega) (by omega)), Int.le_trans b2 (mul_mono (by omega) (by omega) (by omega) (by omega))⟩
/-- The matrix of a diagonal. -/
def diagM (u : Nat → Int) : Nat → Int
  | 0 => u 0
  | 3 => u 1
  | 5 => u 2
  | _ => 0
theorem sound_diag {u : Nat → Int} (hu : ∀ i, 0 ≤ u i ∧ u i ≤ 1099511627776) : soundB (diagM u) u = true := by
  have u0 := hu 0
  have u1 := hu 1
  have u2 := hu 2
  refine soundB_true.2 ⟨?_, ⟨Int.le_refl _, Int.le_refl _, Int.le_refl _⟩, by simp [diagM], by simp [diagM], by simp [diagM]⟩
  simp only [fits6, allB, diagM, Bool.true_and, Bool.and_eq_true, fitB_true]
  omega
theorem sound_more {m f u : Nat → Int} (h : soundB m f = true) (hu : ∀ i, 0 ≤ u i) (hs : fits6 (fun j => m j + diagM u j) = true) : soundB (fun j => m j + diagM u j) f = true := by
  obtain ⟨hf, ⟨a0, a1, a2⟩, b0, b1, b2⟩ := soundB_true.1 h
  have u0 := hu 0
  have u1 := hu 1
  have u2 := hu 2
  refine soundB_true.2 ⟨hs, ?_⟩
  simp only [diagM, Int.add_zero]
  exact ⟨⟨by omega, by omega, by omega⟩, Int.le_trans b0 (mul_mono (by omega) (by omega) (by omega) (by omega)), Int.le_trans b1 (mul_mono (by omega) (by omega) (by omega) (by omega)), Int.le_trans b2 (mul_mono (by omega) (by omega) (by omega) (by omega))⟩
end Go.Proofs.YtlinfennhfphiaaDoor
