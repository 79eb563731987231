/- Plain laws of layer 5 (sym): what fits; the sum. -/
import Derived.Test.YtfbhcaocfajjpaaDoorQSg
namespace Go.Proofs.YtfbhcaocfajjpaaDoor
open Go.RowKit
theorem s6_of {m : Nat → Int} (h0 : fitB (m 0) = true) (h1 : fitB (m 1) = true) (h2 : fitB (m 2) = true) (h3 : fitB (m 3) = true) (h4 : fitB (m 4) = true) (h5 : fitB (m 5) = true) : fits6 m = true := by
  show (true && fitB (m 0) && fitB (m 1) && fitB (m 2) && fitB (m 3) && fitB (m 4) && fitB (m 5)) = true
  rw [h0, h1, h2, h3, h4, h5]; rfl
theorem s6_all {m : Nat → Int} (h : fits6 m = true) : fitB (m 0) = true ∧ fitB (m 1) = true ∧ fitB (m 2) = true ∧ fitB (m 3) = true ∧ fitB (m 4) = true ∧ fitB (m 5) = true := by
  have h : (true && fitB (m 0) && fitB (m 1) && fitB (m 2) && fitB (m 3) && fitB (m 4) && fitB (m 5)) = true := h
  simp only [Bool.true_and, Bool.and_eq_true] at h
  exact ⟨h.1.1.1.1.1, h.1.1.1.1.2, h.1.1.1.2, h.1.1.2, h.1.2, h.2⟩
theorem s6_err {a b : Int} (ha : fitB a = true) (hb : fitB b = true) (h : ¬ bothE a b (a + b) = 0) : bothE a b (a + b) = 3 ∧ fitB (a + b) = false := by
  obtain ⟨_, e⟩ := both_yes (z := a + b) ha hb
  rw [e] at h ⊢
  cases q : fitB (a + b)
  · exact ⟨(to_not q).2, rfl⟩
  · exact absurd (to_fit q).2 h
theorem s6_ok {a b : Int} (ha : fitB a = true) (hb : fitB b = true) (h : bothE a b (a + b) = 0) : bothV a b (a + b) = a + b ∧ fitB (a + b) = true := by
  obtain ⟨v, e⟩ := both_yes (z := a + b) ha hb
  rw [e] at h
  cases q : fitB (a + b)
  · rw [(to_not q).2] at h; cases h
  · exact ⟨v.trans (to_fit q).1, rfl⟩
theorem ad6_1 {a b : Nat → Int} (h : (fits6 a && fits6 b) = false) : addE a b = 1 ∧ ∀ i, addV a b i = 0 := ⟨by unfold addE; rw [h]; rfl, fun i => by unfold addV; rw [h]; rfl⟩
theorem ad6_3 {a b : Nat → Int} (ha : fits6 a = true) (hb : fits6 b = true) (h : fits6 (fun j => a j + b j) = false) : addE a b = 3 ∧ ∀ i, addV a b i = 0 := ⟨by unfold addE; rw [ha, hb, h]; rfl, fun i => by unfold addV; rw [ha, hb, h]; rfl⟩
theorem ad6_0 {a b : Nat → Int} (ha : fits6 a = true) (hb : fits6 b = true) (h : fits6 (fun j => a j + b j) = true) : addE a b = 0 ∧ ∀ i, addV a b i = a i + b i := ⟨by unfold addE; rw [ha, hb, h]; rfl, fun i => by unfold addV; rw [ha, hb, h]; rfl⟩
end Go.Proofs.YtfbhcaocfajjpaaDoor
