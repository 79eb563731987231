/- Plain words of layer 9 (tame): a doubt within bounds. -/
import Derived.Test.YtlinfennhfphiaaDoorFp
import Derived.Test.YtlinfennhfphiaaDoorQa
import Derived.Test.YtlinfennhfphiaaDoorEd
namespace Go.Proofs.YtlinfennhfphiaaDoor
set_option linter.unusedSimpArgs false
set_option linter.unusedVariables false
theorem mayB_true {f c : Nat → Int} (h : mayB f c = true) : (0 ≤ f 0 ∧ f 0 ≤ c 0 ∧ c 0 ≤ 288230376151711744) ∧ (0 ≤ f 1 ∧ f 1 ≤ c 1 ∧ c 1 ≤ 288230376151711744) ∧ (0 ≤ f 2 ∧ f 2 ≤ c 2 ∧ c 2 ≤ 288230376151711744) := by
  unfold mayB may1 at h; simp only [Bool.and_eq_true, decide_eq_true_eq] at h; exact h
theorem mayB_mk {f c : Nat → Int} (h : (0 ≤ f 0 ∧ f 0 ≤ c 0 ∧ c 0 ≤ 288230376151711744) ∧ (0 ≤ f 1 ∧ f 1 ≤ c 1 ∧ c 1 ≤ 288230376151711744) ∧ (0 ≤ f 2 ∧ f 2 ≤ c 2 ∧ c 2 ≤ 288230376151711744)) : mayB f c = true := by
  unfold mayB may1; simp only [Bool.and_eq_true, decide_eq_true_eq]; exact h
def tmD (x f c : Int) : Int := min (max x f) c
def tm (p f c : Nat → Int) : Nat → Int
  | 0 => tmD (p 0) (f 0) (c 0)
  | 1 => clampZ (p 1) (mn (tmD (p 0) (f 0) (c 0) - f 0) (tmD (p 3) (f 1) (c 1) - f 1))
  | 2 => clampZ (p 2) (mn (tmD (p 0) (f 0) (c 0) - f 0) (tmD (p 5) (f 2) (c 2) - f 2))
  | 3 => tmD (p 3) (f 1) (c 1)
  | 4 => clampZ (p 4) (mn (tmD (p 3) (f 1) (c 1) - f 1) (tmD (p 5) (f 2) (c 2) - f 2))
  | _ => tmD (p 5) (f 2) (c 2)
def tmV (p f c : Nat → Int) (i : Nat) : Int := if mayB f c then tm p f c i else 0
def tmE (f c : Nat → Int) : Int := if mayB f c then 0 else 1
def tmI (p f c : Nat → Int) : Bool := mayB f c && ([tm p f c 0, tm p f c 1, tm p f c 2, tm p f c 3, tm p f c 4, tm p f c 5] == [p 0, p 1, p 2, p 3, p 4, p 5])
theorem tm_yes {p f c : Nat → Int} (h : mayB f c = true) : tmE f c = 0 ∧ ∀ i, tmV p f c i = tm p f c i := ⟨by simp [tmE, h], fun i => by simp [tmV, h]⟩
theorem tm_no {p f c : Nat → Int} (h : mayB f c = false) : tmE f c = 1 ∧ ∀ i, tmV p f c i = 0 := ⟨by simp [tmE, h], fun i => by simp [tmV, h]⟩
theorem mn_comm (x y : Int) : mn x y = mn y x := by
  unfold mn; rw [Int.mul_comm]
  by_cases h : x < 0 ∨ y < 0
  · rw [if_pos h, if_pos h.symm]
  · rw [if_neg h, if_neg (fun q => h q.symm)]
theorem mn_I64 {x y : Int} (hx : I64 x) (hy : I64 y) : I64 (mn x y) := by have := mn_i64 hx hy; unfold I64; omega
theorem clampZ_in {x m : Int} (hm : 0 ≤ m) : -m ≤ clampZ x m ∧ clampZ x m ≤ m := by unfold clampZ; (repeat' split) <;> omega
theorem clampZ_I64 {x m : Int} (hx : I64 x) (hm : I64 m) : I64 (clampZ x m) := by unfold I64 clampZ at *; (repeat' split) <;> omega
theorem clampZ_self {x m : Int} : clampZ x m = x ↔ (0 ≤ m ∧ -m ≤ x ∧ x ≤ m) ∨ x = 0 ∧ m < 0 := by unfold clampZ; (repeat' split) <;> omega
/-- The mean is between. -/
theorem mn_le {x y : Int} (hx : 0 ≤ x) (hy : 0 ≤ y) : 0 ≤ mn x y ∧ mn x y * mn x y ≤ x * y := by
  have h0 : 0 ≤ x * y := Int.mul_nonneg hx hy
  unfold mn; rw [if_neg (by omega)]
  exact ⟨rt_nonneg _, rt_le h0⟩
theorem mn_lt {x y : Int} (hx : 0 ≤ x) (hy : 0 ≤ y) : x * y < (mn x y + 1) * (mn x y + 1) := by
  have h0 : 0 ≤ x * y := Int.mul_nonneg hx hy
  unfold mn; rw [if_neg (by omega)]
  exact rt_lt h0
theorem tmD_in {x f c : Int} (h : f ≤ c) : f ≤ tmD x f c ∧ tmD x f c ≤ c := by unfold tmD; omega
theorem tmD_I64 {x f c : Int} (hx : I64 x) (hf : I64 f) (hc : I64 c) : I64 (tmD x f c) := by unfold tmD I64 at *; omega
theorem tm_i64 {p f c : Nat → Int} (hp : ∀ i, I64 (p i)) (h : mayB f c = true) : ∀ i, I64 (tm p f c i) := by
  obtain ⟨⟨a1, a2, a3⟩, ⟨b1, b2, b3⟩, c1, c2, c3⟩ := mayB_true h
  have d0 := tmD_in (x := p 0) a2
  have d1 := tmD_in (x := p 3) b2
  have d2 := tmD_in (x := p 5) c2
  intro i
  match i with
  | 0 => show I64 (tmD _ _ _); unfold I64; omega
  | 1 => exact clampZ_I64 (hp 1) (mn_I64 (by unfold I64; omega) (by unfold I64; omega))
  | 2 => exact clampZ_I64 (hp 2) (mn_I64 (by unfold I64; omega) (by unfold I64; omega))
  | 3 => show I64 (tmD _ _ _); unfold I64; omega
  | 4 => exact clampZ_I64 (hp 4) (mn_I64 (by unfold I64; omega) (by unfold I64; omega))
  | _ + 5 => show I64 (tmD _ _ _); unfold I64; omega
theorem tmV_I64 {p f c : Nat → Int} (hp : ∀ i, I64 (p i)) : ∀ i, I64 (tmV p f c i) := by
  intro i
  unfold tmV
  split
  · rename_i h; exact tm_i64 hp h i
  · decide
end Go.Proofs.YtlinfennhfphiaaDoor
