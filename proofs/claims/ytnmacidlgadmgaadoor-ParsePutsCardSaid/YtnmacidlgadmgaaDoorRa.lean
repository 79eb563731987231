/- Plain words for the reference's big numbers: digits of 16 bits, the lowest first. No Go in sight. -/
import Derived.WalkKit
namespace Go.Proofs.YtnmacidlgadmgaaDoor
open Go.RowKit

/-- Digits. -/
def Dg (ds : List Int) : Prop := ∀ d ∈ ds, 0 ≤ d ∧ d < 65536
/-- The number that digits stand for. -/
def vald : List Int → Int
  | [] => 0
  | d :: ds => d + 65536 * vald ds
/-- The digits of a number, the highest one not 0. -/
def digs (n : Nat) : List Int := if h : n = 0 then [] else ((n % 65536 : Nat) : Int) :: digs (n / 65536)
termination_by n
decreasing_by omega

theorem digs_zero : digs 0 = [] := by rw [digs]; simp
theorem digs_pos {n : Nat} (h : n ≠ 0) : digs n = ((n % 65536 : Nat) : Int) :: digs (n / 65536) := by rw [digs]; simp [h]
theorem vald_digs (n : Nat) : vald (digs n) = n := by
  induction n using Nat.strongRecOn with
  | _ n ih =>
    by_cases h : n = 0
    · subst h; rw [digs_zero]; rfl
    · rw [digs_pos h]
      show ((n % 65536 : Nat) : Int) + 65536 * vald (digs (n / 65536)) = n
      rw [ih _ (by omega)]; omega
theorem digs_Dg (n : Nat) : Dg (digs n) := by
  induction n using Nat.strongRecOn with
  | _ n ih =>
    by_cases h : n = 0
    · subst h; rw [digs_zero]; intro d hd; cases hd
    · rw [digs_pos h]
      intro d hd
      rcases List.mem_cons.1 hd with rfl | hd
      · omega
      · exact ih _ (by omega) d hd
theorem Dg.nil : Dg [] := by intro d hd; cases hd
theorem Dg.cons {d : Int} {ds : List Int} (h0 : 0 ≤ d) (h1 : d < 65536) (h : Dg ds) : Dg (d :: ds) := by
  intro x hx; rcases List.mem_cons.1 hx with rfl | hx
  · exact ⟨h0, h1⟩
  · exact h x hx
theorem Dg.head {d : Int} {ds : List Int} (h : Dg (d :: ds)) : 0 ≤ d ∧ d < 65536 := h d (by simp)
theorem Dg.tail {d : Int} {ds : List Int} (h : Dg (d :: ds)) : Dg ds := fun x hx => h x (by simp [hx])
theorem Dg.snoc {d : Int} {ds : List Int} (h : Dg ds) (h0 : 0 ≤ d) (h1 : d < 65536) : Dg (ds ++ [d]) := by
  intro x hx
  rcases List.mem_append.1 hx with hx | hx
  · exact h x hx
  · have : x = d := by simpa using hx
    subst this; exact ⟨h0, h1⟩
theorem Dg.take {ds : List Int} (h : Dg ds) (n : Nat) : Dg (ds.take n) := fun x hx => h x (List.mem_of_mem_take hx)
theorem Dg.getD {ds : List Int} (h : Dg ds) (i : Nat) : 0 ≤ ds.getD i 0 ∧ ds.getD i 0 < 65536 := by
  rw [List.getD_eq_getElem?_getD]
  cases hx : ds[i]? with
  | none => simp
  | some d => simp only [Option.getD_some]; exact h d (List.mem_of_getElem? hx)
theorem vald_nonneg {ds : List Int} (h : Dg ds) : 0 ≤ vald ds := by
  induction ds with
  | nil => exact Int.le_refl 0
  | cons d ds ih => have := ih h.tail; have := h.head; show 0 ≤ d + 65536 * vald ds; omega
/-- Powers of the base. -/
def pB (k : Nat) : Int := 65536 ^ k
theorem pB_zero : pB 0 = 1 := rfl
theorem pB_succ (k : Nat) : pB (k + 1) = 65536 * pB k := by unfold pB; rw [Int.pow_succ]; omega
theorem pB_pos (k : Nat) : 0 < pB k := Int.pow_pos (by omega)
theorem pB_add (i j : Nat) : pB (i + j) = pB i * pB j := Int.pow_add ..
theorem pB_nat (k : Nat) : pB k = ((65536 ^ k : Nat) : Int) := by
  induction k with
  | zero => rfl
  | succ k ih => rw [pB_succ, ih, Nat.pow_succ, Int.natCast_mul, Int.mul_comm]; rfl
theorem pB_le_add (i d : Nat) : pB i ≤ pB (i + d) := by
  induction d with
  | zero => exact Int.le_refl _
  | succ d ih => rw [← Nat.add_assoc, pB_succ]; have := pB_pos (i + d); omega
theorem pB_mono {i j : Nat} (h : i ≤ j) : pB i ≤ pB j := by have := pB_le_add i (j - i); rwa [show i + (j - i) = j from by omega] at this
theorem vald_append (xs ys : List Int) : vald (xs ++ ys) = vald xs + pB xs.length * vald ys := by
  induction xs with
  | nil => simp [vald, pB]
  | cons x xs ih =>
    show x + 65536 * vald (xs ++ ys) = x + 65536 * vald xs + pB (xs.length + 1) * vald ys
    rw [ih, pB_succ, Int.mul_add, Int.mul_assoc]; omega
theorem vald_snoc (xs : List Int) (d : Int) : vald (xs ++ [d]) = vald xs + pB xs.length * d := by
  rw [vald_append]; simp [vald]
theorem vald_lt {ds : List Int} (h : Dg ds) : vald ds < pB ds.length := by
  induction ds with
  | nil => simp [vald, pB]
  | cons d ds ih =>
    have := ih h.tail; have := h.head
    show d + 65536 * vald ds < pB (ds.length + 1)
    rw [pB_succ]; omega
/-- The digits up to a place. -/
theorem take_succ_getD (xs : List Int) (i : Nat) : vald (xs.take (i + 1)) = vald (xs.take i) + pB i * xs.getD i 0 := by
  by_cases h : i < xs.length
  · rw [List.take_succ_eq_append_getElem h, vald_snoc, List.length_take, Nat.min_eq_left (by omega)]
    congr 2
    simp [List.getD_eq_getElem?_getD, List.getElem?_eq_getElem h]
  · rw [List.take_of_length_le (by omega), List.take_of_length_le (by omega)]
    have : xs.getD i 0 = 0 := by rw [List.getD_eq_getElem?_getD, List.getElem?_eq_none (by omega)]; rfl
    rw [this]; omega
theorem vald_take_all {xs : List Int} {i : Nat} (h : xs.length ≤ i) : vald (xs.take i) = vald xs := by rw [List.take_of_length_le h]
theorem vald_zero_of {ds : List Int} (h : Dg ds) (hv : vald ds = 0) : ∀ i, ds.getD i 0 = 0 := by
  induction ds with
  | nil => intro i; simp
  | cons d ds ih =>
    have h1 := h.head
    have h2 := vald_nonneg h.tail
    have hv' : d + 65536 * vald ds = 0 := hv
    intro i
    cases i with
    | zero => simp; omega
    | succ i => simp only [List.getD_cons_succ]; exact ih h.tail (by omega) i
/-- The digits that stand for a number begin with that number's own; behind them is 0. -/
theorem digs_take {ds : List Int} (h : Dg ds) : ds.take (digs (vald ds).toNat).length = digs (vald ds).toNat ∧ (digs (vald ds).toNat).length ≤ ds.length ∧
    (∀ i, (digs (vald ds).toNat).length ≤ i → ds.getD i 0 = 0) ∧ (0 < (digs (vald ds).toNat).length → ds.getD ((digs (vald ds).toNat).length - 1) 0 ≠ 0) := by
  induction ds with
  | nil => simp [vald, digs_zero]
  | cons d ds ih =>
    have h1 := h.head
    have h2 := vald_nonneg h.tail
    obtain ⟨i1, i2, i3, i4⟩ := ih h.tail
    have hv : vald (d :: ds) = d + 65536 * vald ds := rfl
    by_cases hz : vald (d :: ds) = 0
    · have hz' := vald_zero_of h hz
      rw [hz]
      rw [show ((0 : Int).toNat) = 0 from rfl, digs_zero]
      refine ⟨by simp, by simp, fun i _ => hz' i, fun hh => by simp at hh⟩
    · have e1 : (vald (d :: ds)).toNat % 65536 = d.toNat := by rw [hv]; omega
      have e2 : (vald (d :: ds)).toNat / 65536 = (vald ds).toNat := by rw [hv]; omega
      rw [digs_pos (show (vald (d :: ds)).toNat ≠ 0 by rw [hv] at hz ⊢; omega), e1, e2]
      refine ⟨?_, ?_, ?_, ?_⟩
      · rw [List.length_cons, List.take_succ_cons, i1]; congr 1; omega
      · simp only [List.length_cons]; omega
      · intro i hi
        cases i with
        | zero => simp at hi
        | succ i => simp only [List.getD_cons_succ]; exact i3 i (by simpa using hi)
      · intro _
        simp only [List.length_cons, Nat.add_sub_cancel]
        cases hl : (digs (vald ds).toNat).length with
        | zero =>
          have : vald ds = 0 := by
            have := vald_digs (vald ds).toNat
            rw [List.eq_nil_of_length_eq_zero hl] at this
            have e : vald ([] : List Int) = 0 := rfl
            omega
          simp only [List.getD_cons_zero]; rw [hv] at hz; omega
        | succ m =>
          simp only [List.getD_cons_succ]
          have := i4 (by omega)
          rw [hl] at this
          simpa using this
theorem digs_getD (n i : Nat) : (digs n).getD i 0 = ((n / 65536 ^ i % 65536 : Nat) : Int) := by
  induction i generalizing n with
  | zero =>
    by_cases h : n = 0
    · subst h; simp [digs_zero]
    · rw [digs_pos h]; simp
  | succ i ih =>
    by_cases h : n = 0
    · subst h; simp [digs_zero]
    · rw [digs_pos h, List.getD_cons_succ, ih, Nat.div_div_eq_div_mul, Nat.pow_succ, Nat.mul_comm]
theorem digs_len_le {n k : Nat} (h : n < 65536 ^ k) : (digs n).length ≤ k := by
  induction k generalizing n with
  | zero => have : n = 0 := by simpa using h
            subst this; simp [digs_zero]
  | succ k ih =>
    by_cases h0 : n = 0
    · subst h0; simp [digs_zero]
    · rw [digs_pos h0, List.length_cons]
      have := ih (n := n / 65536) (by rw [Nat.pow_succ] at h; exact Nat.div_lt_of_lt_mul (by rw [Nat.mul_comm]; exact h))
      omega
theorem digs_lt (n : Nat) : n < 65536 ^ (digs n).length := by
  have h := vald_lt (digs_Dg n)
  rw [vald_digs, pB_nat] at h
  exact Int.ofNat_lt.1 h
theorem digs_len_mono {m n : Nat} (h : m ≤ n) : (digs m).length ≤ (digs n).length := digs_len_le (Nat.lt_of_le_of_lt h (digs_lt n))
theorem digs_nil_iff (n : Nat) : digs n = [] ↔ n = 0 := by
  constructor
  · intro h; have := vald_digs n; rw [h] at this; have e : vald ([] : List Int) = 0 := rfl; omega
  · rintro rfl; exact digs_zero

/-- How many digits a number has, without its sign; its digits. -/
def dg (z : Int) : List Int := digs z.natAbs
def nd (z : Int) : Nat := (dg z).length
theorem dg_Dg (z : Int) : Dg (dg z) := digs_Dg _
theorem vald_dg (z : Int) : vald (dg z) = z.natAbs := vald_digs _
theorem nd_zero_iff (z : Int) : nd z = 0 ↔ z = 0 := by
  unfold nd dg; rw [List.length_eq_zero_iff, digs_nil_iff]; omega
theorem nd_lt (z : Int) : (z.natAbs : Int) < pB (nd z) := by have := vald_lt (dg_Dg z); rwa [vald_dg] at this
theorem nd_le_of {z : Int} {k : Nat} (h : (z.natAbs : Int) < pB k) : nd z ≤ k := digs_len_le (by rw [pB_nat] at h; exact Int.ofNat_lt.1 h)
theorem nd_mono {a b : Int} (h : a.natAbs ≤ b.natAbs) : nd a ≤ nd b := digs_len_mono h
theorem nd_neg (a : Int) : nd (-a) = nd a := by unfold nd dg; rw [Int.natAbs_neg]
theorem dg_neg (a : Int) : dg (-a) = dg a := by unfold dg; rw [Int.natAbs_neg]
theorem nd_add (a b : Int) : nd (a + b) ≤ max (nd a) (nd b) + 1 := by
  apply nd_le_of
  have ha := nd_lt a
  have hb := nd_lt b
  have ma : pB (nd a) ≤ pB (max (nd a) (nd b)) := pB_mono (Nat.le_max_left ..)
  have mb : pB (nd b) ≤ pB (max (nd a) (nd b)) := pB_mono (Nat.le_max_right ..)
  rw [pB_succ]; omega
theorem nd_mul (a b : Int) : nd (a * b) ≤ nd a + nd b := by
  apply nd_le_of
  have ha := nd_lt a
  have hb := nd_lt b
  rw [pB_add, Int.natAbs_mul, Int.natCast_mul]
  exact Int.mul_lt_mul' (Int.le_of_lt ha) hb (by omega) (pB_pos _)
end Go.Proofs.YtnmacidlgadmgaaDoor
