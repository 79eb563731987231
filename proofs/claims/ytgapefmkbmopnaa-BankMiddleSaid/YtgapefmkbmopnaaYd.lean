/- The middle of tellings, plainly: the sorted altitudes' middle one is the one that the counts name. -/
import Derived.Test.YtgapefmkbmopnaaYb
namespace Go.Proofs.Ytgapefmkbmopnaa
def cnt (p : Nat → Bool) : Nat → Nat
  | 0 => 0
  | n + 1 => if p n then cnt p n + 1 else cnt p n
theorem cnt_yes {p : Nat → Bool} {k : Nat} (h : p k = true) : cnt p (k + 1) = cnt p k + 1 := if_pos h
theorem cnt_no {p : Nat → Bool} {k : Nat} (h : p k = false) : cnt p (k + 1) = cnt p k := if_neg (by simp [h])
theorem cnt_le (p : Nat → Bool) (k : Nat) : cnt p k ≤ k := by
  induction k with
  | zero => exact Nat.le_refl _
  | succ k ih => unfold cnt; split <;> omega
def alts (t : Tl) : Nat → List Int
  | 0 => []
  | n + 1 => if t.va n then alts t n ++ [t.al n] else alts t n
def srt (l : List Int) : List Int := l.mergeSort fun x y => decide (x ≤ y)
def mid (t : Tl) (n : Nat) : Int × Bool := if alts t n = [] then (0, false) else ((srt (alts t n)).getD (((alts t n).length - 1) / 2) 0, true)
def lessP (t : Tl) (i j : Nat) : Bool := t.va j && decide (t.al j < t.al i)
def sameP (t : Tl) (i j : Nat) : Bool := t.va j && (t.al j == t.al i)
def atZ (t : Tl) (n : Nat) : Int := Int.tdiv (((cnt t.va n : Nat) : Int) - 1) 2
def midB (t : Tl) (n i : Nat) : Bool := t.va i && (decide (((cnt (lessP t i) n : Nat) : Int) ≤ atZ t n) && decide (atZ t n < ((cnt (lessP t i) n : Nat) : Int) + ((cnt (sameP t i) n : Nat) : Int)))
theorem atZ_eq {t : Tl} {n m : Nat} (h : cnt t.va n = m + 1) : atZ t n = ((m / 2 : Nat) : Int) := by
  unfold atZ
  rw [h, show (((m + 1 : Nat) : Int) - 1) = ((m : Nat) : Int) by omega]
  exact Int.ofNat_tdiv m 2 |>.symm
theorem atZ_in (t : Tl) (n : Nat) : 0 ≤ atZ t n ∧ atZ t n ≤ (n : Int) := by
  cases h : cnt t.va n with
  | zero => unfold atZ; rw [h]; exact ⟨by decide, by have : Int.tdiv (((0 : Nat) : Int) - 1) 2 = 0 := by decide
                                                     omega⟩
  | succ m => rw [atZ_eq h]; have := cnt_le t.va n; omega
theorem alts_length (t : Tl) (n : Nat) : (alts t n).length = cnt t.va n := by
  induction n with
  | zero => rfl
  | succ n ih => unfold alts cnt; split <;> simp [ih]
theorem alts_count (t : Tl) (q : Int → Bool) (n : Nat) : (alts t n).countP q = cnt (fun j => t.va j && q (t.al j)) n := by
  induction n with
  | zero => rfl
  | succ n ih =>
    unfold alts cnt
    cases h : t.va n
    · simp [ih]
    · cases k : q (t.al n) <;> simp [ih, List.countP_append, k]
theorem alts_mem {t : Tl} {n : Nat} {v : Int} : v ∈ alts t n → ∃ i, i < n ∧ t.va i = true ∧ t.al i = v := by
  induction n with
  | zero => intro h; cases h
  | succ n ih =>
    intro h
    unfold alts at h
    split at h
    · rename_i hv
      rcases List.mem_append.1 h with h | h
      · obtain ⟨i, a, b, c⟩ := ih h; exact ⟨i, by omega, b, c⟩
      · exact ⟨n, by omega, hv, (List.mem_singleton.1 h).symm⟩
    · obtain ⟨i, a, b, c⟩ := ih h; exact ⟨i, by omega, b, c⟩
theorem srt_sorted (l : List Int) : (srt l).Pairwise (fun x y => x ≤ y) := by
  have := List.pairwise_mergeSort (le := fun x y : Int => decide (x ≤ y)) (fun a b c h1 h2 => by simp at *; omega) (fun a b => by simp; omega) l
  exact this.imp (fun h => by simpa using h)
theorem srt_perm (l : List Int) : (srt l).Perm l := List.mergeSort_perm l _
theorem sorted_get {s : List Int} (hs : s.Pairwise (fun x y => x ≤ y)) {i j : Nat} (hij : i ≤ j) (hj : j < s.length) : s[i]'(by omega) ≤ s[j] := by
  rcases Nat.lt_or_eq_of_le hij with h | h
  · exact List.pairwise_iff_getElem.1 hs i j (by omega) hj h
  · subst h; exact Int.le_refl _
/-- At the place m of a sorted row: no more than m are below, and more than m are not above. -/
theorem below_le {s : List Int} (hs : s.Pairwise (fun x y => x ≤ y)) {m : Nat} (hm : m < s.length) (u : Int) : (s.countP (fun x => decide (x < u)) ≤ m ↔ u ≤ s[m]) := by
  have e : s = s.take m ++ s.drop m := (List.take_append_drop m s).symm
  constructor
  · intro h
    refine Classical.byContradiction fun hn => ?_
    have e1 : s = s.take (m + 1) ++ s.drop (m + 1) := (List.take_append_drop (m + 1) s).symm
    have hall : (s.take (m + 1)).countP (fun x => decide (x < u)) = (s.take (m + 1)).length := by
      rw [List.countP_eq_length]
      intro x hx
      obtain ⟨i, hi, rfl⟩ := List.getElem_of_mem hx
      rw [List.length_take] at hi
      have := sorted_get hs (i := i) (j := m) (by omega) hm
      simp only [List.getElem_take, decide_eq_true_eq]
      omega
    have : s.countP (fun x => decide (x < u)) = (s.take (m + 1)).countP (fun x => decide (x < u)) + (s.drop (m + 1)).countP (fun x => decide (x < u)) := by
      rw [← List.countP_append, List.take_append_drop]
    rw [List.length_take] at hall
    omega
  · intro h
    have h0 : (s.drop m).countP (fun x => decide (x < u)) = 0 := by
      rw [List.countP_eq_zero]
      intro x hx
      obtain ⟨i, hi, rfl⟩ := List.getElem_of_mem hx
      rw [List.length_drop] at hi
      have := sorted_get hs (i := m) (j := m + i) (by omega) (by omega)
      simp only [List.getElem_drop, decide_eq_true_eq]
      omega
    have : s.countP (fun x => decide (x < u)) = (s.take m).countP (fun x => decide (x < u)) + (s.drop m).countP (fun x => decide (x < u)) := by
      rw [← List.countP_append, List.take_append_drop]
    have hl := List.countP_le_length (p := fun x => decide (x < u)) (l := s.take m)
    rw [List.length_take] at hl
    omega
theorem upto_lt {s : List Int} (hs : s.Pairwise (fun x y => x ≤ y)) {m : Nat} (hm : m < s.length) (u : Int) : (m < s.countP (fun x => decide (x < u)) + s.countP (fun x => x == u) ↔ s[m] ≤ u) := by
  have e : s.countP (fun x => decide (x < u)) + s.countP (fun x => x == u) = s.countP (fun x => decide (x < u + 1)) := by
    clear hs hm
    induction s with
    | nil => rfl
    | cons a s ih =>
      simp only [List.countP_cons]
      by_cases h1 : a < u
      · have h2 : ¬ a = u := by omega
        have h3 : a < u + 1 := by omega
        simp [h1, h2, h3]; omega
      · by_cases h2 : a = u
        · subst h2
          have h3 : a < a + 1 := by omega
          simp [h3]; omega
        · have h3 : ¬ a < u + 1 := by omega
          simp [h1, h2, h3]; omega
  have k := below_le hs hm (u + 1)
  rw [e]
  constructor
  · intro h
    refine Classical.byContradiction fun hn => ?_
    have := k.2 (by omega)
    omega
  · intro h
    refine Classical.byContradiction fun hn => ?_
    have := k.1 (by omega)
    omega
theorem mid_of {t : Tl} {n i : Nat} (h : alts t n ≠ []) : (midB t n i = true ↔ t.va i = true ∧ t.al i = (mid t n).1) := by
  have hl : cnt t.va n = ((alts t n).length - 1) + 1 := by
    rw [← alts_length]; have := List.length_pos_iff.2 h; omega
  have hm : ((alts t n).length - 1) / 2 < (srt (alts t n)).length := by
    rw [(srt_perm _).length_eq]; have := List.length_pos_iff.2 h; omega
  have hlen : ∀ q : Int → Bool, (srt (alts t n)).countP q = cnt (fun j => t.va j && q (t.al j)) n := fun q => by rw [← alts_count]; exact (srt_perm _).countP_eq _
  have hM : (mid t n).1 = (srt (alts t n))[((alts t n).length - 1) / 2] := by
    unfold mid; rw [if_neg h]; simp [List.getD_eq_getElem?_getD, List.getElem?_eq_getElem hm]
  have a := below_le (srt_sorted (alts t n)) hm (t.al i)
  have b := upto_lt (srt_sorted (alts t n)) hm (t.al i)
  rw [hlen, hlen] at b
  rw [hlen] at a
  rw [← hM] at a b
  unfold midB
  rw [atZ_eq hl]
  simp only [Bool.and_eq_true, decide_eq_true_eq]
  have ea : cnt (lessP t i) n = cnt (fun j => t.va j && decide (t.al j < t.al i)) n := rfl
  have eb : cnt (sameP t i) n = cnt (fun j => t.va j && (t.al j == t.al i)) n := rfl
  rw [ea, eb]
  constructor
  · rintro ⟨h1, h2, h3⟩
    exact ⟨h1, by omega⟩
  · rintro ⟨h1, h2⟩
    exact ⟨h1, by omega, by omega⟩
theorem mid_none {t : Tl} {n : Nat} (h : ∀ i, i < n → midB t n i = false) : mid t n = (0, false) := by
  by_cases he : alts t n = []
  · unfold mid; rw [if_pos he]
  · exfalso
    have hm : ((alts t n).length - 1) / 2 < (srt (alts t n)).length := by
      rw [(srt_perm _).length_eq]; have := List.length_pos_iff.2 he; omega
    have hM : (mid t n).1 = (srt (alts t n))[((alts t n).length - 1) / 2] := by
      unfold mid; rw [if_neg he]; simp [List.getD_eq_getElem?_getD, List.getElem?_eq_getElem hm]
    have : (mid t n).1 ∈ alts t n := by rw [hM]; exact (srt_perm _).mem_iff.1 (List.getElem_mem hm)
    obtain ⟨i, h1, h2, h3⟩ := alts_mem this
    have q := (mid_of (i := i) he).2 ⟨h2, h3⟩
    rw [h i h1] at q
    cases q
theorem alts_mem_of {t : Tl} {n i : Nat} (hi : i < n) (hv : t.va i = true) : t.al i ∈ alts t n := by
  induction n with
  | zero => omega
  | succ n ih =>
    unfold alts
    by_cases e : i = n
    · subst e; rw [if_pos hv]; simp
    · have := ih (by omega)
      split
      · exact List.mem_append_left _ this
      · exact this
theorem mid_hit {t : Tl} {n i : Nat} (hi : i < n) (h : midB t n i = true) : mid t n = (t.al i, true) := by
  have hv : t.va i = true := by unfold midB at h; exact (Bool.and_eq_true_iff.1 h).1
  have he : alts t n ≠ [] := fun e => by have := alts_mem_of hi hv; rw [e] at this; cases this
  have q := (mid_of he).1 h
  unfold mid at q ⊢
  rw [if_neg he] at q ⊢
  rw [q.2]
theorem midB_a {t : Tl} {n i : Nat} (h : t.va i = false) : midB t n i = false := by unfold midB; rw [h]; rfl
theorem midB_b {t : Tl} {n i k : Nat} (E : k = n) (h : decide (((cnt (lessP t i) k : Nat) : Int) ≤ atZ t n) = false) : midB t n i = false := by subst E; unfold midB; rw [h]; simp
theorem midB_c {t : Tl} {n i k : Nat} (E : k = n) (h : decide (atZ t n < ((cnt (lessP t i) k : Nat) : Int) + ((cnt (sameP t i) k : Nat) : Int)) = false) : midB t n i = false := by subst E; unfold midB; rw [h]; simp
theorem midB_y {t : Tl} {n i k : Nat} (E : k = n) (h0 : t.va i = true) (h : decide (((cnt (lessP t i) k : Nat) : Int) ≤ atZ t n) = true) (h' : decide (atZ t n < ((cnt (lessP t i) k : Nat) : Int) + ((cnt (sameP t i) k : Nat) : Int)) = true) : midB t n i = true := by subst E; unfold midB; rw [h0, h, h']; rfl
end Go.Proofs.Ytgapefmkbmopnaa
