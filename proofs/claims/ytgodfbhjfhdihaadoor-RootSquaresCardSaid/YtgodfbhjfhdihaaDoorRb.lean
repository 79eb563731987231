/- Walks of the reference's big numbers, first part: digits read. -/
import Derived.Test.YtgodfbhjfhdihaaDoorRs
namespace Go.Proofs.YtgodfbhjfhdihaaDoor
open Go.RowKit
attribute [local go_sem] nlt2 nlt3 nlt4 nlt5 nlt6 nlt7 nlt8 nlt9 nlt10 nlt11 nlt12

set_option maxHeartbeats 1000000 in
theorem ref_digit (A : Option Addr) (c : Nat) (xs : List Int) (i : Nat) (w : World) (h : RS w A c xs) :
    Calls Tryd.prog 83 #[.slice A xs.length c, .int .i64 i] w fun e w' => e = .returned (.int .u64 (gd xs i)) ∧ w = w' := by
  have hl := h.le
  by_cases hi : i < xs.length
  · obtain ⟨b, rfl, hb, hc⟩ := h.at i hi
    clear h
    go_enter Tryd.func83, Tryd.ntmps83
    go_wp2
    go_ret
    exact ⟨rfl, rfl⟩
  · have e : gd xs i = 0 := gd_beyond (by omega)
    rw [e]
    clear e h
    go_enter Tryd.func83, Tryd.ntmps83
    go_wp2
    go_ret
    exact ⟨rfl, rfl⟩

set_option maxHeartbeats 2000000 in
theorem ref_cut_len (neg : Bool) (A : Option Addr) (c : Nat) (xs : List Int) (L : Nat) (t2 : L ≤ xs.length) (t3 : ∀ i, L ≤ i → gd xs i = 0) (t4 : 0 < L → gd xs (L - 1) ≠ 0) (w : World) (h : RS w A c xs) :
    Calls Tryd.prog 75 #[.bool neg, .slice A xs.length c] w fun e w' =>
      e = .returned (.agg #[.bool (neg && decide (0 < L)), .slice A L c]) ∧ Below w.heap.size w w' := by
  have hl := h.le
  have hc1 := h.1
  have hc2 := h.2.1
  have HT3 := Asd.mk t3
  have HT4 := Asd.mk t4
  have HR := Asd.mk h
  clear t3 t4 h
  cases L with
  | zero =>
    simp only [Nat.lt_irrefl, decide_false, Bool.and_false]
    cases neg
    all_goals (
      go_enter Tryd.func75, Tryd.ntmps75
      go_wp2
      go_loop [5] (fun v => ∃ k : Nat, k ≤ xs.length ∧ v = .int .i64 k) (fun v => (intOf v).toNat)
      case atStart => exact ⟨xs.length, Nat.le_refl _, rfl⟩
      case round =>
        obtain ⟨k, hk2, rfl⟩ := hrel
        by_cases hlt : 0 < k
        · obtain ⟨m, rfl⟩ : ∃ m, k = m + 1 := ⟨k - 1, by omega⟩
          obtain ⟨b, rfl, hb, hc⟩ := HR.out.at m (by omega)
          have hz : gd xs m = 0 := HT3.out m (by omega)
          rw [hz] at hc
          clear hz
          go_wp2
          go_round
          case rel => exact ⟨m, by omega, rfl⟩
          case measure => simp [intOf]
        · obtain rfl : k = 0 := by omega
          go_wp2
          refine bodyPost_ret (v := .agg #[.bool false, .slice A 0 c]) (by simp (maxDischargeDepth := 9) [results, Tryd.results75, go_sem, *]) rfl ⟨rfl, (by repeat (first | exact Below.refl _ _ | assumption | refine bl_alloc ?_ _ | refine bl_drewN ?_ _ | refine bl_drew ?_ | refine bl_set ?_ (by first | (simp; done) | (simp; omega) | (dsimp only; omega)) _ | refine bl_then ?_ (by assumption)))⟩)
  | succ L =>
    have e1 : (neg && decide (0 < L + 1)) = neg := by simp
    rw [e1]
    clear e1
    obtain ⟨b, rfl, hb, hcL⟩ := HR.out.at L (by omega)
    have hnz : (gd xs L == 0) = false := beq_eq_false_iff_ne.2 (HT4.out (by omega))
    cases neg
    all_goals (
      go_enter Tryd.func75, Tryd.ntmps75
      go_wp2
      go_loop [5] (fun v => ∃ k : Nat, L + 1 ≤ k ∧ k ≤ xs.length ∧ v = .int .i64 k) (fun v => (intOf v).toNat)
      case atStart => exact ⟨xs.length, t2, Nat.le_refl _, rfl⟩
      case round =>
        obtain ⟨k, hk1, hk2, rfl⟩ := hrel
        by_cases hlt : L + 1 < k
        · obtain ⟨m, rfl⟩ : ∃ m, k = m + 1 := ⟨k - 1, by omega⟩
          obtain ⟨b', e, hb', hc⟩ := HR.out.at m (by omega)
          cases e
          have hz : gd xs m = 0 := HT3.out m (by omega)
          rw [hz] at hc
          clear hz
          go_wp2
          go_round
          case rel => exact ⟨m, by omega, by omega, rfl⟩
          case measure => simp [intOf]
        · obtain rfl : k = L + 1 := by omega
          go_wp2
          first
            | (refine bodyPost_ret (v := .agg #[.bool false, .slice (some ⟨b, 0, none⟩) (L + 1) c]) (by simp (maxDischargeDepth := 9) [results, Tryd.results75, go_sem, *]) rfl ⟨rfl, (by repeat (first | exact Below.refl _ _ | assumption | refine bl_alloc ?_ _ | refine bl_drewN ?_ _ | refine bl_drew ?_ | refine bl_set ?_ (by first | (simp; done) | (simp; omega) | (dsimp only; omega)) _ | refine bl_then ?_ (by assumption)))⟩; done)
            | (refine bodyPost_ret (v := .agg #[.bool true, .slice (some ⟨b, 0, none⟩) (L + 1) c]) (by simp (maxDischargeDepth := 9) [results, Tryd.results75, go_sem, *]) rfl ⟨rfl, (by repeat (first | exact Below.refl _ _ | assumption | refine bl_alloc ?_ _ | refine bl_drewN ?_ _ | refine bl_drew ?_ | refine bl_set ?_ (by first | (simp; done) | (simp; omega) | (dsimp only; omega)) _ | refine bl_then ?_ (by assumption)))⟩; done))

/-- What is cut is a big number. -/
theorem ref_cut (neg : Bool) (A : Option Addr) (c : Nat) (xs : List Int) (z : Int) (hd : Dg xs) (hz : z = if neg then -vald xs else vald xs) (w : World) (h : RS w A c xs) :
    Calls Tryd.prog 75 #[.bool neg, .slice A xs.length c] w fun e w' =>
      e = .returned (.agg #[.bool (decide (z < 0)), .slice A (nd z) c]) ∧ RB w' A c z ∧ Below w.heap.size w w' := by
  obtain ⟨t1, t2, t3, t4⟩ := digs_take hd
  have hv := vald_nonneg hd
  have hdz : dg z = digs (vald xs).toNat := by
    unfold dg; congr 1; rw [hz]; split <;> omega
  have hL : nd z = (digs (vald xs).toNat).length := by unfold nd; rw [hdz]
  have hneg : (neg && decide (0 < nd z)) = decide (z < 0) := by
    have h0 := nd_zero_iff z
    rw [Bool.eq_iff_iff]
    simp only [Bool.and_eq_true, decide_eq_true_eq]
    constructor
    · rintro ⟨h1, h2⟩; rw [if_pos h1] at hz; have : z ≠ 0 := fun k => by have := h0.2 k; omega
      omega
    · intro h1
      cases hn : neg
      · rw [hn] at hz; simp at hz; omega
      · exact ⟨rfl, by have : nd z ≠ 0 := fun k => by have := h0.1 k; omega
                       omega⟩
  refine (ref_cut_len neg A c xs (nd z) (by rw [hL]; exact t2) (fun i hi => t3 i (by rw [← hL]; exact hi)) (fun h0 => by rw [hL] at h0 ⊢; exact t4 h0) w h).mono ?_
  rintro e w' ⟨rfl, hb⟩
  refine ⟨by rw [hneg], RS.below (RS.front h ?_ ?_) hb, hb⟩
  · rw [hdz]; exact t2
  · intro i hi
    rw [hdz] at hi ⊢
    have := congrArg (fun l => gd l i) t1
    rw [← this]
    unfold gd
    rw [List.getD_eq_getElem?_getD, List.getD_eq_getElem?_getD, List.getElem?_take, if_pos hi]
end Go.Proofs.YtgodfbhjfhdihaaDoor
