/- Walks of the reference's big numbers, fifth part: how two rows of digits stand. -/
import Derived.Test.YtgodfbhjfhdihaaDoorRe
namespace Go.Proofs.YtgodfbhjfhdihaaDoor
open Go.RowKit
attribute [local go_sem] nlt2 nlt3 nlt4 nlt5 nlt6 nlt7 nlt8 nlt9 nlt10 nlt11 nlt12

def hiP (x : Int) (i : Nat) : Nat := x.natAbs / 65536 ^ i
theorem gd_dg (x : Int) (i : Nat) : gd (dg x) i = ((hiP x i % 65536 : Nat) : Int) := digs_getD _ _
theorem hiP_succ (x : Int) (i : Nat) : hiP x i = 65536 * hiP x (i + 1) + hiP x i % 65536 := by
  have : hiP x (i + 1) = hiP x i / 65536 := by unfold hiP; rw [Nat.pow_succ, Nat.div_div_eq_div_mul]
  omega
theorem hiP_top (x : Int) : hiP x (nd x) = 0 := by
  unfold hiP; exact Nat.div_eq_of_lt (digs_lt _)
theorem hiP_zero (x : Int) : hiP x 0 = x.natAbs := by simp [hiP]
theorem hiP_lt {x y : Int} {i : Nat} (h : hiP x i < hiP y i) : x.natAbs < y.natAbs := by
  unfold hiP at h
  exact Nat.lt_of_not_le fun hle => absurd (Nat.div_le_div_right (c := 65536 ^ i) hle) (by omega)
theorem nd_lt_abs {x y : Int} (h : nd x < nd y) : x.natAbs < y.natAbs := Nat.lt_of_not_le fun hle => absurd (nd_mono hle) (by omega)
theorem less_eq {x y : Int} {k : Nat} (h : hiP x (k + 1) = hiP y (k + 1)) (hd : gd (dg x) k = gd (dg y) k) : hiP x k = hiP y k := by
  rw [gd_dg, gd_dg] at hd
  have := hiP_succ x k; have := hiP_succ y k; omega
theorem less_ne {x y : Int} {k : Nat} (h : hiP x (k + 1) = hiP y (k + 1)) (hd : gd (dg x) k ≠ gd (dg y) k) : decide (gd (dg x) k < gd (dg y) k) = decide (x.natAbs < y.natAbs) := by
  have e1 := hiP_succ x k; have e2 := hiP_succ y k
  rw [gd_dg, gd_dg] at hd ⊢
  rw [decide_eq_decide]
  constructor
  · intro hlt; exact hiP_lt (i := k) (by omega)
  · intro hlt
    have : ¬ hiP y k < hiP x k := fun hh => by have := hiP_lt hh; omega
    omega

set_option maxRecDepth 100000 in
set_option maxHeartbeats 2000000 in
theorem ref_less (A B : Option Addr) (c d : Nat) (x y : Int) (w : World) (hA : RB w A c x) (hB : RB w B d y) :
    Calls Tryd.prog 77 #[.slice A (nd x) c, .slice B (nd y) d] w fun e w' => e = .returned (.bool (decide (x.natAbs < y.natAbs))) ∧ Below w.heap.size w w' := by
  have HA := Asd.mk hA
  have HB := Asd.mk hB
  have hlx : nd x ≤ 9223372036854775807 := RS.le hA
  have hly : nd y ≤ 9223372036854775807 := RS.le hB
  clear hA hB
  by_cases h0 : nd x = nd y
  · have HT : Asd (hiP x (nd x) = hiP y (nd x)) := ⟨by rw [hiP_top, h0, hiP_top]⟩
    obtain ⟨n, hn⟩ : ∃ n, n = nd x := ⟨_, rfl⟩
    have HN := Asd.mk hn
    have HNy := Asd.mk (hn.trans h0)
    rw [← h0, ← hn]
    rw [← hn] at HT hlx
    clear h0 hn hly
    go_enter Tryd.func77, Tryd.ntmps77
    go_wp2
    go_loopw [5] (fun v5 wr => ∃ k : Nat, k ≤ n ∧ v5 = .int .i64 (k - 1) ∧ Asd (hiP x k = hiP y k) ∧ Asd (Below w.heap.size w wr)) (fun v5 _ => (intOf v5 + 1).toNat)
    case atStart => exact ⟨n, Nat.le_refl _, rfl, HT, ⟨Below.refl _ _⟩⟩
    case round =>
      obtain ⟨k, hk, rfl, HE, HBw⟩ := hrel
      by_cases hgo : 0 < k
      · obtain ⟨m, rfl⟩ : ∃ m, k = m + 1 := ⟨k - 1, by omega⟩
        rw [show (((m + 1 : Nat) : Int) - 1) = (m : Int) from by omega]
        obtain ⟨b1, rfl, hb1, hc1⟩ := (RS.below HA.out HBw.out).at m (by have := HN.out; unfold nd at this; omega)
        obtain ⟨b2, rfl, hb2, hc2⟩ := (RS.below HB.out HBw.out).at m (by have := HNy.out; unfold nd at this; omega)
        have hm1 : (m : Int) < n := by omega
        have hm0 : (0 : Int) ≤ m := by omega
        by_cases hne : gd (dg x) m = gd (dg y) m
        · have q : (gd (dg x) m != gd (dg y) m) = false := by rw [bne_eq_false_iff_eq]; exact hne
          have HE2 := Asd.mk (less_eq HE.out hne)
          clear hne
          go_wp2_with fail
          go_region_held3 (fun w' => w'.cell? ⟨b1, m, none⟩ = some (.int .u64 (gd (dg x) m)) ∧ w'.cell? ⟨b2, m, none⟩ = some (.int .u64 (gd (dg y) m))) (first | (simp [go_sem]; done) | (simp [go_sem, *]; done)) (fail)
          go_wp2
          go_roundw
          case rel => exact ⟨m, by omega, rfl, HE2, ⟨(by repeat (first | exact Below.refl _ _ | assumption | exact HBw.out | refine bl_alloc ?_ _ | refine bl_drewN ?_ _ | refine bl_drew ?_ | refine bl_set ?_ (by first | (simp; done) | (simp; omega) | (dsimp only; omega)) _ | refine bl_then ?_ (by assumption)))⟩⟩
          case measure => simp [intOf]
        · have q : (gd (dg x) m != gd (dg y) m) = true := bne_iff_ne.2 hne
          have HF := Asd.mk (less_ne HE.out hne)
          clear hne
          go_wp2_with fail
          go_region_held3 (fun w' => w'.cell? ⟨b1, m, none⟩ = some (.int .u64 (gd (dg x) m)) ∧ w'.cell? ⟨b2, m, none⟩ = some (.int .u64 (gd (dg y) m))) (first | (simp [go_sem]; done) | (simp [go_sem, *]; done)) (fail)
          go_wp2
          go_region_held3 (fun w' => w'.cell? ⟨b1, m, none⟩ = some (.int .u64 (gd (dg x) m)) ∧ w'.cell? ⟨b2, m, none⟩ = some (.int .u64 (gd (dg y) m))) (first | (simp [go_sem]; done) | (simp [go_sem, *]; done)) (fail)
          go_wp2
          go_ret
          exact ⟨ret_bool HF.out, (by repeat (first | exact Below.refl _ _ | assumption | exact HBw.out | refine bl_alloc ?_ _ | refine bl_drewN ?_ _ | refine bl_drew ?_ | refine bl_set ?_ (by first | (simp; done) | (simp; omega) | (dsimp only; omega)) _ | refine bl_then ?_ (by assumption)))⟩
      · obtain rfl : k = 0 := by omega
        rw [show (((0 : Nat) : Int) - 1) = -1 from by omega]
        have HF := Asd.mk (show false = decide (x.natAbs < y.natAbs) by have := HE.out; rw [hiP_zero, hiP_zero] at this; rw [eq_comm, decide_eq_false_iff_not]; omega)
        go_wp2
        go_ret
        exact ⟨ret_bool HF.out, HBw.out⟩
  · by_cases h1 : nd x < nd y
    · have HF := Asd.mk (show true = decide (x.natAbs < y.natAbs) from (decide_eq_true (nd_lt_abs h1)).symm)
      have q : ((nd x : Int) != nd y) = true := by rw [bne_iff_ne]; omega
      clear h0
      go_enter Tryd.func77, Tryd.ntmps77
      go_wp2
      go_ret
      exact ⟨ret_bool HF.out, Below.refl _ _⟩
    · have HF := Asd.mk (show false = decide (x.natAbs < y.natAbs) from (decide_eq_false (by have := nd_lt_abs (x := y) (y := x) (by omega); omega)).symm)
      have q : ((nd x : Int) != nd y) = true := by rw [bne_iff_ne]; omega
      clear h0
      go_enter Tryd.func77, Tryd.ntmps77
      go_wp2
      go_ret
      exact ⟨ret_bool HF.out, Below.refl _ _⟩
end Go.Proofs.YtgodfbhjfhdihaaDoor
