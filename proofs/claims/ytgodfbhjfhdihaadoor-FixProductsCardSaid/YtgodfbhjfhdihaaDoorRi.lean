/- Walks of the reference's big numbers, eighth part: differences; how two stand. -/
import Derived.Test.YtgodfbhjfhdihaaDoorRh
namespace Go.Proofs.YtgodfbhjfhdihaaDoor
open Go.RowKit
attribute [local go_sem] nlt2 nlt3 nlt4 nlt5 nlt6 nlt7 nlt8 nlt9 nlt10 nlt11 nlt12

set_option maxRecDepth 100000 in
set_option maxHeartbeats 6000000 in
theorem ref_Sub (a b : Int) (A B : Option Addr) (c d : Nat) (ha : nd a ≤ 10000) (hb : nd b ≤ 10000) (w : World) (hA : RB w A c a) (hB : RB w B d b) :
    Calls Tryd.prog 47 #[.agg #[.bool (sg a), .slice A (nd a) c], .agg #[.bool (sg b), .slice B (nd b) d]] w (BigR w (a - b)) := by
  have HA := Asd.mk hA
  have HB := Asd.mk hB
  have HE := Asd.mk (show a + -b = a - b by omega)
  have HN : Asd (nd (-b) ≤ 10000) := ⟨by rw [nd_neg]; exact hb⟩
  clear hA hB
  go_enter Tryd.func47, Tryd.ntmps47
  go_wp2
  go_region_held3 (fun w' => w'.cell? ⟨w.heap.size, 0, none⟩ = some (.bool (sg a)) ∧ w'.cell? ⟨w.heap.size, 1, none⟩ = some (.slice A (nd a) c) ∧ w'.cell? ⟨w.heap.size + 1, 0, none⟩ = some (.bool (sg b)) ∧ w'.cell? ⟨w.heap.size + 1, 1, none⟩ = some (.slice B (nd b) d))
    (first | (simp [go_sem]; done) | exact ⟨x0, x1, y0, y1⟩ | exact ⟨x4, x5, y4, y5⟩ | (simp (maxDischargeDepth := 9) [go_sem, *]; done))
    (first
      | (go_at_call 61; refine (ref_Turn b B d _ (by exact RB.below HB.out (by repeat (first | exact Below.refl _ _ | assumption | refine bl_alloc ?_ _ | refine bl_drewN ?_ _ | refine bl_drew ?_ | refine bl_set ?_ (by first | (simp; done) | (simp; omega) | (dsimp only; omega)) _ | refine bl_then ?_ (by assumption))))).mono ?_; rintro e w0 ⟨A1, c1, rfl, hr1, hb0⟩; replace hr1 := Asd.mk hr1; obtain ⟨x0, x1, x2, x3⟩ : Bx w0 (w.heap.size) (.bool (sg a)) (.slice A (nd a) c) := Bx.low hb0 (by first | (simp; done) | (simp; omega)) (by simp (maxDischargeDepth := 9) [Bx, go_sem]); obtain ⟨y0, y1, y2, y3⟩ : Bx w0 (w.heap.size + 1) (.bool (sg b)) (.slice B (nd b) d) := Bx.low hb0 (by first | (simp; done) | (simp; omega)) (by simp (maxDischargeDepth := 9) [Bx, go_sem]); obtain ⟨p0, p1, p2, p3⟩ : Bx w0 (w.heap.size + 1 + 1) (.bool false) (.slice none 0 0) := Bx.low hb0 (by first | (simp; done) | (simp; omega)) (by simp (maxDischargeDepth := 9) [Bx, go_sem]); have hz0_2 : w.heap.size + 1 + 1 < w0.heap.size := Nat.lt_of_lt_of_le (by first | (simp; done) | (simp; omega)) hb0.size; have hz0_1 : w.heap.size + 1 < w0.heap.size := (by omega); have hz0_0 : w.heap.size < w0.heap.size := (by omega))
      | (go_at_call 46; refine (ref_Add a (-b) A A1 c c1 ha HN.out _ (by exact RB.below HA.out (by repeat (first | exact Below.refl _ _ | assumption | refine bl_alloc ?_ _ | refine bl_drewN ?_ _ | refine bl_drew ?_ | refine bl_set ?_ (by first | (simp; done) | (simp; omega) | (dsimp only; omega)) _ | refine bl_then ?_ (by assumption)))) (by exact hr1.out)).mono ?_; rintro e w1 ⟨A2, c2, rfl, hr2, hb1⟩; replace hr2 := Asd.mk hr2; obtain ⟨x4, x5, x6, x7⟩ := Bx.low hb1 hz0_0 ⟨x0, x1, x2, x3⟩; obtain ⟨y4, y5, y6, y7⟩ := Bx.low hb1 hz0_1 ⟨y0, y1, y2, y3⟩; obtain ⟨p4, p5, p6, p7⟩ := Bx.low hb1 hz0_2 ⟨p0, p1, p2, p3⟩; have hz1_2 : w.heap.size + 1 + 1 < w1.heap.size := Nat.lt_of_lt_of_le hz0_2 hb1.size; have hz1_1 : w.heap.size + 1 < w1.heap.size := (by omega); have hz1_0 : w.heap.size < w1.heap.size := (by omega)))
  go_wp2
  rw [← HE.out]
  refine bodyPost_ret (v := .agg #[.bool (sg (a + -b)), .slice A2 (nd (a + -b)) c2]) (by simp (maxDischargeDepth := 9) [results, Tryd.results47, go_sem, *]) rfl ⟨_, _, rfl, RB.store2 hr2.out p4, (by repeat (first | exact Below.refl _ _ | assumption | refine bl_alloc ?_ _ | refine bl_drewN ?_ _ | refine bl_drew ?_ | refine bl_set ?_ (by first | (simp; done) | (simp; omega) | (dsimp only; omega)) _ | refine bl_then ?_ (by assumption)))⟩

def cmpZ (a b : Int) : Int := if a < b then -1 else if a = b then 0 else 1
set_option maxRecDepth 100000 in
set_option maxHeartbeats 6000000 in
theorem ref_Cmp (a b : Int) (A B : Option Addr) (c d : Nat) (ha : nd a ≤ 10000) (hb : nd b ≤ 10000) (w : World) (hA : RB w A c a) (hB : RB w B d b) :
    Calls Tryd.prog 49 #[.agg #[.bool (sg a), .slice A (nd a) c], .agg #[.bool (sg b), .slice B (nd b) d]] w fun e w' => e = .returned (.int .i64 (cmpZ a b)) ∧ Below w.heap.size w w' := by
  have HA := Asd.mk hA
  have HB := Asd.mk hB
  clear hA hB
  cases q1 : sg (a - b)
  · by_cases q2 : nd (a - b) = 0
    · have e : cmpZ a b = 0 := by have := (nd_zero_iff _).1 q2; unfold cmpZ; rw [if_neg (by omega), if_pos (by omega)]
      rw [e]
      clear e
      go_enter Tryd.func49, Tryd.ntmps49
      go_wp2_with (go_at_call 47; refine (ref_Sub a b A B c d ha hb _ (by exact RB.below HA.out (by repeat (first | exact Below.refl _ _ | assumption | refine bl_alloc ?_ _ | refine bl_drewN ?_ _ | refine bl_drew ?_ | refine bl_set ?_ (by first | (simp; done) | (simp; omega) | (dsimp only; omega)) _ | refine bl_then ?_ (by assumption)))) (by exact RB.below HB.out (by repeat (first | exact Below.refl _ _ | assumption | refine bl_alloc ?_ _ | refine bl_drewN ?_ _ | refine bl_drew ?_ | refine bl_set ?_ (by first | (simp; done) | (simp; omega) | (dsimp only; omega)) _ | refine bl_then ?_ (by assumption))))).mono ?_; rintro e w0 ⟨A1, c1, rfl, hr1, hb0⟩; replace hr1 := Asd.mk hr1)
      go_ret
      exact ⟨rfl, (by repeat (first | exact Below.refl _ _ | assumption | refine bl_alloc ?_ _ | refine bl_drewN ?_ _ | refine bl_drew ?_ | refine bl_set ?_ (by first | (simp; done) | (simp; omega) | (dsimp only; omega)) _ | refine bl_then ?_ (by assumption)))⟩
    · have e : cmpZ a b = 1 := by have h1 := sg_false.1 q1; have h2 : a - b ≠ 0 := fun k => q2 ((nd_zero_iff _).2 k); unfold cmpZ; rw [if_neg (by omega), if_neg (by omega)]
      have q3 : 0 < nd (a - b) := by omega
      rw [e]
      clear e q2
      go_enter Tryd.func49, Tryd.ntmps49
      go_wp2_with (go_at_call 47; refine (ref_Sub a b A B c d ha hb _ (by exact RB.below HA.out (by repeat (first | exact Below.refl _ _ | assumption | refine bl_alloc ?_ _ | refine bl_drewN ?_ _ | refine bl_drew ?_ | refine bl_set ?_ (by first | (simp; done) | (simp; omega) | (dsimp only; omega)) _ | refine bl_then ?_ (by assumption)))) (by exact RB.below HB.out (by repeat (first | exact Below.refl _ _ | assumption | refine bl_alloc ?_ _ | refine bl_drewN ?_ _ | refine bl_drew ?_ | refine bl_set ?_ (by first | (simp; done) | (simp; omega) | (dsimp only; omega)) _ | refine bl_then ?_ (by assumption))))).mono ?_; rintro e w0 ⟨A1, c1, rfl, hr1, hb0⟩; replace hr1 := Asd.mk hr1)
      go_ret
      exact ⟨rfl, (by repeat (first | exact Below.refl _ _ | assumption | refine bl_alloc ?_ _ | refine bl_drewN ?_ _ | refine bl_drew ?_ | refine bl_set ?_ (by first | (simp; done) | (simp; omega) | (dsimp only; omega)) _ | refine bl_then ?_ (by assumption)))⟩
  · have e : cmpZ a b = -1 := by have h1 := sg_true.1 q1; unfold cmpZ; rw [if_pos (by omega)]
    rw [e]
    clear e
    go_enter Tryd.func49, Tryd.ntmps49
    go_wp2_with (go_at_call 47; refine (ref_Sub a b A B c d ha hb _ (by exact RB.below HA.out (by repeat (first | exact Below.refl _ _ | assumption | refine bl_alloc ?_ _ | refine bl_drewN ?_ _ | refine bl_drew ?_ | refine bl_set ?_ (by first | (simp; done) | (simp; omega) | (dsimp only; omega)) _ | refine bl_then ?_ (by assumption)))) (by exact RB.below HB.out (by repeat (first | exact Below.refl _ _ | assumption | refine bl_alloc ?_ _ | refine bl_drewN ?_ _ | refine bl_drew ?_ | refine bl_set ?_ (by first | (simp; done) | (simp; omega) | (dsimp only; omega)) _ | refine bl_then ?_ (by assumption))))).mono ?_; rintro e w0 ⟨A1, c1, rfl, hr1, hb0⟩; replace hr1 := Asd.mk hr1)
    go_ret
    exact ⟨rfl, (by repeat (first | exact Below.refl _ _ | assumption | refine bl_alloc ?_ _ | refine bl_drewN ?_ _ | refine bl_drew ?_ | refine bl_set ?_ (by first | (simp; done) | (simp; omega) | (dsimp only; omega)) _ | refine bl_then ?_ (by assumption)))⟩
end Go.Proofs.YtgodfbhjfhdihaaDoor
