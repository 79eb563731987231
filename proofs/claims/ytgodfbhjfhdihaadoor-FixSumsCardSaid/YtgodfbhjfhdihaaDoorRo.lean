/- Walks of the reference's big numbers, thirteenth part: the quotient by any number but 0, rounded down. -/
import Derived.Test.YtgodfbhjfhdihaaDoorRn
namespace Go.Proofs.YtgodfbhjfhdihaaDoor
open Go.RowKit
attribute [local go_sem] nlt2 nlt3 nlt4 nlt5 nlt6 nlt7 nlt8 nlt9 nlt10 nlt11 nlt12

set_option maxRecDepth 100000 in
set_option maxHeartbeats 8000000 in
theorem ref_Div (a b : Int) (A B : Option Addr) (c d : Nat) (hb : b ≠ 0) (ha : nd a ≤ 5000) (hnb : nd b ≤ 5000) (w : World) (hA : RB w A c a) (hB : RB w B d b) :
    Calls Tryd.prog 43 #[.agg #[.bool (sg a), .slice A (nd a) c], .agg #[.bool (sg b), .slice B (nd b) d]] w (BigR w (fl a b)) := by
  have HA := Asd.mk hA
  have HB := Asd.mk hB
  clear hA hB
  cases q : sg b
  · have hn := sg_false.1 q
    have hE : fl a b = a / b := by unfold fl; rw [if_neg hn]
    have hp : 0 < b := by omega
    have HC := Asd.mk (fun W h1 h2 => ref_Down a b A B c d hp ha hnb W h1 h2)
    rw [hE]
    rw [q] at HC
    clear hE hn hp
    go_enter Tryd.func43, Tryd.ntmps43
    go_wp2_with (go_at_call 74; refine (HC.out _ (by exact RB.below HA.out (by repeat (first | exact Below.refl _ _ | assumption | refine bl_alloc ?_ _ | refine bl_drewN ?_ _ | refine bl_drew ?_ | refine bl_set ?_ (by first | (simp; done) | (simp; omega) | (dsimp only; omega)) _ | refine bl_then ?_ (by assumption)))) (by exact RB.below HB.out (by repeat (first | exact Below.refl _ _ | assumption | refine bl_alloc ?_ _ | refine bl_drewN ?_ _ | refine bl_drew ?_ | refine bl_set ?_ (by first | (simp; done) | (simp; omega) | (dsimp only; omega)) _ | refine bl_then ?_ (by assumption))))).mono ?_; rintro e w0 ⟨A1, c1, rfl, hr1, hb0⟩; replace hr1 := Asd.mk hr1; obtain ⟨x0, x1, x2, x3⟩ : Bx w0 (w.heap.size) (.bool (sg a)) (.slice A (nd a) c) := Bx.low hb0 (by first | (simp; done) | (simp; omega)) (by simp (maxDischargeDepth := 9) [Bx, go_sem]); obtain ⟨y0, y1, y2, y3⟩ : Bx w0 (w.heap.size + 1) (.bool false) (.slice B (nd b) d) := Bx.low hb0 (by first | (simp; done) | (simp; omega)) (by simp (maxDischargeDepth := 9) [Bx, go_sem]); obtain ⟨p0, p1, p2, p3⟩ : Bx w0 (w.heap.size + 1 + 1) (.bool false) (.slice none 0 0) := Bx.low hb0 (by first | (simp; done) | (simp; omega)) (by simp (maxDischargeDepth := 9) [Bx, go_sem]); have hz0_2 : w.heap.size + 1 + 1 < w0.heap.size := Nat.lt_of_lt_of_le (by first | (simp; done) | (simp; omega)) hb0.size; have hz0_1 : w.heap.size + 1 < w0.heap.size := (by omega); have hz0_0 : w.heap.size < w0.heap.size := (by omega))
    refine bodyPost_ret (v := .agg #[.bool (sg (a / b)), .slice A1 (nd (a / b)) c1]) (by simp (maxDischargeDepth := 9) [results, Tryd.results43, go_sem, *]) rfl ⟨_, _, rfl, RB.store2 hr1.out p0, (by repeat (first | exact Below.refl _ _ | assumption | refine bl_alloc ?_ _ | refine bl_drewN ?_ _ | refine bl_drew ?_ | refine bl_set ?_ (by first | (simp; done) | (simp; omega) | (dsimp only; omega)) _ | refine bl_then ?_ (by assumption)))⟩
  · have hn := sg_true.1 q
    have hE : fl a b = (-a) / (-b) := by unfold fl; rw [if_pos hn]
    have HP : Asd (0 < -b) := ⟨by omega⟩
    have HT := Asd.mk (fun W h => ref_Turn b B d W h)
    rw [q] at HT
    rw [hE]
    have hna : Asd (nd (-a) ≤ 5000) := ⟨by rw [nd_neg]; exact ha⟩
    have hnbb : Asd (nd (-b) ≤ 5000) := ⟨by rw [nd_neg]; exact hnb⟩
    clear hE hn
    go_enter Tryd.func43, Tryd.ntmps43
    go_wp2
    go_region_held3 (fun w' => w'.cell? ⟨w.heap.size, 0, none⟩ = some (.bool (sg a)) ∧ w'.cell? ⟨w.heap.size, 1, none⟩ = some (.slice A (nd a) c) ∧ w'.cell? ⟨w.heap.size + 1, 0, none⟩ = some (.bool true) ∧ w'.cell? ⟨w.heap.size + 1, 1, none⟩ = some (.slice B (nd b) d))
      (first | (simp [go_sem]; done) | exact ⟨x0, x1, y0, y1⟩ | exact ⟨x4, x5, y4, y5⟩ | exact ⟨x8, x9, y8, y9⟩ | (simp (maxDischargeDepth := 9) [go_sem, *]; done))
      (first
        | (go_at_call 61; refine (ref_Turn a A c _ (by exact RB.below HA.out (by repeat (first | exact Below.refl _ _ | assumption | refine bl_alloc ?_ _ | refine bl_drewN ?_ _ | refine bl_drew ?_ | refine bl_set ?_ (by first | (simp; done) | (simp; omega) | (dsimp only; omega)) _ | refine bl_then ?_ (by assumption))))).mono ?_; rintro e w0 ⟨A1, c1, rfl, hr1, hb0⟩; replace hr1 := Asd.mk hr1; have hrB := Asd.mk (RB.below (RB.below HB.out (by repeat (first | exact Below.refl _ _ | assumption | refine bl_alloc ?_ _ | refine bl_drewN ?_ _ | refine bl_drew ?_ | refine bl_set ?_ (by first | (simp; done) | (simp; omega) | (dsimp only; omega)) _ | refine bl_then ?_ (by assumption)))) hb0); obtain ⟨x0, x1, x2, x3⟩ : Bx w0 (w.heap.size) (.bool (sg a)) (.slice A (nd a) c) := Bx.low hb0 (by first | (simp; done) | (simp; omega)) (by simp (maxDischargeDepth := 9) [Bx, go_sem]); obtain ⟨y0, y1, y2, y3⟩ : Bx w0 (w.heap.size + 1) (.bool true) (.slice B (nd b) d) := Bx.low hb0 (by first | (simp; done) | (simp; omega)) (by simp (maxDischargeDepth := 9) [Bx, go_sem]); obtain ⟨p0, p1, p2, p3⟩ : Bx w0 (w.heap.size + 1 + 1) (.bool false) (.slice none 0 0) := Bx.low hb0 (by first | (simp; done) | (simp; omega)) (by simp (maxDischargeDepth := 9) [Bx, go_sem]); have hz0_2 : w.heap.size + 1 + 1 < w0.heap.size := Nat.lt_of_lt_of_le (by first | (simp; done) | (simp; omega)) hb0.size; have hz0_1 : w.heap.size + 1 < w0.heap.size := (by omega); have hz0_0 : w.heap.size < w0.heap.size := (by omega))
        | (go_at_call 61; refine (HT.out _ (by exact hrB.out)).mono ?_; rintro e w1 ⟨A2, c2, rfl, hr2, hb1⟩; replace hr2 := Asd.mk hr2; have hr1' := Asd.mk (RB.below hr1.out hb1); obtain ⟨x4, x5, x6, x7⟩ := Bx.low hb1 hz0_0 ⟨x0, x1, x2, x3⟩; obtain ⟨y4, y5, y6, y7⟩ := Bx.low hb1 hz0_1 ⟨y0, y1, y2, y3⟩; obtain ⟨p4, p5, p6, p7⟩ := Bx.low hb1 hz0_2 ⟨p0, p1, p2, p3⟩; have hz1_2 : w.heap.size + 1 + 1 < w1.heap.size := Nat.lt_of_lt_of_le hz0_2 hb1.size; have hz1_1 : w.heap.size + 1 < w1.heap.size := (by omega); have hz1_0 : w.heap.size < w1.heap.size := (by omega))
        | (go_at_call 74; refine (ref_Down (-a) (-b) A1 A2 c1 c2 HP.out hna.out hnbb.out _ (by exact hr1'.out) (by exact hr2.out)).mono ?_; rintro e w2 ⟨A3, c3, rfl, hr3, hb2⟩; replace hr3 := Asd.mk hr3; obtain ⟨x8, x9, x10, x11⟩ := Bx.low hb2 hz1_0 ⟨x4, x5, x6, x7⟩; obtain ⟨y8, y9, y10, y11⟩ := Bx.low hb2 hz1_1 ⟨y4, y5, y6, y7⟩; obtain ⟨p8, p9, p10, p11⟩ := Bx.low hb2 hz1_2 ⟨p4, p5, p6, p7⟩; have hz2_2 : w.heap.size + 1 + 1 < w2.heap.size := Nat.lt_of_lt_of_le hz1_2 hb2.size; have hz2_1 : w.heap.size + 1 < w2.heap.size := (by omega); have hz2_0 : w.heap.size < w2.heap.size := (by omega)))
    go_wp2
    refine bodyPost_ret (v := .agg #[.bool (sg ((-a) / (-b))), .slice A3 (nd ((-a) / (-b))) c3]) (by simp (maxDischargeDepth := 9) [results, Tryd.results43, go_sem, *]) rfl ⟨_, _, rfl, RB.store2 hr3.out p8, (by repeat (first | exact Below.refl _ _ | assumption | refine bl_alloc ?_ _ | refine bl_drewN ?_ _ | refine bl_drew ?_ | refine bl_set ?_ (by first | (simp; done) | (simp; omega) | (dsimp only; omega)) _ | refine bl_then ?_ (by assumption)))⟩
end Go.Proofs.YtgodfbhjfhdihaaDoor
