/- Walks of the reference's big numbers, seventh part: sums. -/
import Derived.Test.YtgodfbhjfhdihaaDoorRg
namespace Go.Proofs.YtgodfbhjfhdihaaDoor
open Go.RowKit
attribute [local go_sem] nlt2 nlt3 nlt4 nlt5 nlt6 nlt7 nlt8 nlt9 nlt10 nlt11 nlt12

theorem add_same {a b s : Int} (h : sg a = sg b) (hs : s = vald (dg a) + vald (dg b)) : a + b = if sg a then -s else s := by
  rw [vald_dg, vald_dg] at hs
  cases h1 : sg a
  · have k1 := sg_false.1 h1; have k2 := sg_false.1 (h ▸ h1); simp; omega
  · have k1 := sg_true.1 h1; have k2 := sg_true.1 (h ▸ h1); simp; omega
theorem add_less {a b s : Int} (h : sg a = !sg b) (hs : s = vald (dg b) - vald (dg a)) : a + b = if sg b then -s else s := by
  rw [vald_dg, vald_dg] at hs
  cases h1 : sg b
  · rw [h1] at h; have k1 := sg_false.1 h1; have k2 := sg_true.1 h; simp; omega
  · rw [h1] at h; have k1 := sg_true.1 h1; have k2 := sg_false.1 h; simp; omega
theorem add_more {a b s : Int} (h : sg a = !sg b) (hs : s = vald (dg a) - vald (dg b)) : a + b = if sg a then -s else s := by
  rw [vald_dg, vald_dg] at hs
  cases h1 : sg b
  · rw [h1] at h; have k1 := sg_false.1 h1; have k2 := sg_true.1 h; rw [h]; simp; omega
  · rw [h1] at h; have k1 := sg_true.1 h1; have k2 := sg_false.1 h; rw [h]; simp; omega

set_option maxRecDepth 100000 in
set_option maxHeartbeats 4000000 in
theorem ref_Add_same (a b : Int) (A B : Option Addr) (c d : Nat) (hs : sg a = sg b) (ha : nd a ≤ 10000) (hb : nd b ≤ 10000) (w : World) (hA : RB w A c a) (hB : RB w B d b) :
    Calls Tryd.prog 46 #[.agg #[.bool (sg a), .slice A (nd a) c], .agg #[.bool (sg b), .slice B (nd b) d]] w (BigR w (a + b)) := by
  have HA := Asd.mk hA
  have HB := Asd.mk hB
  have HS := Asd.mk hs
  have q : (sg a == sg b) = true := beq_iff_eq.2 hs
  clear hA hB hs
  go_enter Tryd.func46, Tryd.ntmps46
  go_wp2
  go_region_held3 (fun w' => w'.cell? ⟨w.heap.size, 0, none⟩ = some (.bool (sg a)) ∧ w'.cell? ⟨w.heap.size, 1, none⟩ = some (.slice A (nd a) c) ∧ w'.cell? ⟨w.heap.size + 1, 0, none⟩ = some (.bool (sg b)) ∧ w'.cell? ⟨w.heap.size + 1, 1, none⟩ = some (.slice B (nd b) d))
    (first | (simp [go_sem]; done) | (simp (maxDischargeDepth := 9) [go_sem, *]; done))
    (first
      | (go_at_call 76; refine (ref_sum A B c d (dg a) (dg b) (dg_Dg a) (dg_Dg b) (by show nd a ≤ _; omega) (by show nd b ≤ _; omega) _ (by exact RS.below HA.out (by repeat (first | exact Below.refl _ _ | assumption | refine bl_alloc ?_ _ | refine bl_drewN ?_ _ | refine bl_drew ?_ | refine bl_set ?_ (by first | (simp; done) | (simp; omega) | (dsimp only; omega)) _ | refine bl_then ?_ (by assumption)))) (by exact RS.below HB.out (by repeat (first | exact Below.refl _ _ | assumption | refine bl_alloc ?_ _ | refine bl_drewN ?_ _ | refine bl_drew ?_ | refine bl_set ?_ (by first | (simp; done) | (simp; omega) | (dsimp only; omega)) _ | refine bl_then ?_ (by assumption))))).mono ?_; rintro e w1 ⟨out, A1, c1, rfl, hr1, hd1, hv1, hl1, hb1⟩; replace hr1 := Asd.mk hr1; replace hv1 := Asd.mk hv1; replace hl1 := Asd.mk hl1; obtain ⟨p0, p1, p2, p3⟩ : Bx w1 (w.heap.size + 1 + 1) (.bool false) (.slice none 0 0) := Bx.low hb1 (by first | (simp; done) | (simp; omega) | (simp [go_sem]; done) | (simp [go_sem]; omega) | omega) (by simp (maxDischargeDepth := 9) [Bx, go_sem, *]); obtain ⟨hc1, hf1⟩ := bcell hb1; have hz1_0 : w.heap.size < w1.heap.size := Nat.lt_of_lt_of_le (by first | (simp; done) | (simp; omega) | (simp [go_sem]; done) | (simp [go_sem]; omega) | omega) hb1.size; have hz1_1 : w.heap.size + 1 < w1.heap.size := Nat.lt_of_lt_of_le (by first | (simp; done) | (simp; omega) | (simp [go_sem]; done) | (simp [go_sem]; omega) | omega) hb1.size; have hz1_2 : w.heap.size + 1 + 1 < w1.heap.size := Nat.lt_of_lt_of_le (by first | (simp; done) | (simp; omega) | (simp [go_sem]; done) | (simp [go_sem]; omega) | omega) hb1.size)
      | (go_at_call 75; refine (ref_cutB (sg a) A1 c1 out (a + b) hd1 (add_same HS.out hv1.out) _ (by exact hr1.out)).mono ?_; rintro e w2 ⟨rfl, hr2, hb2⟩; replace hr2 := Asd.mk hr2; obtain ⟨q0, q1, q2, q3⟩ : Bx w2 (w.heap.size + 1 + 1) (.bool false) (.slice none 0 0) := Bx.low hb2 (by first | (simp; done) | (simp; omega) | (simp [go_sem]; done) | (simp [go_sem]; omega) | omega) (by simp (maxDischargeDepth := 9) [Bx, go_sem, *]); obtain ⟨hc2, hf2⟩ := bcell hb2; have hz2_0 : w.heap.size < w2.heap.size := Nat.lt_of_lt_of_le (by first | (simp; done) | (simp; omega) | (simp [go_sem]; done) | (simp [go_sem]; omega) | omega) hb2.size; have hz2_1 : w.heap.size + 1 < w2.heap.size := Nat.lt_of_lt_of_le (by first | (simp; done) | (simp; omega) | (simp [go_sem]; done) | (simp [go_sem]; omega) | omega) hb2.size; have hz2_2 : w.heap.size + 1 + 1 < w2.heap.size := Nat.lt_of_lt_of_le (by first | (simp; done) | (simp; omega) | (simp [go_sem]; done) | (simp [go_sem]; omega) | omega) hb2.size))
  go_wp2
  refine bodyPost_ret (v := .agg #[.bool (sg (a + b)), .slice A1 (nd (a + b)) c1]) (by simp (maxDischargeDepth := 9) [results, Tryd.results46, go_sem, *]) rfl ⟨_, _, rfl, RB.store2 hr2.out q0, (by repeat (first | exact Below.refl _ _ | assumption | refine bl_alloc ?_ _ | refine bl_drewN ?_ _ | refine bl_drew ?_ | refine bl_set ?_ (by first | (simp; done) | (simp; omega) | (dsimp only; omega)) _ | refine bl_then ?_ (by assumption)))⟩

set_option maxRecDepth 100000 in
set_option maxHeartbeats 6000000 in
theorem ref_Add_less (a b : Int) (A B : Option Addr) (c d : Nat) (hs : sg a = !sg b) (hl : a.natAbs < b.natAbs) (_ha : nd a ≤ 10000) (hb : nd b ≤ 10000) (w : World) (hA : RB w A c a) (hB : RB w B d b) :
    Calls Tryd.prog 46 #[.agg #[.bool (sg a), .slice A (nd a) c], .agg #[.bool (sg b), .slice B (nd b) d]] w (BigR w (a + b)) := by
  have HA := Asd.mk hA
  have HB := Asd.mk hB
  have HS := Asd.mk hs
  have HL := Asd.mk hl
  have q : (sg a == sg b) = false := by rw [hs]; cases sg b <;> rfl
  have q2 : decide (a.natAbs < b.natAbs) = true := decide_eq_true hl
  have HLE : Asd (nd a ≤ nd b) := ⟨nd_mono (by omega)⟩
  clear hA hB hs hl
  go_enter Tryd.func46, Tryd.ntmps46
  go_wp2_with (go_at_call 77; refine (ref_less A B c d a b _ (by exact RB.below HA.out (by repeat (first | exact Below.refl _ _ | assumption | refine bl_alloc ?_ _ | refine bl_drewN ?_ _ | refine bl_drew ?_ | refine bl_set ?_ (by first | (simp; done) | (simp; omega) | (dsimp only; omega)) _ | refine bl_then ?_ (by assumption)))) (by exact RB.below HB.out (by repeat (first | exact Below.refl _ _ | assumption | refine bl_alloc ?_ _ | refine bl_drewN ?_ _ | refine bl_drew ?_ | refine bl_set ?_ (by first | (simp; done) | (simp; omega) | (dsimp only; omega)) _ | refine bl_then ?_ (by assumption))))).mono ?_; rintro e w0 ⟨rfl, hb0⟩; rw [q2]; obtain ⟨x0, x1, x2, x3⟩ : Bx w0 (w.heap.size) (.bool (sg a)) (.slice A (nd a) c) := Bx.low hb0 (by first | (simp; done) | (simp; omega)) (by simp (maxDischargeDepth := 9) [Bx, go_sem]); obtain ⟨y0, y1, y2, y3⟩ : Bx w0 (w.heap.size + 1) (.bool (sg b)) (.slice B (nd b) d) := Bx.low hb0 (by first | (simp; done) | (simp; omega)) (by simp (maxDischargeDepth := 9) [Bx, go_sem]); obtain ⟨p0, p1, p2, p3⟩ : Bx w0 (w.heap.size + 1 + 1) (.bool false) (.slice none 0 0) := Bx.low hb0 (by first | (simp; done) | (simp; omega)) (by simp (maxDischargeDepth := 9) [Bx, go_sem]); have hz0_2 : w.heap.size + 1 + 1 < w0.heap.size := Nat.lt_of_lt_of_le (by first | (simp; done) | (simp; omega)) hb0.size; have hz0_1 : w.heap.size + 1 < w0.heap.size := (by omega); have hz0_0 : w.heap.size < w0.heap.size := (by omega))
  clear q2
  go_region_held3 (fun w' => w'.cell? ⟨w.heap.size, 0, none⟩ = some (.bool (sg a)) ∧ w'.cell? ⟨w.heap.size, 1, none⟩ = some (.slice A (nd a) c) ∧ w'.cell? ⟨w.heap.size + 1, 0, none⟩ = some (.bool (sg b)) ∧ w'.cell? ⟨w.heap.size + 1, 1, none⟩ = some (.slice B (nd b) d))
    (first | exact ⟨x0, x1, y0, y1⟩ | exact ⟨x4, x5, y4, y5⟩ | exact ⟨x8, x9, y8, y9⟩ | (simp (maxDischargeDepth := 9) [go_sem, *]; done))
    (first
      | (go_at_call 78; refine (ref_rest B A d c (dg b) (dg a) (dg_Dg b) (dg_Dg a) (by show nd b ≤ _; omega) (by exact HLE.out) (by have := HL.out; rw [vald_dg, vald_dg]; omega) _ (by exact RS.below HB.out (by repeat (first | exact Below.refl _ _ | assumption | refine bl_alloc ?_ _ | refine bl_drewN ?_ _ | refine bl_drew ?_ | refine bl_set ?_ (by first | (simp; done) | (simp; omega) | (dsimp only; omega)) _ | refine bl_then ?_ (by assumption)))) (by exact RS.below HA.out (by repeat (first | exact Below.refl _ _ | assumption | refine bl_alloc ?_ _ | refine bl_drewN ?_ _ | refine bl_drew ?_ | refine bl_set ?_ (by first | (simp; done) | (simp; omega) | (dsimp only; omega)) _ | refine bl_then ?_ (by assumption))))).mono ?_; rintro e w1 ⟨out, A1, c1, rfl, hr1, hd1, hv1, hl1, hb1⟩; replace hr1 := Asd.mk hr1; replace hv1 := Asd.mk hv1; replace hl1 := Asd.mk hl1; obtain ⟨x4, x5, x6, x7⟩ := Bx.low hb1 hz0_0 ⟨x0, x1, x2, x3⟩; obtain ⟨y4, y5, y6, y7⟩ := Bx.low hb1 hz0_1 ⟨y0, y1, y2, y3⟩; obtain ⟨p4, p5, p6, p7⟩ := Bx.low hb1 hz0_2 ⟨p0, p1, p2, p3⟩; have hz1_2 : w.heap.size + 1 + 1 < w1.heap.size := Nat.lt_of_lt_of_le hz0_2 hb1.size; have hz1_1 : w.heap.size + 1 < w1.heap.size := (by omega); have hz1_0 : w.heap.size < w1.heap.size := (by omega))
      | (go_at_call 75; refine (ref_cutB (sg b) A1 c1 out (a + b) hd1 (add_less HS.out hv1.out) _ (by exact hr1.out)).mono ?_; rintro e w2 ⟨rfl, hr2, hb2⟩; replace hr2 := Asd.mk hr2; obtain ⟨x8, x9, x10, x11⟩ := Bx.low hb2 hz1_0 ⟨x4, x5, x6, x7⟩; obtain ⟨y8, y9, y10, y11⟩ := Bx.low hb2 hz1_1 ⟨y4, y5, y6, y7⟩; obtain ⟨p8, p9, p10, p11⟩ := Bx.low hb2 hz1_2 ⟨p4, p5, p6, p7⟩; have hz2_2 : w.heap.size + 1 + 1 < w2.heap.size := Nat.lt_of_lt_of_le hz1_2 hb2.size; have hz2_1 : w.heap.size + 1 < w2.heap.size := (by omega); have hz2_0 : w.heap.size < w2.heap.size := (by omega)))
  go_wp2
  refine bodyPost_ret (v := .agg #[.bool (sg (a + b)), .slice A1 (nd (a + b)) c1]) (by simp (maxDischargeDepth := 9) [results, Tryd.results46, go_sem, *]) rfl ⟨_, _, rfl, RB.store2 hr2.out p8, (by repeat (first | exact Below.refl _ _ | assumption | refine bl_alloc ?_ _ | refine bl_drewN ?_ _ | refine bl_drew ?_ | refine bl_set ?_ (by first | (simp; done) | (simp; omega) | (dsimp only; omega)) _ | refine bl_then ?_ (by assumption)))⟩

set_option maxRecDepth 100000 in
set_option maxHeartbeats 6000000 in
theorem ref_Add_more (a b : Int) (A B : Option Addr) (c d : Nat) (hs : sg a = !sg b) (hl : ¬ a.natAbs < b.natAbs) (ha : nd a ≤ 10000) (_hb : nd b ≤ 10000) (w : World) (hA : RB w A c a) (hB : RB w B d b) :
    Calls Tryd.prog 46 #[.agg #[.bool (sg a), .slice A (nd a) c], .agg #[.bool (sg b), .slice B (nd b) d]] w (BigR w (a + b)) := by
  have HA := Asd.mk hA
  have HB := Asd.mk hB
  have HS := Asd.mk hs
  have HL := Asd.mk hl
  have q : (sg a == sg b) = false := by rw [hs]; cases sg b <;> rfl
  have q2 : decide (a.natAbs < b.natAbs) = false := decide_eq_false hl
  have HLE : Asd (nd b ≤ nd a) := ⟨nd_mono (by omega)⟩
  clear hA hB hs hl
  go_enter Tryd.func46, Tryd.ntmps46
  go_wp2_with (go_at_call 77; refine (ref_less A B c d a b _ (by exact RB.below HA.out (by repeat (first | exact Below.refl _ _ | assumption | refine bl_alloc ?_ _ | refine bl_drewN ?_ _ | refine bl_drew ?_ | refine bl_set ?_ (by first | (simp; done) | (simp; omega) | (dsimp only; omega)) _ | refine bl_then ?_ (by assumption)))) (by exact RB.below HB.out (by repeat (first | exact Below.refl _ _ | assumption | refine bl_alloc ?_ _ | refine bl_drewN ?_ _ | refine bl_drew ?_ | refine bl_set ?_ (by first | (simp; done) | (simp; omega) | (dsimp only; omega)) _ | refine bl_then ?_ (by assumption))))).mono ?_; rintro e w0 ⟨rfl, hb0⟩; rw [q2]; obtain ⟨x0, x1, x2, x3⟩ : Bx w0 (w.heap.size) (.bool (sg a)) (.slice A (nd a) c) := Bx.low hb0 (by first | (simp; done) | (simp; omega)) (by simp (maxDischargeDepth := 9) [Bx, go_sem]); obtain ⟨y0, y1, y2, y3⟩ : Bx w0 (w.heap.size + 1) (.bool (sg b)) (.slice B (nd b) d) := Bx.low hb0 (by first | (simp; done) | (simp; omega)) (by simp (maxDischargeDepth := 9) [Bx, go_sem]); obtain ⟨p0, p1, p2, p3⟩ : Bx w0 (w.heap.size + 1 + 1) (.bool false) (.slice none 0 0) := Bx.low hb0 (by first | (simp; done) | (simp; omega)) (by simp (maxDischargeDepth := 9) [Bx, go_sem]); have hz0_2 : w.heap.size + 1 + 1 < w0.heap.size := Nat.lt_of_lt_of_le (by first | (simp; done) | (simp; omega)) hb0.size; have hz0_1 : w.heap.size + 1 < w0.heap.size := (by omega); have hz0_0 : w.heap.size < w0.heap.size := (by omega))
  clear q2
  go_region_held3 (fun w' => w'.cell? ⟨w.heap.size, 0, none⟩ = some (.bool (sg a)) ∧ w'.cell? ⟨w.heap.size, 1, none⟩ = some (.slice A (nd a) c) ∧ w'.cell? ⟨w.heap.size + 1, 0, none⟩ = some (.bool (sg b)) ∧ w'.cell? ⟨w.heap.size + 1, 1, none⟩ = some (.slice B (nd b) d))
    (first | exact ⟨x0, x1, y0, y1⟩ | exact ⟨x4, x5, y4, y5⟩ | exact ⟨x8, x9, y8, y9⟩ | (simp (maxDischargeDepth := 9) [go_sem, *]; done))
    (first
      | (go_at_call 78; refine (ref_rest A B c d (dg a) (dg b) (dg_Dg a) (dg_Dg b) (by show nd a ≤ _; omega) (by exact HLE.out) (by have := HL.out; rw [vald_dg, vald_dg]; omega) _ (by exact RS.below HA.out (by repeat (first | exact Below.refl _ _ | assumption | refine bl_alloc ?_ _ | refine bl_drewN ?_ _ | refine bl_drew ?_ | refine bl_set ?_ (by first | (simp; done) | (simp; omega) | (dsimp only; omega)) _ | refine bl_then ?_ (by assumption)))) (by exact RS.below HB.out (by repeat (first | exact Below.refl _ _ | assumption | refine bl_alloc ?_ _ | refine bl_drewN ?_ _ | refine bl_drew ?_ | refine bl_set ?_ (by first | (simp; done) | (simp; omega) | (dsimp only; omega)) _ | refine bl_then ?_ (by assumption))))).mono ?_; rintro e w1 ⟨out, A1, c1, rfl, hr1, hd1, hv1, hl1, hb1⟩; replace hr1 := Asd.mk hr1; replace hv1 := Asd.mk hv1; replace hl1 := Asd.mk hl1; obtain ⟨x4, x5, x6, x7⟩ := Bx.low hb1 hz0_0 ⟨x0, x1, x2, x3⟩; obtain ⟨y4, y5, y6, y7⟩ := Bx.low hb1 hz0_1 ⟨y0, y1, y2, y3⟩; obtain ⟨p4, p5, p6, p7⟩ := Bx.low hb1 hz0_2 ⟨p0, p1, p2, p3⟩; have hz1_2 : w.heap.size + 1 + 1 < w1.heap.size := Nat.lt_of_lt_of_le hz0_2 hb1.size; have hz1_1 : w.heap.size + 1 < w1.heap.size := (by omega); have hz1_0 : w.heap.size < w1.heap.size := (by omega))
      | (go_at_call 75; refine (ref_cutB (sg a) A1 c1 out (a + b) hd1 (add_more HS.out hv1.out) _ (by exact hr1.out)).mono ?_; rintro e w2 ⟨rfl, hr2, hb2⟩; replace hr2 := Asd.mk hr2; obtain ⟨x8, x9, x10, x11⟩ := Bx.low hb2 hz1_0 ⟨x4, x5, x6, x7⟩; obtain ⟨y8, y9, y10, y11⟩ := Bx.low hb2 hz1_1 ⟨y4, y5, y6, y7⟩; obtain ⟨p8, p9, p10, p11⟩ := Bx.low hb2 hz1_2 ⟨p4, p5, p6, p7⟩; have hz2_2 : w.heap.size + 1 + 1 < w2.heap.size := Nat.lt_of_lt_of_le hz1_2 hb2.size; have hz2_1 : w.heap.size + 1 < w2.heap.size := (by omega); have hz2_0 : w.heap.size < w2.heap.size := (by omega)))
  go_wp2
  refine bodyPost_ret (v := .agg #[.bool (sg (a + b)), .slice A1 (nd (a + b)) c1]) (by simp (maxDischargeDepth := 9) [results, Tryd.results46, go_sem, *]) rfl ⟨_, _, rfl, RB.store2 hr2.out p8, (by repeat (first | exact Below.refl _ _ | assumption | refine bl_alloc ?_ _ | refine bl_drewN ?_ _ | refine bl_drew ?_ | refine bl_set ?_ (by first | (simp; done) | (simp; omega) | (dsimp only; omega)) _ | refine bl_then ?_ (by assumption)))⟩

theorem ref_Add (a b : Int) (A B : Option Addr) (c d : Nat) (ha : nd a ≤ 10000) (hb : nd b ≤ 10000) (w : World) (hA : RB w A c a) (hB : RB w B d b) :
    Calls Tryd.prog 46 #[.agg #[.bool (sg a), .slice A (nd a) c], .agg #[.bool (sg b), .slice B (nd b) d]] w (BigR w (a + b)) := by
  by_cases hs : sg a = sg b
  · exact ref_Add_same a b A B c d hs ha hb w hA hB
  · have hs' : sg a = !sg b := by cases h1 : sg a <;> cases h2 : sg b <;> simp_all
    by_cases hl : a.natAbs < b.natAbs
    · exact ref_Add_less a b A B c d hs' hl ha hb w hA hB
    · exact ref_Add_more a b A B c d hs' hl ha hb w hA hB
end Go.Proofs.YtgodfbhjfhdihaaDoor
