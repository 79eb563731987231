/- Walks of the reference's big numbers, thirteenth part: the quotient by any number but 0, rounded down. -/
/- Walks of the reference's big numbers, fifteenth part: of a wide number; the lowest 64 bits. -/
/- Walks of the reference's big numbers, sixteenth part: the lowest 64 bits. -/
/- Walks of the reference's big numbers, seventeenth part: a number of 64 bits. -/
/- Walks of the reference's big numbers, eighteenth part: a wide number. -/
import Derived.Deep.DeepCutAuto
import Derived.Test.YtfbhcaocfajjpaaDoorQRj
import Derived.Test.YtfbhcaocfajjpaaDoorQSt
namespace Go.Proofs.YtfbhcaocfajjpaaDoor
open Go.RowKit
attribute [local go_sem] nlt2 nlt3 nlt4 nlt5 nlt6 nlt7 nlt8 nlt9 nlt10 nlt11 nlt12

set_option maxRecDepth 100000 in
set_option maxHeartbeats 8000000 in
theorem ref_Div (a b : Int) (A B : Option Addr) (c d : Nat) (hb : b ≠ 0) (ha : nd a ≤ 5000) (hnb : nd b ≤ 5000) (w : World) (hA : RB w A c a) (hB : RB w B d b) :
    Calls Tryd.prog 56 #[.agg #[.bool (sg a), .slice A (nd a) c], .agg #[.bool (sg b), .slice B (nd b) d]] w (BigR w (fl a b)) := by
  have HA := Asd.mk hA
  have HB := Asd.mk hB
  clear hA hB
  cases q : sg b
  · have hn := sg_false.1 q
    have hE : fl a b = a / b := by unfold fl; rw [if_neg hn]
    have hp : 0 < b := by omega
    have HC := Asd.mk (fun W h1 h2 => ref_Down a b A B c d hp ha hnb W h1 h2)
    rw [hE]
    rw [q] at HC
    clear hE hn hp
    go_enter Tryd.func56, Tryd.ntmps56
    go_wp2_with (go_at_call 99; refine (HC.out _ (by exact RB.below HA.out (by repeat (first | exact Below.refl _ _ | assumption | refine bl_alloc ?_ _ | refine bl_drewN ?_ _ | refine bl_drew ?_ | refine bl_set ?_ (by first | (simp; done) | (simp; omega) | (dsimp only; omega)) _ | refine bl_then ?_ (by assumption)))) (by exact RB.below HB.out (by repeat (first | exact Below.refl _ _ | assumption | refine bl_alloc ?_ _ | refine bl_drewN ?_ _ | refine bl_drew ?_ | refine bl_set ?_ (by first | (simp; done) | (simp; omega) | (dsimp only; omega)) _ | refine bl_then ?_ (by assumption))))).mono ?_; rintro e w0 ⟨A1, c1, rfl, hr1, hb0⟩; replace hr1 := Asd.mk hr1; obtain ⟨x0, x1, x2, x3⟩ : Bx w0 (w.heap.size) (.bool (sg a)) (.slice A (nd a) c) := Bx.low hb0 (by first | (simp; done) | (simp; omega)) (by simp (maxDischargeDepth := 9) [Bx, go_sem]); obtain ⟨y0, y1, y2, y3⟩ : Bx w0 (w.heap.size + 1) (.bool false) (.slice B (nd b) d) := Bx.low hb0 (by first | (simp; done) | (simp; omega)) (by simp (maxDischargeDepth := 9) [Bx, go_sem]); obtain ⟨p0, p1, p2, p3⟩ : Bx w0 (w.heap.size + 1 + 1) (.bool false) (.slice none 0 0) := Bx.low hb0 (by first | (simp; done) | (simp; omega)) (by simp (maxDischargeDepth := 9) [Bx, go_sem]); have hz0_2 : w.heap.size + 1 + 1 < w0.heap.size := Nat.lt_of_lt_of_le (by first | (simp; done) | (simp; omega)) hb0.size; have hz0_1 : w.heap.size + 1 < w0.heap.size := (by omega); have hz0_0 : w.heap.size < w0.heap.size := (by omega))
    refine bodyPost_ret (v := .agg #[.bool (sg (a / b)), .slice A1 (nd (a / b)) c1]) (by simp (maxDischargeDepth := 9) [results, Tryd.results56, go_sem, *]) rfl ⟨_, _, rfl, RB.store2 hr1.out p0, (by repeat (first | exact Below.refl _ _ | assumption | refine bl_alloc ?_ _ | refine bl_drewN ?_ _ | refine bl_drew ?_ | refine bl_set ?_ (by first | (simp; done) | (simp; omega) | (dsimp only; omega)) _ | refine bl_then ?_ (by assumption)))⟩
  · have hn := sg_true.1 q
    have hE : fl a b = (-a) / (-b) := by unfold fl; rw [if_pos hn]
    have HP : Asd (0 < -b) := ⟨by omega⟩
    have HT := Asd.mk (fun W h => ref_Turn b B d W h)
    rw [q] at HT
    rw [hE]
    have hna : Asd (nd (-a) ≤ 5000) := ⟨by rw [nd_neg]; exact ha⟩
    have hnbb : Asd (nd (-b) ≤ 5000) := ⟨by rw [nd_neg]; exact hnb⟩
    clear hE hn
    go_enter Tryd.func56, Tryd.ntmps56
    go_wp2
    go_region_held3 (fun w' => w'.cell? ⟨w.heap.size, 0, none⟩ = some (.bool (sg a)) ∧ w'.cell? ⟨w.heap.size, 1, none⟩ = some (.slice A (nd a) c) ∧ w'.cell? ⟨w.heap.size + 1, 0, none⟩ = some (.bool true) ∧ w'.cell? ⟨w.heap.size + 1, 1, none⟩ = some (.slice B (nd b) d))
      (first | (simp [go_sem]; done) | exact ⟨x0, x1, y0, y1⟩ | exact ⟨x4, x5, y4, y5⟩ | exact ⟨x8, x9, y8, y9⟩ | (simp (maxDischargeDepth := 9) [go_sem, *]; done))
      (first
        | (go_at_call 55; refine (ref_Turn a A c _ (by exact RB.below HA.out (by repeat (first | exact Below.refl _ _ | assumption | refine bl_alloc ?_ _ | refine bl_drewN ?_ _ | refine bl_drew ?_ | refine bl_set ?_ (by first | (simp; done) | (simp; omega) | (dsimp only; omega)) _ | refine bl_then ?_ (by assumption))))).mono ?_; rintro e w0 ⟨A1, c1, rfl, hr1, hb0⟩; replace hr1 := Asd.mk hr1; have hrB := Asd.mk (RB.below (RB.below HB.out (by repeat (first | exact Below.refl _ _ | assumption | refine bl_alloc ?_ _ | refine bl_drewN ?_ _ | refine bl_drew ?_ | refine bl_set ?_ (by first | (simp; done) | (simp; omega) | (dsimp only; omega)) _ | refine bl_then ?_ (by assumption)))) hb0); obtain ⟨x0, x1, x2, x3⟩ : Bx w0 (w.heap.size) (.bool (sg a)) (.slice A (nd a) c) := Bx.low hb0 (by first | (simp; done) | (simp; omega)) (by simp (maxDischargeDepth := 9) [Bx, go_sem]); obtain ⟨y0, y1, y2, y3⟩ : Bx w0 (w.heap.size + 1) (.bool true) (.slice B (nd b) d) := Bx.low hb0 (by first | (simp; done) | (simp; omega)) (by simp (maxDischargeDepth := 9) [Bx, go_sem]); obtain ⟨p0, p1, p2, p3⟩ : Bx w0 (w.heap.size + 1 + 1) (.bool false) (.slice none 0 0) := Bx.low hb0 (by first | (simp; done) | (simp; omega)) (by simp (maxDischargeDepth := 9) [Bx, go_sem]); have hz0_2 : w.heap.size + 1 + 1 < w0.heap.size := Nat.lt_of_lt_of_le (by first | (simp; done) | (simp; omega)) hb0.size; have hz0_1 : w.heap.size + 1 < w0.heap.size := (by omega); have hz0_0 : w.heap.size < w0.heap.size := (by omega))
        | (go_at_call 55; refine (HT.out _ (by exact hrB.out)).mono ?_; rintro e w1 ⟨A2, c2, rfl, hr2, hb1⟩; replace hr2 := Asd.mk hr2; have hr1' := Asd.mk (RB.below hr1.out hb1); obtain ⟨x4, x5, x6, x7⟩ := Bx.low hb1 hz0_0 ⟨x0, x1, x2, x3⟩; obtain ⟨y4, y5, y6, y7⟩ := Bx.low hb1 hz0_1 ⟨y0, y1, y2, y3⟩; obtain ⟨p4, p5, p6, p7⟩ := Bx.low hb1 hz0_2 ⟨p0, p1, p2, p3⟩; have hz1_2 : w.heap.size + 1 + 1 < w1.heap.size := Nat.lt_of_lt_of_le hz0_2 hb1.size; have hz1_1 : w.heap.size + 1 < w1.heap.size := (by omega); have hz1_0 : w.heap.size < w1.heap.size := (by omega))
        | (go_at_call 99; refine (ref_Down (-a) (-b) A1 A2 c1 c2 HP.out hna.out hnbb.out _ (by exact hr1'.out) (by exact hr2.out)).mono ?_; rintro e w2 ⟨A3, c3, rfl, hr3, hb2⟩; replace hr3 := Asd.mk hr3; obtain ⟨x8, x9, x10, x11⟩ := Bx.low hb2 hz1_0 ⟨x4, x5, x6, x7⟩; obtain ⟨y8, y9, y10, y11⟩ := Bx.low hb2 hz1_1 ⟨y4, y5, y6, y7⟩; obtain ⟨p8, p9, p10, p11⟩ := Bx.low hb2 hz1_2 ⟨p4, p5, p6, p7⟩; have hz2_2 : w.heap.size + 1 + 1 < w2.heap.size := Nat.lt_of_lt_of_le hz1_2 hb2.size; have hz2_1 : w.heap.size + 1 < w2.heap.size := (by omega); have hz2_0 : w.heap.size < w2.heap.size := (by omega)))
    go_wp2
    refine bodyPost_ret (v := .agg #[.bool (sg ((-a) / (-b))), .slice A3 (nd ((-a) / (-b))) c3]) (by simp (maxDischargeDepth := 9) [results, Tryd.results56, go_sem, *]) rfl ⟨_, _, rfl, RB.store2 hr3.out p8, (by repeat (first | exact Below.refl _ _ | assumption | refine bl_alloc ?_ _ | refine bl_drewN ?_ _ | refine bl_drew ?_ | refine bl_set ?_ (by first | (simp; done) | (simp; omega) | (dsimp only; omega)) _ | refine bl_then ?_ (by assumption)))⟩
end Go.Proofs.YtfbhcaocfajjpaaDoor

namespace Go.Proofs.YtfbhcaocfajjpaaDoor
open Go.RowKit
attribute [local go_sem] nlt2 nlt3 nlt4 nlt5 nlt6 nlt7 nlt8 nlt9 nlt10 nlt11 nlt12

theorem nd_i64 {x : Int} (h : I64 x) : nd x ≤ 4 := by
  have e : pB 4 = 18446744073709551616 := by decide
  exact nd_le_of (by rw [e]; unfold I64 at h; omega)
theorem nd_u64 {x : Int} (h : U64 x) : nd x ≤ 4 := by
  have e : pB 4 = 18446744073709551616 := by decide
  exact nd_le_of (by rw [e]; unfold U64 at h; omega)
theorem nd_W128 {x : Int} (h : W128 x) : nd x ≤ 8 := by
  have e : pB 8 = 340282366920938463463374607431768211456 := by decide
  exact nd_le_of (by rw [e]; unfold W128 at h; omega)
theorem nd_pow2 (n : Nat) : nd (pow2 n) = n / 16 + 1 := by unfold nd; rw [pow2_digits]; simp
end Go.Proofs.YtfbhcaocfajjpaaDoor

namespace Go.Proofs.YtfbhcaocfajjpaaDoor
open Go.RowKit
attribute [local go_sem] nlt2 nlt3 nlt4 nlt5 nlt6 nlt7 nlt8 nlt9 nlt10 nlt11 nlt12

theorem low_step {xs : List Int} (h : Dg xs) {k : Nat} {n : Int} (hv : vald (xs.take 4) = vald (xs.take (k + 1)) + pB (k + 1) * n) (h0 : 0 ≤ n) (hb : n < pB (3 - k)) (hk : k ≤ 3) :
    vald (xs.take 4) = vald (xs.take k) + pB k * (65536 * n + gd xs k) ∧ 0 ≤ 65536 * n + gd xs k ∧ 65536 * n + gd xs k < pB (4 - k) ∧ 65536 * n + gd xs k < 18446744073709551616 := by
  have hg := gd_bd h k
  have e : pB (4 - k) = 65536 * pB (3 - k) := by rw [← pB_succ]; congr 1; omega
  have e4 : pB 4 = 18446744073709551616 := by decide
  have hm : pB (4 - k) ≤ pB 4 := pB_mono (by omega)
  refine ⟨?_, by omega, by omega, by omega⟩
  rw [hv, take_gd, pB_succ, Int.mul_add, Int.mul_left_comm (pB k), Int.mul_assoc]
  omega

set_option maxRecDepth 100000 in
set_option maxHeartbeats 2000000 in
theorem ref_low (A : Option Addr) (c : Nat) (xs : List Int) (hd : Dg xs) (w : World) (h : RS w A c xs) :
    Calls Tryd.prog 58 #[.slice A xs.length c] w fun e w' => e = .returned (.int .u64 (vald (xs.take 4))) ∧ w = w' := by
  have HA := Asd.mk h
  clear h
  go_enter Tryd.func58, Tryd.ntmps58
  go_wp2
  go_loop [3, 4] (fun v3 v4 => ∃ (k : Nat) (n : Int), k ≤ 4 ∧ v4 = .int .i64 (k - 1) ∧ v3 = .int .u64 n ∧ 0 ≤ n ∧ Asd (n < pB (4 - k) ∧ vald (xs.take 4) = vald (xs.take k) + pB k * n)) (fun _ v4 => (intOf v4 + 1).toNat)
  case atStart => exact ⟨4, 0, by omega, rfl, rfl, by omega, ⟨by decide, by omega⟩⟩
  case round =>
    obtain ⟨k, n, hk, rfl, rfl, hn, HV⟩ := hrel
    by_cases hgo : 0 < k
    · obtain ⟨m, rfl⟩ : ∃ m, k = m + 1 := ⟨k - 1, by omega⟩
      rw [show (((m + 1 : Nat) : Int) - 1) = (m : Int) from by omega]
      have hs := low_step hd HV.out.2 hn (by have := HV.out.1; rw [show 4 - (m + 1) = 3 - m from by omega] at this; exact this) (by omega)
      have HS := Asd.mk hs
      have e1 : IntKind.u64.wrap (65536 * n) = 65536 * n := by have := gd_bd hd m; rw [IntKind.wrap_u64]; omega
      have e2 : IntKind.u64.wrap (65536 * n + gd xs m) = 65536 * n + gd xs m := by rw [IntKind.wrap_u64]; omega
      clear hs
      go_wp2_with (go_at_call 92; refine (ref_digit A c xs m _ (by exact HA.out)).mono ?_; rintro e w' ⟨rfl, rfl⟩)
      go_round
      case rel => exact ⟨m, _, by omega, rfl, rfl, HS.out.2.1, ⟨HS.out.2.2.1, HS.out.1⟩⟩
      case measure => simp [intOf]
    · obtain rfl : k = 0 := by omega
      rw [show (((0 : Nat) : Int) - 1) = -1 from by omega]
      have HF := Asd.mk (show n = vald (xs.take 4) by have := HV.out.2; simp [vald, pB] at this; omega)
      go_wp2
      go_ret
      exact ⟨ret_int HF.out, rfl⟩
end Go.Proofs.YtfbhcaocfajjpaaDoor

-- Rp
namespace Go.Proofs.YtfbhcaocfajjpaaDoor
open Go.RowKit
attribute [local go_sem] nlt2 nlt3 nlt4 nlt5 nlt6 nlt7 nlt8 nlt9 nlt10 nlt11 nlt12

theorem cmpZ_lt {a b : Int} (h : a < b) : cmpZ a b = -1 := by unfold cmpZ; rw [if_pos h]

set_option maxRecDepth 100000 in
set_option maxHeartbeats 4000000 in
theorem ref_Int_high (a : Int) (A : Option Addr) (c : Nat) (ha : nd a ≤ 5000) (h : pow2 63 ≤ a) (w : World) (hA : RB w A c a) :
    Calls Tryd.prog 57 #[.agg #[.bool (sg a), .slice A (nd a) c]] w fun e w' => e = .returned (.tuple #[.int .i64 0, .int .i64 3]) ∧ Below w.heap.size w w' := by
  have HA := Asd.mk hA
  obtain ⟨z, hc, hz⟩ : ∃ z, cmpZ a (pow2 63) = z ∧ (z = 0 ∨ z = 1) := ⟨_, rfl, by unfold cmpZ; rw [if_neg (by omega)]; split <;> simp⟩
  have HC := Asd.mk hc
  clear hc
  have n1 : Asd (nd a ≤ 10000) := ⟨by omega⟩
  have n2 : Asd (nd (pow2 63) ≤ 10000) := ⟨by rw [nd_pow2]; omega⟩
  clear hA h
  rcases hz with rfl | rfl
  all_goals (
  go_enter Tryd.func57, Tryd.ntmps57
  go_wp2
  go_region_with
    (first
      | (go_at_call 50; refine (ref_Power 63 (by omega) _).mono ?_; rintro e w1 ⟨A1, c1, rfl, hr1, hb1⟩; have RP1 := Asd.mk hr1; have RA1 := Asd.mk (RB.below (by exact RS.below HA.out (by repeat (first | exact Below.refl _ _ | assumption | refine bl_alloc ?_ _ | refine bl_drewN ?_ _ | refine bl_drew ?_ | refine bl_set ?_ (by first | (simp; done) | (simp; omega) | (dsimp only; omega)) _ | refine bl_then ?_ (by assumption)))) hb1); obtain ⟨x4, x5, x6, x7⟩ : Bx w1 (w.heap.size) (.bool (sg a)) (.slice A (nd a) c) := Bx.low hb1 (by first | (simp; done) | (simp; omega) | (simp [go_sem]; done) | (simp [go_sem]; omega) | omega) (by simp (maxDischargeDepth := 9) [Bx, go_sem, *]); have hz1_x : w.heap.size < w1.heap.size := Nat.lt_of_lt_of_le (by first | (simp; done) | (simp; omega) | (simp [go_sem]; done) | (simp [go_sem]; omega)) hb1.size; have HB1 := Asd.mk (bl_then (w := w) (by repeat (first | exact Below.refl _ _ | assumption | refine bl_alloc ?_ _ | refine bl_drewN ?_ _ | refine bl_drew ?_ | refine bl_set ?_ (by first | (simp; done) | (simp; omega) | (dsimp only; omega)) _ | refine bl_then ?_ (by assumption))) hb1); clear hr1 hb1)
      | (go_at_call 41; refine (ref_Cmp a (pow2 63) A A1 c c1 n1.out n2.out _ (by exact RA1.out) (by exact RP1.out)).mono ?_; rintro e w2 ⟨rfl, hb2⟩; rw [HC.out]; obtain ⟨x8, x9, x10, x11⟩ := Bx.low hb2 hz1_x ⟨x4, x5, x6, x7⟩; have hz2_x : w.heap.size < w2.heap.size := Nat.lt_of_lt_of_le hz1_x hb2.size; have HB2 := Asd.mk (bl_then HB1.out hb2); clear hb2))
  all_goals go_wp2
  all_goals go_ret2
  all_goals
  exact ⟨rfl, (by repeat (first | exact Below.refl _ _ | assumption | exact HB2.out | refine bl_alloc ?_ _ | refine bl_drewN ?_ _ | refine bl_drew ?_ | refine bl_set ?_ (by first | (simp; done) | (simp; omega) | (dsimp only; omega)) _ | refine bl_then ?_ (by assumption)))⟩)

set_option maxRecDepth 100000 in
set_option maxHeartbeats 4000000 in
theorem ref_Int_low (a : Int) (A : Option Addr) (c : Nat) (ha : nd a ≤ 5000) (h : a < -pow2 63) (w : World) (hA : RB w A c a) :
    Calls Tryd.prog 57 #[.agg #[.bool (sg a), .slice A (nd a) c]] w fun e w' => e = .returned (.tuple #[.int .i64 0, .int .i64 3]) ∧ Below w.heap.size w w' := by
  have HA := Asd.mk hA
  have HC := Asd.mk (cmpZ_lt (a := a) (b := pow2 63) (by have := pow2_pos 63; omega))
  have HC2 := Asd.mk (cmpZ_lt (a := a) (b := -pow2 63) h)
  have n1 : Asd (nd a ≤ 10000) := ⟨by omega⟩
  have n2 : Asd (nd (pow2 63) ≤ 10000) := ⟨by rw [nd_pow2]; omega⟩
  have n3 : Asd (nd (-pow2 63) ≤ 10000) := ⟨by rw [nd_neg, nd_pow2]; omega⟩
  clear hA h
  go_enter Tryd.func57, Tryd.ntmps57
  go_wp2
  go_region_held3 (fun w' => w'.cell? ⟨w.heap.size, 0, none⟩ = some (.bool (sg a)) ∧ w'.cell? ⟨w.heap.size, 1, none⟩ = some (.slice A (nd a) c))
    (first | (simp [go_sem]; done) | exact ⟨x4, x5⟩ | exact ⟨x8, x9⟩ | exact ⟨x12, x13⟩ | exact ⟨x16, x17⟩ | exact ⟨x20, x21⟩ | (simp (maxDischargeDepth := 9) [go_sem, *]; done))
    (first
      | (go_at_call 41; (with_reducible refine (ref_Cmp a (pow2 63) A A1 c c1 n1.out n2.out _ RA1.out RP1.out).mono ?_); rintro e w2 ⟨rfl, hb2⟩; rw [HC.out]; have RA2 := Asd.mk (RB.below RA1.out hb2); obtain ⟨x8, x9, x10, x11⟩ := Bx.low hb2 hz1_x ⟨x4, x5, x6, x7⟩; have hz2_x : w.heap.size < w2.heap.size := Nat.lt_of_lt_of_le hz1_x hb2.size; have HB2 := Asd.mk (bl_then HB1.out hb2); clear hb2)
      | (go_at_call 41; (with_reducible refine (ref_Cmp a (-pow2 63) A A4 c c4 n1.out n3.out _ RA4.out RT4.out).mono ?_); rintro e w5 ⟨rfl, hb5⟩; rw [HC2.out]; obtain ⟨x20, x21, x22, x23⟩ := Bx.low hb5 hz4_x ⟨x16, x17, x18, x19⟩; have hz5_x : w.heap.size < w5.heap.size := Nat.lt_of_lt_of_le hz4_x hb5.size; have RA5 := Asd.mk (RB.below RA4.out hb5); have HB5 := Asd.mk (bl_then HB4.out hb5); clear hb5)
      | (go_at_call 55; refine (ref_Turn (pow2 63) A3 c3 _ (by exact RP3.out)).mono ?_; rintro e w4 ⟨A4, c4, rfl, hr4, hb4⟩; have RT4 := Asd.mk hr4; have RA4 := Asd.mk (RB.below RA3.out hb4); obtain ⟨x16, x17, x18, x19⟩ := Bx.low hb4 hz3_x ⟨x12, x13, x14, x15⟩; have hz4_x : w.heap.size < w4.heap.size := Nat.lt_of_lt_of_le hz3_x hb4.size; have HB4 := Asd.mk (bl_then HB3.out hb4); clear hr4 hb4)
      | (go_at_call 50; refine (ref_Power 63 (by omega) _).mono ?_; rintro e w3 ⟨A3, c3, rfl, hr3, hb3⟩; have RP3 := Asd.mk hr3; have RA3 := Asd.mk (RB.below RA2.out hb3); obtain ⟨x12, x13, x14, x15⟩ := Bx.low hb3 hz2_x ⟨x8, x9, x10, x11⟩; have hz3_x : w.heap.size < w3.heap.size := Nat.lt_of_lt_of_le hz2_x hb3.size; have HB3 := Asd.mk (bl_then HB2.out hb3); clear hr3 hb3)
      | (go_at_call 50; refine (ref_Power 63 (by omega) _).mono ?_; rintro e w1 ⟨A1, c1, rfl, hr1, hb1⟩; have RP1 := Asd.mk hr1; have RA1 := Asd.mk (RB.below (by exact RS.below HA.out (by repeat (first | exact Below.refl _ _ | assumption | refine bl_alloc ?_ _ | refine bl_drewN ?_ _ | refine bl_drew ?_ | refine bl_set ?_ (by first | (simp; done) | (simp; omega) | (dsimp only; omega)) _ | refine bl_then ?_ (by assumption)))) hb1); obtain ⟨x4, x5, x6, x7⟩ : Bx w1 (w.heap.size) (.bool (sg a)) (.slice A (nd a) c) := Bx.low hb1 (by first | (simp; done) | (simp; omega) | (simp [go_sem]; done) | (simp [go_sem]; omega) | omega) (by simp (maxDischargeDepth := 9) [Bx, go_sem, *]); have hz1_x : w.heap.size < w1.heap.size := Nat.lt_of_lt_of_le (by first | (simp; done) | (simp; omega) | (simp [go_sem]; done) | (simp [go_sem]; omega)) hb1.size; have HB1 := Asd.mk (bl_then (w := w) (by repeat (first | exact Below.refl _ _ | assumption | refine bl_alloc ?_ _ | refine bl_drewN ?_ _ | refine bl_drew ?_ | refine bl_set ?_ (by first | (simp; done) | (simp; omega) | (dsimp only; omega)) _ | refine bl_then ?_ (by assumption))) hb1); clear hr1 hb1))
  go_wp2
  go_ret2
  exact ⟨rfl, (by repeat (first | exact Below.refl _ _ | assumption | exact HB5.out | refine bl_alloc ?_ _ | refine bl_drewN ?_ _ | refine bl_drew ?_ | refine bl_set ?_ (by first | (simp; done) | (simp; omega) | (dsimp only; omega)) _ | refine bl_then ?_ (by assumption)))⟩

theorem low_u64 {z : Int} (h : U64 z) : vald ((dg z).take 4) = z := by
  rw [List.take_of_length_le (by have := nd_u64 h; exact this), vald_dg]; unfold U64 at h; omega
theorem ref_low_u (z : Int) (hz : U64 z) (A : Option Addr) (c : Nat) (w : World) (h : RB w A c z) :
    Calls Tryd.prog 58 #[.slice A (nd z) c] w fun e w' => e = .returned (.int .u64 z) ∧ w = w' := by
  have k := ref_low A c (dg z) (dg_Dg z) w h
  rw [low_u64 hz] at k; exact k

theorem ret2_int {k l : IntKind} {x y a b : Int} (h : x = a) (h2 : y = b) : Ending.returned (.tuple #[.int k x, .int l y]) = .returned (.tuple #[.int k a, .int l b]) := by rw [h, h2]
theorem field_D (s : Bool) (A : Option Addr) (n c : Nat) (w : World) : (Instr.field 48 (.agg #[.bool s, .slice A n c]) 1).run Tryd.prog w = .ok (.slice A n c) w := by kernel_rfl
attribute [local go_sem] field_D
set_option maxRecDepth 100000 in
set_option maxHeartbeats 8000000 in
theorem ref_Int_neg (a : Int) (A : Option Addr) (c : Nat) (ha : nd a ≤ 5000) (h : -pow2 63 ≤ a) (h0 : a < 0) (w : World) (hA : RB w A c a) :
    Calls Tryd.prog 57 #[.agg #[.bool (sg a), .slice A (nd a) c]] w fun e w' => e = .returned (.tuple #[.int .i64 a, .int .i64 0]) ∧ Below w.heap.size w w' := by
  have Ra_0 := Asd.mk hA
  have HC := Asd.mk (cmpZ_lt (a := a) (b := pow2 63) (by have := pow2_pos 63; omega))
  obtain ⟨z, hc, hz⟩ : ∃ z, cmpZ a (-pow2 63) = z ∧ (z = 0 ∨ z = 1) := ⟨_, rfl, by unfold cmpZ; rw [if_neg (by omega)]; split <;> simp⟩
  have HC2 := Asd.mk hc
  have n1 : Asd (nd a ≤ 10000) := ⟨by omega⟩
  have n2 : Asd (nd (pow2 63) ≤ 10000) := ⟨by rw [nd_pow2]; omega⟩
  have n3 : Asd (nd (-pow2 63) ≤ 10000) := ⟨by rw [nd_neg, nd_pow2]; omega⟩
  have n4 : Asd (nd (-a) ≤ 10000) := ⟨by rw [nd_neg]; omega⟩
  have n5 : Asd (nd 1 ≤ 10000) := ⟨nd_one⟩
  have e63 : pow2 63 = 9223372036854775808 := by decide
  have I1 : Asd (I64 1) := ⟨by decide⟩
  have HQ := Asd.mk (sg_true.2 h0)
  have HU : Asd (U64 (-a - 1)) := ⟨by unfold U64; omega⟩
  have HS : Asd (-9223372036854775808 ≤ a ∧ a < 0) := ⟨by omega⟩
  have HT := Asd.mk (fun W h => ref_Turn a A c W h)
  rw [HQ.out] at HT
  clear hA h h0 hc e63
  rcases hz with rfl | rfl
  all_goals (
  go_enter Tryd.func57, Tryd.ntmps57
  go_wp2
  go_region_held3 (fun w' => w'.cell? ⟨w.heap.size, 0, none⟩ = some (.bool (sg a)) ∧ w'.cell? ⟨w.heap.size, 1, none⟩ = some (.slice A (nd a) c))
    (first | exact ⟨x1_0, x1_1⟩ | exact ⟨x2_0, x2_1⟩ | exact ⟨x3_0, x3_1⟩ | exact ⟨x4_0, x4_1⟩ | exact ⟨x5_0, x5_1⟩ | (simp [go_sem]; done) | (simp (maxDischargeDepth := 9) [go_sem, *]; done))
    (first
      | (go_at_call 41; refine (ref_Cmp a (-pow2 63) A A4 c c4 n1.out n3.out _ (by exact Ra_4.out) (by exact Rt_4.out)).mono ?_; rintro e w5 ⟨rfl, hb5⟩; rw [HC2.out]; have Ra_5 := Asd.mk (RB.below (by exact Ra_4.out) hb5); have Rt_5 := Asd.mk (RB.below (by exact Rt_4.out) hb5); obtain ⟨x5_0, x5_1, x5_2, x5_3⟩ := Bx.low hb5 hz4_x ⟨x4_0, x4_1, x4_2, x4_3⟩; have hz5_x : w.heap.size < w5.heap.size := Nat.lt_of_lt_of_le hz4_x hb5.size; have HB5 := Asd.mk (bl_then (w := w) (by repeat (first | exact Below.refl _ _ | assumption | exact HB4.out | refine bl_alloc ?_ _ | refine bl_drewN ?_ _ | refine bl_drew ?_ | refine bl_set ?_ (by first | (simp; done) | (simp; omega) | (dsimp only; omega)) _ | refine bl_then ?_ (by assumption))) hb5); clear hb5)
      | (go_at_call 55; refine (ref_Turn (pow2 63) A3 c3 _ (by exact Rq_3.out)).mono ?_; rintro e w4 ⟨A4, c4, rfl, hr4, hb4⟩; have Rt_4 := Asd.mk hr4; have Ra_4 := Asd.mk (RB.below (by exact Ra_3.out) hb4); have Rq_4 := Asd.mk (RB.below (by exact Rq_3.out) hb4); obtain ⟨x4_0, x4_1, x4_2, x4_3⟩ := Bx.low hb4 hz3_x ⟨x3_0, x3_1, x3_2, x3_3⟩; have hz4_x : w.heap.size < w4.heap.size := Nat.lt_of_lt_of_le hz3_x hb4.size; have HB4 := Asd.mk (bl_then (w := w) (by repeat (first | exact Below.refl _ _ | assumption | exact HB3.out | refine bl_alloc ?_ _ | refine bl_drewN ?_ _ | refine bl_drew ?_ | refine bl_set ?_ (by first | (simp; done) | (simp; omega) | (dsimp only; omega)) _ | refine bl_then ?_ (by assumption))) hb4); clear hr4 hb4)
      | (go_at_call 50; refine (ref_Power 63 (by omega) _).mono ?_; rintro e w3 ⟨A3, c3, rfl, hr3, hb3⟩; have Rq_3 := Asd.mk hr3; have Ra_3 := Asd.mk (RB.below (by exact Ra_2.out) hb3); obtain ⟨x3_0, x3_1, x3_2, x3_3⟩ := Bx.low hb3 hz2_x ⟨x2_0, x2_1, x2_2, x2_3⟩; have hz3_x : w.heap.size < w3.heap.size := Nat.lt_of_lt_of_le hz2_x hb3.size; have HB3 := Asd.mk (bl_then (w := w) (by repeat (first | exact Below.refl _ _ | assumption | exact HB2.out | refine bl_alloc ?_ _ | refine bl_drewN ?_ _ | refine bl_drew ?_ | refine bl_set ?_ (by first | (simp; done) | (simp; omega) | (dsimp only; omega)) _ | refine bl_then ?_ (by assumption))) hb3); clear hr3 hb3)
      | (go_at_call 41; refine (ref_Cmp a (pow2 63) A A1 c c1 n1.out n2.out _ (by exact Ra_1.out) (by exact Rp_1.out)).mono ?_; rintro e w2 ⟨rfl, hb2⟩; rw [HC.out]; have Ra_2 := Asd.mk (RB.below (by exact Ra_1.out) hb2); have Rp_2 := Asd.mk (RB.below (by exact Rp_1.out) hb2); obtain ⟨x2_0, x2_1, x2_2, x2_3⟩ := Bx.low hb2 hz1_x ⟨x1_0, x1_1, x1_2, x1_3⟩; have hz2_x : w.heap.size < w2.heap.size := Nat.lt_of_lt_of_le hz1_x hb2.size; have HB2 := Asd.mk (bl_then (w := w) (by repeat (first | exact Below.refl _ _ | assumption | exact HB1.out | refine bl_alloc ?_ _ | refine bl_drewN ?_ _ | refine bl_drew ?_ | refine bl_set ?_ (by first | (simp; done) | (simp; omega) | (dsimp only; omega)) _ | refine bl_then ?_ (by assumption))) hb2); clear hb2)
      | (go_at_call 50; refine (ref_Power 63 (by omega) _).mono ?_; rintro e w1 ⟨A1, c1, rfl, hr1, hb1⟩; have Rp_1 := Asd.mk hr1; have Ra_1 := Asd.mk (RB.below (by exact RB.below Ra_0.out (by repeat (first | exact Below.refl _ _ | assumption | refine bl_alloc ?_ _ | refine bl_drewN ?_ _ | refine bl_drew ?_ | refine bl_set ?_ (by first | (simp; done) | (simp; omega) | (dsimp only; omega)) _ | refine bl_then ?_ (by assumption)))) hb1); obtain ⟨x1_0, x1_1, x1_2, x1_3⟩ : Bx w1 (w.heap.size) (.bool (sg a)) (.slice A (nd a) c) := Bx.low hb1 (by first | (simp; done) | (simp; omega) | (simp [go_sem]; done) | (simp [go_sem]; omega) | omega) (by simp (maxDischargeDepth := 9) [Bx, go_sem, *]); have hz1_x : w.heap.size < w1.heap.size := Nat.lt_of_lt_of_le (by first | (simp; done) | (simp; omega) | (simp [go_sem]; done) | (simp [go_sem]; omega) | omega) hb1.size; have HB1 := Asd.mk (bl_then (w := w) (by repeat (first | exact Below.refl _ _ | assumption | refine bl_alloc ?_ _ | refine bl_drewN ?_ _ | refine bl_drew ?_ | refine bl_set ?_ (by first | (simp; done) | (simp; omega) | (dsimp only; omega)) _ | refine bl_then ?_ (by assumption))) hb1); clear hr1 hb1))
  have q := HQ.out
  go_wp2_with (first
      | (go_at_call 58; refine (ref_low_u (-a - 1) HU.out A8 c8 _ (by exact Rs_8.out)).mono ?_; rintro e w' ⟨rfl, rfl⟩)
      | (go_at_call 39; refine (ref_Sub (-a) 1 A6 A7 c6 c7 n4.out n5.out _ (by exact Rt_7.out) (by exact Ro_7.out)).mono ?_; rintro e w8 ⟨A8, c8, rfl, hr8, hb8⟩; have Rs_8 := Asd.mk hr8; have Rt_8 := Asd.mk (RB.below (by exact Rt_7.out) hb8); have Ro_8 := Asd.mk (RB.below (by exact Ro_7.out) hb8); obtain ⟨x8_0, x8_1, x8_2, x8_3⟩ := Bx.low hb8 hz7_x ⟨x7_0, x7_1, x7_2, x7_3⟩; have hz8_x : w.heap.size < w8.heap.size := Nat.lt_of_lt_of_le hz7_x hb8.size; have HB8 := Asd.mk (bl_then (w := w) (by repeat (first | exact Below.refl _ _ | assumption | exact HB7.out | refine bl_alloc ?_ _ | refine bl_drewN ?_ _ | refine bl_drew ?_ | refine bl_set ?_ (by first | (simp; done) | (simp; omega) | (dsimp only; omega)) _ | refine bl_then ?_ (by assumption))) hb8); clear hr8 hb8)
      | (go_at_call 40; refine (ref_Of 1 I1.out _).mono ?_; rintro e w7 ⟨A7, c7, rfl, hr7, hb7⟩; have Ro_7 := Asd.mk hr7; have Rt_7 := Asd.mk (RB.below (by exact Rt_6.out) hb7); obtain ⟨x7_0, x7_1, x7_2, x7_3⟩ := Bx.low hb7 hz6_x ⟨x6_0, x6_1, x6_2, x6_3⟩; have hz7_x : w.heap.size < w7.heap.size := Nat.lt_of_lt_of_le hz6_x hb7.size; have HB7 := Asd.mk (bl_then (w := w) (by repeat (first | exact Below.refl _ _ | assumption | exact HB6.out | refine bl_alloc ?_ _ | refine bl_drewN ?_ _ | refine bl_drew ?_ | refine bl_set ?_ (by first | (simp; done) | (simp; omega) | (dsimp only; omega)) _ | refine bl_then ?_ (by assumption))) hb7); clear hr7 hb7)
      | (go_at_call 55; refine (HT.out _ (by exact Ra_5.out)).mono ?_; rintro e w6 ⟨A6, c6, rfl, hr6, hb6⟩; have Rt_6 := Asd.mk hr6; have Ra_6 := Asd.mk (RB.below (by exact Ra_5.out) hb6); obtain ⟨x6_0, x6_1, x6_2, x6_3⟩ := Bx.low hb6 hz5_x ⟨x5_0, x5_1, x5_2, x5_3⟩; have hz6_x : w.heap.size < w6.heap.size := Nat.lt_of_lt_of_le hz5_x hb6.size; have HB6 := Asd.mk (bl_then (w := w) (by repeat (first | exact Below.refl _ _ | assumption | exact HB5.out | refine bl_alloc ?_ _ | refine bl_drewN ?_ _ | refine bl_drew ?_ | refine bl_set ?_ (by first | (simp; done) | (simp; omega) | (dsimp only; omega)) _ | refine bl_then ?_ (by assumption))) hb6); clear hr6 hb6))
  have HBf := HB8.out
  go_ret2
  exact ⟨ret2_int (by have k := HS.out; simp only [wrap64]; omega) rfl, (by repeat (first | exact Below.refl _ _ | assumption | refine bl_alloc ?_ _ | refine bl_drewN ?_ _ | refine bl_drew ?_ | refine bl_set ?_ (by first | (simp; done) | (simp; omega) | (dsimp only; omega)) _ | refine bl_then ?_ (by assumption)))⟩)

set_option maxRecDepth 100000 in
set_option maxHeartbeats 8000000 in
theorem ref_Int_pos (a : Int) (A : Option Addr) (c : Nat) (ha : nd a ≤ 5000) (h : a < pow2 63) (h0 : 0 ≤ a) (w : World) (hA : RB w A c a) :
    Calls Tryd.prog 57 #[.agg #[.bool (sg a), .slice A (nd a) c]] w fun e w' => e = .returned (.tuple #[.int .i64 a, .int .i64 0]) ∧ Below w.heap.size w w' := by
  have hmin : -pow2 63 ≤ a := by have := pow2_pos 63; omega
  have Ra_0 := Asd.mk hA
  have HC := Asd.mk (cmpZ_lt (a := a) (b := pow2 63) (by have := pow2_pos 63; omega))
  obtain ⟨z, hc, hz⟩ : ∃ z, cmpZ a (-pow2 63) = z ∧ (z = 0 ∨ z = 1) := ⟨_, rfl, by unfold cmpZ; rw [if_neg (by omega)]; split <;> simp⟩
  have HC2 := Asd.mk hc
  have n1 : Asd (nd a ≤ 10000) := ⟨by omega⟩
  have n2 : Asd (nd (pow2 63) ≤ 10000) := ⟨by rw [nd_pow2]; omega⟩
  have n3 : Asd (nd (-pow2 63) ≤ 10000) := ⟨by rw [nd_neg, nd_pow2]; omega⟩
  have n4 : Asd (nd (-a) ≤ 10000) := ⟨by rw [nd_neg]; omega⟩
  have n5 : Asd (nd 1 ≤ 10000) := ⟨nd_one⟩
  have e63 : pow2 63 = 9223372036854775808 := by decide
  have I1 : Asd (I64 1) := ⟨by decide⟩
  have HQ := Asd.mk (sg_false.2 (show ¬ a < 0 by omega))
  have HU : Asd (U64 a) := ⟨by unfold U64; omega⟩
  have E1 : Asd (wrap64 a = a) := ⟨by unfold wrap64; omega⟩
  clear hA h h0 hc e63 hmin
  rcases hz with rfl | rfl
  all_goals (
  go_enter Tryd.func57, Tryd.ntmps57
  go_wp2
  go_region_held3 (fun w' => w'.cell? ⟨w.heap.size, 0, none⟩ = some (.bool (sg a)) ∧ w'.cell? ⟨w.heap.size, 1, none⟩ = some (.slice A (nd a) c))
    (first | exact ⟨x1_0, x1_1⟩ | exact ⟨x2_0, x2_1⟩ | exact ⟨x3_0, x3_1⟩ | exact ⟨x4_0, x4_1⟩ | exact ⟨x5_0, x5_1⟩ | (simp [go_sem]; done) | (simp (maxDischargeDepth := 9) [go_sem, *]; done))
    (first
      | (go_at_call 41; refine (ref_Cmp a (-pow2 63) A A4 c c4 n1.out n3.out _ (by exact Ra_4.out) (by exact Rt_4.out)).mono ?_; rintro e w5 ⟨rfl, hb5⟩; rw [HC2.out]; have Ra_5 := Asd.mk (RB.below (by exact Ra_4.out) hb5); have Rt_5 := Asd.mk (RB.below (by exact Rt_4.out) hb5); obtain ⟨x5_0, x5_1, x5_2, x5_3⟩ := Bx.low hb5 hz4_x ⟨x4_0, x4_1, x4_2, x4_3⟩; have hz5_x : w.heap.size < w5.heap.size := Nat.lt_of_lt_of_le hz4_x hb5.size; have HB5 := Asd.mk (bl_then (w := w) (by repeat (first | exact Below.refl _ _ | assumption | exact HB4.out | refine bl_alloc ?_ _ | refine bl_drewN ?_ _ | refine bl_drew ?_ | refine bl_set ?_ (by first | (simp; done) | (simp; omega) | (dsimp only; omega)) _ | refine bl_then ?_ (by assumption))) hb5); clear hb5)
      | (go_at_call 55; refine (ref_Turn (pow2 63) A3 c3 _ (by exact Rq_3.out)).mono ?_; rintro e w4 ⟨A4, c4, rfl, hr4, hb4⟩; have Rt_4 := Asd.mk hr4; have Ra_4 := Asd.mk (RB.below (by exact Ra_3.out) hb4); have Rq_4 := Asd.mk (RB.below (by exact Rq_3.out) hb4); obtain ⟨x4_0, x4_1, x4_2, x4_3⟩ := Bx.low hb4 hz3_x ⟨x3_0, x3_1, x3_2, x3_3⟩; have hz4_x : w.heap.size < w4.heap.size := Nat.lt_of_lt_of_le hz3_x hb4.size; have HB4 := Asd.mk (bl_then (w := w) (by repeat (first | exact Below.refl _ _ | assumption | exact HB3.out | refine bl_alloc ?_ _ | refine bl_drewN ?_ _ | refine bl_drew ?_ | refine bl_set ?_ (by first | (simp; done) | (simp; omega) | (dsimp only; omega)) _ | refine bl_then ?_ (by assumption))) hb4); clear hr4 hb4)
      | (go_at_call 50; refine (ref_Power 63 (by omega) _).mono ?_; rintro e w3 ⟨A3, c3, rfl, hr3, hb3⟩; have Rq_3 := Asd.mk hr3; have Ra_3 := Asd.mk (RB.below (by exact Ra_2.out) hb3); obtain ⟨x3_0, x3_1, x3_2, x3_3⟩ := Bx.low hb3 hz2_x ⟨x2_0, x2_1, x2_2, x2_3⟩; have hz3_x : w.heap.size < w3.heap.size := Nat.lt_of_lt_of_le hz2_x hb3.size; have HB3 := Asd.mk (bl_then (w := w) (by repeat (first | exact Below.refl _ _ | assumption | exact HB2.out | refine bl_alloc ?_ _ | refine bl_drewN ?_ _ | refine bl_drew ?_ | refine bl_set ?_ (by first | (simp; done) | (simp; omega) | (dsimp only; omega)) _ | refine bl_then ?_ (by assumption))) hb3); clear hr3 hb3)
      | (go_at_call 41; refine (ref_Cmp a (pow2 63) A A1 c c1 n1.out n2.out _ (by exact Ra_1.out) (by exact Rp_1.out)).mono ?_; rintro e w2 ⟨rfl, hb2⟩; rw [HC.out]; have Ra_2 := Asd.mk (RB.below (by exact Ra_1.out) hb2); have Rp_2 := Asd.mk (RB.below (by exact Rp_1.out) hb2); obtain ⟨x2_0, x2_1, x2_2, x2_3⟩ := Bx.low hb2 hz1_x ⟨x1_0, x1_1, x1_2, x1_3⟩; have hz2_x : w.heap.size < w2.heap.size := Nat.lt_of_lt_of_le hz1_x hb2.size; have HB2 := Asd.mk (bl_then (w := w) (by repeat (first | exact Below.refl _ _ | assumption | exact HB1.out | refine bl_alloc ?_ _ | refine bl_drewN ?_ _ | refine bl_drew ?_ | refine bl_set ?_ (by first | (simp; done) | (simp; omega) | (dsimp only; omega)) _ | refine bl_then ?_ (by assumption))) hb2); clear hb2)
      | (go_at_call 50; refine (ref_Power 63 (by omega) _).mono ?_; rintro e w1 ⟨A1, c1, rfl, hr1, hb1⟩; have Rp_1 := Asd.mk hr1; have Ra_1 := Asd.mk (RB.below (by exact RB.below Ra_0.out (by repeat (first | exact Below.refl _ _ | assumption | refine bl_alloc ?_ _ | refine bl_drewN ?_ _ | refine bl_drew ?_ | refine bl_set ?_ (by first | (simp; done) | (simp; omega) | (dsimp only; omega)) _ | refine bl_then ?_ (by assumption)))) hb1); obtain ⟨x1_0, x1_1, x1_2, x1_3⟩ : Bx w1 (w.heap.size) (.bool (sg a)) (.slice A (nd a) c) := Bx.low hb1 (by first | (simp; done) | (simp; omega) | (simp [go_sem]; done) | (simp [go_sem]; omega) | omega) (by simp (maxDischargeDepth := 9) [Bx, go_sem, *]); have hz1_x : w.heap.size < w1.heap.size := Nat.lt_of_lt_of_le (by first | (simp; done) | (simp; omega) | (simp [go_sem]; done) | (simp [go_sem]; omega) | omega) hb1.size; have HB1 := Asd.mk (bl_then (w := w) (by repeat (first | exact Below.refl _ _ | assumption | refine bl_alloc ?_ _ | refine bl_drewN ?_ _ | refine bl_drew ?_ | refine bl_set ?_ (by first | (simp; done) | (simp; omega) | (dsimp only; omega)) _ | refine bl_then ?_ (by assumption))) hb1); clear hr1 hb1))
  have q := HQ.out
  go_wp2_with (go_at_call 58; refine (ref_low_u a HU.out A c _ (by exact Ra_5.out)).mono ?_; rintro e w' ⟨rfl, rfl⟩)
  have HBf := HB5.out
  go_ret2
  exact ⟨ret2_int E1.out rfl, (by repeat (first | exact Below.refl _ _ | assumption | refine bl_alloc ?_ _ | refine bl_drewN ?_ _ | refine bl_drew ?_ | refine bl_set ?_ (by first | (simp; done) | (simp; omega) | (dsimp only; omega)) _ | refine bl_then ?_ (by assumption)))⟩)
end Go.Proofs.YtfbhcaocfajjpaaDoor

namespace Go.Proofs.YtfbhcaocfajjpaaDoor
open Go.RowKit
set_option linter.unusedSimpArgs false
set_option linter.unusedVariables false
attribute [local go_sem] nlt2 nlt3 nlt4 nlt5 nlt6 nlt7 nlt8 nlt9 nlt10 nlt11 nlt12
attribute [local go_sem] field_D

theorem ref_Int (a : Int) (A : Option Addr) (c : Nat) (ha : nd a ≤ 5000) (w : World) (hA : RB w A c a) :
    Calls Tryd.prog 57 #[.agg #[.bool (sg a), .slice A (nd a) c]] w fun e w' => e = .returned (.tuple #[.int .i64 (fitI a), .int .i64 (errI a)]) ∧ Below w.heap.size w w' := by
  have e63 : pow2 63 = 9223372036854775808 := by decide
  by_cases h1 : pow2 63 ≤ a
  · have h : ¬ I64 a := by unfold I64; omega
    have e : fitI a = 0 ∧ errI a = 3 := by simp [fitI, errI, h]
    rw [e.1, e.2]; exact ref_Int_high a A c ha h1 w hA
  · by_cases h2 : a < -pow2 63
    · have h : ¬ I64 a := by unfold I64; omega
      have e : fitI a = 0 ∧ errI a = 3 := by simp [fitI, errI, h]
      rw [e.1, e.2]; exact ref_Int_low a A c ha h2 w hA
    · have h : I64 a := by unfold I64; omega
      have e : fitI a = a ∧ errI a = 0 := by simp [fitI, errI, h]
      rw [e.1, e.2]
      by_cases h0 : a < 0
      · exact ref_Int_neg a A c ha (by omega) h0 w hA
      · exact ref_Int_pos a A c ha (by omega) (by omega) w hA
theorem ref_Int_fits (a : Int) (A : Option Addr) (c : Nat) (h : I64 a) (w : World) (hA : RB w A c a) :
    Calls Tryd.prog 57 #[.agg #[.bool (sg a), .slice A (nd a) c]] w fun e w' => e = .returned (.tuple #[.int .i64 a, .int .i64 0]) ∧ Below w.heap.size w w' := by
  have e : fitI a = a ∧ errI a = 0 := by simp [fitI, errI, h]
  have k := ref_Int a A c (by have := nd_i64 h; omega) w hA
  rw [e.1, e.2] at k; exact k
theorem pow2_64 : pow2 64 = 18446744073709551616 := by decide
theorem pow2_127 : pow2 127 = 170141183460469231731687303715884105728 := by decide
theorem fl_whi (a : Int) : fl a (pow2 64) = whi a := by rw [pow2_64]; rfl
theorem sub_wlo (a : Int) : a - whi a * pow2 64 = wlo a := by rw [pow2_64]; unfold whi wlo; omega
theorem ref_Div_whi (a : Int) (A B : Option Addr) (c d : Nat) (ha : nd a ≤ 5000) (w : World) (hA : RB w A c a) (hB : RB w B d (pow2 64)) :
    Calls Tryd.prog 56 #[.agg #[.bool (sg a), .slice A (nd a) c], .agg #[.bool (sg (pow2 64)), .slice B (nd (pow2 64)) d]] w (BigR w (whi a)) := by
  rw [← fl_whi]; exact ref_Div a (pow2 64) A B c d (by rw [pow2_64]; decide) ha (by rw [nd_pow2]; omega) w hA hB
theorem ref_Sub_wlo (a : Int) (A B : Option Addr) (c d : Nat) (ha : W128 a) (w : World) (hA : RB w A c a) (hB : RB w B d (whi a * pow2 64)) :
    Calls Tryd.prog 39 #[.agg #[.bool (sg a), .slice A (nd a) c], .agg #[.bool (sg (whi a * pow2 64)), .slice B (nd (whi a * pow2 64)) d]] w (BigR w (wlo a)) := by
  rw [← sub_wlo]; exact ref_Sub a (whi a * pow2 64) A B c d (by have := nd_W128 ha; omega) (by have h1 := nd_mul (whi a) (pow2 64); have h2 := nd_i64 (whi_i64 ha); have h3 := nd_pow2 64; omega) w hA hB

set_option maxRecDepth 100000 in
set_option maxHeartbeats 8000000 in
theorem ref_Wide_mid (a : Int) (A : Option Addr) (c : Nat) (h : W128 a) (w : World) (hA : RB w A c a) :
    Calls Tryd.prog 21 #[.agg #[.bool (sg a), .slice A (nd a) c]] w fun e w' => e = .returned (.tuple #[.agg #[.int .i64 (whi a), .int .u64 (wlo a)], .int .i64 0]) ∧ Below w.heap.size w w' := by
  have S0 := Asd.mk ((St.refl w).big hA)
  have e127 := pow2_127
  have hh := h
  unfold W128 at hh
  have HC := Asd.mk (cmpZ_lt (a := a) (b := pow2 127) (by omega))
  obtain ⟨z, hc, hz⟩ : ∃ z, cmpZ a (-pow2 127) = z ∧ (z = 0 ∨ z = 1) := ⟨_, rfl, by unfold cmpZ; rw [if_neg (by omega)]; split <;> simp⟩
  have HC2 := Asd.mk hc
  have ha := nd_W128 h
  have HW := Asd.mk h
  have HI := Asd.mk (whi_i64 h)
  have HU := Asd.mk (wlo_u64 a)
  have n0 : Asd (nd a ≤ 5000) := ⟨by omega⟩
  have n1 : Asd (nd a ≤ 10000) := ⟨by omega⟩
  have n2 : Asd (nd (pow2 127) ≤ 10000) := ⟨by rw [nd_pow2]; omega⟩
  have n3 : Asd (nd (-pow2 127) ≤ 10000) := ⟨by rw [nd_neg, nd_pow2]; omega⟩
  have n4 : Asd (nd (whi a) ≤ 10000) := ⟨by have := nd_i64 HI.out; omega⟩
  have n5 : Asd (nd (pow2 64) ≤ 10000) := ⟨by rw [nd_pow2]; omega⟩
  clear hA h hh hc ha e127
  rcases hz with rfl | rfl
  all_goals (
  go_enter Tryd.func21, Tryd.ntmps21
  go_wp2
  go_region_held3 (fun w' => w'.cell? ⟨w.heap.size, 0, none⟩ = some (.bool (sg a)) ∧ w'.cell? ⟨w.heap.size, 1, none⟩ = some (.slice A (nd a) c))
    (first | (simp [go_sem, *]; done) | (simp (maxDischargeDepth := 9) [go_sem, *]; done))
    (first
      | (go_at_call 41; replace S4 := S4; refine (ref_Cmp a (-pow2 127) A A4 c c4 n1.out n3.out _ (by exact RB.below (S4.out.rb 3 rfl) (by with_reducible repeat (first | exact Below.refl _ _ | refine bl_alloc ?_ _ | refine bl_drewN ?_ _ | refine bl_drew ?_))) (by exact RB.below (S4.out.rb 0 rfl) (by with_reducible repeat (first | exact Below.refl _ _ | refine bl_alloc ?_ _ | refine bl_drewN ?_ _ | refine bl_drew ?_)))).mono ?_; rintro e w5 ⟨rfl, hb5⟩; rw [HC2.out]; apply St.step (w0 := w) (hb := hb5); (focus (with_reducible repeat (first | exact S4.out | apply St.lay | apply St.drew | apply St.drewN))); intro S5; (try simp only [sz_alloc, sz_drew, sz_drewN] at S5); clear hb5 S4; (try clear C4); have C5 := S5.out.facts; simp only [facts, apart, cellsAt, Nat.zero_add, Nat.reduceAdd, and_true] at C5)
      | (go_at_call 55; replace S3 := S3; refine (ref_Turn (pow2 127) A3 c3 _ (by exact RB.below (S3.out.rb 0 rfl) (by with_reducible repeat (first | exact Below.refl _ _ | refine bl_alloc ?_ _ | refine bl_drewN ?_ _ | refine bl_drew ?_)))).mono ?_; rintro e w4 ⟨A4, c4, rfl, hr4, hb4⟩; apply St.stepB (w0 := w) (hb := hb4) (hr := hr4); (focus (with_reducible repeat (first | exact S3.out | apply St.lay | apply St.drew | apply St.drewN))); intro S4; (try simp only [sz_alloc, sz_drew, sz_drewN] at S4); clear hr4 hb4 S3; (try clear C3); have C4 := S4.out.facts; simp only [facts, apart, cellsAt, Nat.zero_add, Nat.reduceAdd, and_true] at C4)
      | (go_at_call 50; replace S2 := S2; refine (ref_Power 127 (by omega) _).mono ?_; rintro e w3 ⟨A3, c3, rfl, hr3, hb3⟩; apply St.stepB (w0 := w) (hb := hb3) (hr := hr3); (focus (with_reducible repeat (first | exact S2.out | apply St.lay | apply St.drew | apply St.drewN))); intro S3; (try simp only [sz_alloc, sz_drew, sz_drewN] at S3); clear hr3 hb3 S2; (try clear C2); have C3 := S3.out.facts; simp only [facts, apart, cellsAt, Nat.zero_add, Nat.reduceAdd, and_true] at C3)
      | (go_at_call 41; replace S1 := S1; refine (ref_Cmp a (pow2 127) A A1 c c1 n1.out n2.out _ (by exact RB.below (S1.out.rb 1 rfl) (by with_reducible repeat (first | exact Below.refl _ _ | refine bl_alloc ?_ _ | refine bl_drewN ?_ _ | refine bl_drew ?_))) (by exact RB.below (S1.out.rb 0 rfl) (by with_reducible repeat (first | exact Below.refl _ _ | refine bl_alloc ?_ _ | refine bl_drewN ?_ _ | refine bl_drew ?_)))).mono ?_; rintro e w2 ⟨rfl, hb2⟩; rw [HC.out]; apply St.step (w0 := w) (hb := hb2); (focus (with_reducible repeat (first | exact S1.out | apply St.lay | apply St.drew | apply St.drewN))); intro S2; (try simp only [sz_alloc, sz_drew, sz_drewN] at S2); clear hb2 S1; (try clear C1); have C2 := S2.out.facts; simp only [facts, apart, cellsAt, Nat.zero_add, Nat.reduceAdd, and_true] at C2)
      | (go_at_call 50; replace S0 := S0; refine (ref_Power 127 (by omega) _).mono ?_; rintro e w1 ⟨A1, c1, rfl, hr1, hb1⟩; apply St.stepB (w0 := w) (hb := hb1) (hr := hr1); (focus (with_reducible repeat (first | exact S0.out | apply St.lay | apply St.drew | apply St.drewN))); intro S1; (try simp only [sz_alloc, sz_drew, sz_drewN] at S1); clear hr1 hb1 S0; (try clear C0); have C1 := S1.out.facts; simp only [facts, apart, cellsAt, Nat.zero_add, Nat.reduceAdd, and_true] at C1))
  go_wp2
  go_cut [4] (fun s4 wx => ∃ (t : Nat) (Ah : Option Addr) (ch : Nat), s4 = .pointer (some ⟨t, 0, none⟩) ∧ Asd (St w wx [(t, [.bool (sg (whi a)), .slice Ah (nd (whi a)) ch]), (w.heap.size + 1, [.int .i64 0, .int .u64 0]), (w.heap.size, [.bool (sg a), .slice A (nd a) c])] [(Ah, ch, whi a), (A, c, a)]))
  case first =>
    go_region_held3 (fun w' => w'.cell? ⟨w.heap.size, 0, none⟩ = some (.bool (sg a)) ∧ w'.cell? ⟨w.heap.size, 1, none⟩ = some (.slice A (nd a) c))
    (first | (simp [go_sem, *]; done) | (simp (maxDischargeDepth := 9) [go_sem, *]; done))
    (first
      | (go_at_call 56; replace S6 := S6; refine (ref_Div_whi a A A6 c c6 n0.out _ (by exact RB.below (S6.out.rb 4 rfl) (by with_reducible repeat (first | exact Below.refl _ _ | refine bl_alloc ?_ _ | refine bl_drewN ?_ _ | refine bl_drew ?_))) (by exact RB.below (S6.out.rb 0 rfl) (by with_reducible repeat (first | exact Below.refl _ _ | refine bl_alloc ?_ _ | refine bl_drewN ?_ _ | refine bl_drew ?_)))).mono ?_; rintro e w7 ⟨A7, c7, rfl, hr7, hb7⟩; apply St.stepB (w0 := w) (hb := hb7) (hr := hr7); (focus (with_reducible repeat (first | exact S6.out | apply St.lay | apply St.drew | apply St.drewN))); intro S7; (try simp only [sz_alloc, sz_drew, sz_drewN] at S7); clear hr7 hb7 S6; (try clear C6); have C7 := S7.out.facts; simp only [facts, apart, cellsAt, Nat.zero_add, Nat.reduceAdd, and_true] at C7)
      | (go_at_call 50; replace S5 := S5; refine (ref_Power 64 (by omega) _).mono ?_; rintro e w6 ⟨A6, c6, rfl, hr6, hb6⟩; apply St.stepB (w0 := w) (hb := hb6) (hr := hr6); (focus (with_reducible repeat (first | exact S5.out | apply St.lay | apply St.drew | apply St.drewN))); intro S6; (try simp only [sz_alloc, sz_drew, sz_drewN] at S6); clear hr6 hb6 S5; (try clear C5); have C6 := S6.out.facts; simp only [facts, apart, cellsAt, Nat.zero_add, Nat.reduceAdd, and_true] at C6))
    all_goals (
      go_wp2_with fail
      go_meet
      case rel =>
        first
          | exact ⟨_, A7, c7, rfl, ⟨St.less (St.lay S7.out _ _) (List.Sublist.refl _) (by simp)⟩⟩
          | exact ⟨_, A7, c7, rfl, ⟨St.less (St.set (St.set S7.out 0 0 rfl (by simp) (.inr rfl) _) 0 1 rfl (by simp) (.inr rfl) _) (List.Sublist.refl _) (by simp)⟩⟩)
  case rest =>
    obtain ⟨t, Ah, ch, rfl, S8⟩ := hcut
    have C8 := S8.out.facts
    simp only [facts, apart, cellsAt, Nat.zero_add, Nat.reduceAdd, and_true] at C8
    go_wp2_with (first
      | (go_at_call 57; replace S8 := S8; refine (ref_Int_fits (whi a) Ah ch HI.out _ (by exact RB.below (S8.out.rb 0 rfl) (by with_reducible repeat (first | exact Below.refl _ _ | refine bl_alloc ?_ _ | refine bl_drewN ?_ _ | refine bl_drew ?_)))).mono ?_; rintro e w9 ⟨rfl, hb9⟩; apply St.step (w0 := w) (hb := hb9); (focus (with_reducible repeat (first | exact S8.out | apply St.lay | apply St.drew | apply St.drewN))); intro S9; (try simp only [sz_alloc, sz_drew, sz_drewN] at S9); clear hb9 S8; (try clear C8); have C9 := S9.out.facts; simp only [facts, apart, cellsAt, Nat.zero_add, Nat.reduceAdd, and_true] at C9))
    go_region_held3 (fun w' => w'.cell? ⟨w.heap.size, 0, none⟩ = some (.bool (sg a)) ∧ w'.cell? ⟨w.heap.size, 1, none⟩ = some (.slice A (nd a) c) ∧ w'.cell? ⟨t, 0, none⟩ = some (.bool (sg (whi a))) ∧ w'.cell? ⟨t, 1, none⟩ = some (.slice Ah (nd (whi a)) ch))
    (first | (simp [go_sem, *]; done) | (simp (maxDischargeDepth := 9) [go_sem, *]; done))
    (first
      | (go_at_call 58; replace S12 := S12; refine (ref_low_u (wlo a) HU.out A12 c12 _ (by exact RB.below (S12.out.rb 0 rfl) (by with_reducible repeat (first | exact Below.refl _ _ | refine bl_alloc ?_ _ | refine bl_drewN ?_ _ | refine bl_drew ?_)))).mono ?_; rintro e w' ⟨rfl, rfl⟩)
      | (go_at_call 39; replace S11 := S11; refine (ref_Sub_wlo a A A11 c c11 HW.out _ (by exact RB.below (S11.out.rb 3 rfl) (by with_reducible repeat (first | exact Below.refl _ _ | refine bl_alloc ?_ _ | refine bl_drewN ?_ _ | refine bl_drew ?_))) (by exact RB.below (S11.out.rb 0 rfl) (by with_reducible repeat (first | exact Below.refl _ _ | refine bl_alloc ?_ _ | refine bl_drewN ?_ _ | refine bl_drew ?_)))).mono ?_; rintro e w12 ⟨A12, c12, rfl, hr12, hb12⟩; apply St.stepB (w0 := w) (hb := hb12) (hr := hr12); (focus (with_reducible repeat (first | exact S11.out | apply St.lay | apply St.drew | apply St.drewN))); intro S12; (try simp only [sz_alloc, sz_drew, sz_drewN] at S12); clear hr12 hb12 S11; (try clear C11); have C12 := S12.out.facts; simp only [facts, apart, cellsAt, Nat.zero_add, Nat.reduceAdd, and_true] at C12)
      | (go_at_call 42; replace S10 := S10; refine (ref_Mul (whi a) (pow2 64) Ah A10 ch c10 n4.out n5.out _ (by exact RB.below (S10.out.rb 1 rfl) (by with_reducible repeat (first | exact Below.refl _ _ | refine bl_alloc ?_ _ | refine bl_drewN ?_ _ | refine bl_drew ?_))) (by exact RB.below (S10.out.rb 0 rfl) (by with_reducible repeat (first | exact Below.refl _ _ | refine bl_alloc ?_ _ | refine bl_drewN ?_ _ | refine bl_drew ?_)))).mono ?_; rintro e w11 ⟨A11, c11, rfl, hr11, hb11⟩; apply St.stepB (w0 := w) (hb := hb11) (hr := hr11); (focus (with_reducible repeat (first | exact S10.out | apply St.lay | apply St.drew | apply St.drewN))); intro S11; (try simp only [sz_alloc, sz_drew, sz_drewN] at S11); clear hr11 hb11 S10; (try clear C10); have C11 := S11.out.facts; simp only [facts, apart, cellsAt, Nat.zero_add, Nat.reduceAdd, and_true] at C11)
      | (go_at_call 50; replace S9 := S9; refine (ref_Power 64 (by omega) _).mono ?_; rintro e w10 ⟨A10, c10, rfl, hr10, hb10⟩; apply St.stepB (w0 := w) (hb := hb10) (hr := hr10); (focus (with_reducible repeat (first | exact S9.out | apply St.lay | apply St.drew | apply St.drewN))); intro S10; (try simp only [sz_alloc, sz_drew, sz_drewN] at S10); clear hr10 hb10 S9; (try clear C9); have C10 := S10.out.facts; simp only [facts, apart, cellsAt, Nat.zero_add, Nat.reduceAdd, and_true] at C10))
    go_wp2
    have HBf := S12.out.bl
    refine bodyPost_ret (v := .tuple #[.agg #[.int .i64 (whi a), .int .u64 (wlo a)], .int .i64 0]) (by simp (maxDischargeDepth := 9) [results, Tryd.results21, go_sem, *]) rfl ⟨rfl, (by repeat (first | exact Below.refl _ _ | assumption | refine bl_alloc ?_ _ | refine bl_drewN ?_ _ | refine bl_drew ?_ | refine bl_set ?_ (by first | (simp; done) | (simp; omega) | (dsimp only; omega)) _ | refine bl_then ?_ (by assumption)))⟩)

end Go.Proofs.YtfbhcaocfajjpaaDoor
