/- Walks of the reference's big numbers, thirteenth part: the quotient by any number but 0, rounded down. -/
/- Walks of the reference's big numbers, fifteenth part: of a wide number; the lowest 64 bits. -/
/- Walks of the reference's big numbers, sixteenth part: the lowest 64 bits. -/
/- Walks of the reference's big numbers, seventeenth part: a number of 64 bits. -/
/- Walks of the reference's big numbers, eighteenth part: a wide number. -/
import Derived.Deep.DeepCutAuto
import Derived.Test.YticcjmcmicchjaaDoorRj
import Derived.Test.YticcjmcmicchjaaDoorSt
namespace Go.Proofs.YticcjmcmicchjaaDoor
open Go.RowKit
attribute [local go_sem] nlt2 nlt3 nlt4 nlt5 nlt6 nlt7 nlt8 nlt9 nlt10 nlt11 nlt12

end Go.Proofs.YticcjmcmicchjaaDoor

namespace Go.Proofs.YticcjmcmicchjaaDoor
open Go.RowKit
attribute [local go_sem] nlt2 nlt3 nlt4 nlt5 nlt6 nlt7 nlt8 nlt9 nlt10 nlt11 nlt12

theorem nd_i64 {x : Int} (h : I64 x) : nd x ≤ 4 := by
  have e : pB 4 = 18446744073709551616 := by decide
  exact nd_le_of (by rw [e]; unfold I64 at h; omega)
theorem nd_u64 {x : Int} (h : U64 x) : nd x ≤ 4 := by
  have e : pB 4 = 18446744073709551616 := by decide
  exact nd_le_of (by rw [e]; unfold U64 at h; omega)
theorem nd_W128 {x : Int} (h : W128 x) : nd x ≤ 8 := by
  have e : pB 8 = 340282366920938463463374607431768211456 := by decide
  exact nd_le_of (by rw [e]; unfold W128 at h; omega)
theorem nd_pow2 (n : Nat) : nd (pow2 n) = n / 16 + 1 := by unfold nd; rw [pow2_digits]; simp
theorem from_eq (a : Int) : whi a * pow2 64 + wlo a = a := by
  have e : pow2 64 = 18446744073709551616 := by decide
  rw [e]; unfold whi wlo; omega

end Go.Proofs.YticcjmcmicchjaaDoor

namespace Go.Proofs.YticcjmcmicchjaaDoor
open Go.RowKit
attribute [local go_sem] nlt2 nlt3 nlt4 nlt5 nlt6 nlt7 nlt8 nlt9 nlt10 nlt11 nlt12

theorem low_step {xs : List Int} (h : Dg xs) {k : Nat} {n : Int} (hv : vald (xs.take 4) = vald (xs.take (k + 1)) + pB (k + 1) * n) (h0 : 0 ≤ n) (hb : n < pB (3 - k)) (hk : k ≤ 3) :
    vald (xs.take 4) = vald (xs.take k) + pB k * (65536 * n + gd xs k) ∧ 0 ≤ 65536 * n + gd xs k ∧ 65536 * n + gd xs k < pB (4 - k) ∧ 65536 * n + gd xs k < 18446744073709551616 := by
  have hg := gd_bd h k
  have e : pB (4 - k) = 65536 * pB (3 - k) := by rw [← pB_succ]; congr 1; omega
  have e4 : pB 4 = 18446744073709551616 := by decide
  have hm : pB (4 - k) ≤ pB 4 := pB_mono (by omega)
  refine ⟨?_, by omega, by omega, by omega⟩
  rw [hv, take_gd, pB_succ, Int.mul_add, Int.mul_left_comm (pB k), Int.mul_assoc]
  omega

set_option maxRecDepth 100000 in
set_option maxHeartbeats 2000000 in
theorem ref_low (A : Option Addr) (c : Nat) (xs : List Int) (hd : Dg xs) (w : World) (h : RS w A c xs) :
    Calls Tryd.prog 80 #[.slice A xs.length c] w fun e w' => e = .returned (.int .u64 (vald (xs.take 4))) ∧ w = w' := by
  have HA := Asd.mk h
  clear h
  go_enter Tryd.func80, Tryd.ntmps80
  go_wp2
  go_loop [3, 4] (fun v3 v4 => ∃ (k : Nat) (n : Int), k ≤ 4 ∧ v4 = .int .i64 (k - 1) ∧ v3 = .int .u64 n ∧ 0 ≤ n ∧ Asd (n < pB (4 - k) ∧ vald (xs.take 4) = vald (xs.take k) + pB k * n)) (fun _ v4 => (intOf v4 + 1).toNat)
  case atStart => exact ⟨4, 0, by omega, rfl, rfl, by omega, ⟨by decide, by omega⟩⟩
  case round =>
    obtain ⟨k, n, hk, rfl, rfl, hn, HV⟩ := hrel
    by_cases hgo : 0 < k
    · obtain ⟨m, rfl⟩ : ∃ m, k = m + 1 := ⟨k - 1, by omega⟩
      rw [show (((m + 1 : Nat) : Int) - 1) = (m : Int) from by omega]
      have hs := low_step hd HV.out.2 hn (by have := HV.out.1; rw [show 4 - (m + 1) = 3 - m from by omega] at this; exact this) (by omega)
      have HS := Asd.mk hs
      have e1 : IntKind.u64.wrap (65536 * n) = 65536 * n := by have := gd_bd hd m; rw [IntKind.wrap_u64]; omega
      have e2 : IntKind.u64.wrap (65536 * n + gd xs m) = 65536 * n + gd xs m := by rw [IntKind.wrap_u64]; omega
      clear hs
      go_wp2_with (go_at_call 67; refine (ref_digit A c xs m _ (by exact HA.out)).mono ?_; rintro e w' ⟨rfl, rfl⟩)
      go_round
      case rel => exact ⟨m, _, by omega, rfl, rfl, HS.out.2.1, ⟨HS.out.2.2.1, HS.out.1⟩⟩
      case measure => simp [intOf]
    · obtain rfl : k = 0 := by omega
      rw [show (((0 : Nat) : Int) - 1) = -1 from by omega]
      have HF := Asd.mk (show n = vald (xs.take 4) by have := HV.out.2; simp [vald, pB] at this; omega)
      go_wp2
      go_ret
      exact ⟨ret_int HF.out, rfl⟩
end Go.Proofs.YticcjmcmicchjaaDoor

-- Rp
namespace Go.Proofs.YticcjmcmicchjaaDoor
open Go.RowKit
attribute [local go_sem] nlt2 nlt3 nlt4 nlt5 nlt6 nlt7 nlt8 nlt9 nlt10 nlt11 nlt12

theorem cmpZ_ge {a b : Int} (h : b ≤ a) : 0 ≤ cmpZ a b := by unfold cmpZ; rw [if_neg (by omega)]; split <;> omega
theorem cmpZ_lt {a b : Int} (h : a < b) : cmpZ a b = -1 := by unfold cmpZ; rw [if_pos h]

set_option maxRecDepth 100000 in
set_option maxHeartbeats 4000000 in
theorem ref_Int_high (a : Int) (A : Option Addr) (c : Nat) (ha : nd a ≤ 5000) (h : pow2 63 ≤ a) (w : World) (hA : RB w A c a) :
    Calls Tryd.prog 71 #[.agg #[.bool (sg a), .slice A (nd a) c]] w fun e w' => e = .returned (.tuple #[.int .i64 0, .int .i64 3]) ∧ Below w.heap.size w w' := by
  have HA := Asd.mk hA
  obtain ⟨z, hc, hz⟩ : ∃ z, cmpZ a (pow2 63) = z ∧ (z = 0 ∨ z = 1) := ⟨_, rfl, by unfold cmpZ; rw [if_neg (by omega)]; split <;> simp⟩
  have HC := Asd.mk hc
  clear hc
  have n1 : Asd (nd a ≤ 10000) := ⟨by omega⟩
  have n2 : Asd (nd (pow2 63) ≤ 10000) := ⟨by rw [nd_pow2]; omega⟩
  clear hA h
  rcases hz with rfl | rfl
  all_goals (
  go_enter Tryd.func71, Tryd.ntmps71
  go_wp2
  go_region_with
    (first
      | (go_at_call 53; refine (ref_Power 63 (by omega) _).mono ?_; rintro e w1 ⟨A1, c1, rfl, hr1, hb1⟩; have RP1 := Asd.mk hr1; have RA1 := Asd.mk (RB.below (by exact RS.below HA.out (by repeat (first | exact Below.refl _ _ | assumption | refine bl_alloc ?_ _ | refine bl_drewN ?_ _ | refine bl_drew ?_ | refine bl_set ?_ (by first | (simp; done) | (simp; omega) | (dsimp only; omega)) _ | refine bl_then ?_ (by assumption)))) hb1); obtain ⟨x4, x5, x6, x7⟩ : Bx w1 (w.heap.size) (.bool (sg a)) (.slice A (nd a) c) := Bx.low hb1 (by first | (simp; done) | (simp; omega) | (simp [go_sem]; done) | (simp [go_sem]; omega) | omega) (by simp (maxDischargeDepth := 9) [Bx, go_sem, *]); have hz1_x : w.heap.size < w1.heap.size := Nat.lt_of_lt_of_le (by first | (simp; done) | (simp; omega) | (simp [go_sem]; done) | (simp [go_sem]; omega)) hb1.size; have HB1 := Asd.mk (bl_then (w := w) (by repeat (first | exact Below.refl _ _ | assumption | refine bl_alloc ?_ _ | refine bl_drewN ?_ _ | refine bl_drew ?_ | refine bl_set ?_ (by first | (simp; done) | (simp; omega) | (dsimp only; omega)) _ | refine bl_then ?_ (by assumption))) hb1); clear hr1 hb1)
      | (go_at_call 79; refine (ref_Cmp a (pow2 63) A A1 c c1 n1.out n2.out _ (by exact RA1.out) (by exact RP1.out)).mono ?_; rintro e w2 ⟨rfl, hb2⟩; rw [HC.out]; obtain ⟨x8, x9, x10, x11⟩ := Bx.low hb2 hz1_x ⟨x4, x5, x6, x7⟩; have hz2_x : w.heap.size < w2.heap.size := Nat.lt_of_lt_of_le hz1_x hb2.size; have HB2 := Asd.mk (bl_then HB1.out hb2); clear hb2))
  all_goals go_wp2
  all_goals go_ret2
  all_goals
  exact ⟨rfl, (by repeat (first | exact Below.refl _ _ | assumption | exact HB2.out | refine bl_alloc ?_ _ | refine bl_drewN ?_ _ | refine bl_drew ?_ | refine bl_set ?_ (by first | (simp; done) | (simp; omega) | (dsimp only; omega)) _ | refine bl_then ?_ (by assumption)))⟩)

set_option maxRecDepth 100000 in
set_option maxHeartbeats 4000000 in
theorem ref_Int_low (a : Int) (A : Option Addr) (c : Nat) (ha : nd a ≤ 5000) (h : a < -pow2 63) (w : World) (hA : RB w A c a) :
    Calls Tryd.prog 71 #[.agg #[.bool (sg a), .slice A (nd a) c]] w fun e w' => e = .returned (.tuple #[.int .i64 0, .int .i64 3]) ∧ Below w.heap.size w w' := by
  have HA := Asd.mk hA
  have HC := Asd.mk (cmpZ_lt (a := a) (b := pow2 63) (by have := pow2_pos 63; omega))
  have HC2 := Asd.mk (cmpZ_lt (a := a) (b := -pow2 63) h)
  have n1 : Asd (nd a ≤ 10000) := ⟨by omega⟩
  have n2 : Asd (nd (pow2 63) ≤ 10000) := ⟨by rw [nd_pow2]; omega⟩
  have n3 : Asd (nd (-pow2 63) ≤ 10000) := ⟨by rw [nd_neg, nd_pow2]; omega⟩
  clear hA h
  go_enter Tryd.func71, Tryd.ntmps71
  go_wp2
  go_region_held3 (fun w' => w'.cell? ⟨w.heap.size, 0, none⟩ = some (.bool (sg a)) ∧ w'.cell? ⟨w.heap.size, 1, none⟩ = some (.slice A (nd a) c))
    (first | (simp [go_sem]; done) | exact ⟨x4, x5⟩ | exact ⟨x8, x9⟩ | exact ⟨x12, x13⟩ | exact ⟨x16, x17⟩ | exact ⟨x20, x21⟩ | (simp (maxDischargeDepth := 9) [go_sem, *]; done))
    (first
      | (go_at_call 79; (with_reducible refine (ref_Cmp a (pow2 63) A A1 c c1 n1.out n2.out _ RA1.out RP1.out).mono ?_); rintro e w2 ⟨rfl, hb2⟩; rw [HC.out]; have RA2 := Asd.mk (RB.below RA1.out hb2); obtain ⟨x8, x9, x10, x11⟩ := Bx.low hb2 hz1_x ⟨x4, x5, x6, x7⟩; have hz2_x : w.heap.size < w2.heap.size := Nat.lt_of_lt_of_le hz1_x hb2.size; have HB2 := Asd.mk (bl_then HB1.out hb2); clear hb2)
      | (go_at_call 79; (with_reducible refine (ref_Cmp a (-pow2 63) A A4 c c4 n1.out n3.out _ RA4.out RT4.out).mono ?_); rintro e w5 ⟨rfl, hb5⟩; rw [HC2.out]; obtain ⟨x20, x21, x22, x23⟩ := Bx.low hb5 hz4_x ⟨x16, x17, x18, x19⟩; have hz5_x : w.heap.size < w5.heap.size := Nat.lt_of_lt_of_le hz4_x hb5.size; have RA5 := Asd.mk (RB.below RA4.out hb5); have HB5 := Asd.mk (bl_then HB4.out hb5); clear hb5)
      | (go_at_call 72; refine (ref_Turn (pow2 63) A3 c3 _ (by exact RP3.out)).mono ?_; rintro e w4 ⟨A4, c4, rfl, hr4, hb4⟩; have RT4 := Asd.mk hr4; have RA4 := Asd.mk (RB.below RA3.out hb4); obtain ⟨x16, x17, x18, x19⟩ := Bx.low hb4 hz3_x ⟨x12, x13, x14, x15⟩; have hz4_x : w.heap.size < w4.heap.size := Nat.lt_of_lt_of_le hz3_x hb4.size; have HB4 := Asd.mk (bl_then HB3.out hb4); clear hr4 hb4)
      | (go_at_call 53; refine (ref_Power 63 (by omega) _).mono ?_; rintro e w3 ⟨A3, c3, rfl, hr3, hb3⟩; have RP3 := Asd.mk hr3; have RA3 := Asd.mk (RB.below RA2.out hb3); obtain ⟨x12, x13, x14, x15⟩ := Bx.low hb3 hz2_x ⟨x8, x9, x10, x11⟩; have hz3_x : w.heap.size < w3.heap.size := Nat.lt_of_lt_of_le hz2_x hb3.size; have HB3 := Asd.mk (bl_then HB2.out hb3); clear hr3 hb3)
      | (go_at_call 53; refine (ref_Power 63 (by omega) _).mono ?_; rintro e w1 ⟨A1, c1, rfl, hr1, hb1⟩; have RP1 := Asd.mk hr1; have RA1 := Asd.mk (RB.below (by exact RS.below HA.out (by repeat (first | exact Below.refl _ _ | assumption | refine bl_alloc ?_ _ | refine bl_drewN ?_ _ | refine bl_drew ?_ | refine bl_set ?_ (by first | (simp; done) | (simp; omega) | (dsimp only; omega)) _ | refine bl_then ?_ (by assumption)))) hb1); obtain ⟨x4, x5, x6, x7⟩ : Bx w1 (w.heap.size) (.bool (sg a)) (.slice A (nd a) c) := Bx.low hb1 (by first | (simp; done) | (simp; omega) | (simp [go_sem]; done) | (simp [go_sem]; omega) | omega) (by simp (maxDischargeDepth := 9) [Bx, go_sem, *]); have hz1_x : w.heap.size < w1.heap.size := Nat.lt_of_lt_of_le (by first | (simp; done) | (simp; omega) | (simp [go_sem]; done) | (simp [go_sem]; omega)) hb1.size; have HB1 := Asd.mk (bl_then (w := w) (by repeat (first | exact Below.refl _ _ | assumption | refine bl_alloc ?_ _ | refine bl_drewN ?_ _ | refine bl_drew ?_ | refine bl_set ?_ (by first | (simp; done) | (simp; omega) | (dsimp only; omega)) _ | refine bl_then ?_ (by assumption))) hb1); clear hr1 hb1))
  go_wp2
  go_ret2
  exact ⟨rfl, (by repeat (first | exact Below.refl _ _ | assumption | exact HB5.out | refine bl_alloc ?_ _ | refine bl_drewN ?_ _ | refine bl_drew ?_ | refine bl_set ?_ (by first | (simp; done) | (simp; omega) | (dsimp only; omega)) _ | refine bl_then ?_ (by assumption)))⟩

theorem low_u64 {z : Int} (h : U64 z) : vald ((dg z).take 4) = z := by
  rw [List.take_of_length_le (by have := nd_u64 h; exact this), vald_dg]; unfold U64 at h; omega
theorem ref_low_u (z : Int) (hz : U64 z) (A : Option Addr) (c : Nat) (w : World) (h : RB w A c z) :
    Calls Tryd.prog 80 #[.slice A (nd z) c] w fun e w' => e = .returned (.int .u64 z) ∧ w = w' := by
  have k := ref_low A c (dg z) (dg_Dg z) w h
  rw [low_u64 hz] at k; exact k

theorem ret2_int {k l : IntKind} {x y a b : Int} (h : x = a) (h2 : y = b) : Ending.returned (.tuple #[.int k x, .int l y]) = .returned (.tuple #[.int k a, .int l b]) := by rw [h, h2]
theorem field_D (s : Bool) (A : Option Addr) (n c : Nat) (w : World) : (Instr.field 76 (.agg #[.bool s, .slice A n c]) 1).run Tryd.prog w = .ok (.slice A n c) w := by kernel_rfl
attribute [local go_sem] field_D
set_option maxRecDepth 100000 in
set_option maxHeartbeats 8000000 in
theorem ref_Int_neg (a : Int) (A : Option Addr) (c : Nat) (ha : nd a ≤ 5000) (h : -pow2 63 ≤ a) (h0 : a < 0) (w : World) (hA : RB w A c a) :
    Calls Tryd.prog 71 #[.agg #[.bool (sg a), .slice A (nd a) c]] w fun e w' => e = .returned (.tuple #[.int .i64 a, .int .i64 0]) ∧ Below w.heap.size w w' := by
  have Ra_0 := Asd.mk hA
  have HC := Asd.mk (cmpZ_lt (a := a) (b := pow2 63) (by have := pow2_pos 63; omega))
  obtain ⟨z, hc, hz⟩ : ∃ z, cmpZ a (-pow2 63) = z ∧ (z = 0 ∨ z = 1) := ⟨_, rfl, by unfold cmpZ; rw [if_neg (by omega)]; split <;> simp⟩
  have HC2 := Asd.mk hc
  have n1 : Asd (nd a ≤ 10000) := ⟨by omega⟩
  have n2 : Asd (nd (pow2 63) ≤ 10000) := ⟨by rw [nd_pow2]; omega⟩
  have n3 : Asd (nd (-pow2 63) ≤ 10000) := ⟨by rw [nd_neg, nd_pow2]; omega⟩
  have n4 : Asd (nd (-a) ≤ 10000) := ⟨by rw [nd_neg]; omega⟩
  have n5 : Asd (nd 1 ≤ 10000) := ⟨nd_one⟩
  have e63 : pow2 63 = 9223372036854775808 := by decide
  have I1 : Asd (I64 1) := ⟨by decide⟩
  have HQ := Asd.mk (sg_true.2 h0)
  have HU : Asd (U64 (-a - 1)) := ⟨by unfold U64; omega⟩
  have HS : Asd (-9223372036854775808 ≤ a ∧ a < 0) := ⟨by omega⟩
  have HT := Asd.mk (fun W h => ref_Turn a A c W h)
  rw [HQ.out] at HT
  clear hA h h0 hc e63
  rcases hz with rfl | rfl
  all_goals (
  go_enter Tryd.func71, Tryd.ntmps71
  go_wp2
  go_region_held3 (fun w' => w'.cell? ⟨w.heap.size, 0, none⟩ = some (.bool (sg a)) ∧ w'.cell? ⟨w.heap.size, 1, none⟩ = some (.slice A (nd a) c))
    (first | exact ⟨x1_0, x1_1⟩ | exact ⟨x2_0, x2_1⟩ | exact ⟨x3_0, x3_1⟩ | exact ⟨x4_0, x4_1⟩ | exact ⟨x5_0, x5_1⟩ | (simp [go_sem]; done) | (simp (maxDischargeDepth := 9) [go_sem, *]; done))
    (first
      | (go_at_call 79; refine (ref_Cmp a (-pow2 63) A A4 c c4 n1.out n3.out _ (by exact Ra_4.out) (by exact Rt_4.out)).mono ?_; rintro e w5 ⟨rfl, hb5⟩; rw [HC2.out]; have Ra_5 := Asd.mk (RB.below (by exact Ra_4.out) hb5); have Rt_5 := Asd.mk (RB.below (by exact Rt_4.out) hb5); obtain ⟨x5_0, x5_1, x5_2, x5_3⟩ := Bx.low hb5 hz4_x ⟨x4_0, x4_1, x4_2, x4_3⟩; have hz5_x : w.heap.size < w5.heap.size := Nat.lt_of_lt_of_le hz4_x hb5.size; have HB5 := Asd.mk (bl_then (w := w) (by repeat (first | exact Below.refl _ _ | assumption | exact HB4.out | refine bl_alloc ?_ _ | refine bl_drewN ?_ _ | refine bl_drew ?_ | refine bl_set ?_ (by first | (simp; done) | (simp; omega) | (dsimp only; omega)) _ | refine bl_then ?_ (by assumption))) hb5); clear hb5)
      | (go_at_call 72; refine (ref_Turn (pow2 63) A3 c3 _ (by exact Rq_3.out)).mono ?_; rintro e w4 ⟨A4, c4, rfl, hr4, hb4⟩; have Rt_4 := Asd.mk hr4; have Ra_4 := Asd.mk (RB.below (by exact Ra_3.out) hb4); have Rq_4 := Asd.mk (RB.below (by exact Rq_3.out) hb4); obtain ⟨x4_0, x4_1, x4_2, x4_3⟩ := Bx.low hb4 hz3_x ⟨x3_0, x3_1, x3_2, x3_3⟩; have hz4_x : w.heap.size < w4.heap.size := Nat.lt_of_lt_of_le hz3_x hb4.size; have HB4 := Asd.mk (bl_then (w := w) (by repeat (first | exact Below.refl _ _ | assumption | exact HB3.out | refine bl_alloc ?_ _ | refine bl_drewN ?_ _ | refine bl_drew ?_ | refine bl_set ?_ (by first | (simp; done) | (simp; omega) | (dsimp only; omega)) _ | refine bl_then ?_ (by assumption))) hb4); clear hr4 hb4)
      | (go_at_call 53; refine (ref_Power 63 (by omega) _).mono ?_; rintro e w3 ⟨A3, c3, rfl, hr3, hb3⟩; have Rq_3 := Asd.mk hr3; have Ra_3 := Asd.mk (RB.below (by exact Ra_2.out) hb3); obtain ⟨x3_0, x3_1, x3_2, x3_3⟩ := Bx.low hb3 hz2_x ⟨x2_0, x2_1, x2_2, x2_3⟩; have hz3_x : w.heap.size < w3.heap.size := Nat.lt_of_lt_of_le hz2_x hb3.size; have HB3 := Asd.mk (bl_then (w := w) (by repeat (first | exact Below.refl _ _ | assumption | exact HB2.out | refine bl_alloc ?_ _ | refine bl_drewN ?_ _ | refine bl_drew ?_ | refine bl_set ?_ (by first | (simp; done) | (simp; omega) | (dsimp only; omega)) _ | refine bl_then ?_ (by assumption))) hb3); clear hr3 hb3)
      | (go_at_call 79; refine (ref_Cmp a (pow2 63) A A1 c c1 n1.out n2.out _ (by exact Ra_1.out) (by exact Rp_1.out)).mono ?_; rintro e w2 ⟨rfl, hb2⟩; rw [HC.out]; have Ra_2 := Asd.mk (RB.below (by exact Ra_1.out) hb2); have Rp_2 := Asd.mk (RB.below (by exact Rp_1.out) hb2); obtain ⟨x2_0, x2_1, x2_2, x2_3⟩ := Bx.low hb2 hz1_x ⟨x1_0, x1_1, x1_2, x1_3⟩; have hz2_x : w.heap.size < w2.heap.size := Nat.lt_of_lt_of_le hz1_x hb2.size; have HB2 := Asd.mk (bl_then (w := w) (by repeat (first | exact Below.refl _ _ | assumption | exact HB1.out | refine bl_alloc ?_ _ | refine bl_drewN ?_ _ | refine bl_drew ?_ | refine bl_set ?_ (by first | (simp; done) | (simp; omega) | (dsimp only; omega)) _ | refine bl_then ?_ (by assumption))) hb2); clear hb2)
      | (go_at_call 53; refine (ref_Power 63 (by omega) _).mono ?_; rintro e w1 ⟨A1, c1, rfl, hr1, hb1⟩; have Rp_1 := Asd.mk hr1; have Ra_1 := Asd.mk (RB.below (by exact RB.below Ra_0.out (by repeat (first | exact Below.refl _ _ | assumption | refine bl_alloc ?_ _ | refine bl_drewN ?_ _ | refine bl_drew ?_ | refine bl_set ?_ (by first | (simp; done) | (simp; omega) | (dsimp only; omega)) _ | refine bl_then ?_ (by assumption)))) hb1); obtain ⟨x1_0, x1_1, x1_2, x1_3⟩ : Bx w1 (w.heap.size) (.bool (sg a)) (.slice A (nd a) c) := Bx.low hb1 (by first | (simp; done) | (simp; omega) | (simp [go_sem]; done) | (simp [go_sem]; omega) | omega) (by simp (maxDischargeDepth := 9) [Bx, go_sem, *]); have hz1_x : w.heap.size < w1.heap.size := Nat.lt_of_lt_of_le (by first | (simp; done) | (simp; omega) | (simp [go_sem]; done) | (simp [go_sem]; omega) | omega) hb1.size; have HB1 := Asd.mk (bl_then (w := w) (by repeat (first | exact Below.refl _ _ | assumption | refine bl_alloc ?_ _ | refine bl_drewN ?_ _ | refine bl_drew ?_ | refine bl_set ?_ (by first | (simp; done) | (simp; omega) | (dsimp only; omega)) _ | refine bl_then ?_ (by assumption))) hb1); clear hr1 hb1))
  have q := HQ.out
  go_wp2_with (first
      | (go_at_call 80; refine (ref_low_u (-a - 1) HU.out A8 c8 _ (by exact Rs_8.out)).mono ?_; rintro e w' ⟨rfl, rfl⟩)
      | (go_at_call 74; refine (ref_Sub (-a) 1 A6 A7 c6 c7 n4.out n5.out _ (by exact Rt_7.out) (by exact Ro_7.out)).mono ?_; rintro e w8 ⟨A8, c8, rfl, hr8, hb8⟩; have Rs_8 := Asd.mk hr8; have Rt_8 := Asd.mk (RB.below (by exact Rt_7.out) hb8); have Ro_8 := Asd.mk (RB.below (by exact Ro_7.out) hb8); obtain ⟨x8_0, x8_1, x8_2, x8_3⟩ := Bx.low hb8 hz7_x ⟨x7_0, x7_1, x7_2, x7_3⟩; have hz8_x : w.heap.size < w8.heap.size := Nat.lt_of_lt_of_le hz7_x hb8.size; have HB8 := Asd.mk (bl_then (w := w) (by repeat (first | exact Below.refl _ _ | assumption | exact HB7.out | refine bl_alloc ?_ _ | refine bl_drewN ?_ _ | refine bl_drew ?_ | refine bl_set ?_ (by first | (simp; done) | (simp; omega) | (dsimp only; omega)) _ | refine bl_then ?_ (by assumption))) hb8); clear hr8 hb8)
      | (go_at_call 49; refine (ref_Of 1 I1.out _).mono ?_; rintro e w7 ⟨A7, c7, rfl, hr7, hb7⟩; have Ro_7 := Asd.mk hr7; have Rt_7 := Asd.mk (RB.below (by exact Rt_6.out) hb7); obtain ⟨x7_0, x7_1, x7_2, x7_3⟩ := Bx.low hb7 hz6_x ⟨x6_0, x6_1, x6_2, x6_3⟩; have hz7_x : w.heap.size < w7.heap.size := Nat.lt_of_lt_of_le hz6_x hb7.size; have HB7 := Asd.mk (bl_then (w := w) (by repeat (first | exact Below.refl _ _ | assumption | exact HB6.out | refine bl_alloc ?_ _ | refine bl_drewN ?_ _ | refine bl_drew ?_ | refine bl_set ?_ (by first | (simp; done) | (simp; omega) | (dsimp only; omega)) _ | refine bl_then ?_ (by assumption))) hb7); clear hr7 hb7)
      | (go_at_call 72; refine (HT.out _ (by exact Ra_5.out)).mono ?_; rintro e w6 ⟨A6, c6, rfl, hr6, hb6⟩; have Rt_6 := Asd.mk hr6; have Ra_6 := Asd.mk (RB.below (by exact Ra_5.out) hb6); obtain ⟨x6_0, x6_1, x6_2, x6_3⟩ := Bx.low hb6 hz5_x ⟨x5_0, x5_1, x5_2, x5_3⟩; have hz6_x : w.heap.size < w6.heap.size := Nat.lt_of_lt_of_le hz5_x hb6.size; have HB6 := Asd.mk (bl_then (w := w) (by repeat (first | exact Below.refl _ _ | assumption | exact HB5.out | refine bl_alloc ?_ _ | refine bl_drewN ?_ _ | refine bl_drew ?_ | refine bl_set ?_ (by first | (simp; done) | (simp; omega) | (dsimp only; omega)) _ | refine bl_then ?_ (by assumption))) hb6); clear hr6 hb6))
  have HBf := HB8.out
  go_ret2
  exact ⟨ret2_int (by have k := HS.out; simp only [wrap64]; omega) rfl, (by repeat (first | exact Below.refl _ _ | assumption | refine bl_alloc ?_ _ | refine bl_drewN ?_ _ | refine bl_drew ?_ | refine bl_set ?_ (by first | (simp; done) | (simp; omega) | (dsimp only; omega)) _ | refine bl_then ?_ (by assumption)))⟩)

set_option maxRecDepth 100000 in
set_option maxHeartbeats 8000000 in
theorem ref_Int_pos (a : Int) (A : Option Addr) (c : Nat) (ha : nd a ≤ 5000) (h : a < pow2 63) (h0 : 0 ≤ a) (w : World) (hA : RB w A c a) :
    Calls Tryd.prog 71 #[.agg #[.bool (sg a), .slice A (nd a) c]] w fun e w' => e = .returned (.tuple #[.int .i64 a, .int .i64 0]) ∧ Below w.heap.size w w' := by
  have hmin : -pow2 63 ≤ a := by have := pow2_pos 63; omega
  have Ra_0 := Asd.mk hA
  have HC := Asd.mk (cmpZ_lt (a := a) (b := pow2 63) (by have := pow2_pos 63; omega))
  obtain ⟨z, hc, hz⟩ : ∃ z, cmpZ a (-pow2 63) = z ∧ (z = 0 ∨ z = 1) := ⟨_, rfl, by unfold cmpZ; rw [if_neg (by omega)]; split <;> simp⟩
  have HC2 := Asd.mk hc
  have n1 : Asd (nd a ≤ 10000) := ⟨by omega⟩
  have n2 : Asd (nd (pow2 63) ≤ 10000) := ⟨by rw [nd_pow2]; omega⟩
  have n3 : Asd (nd (-pow2 63) ≤ 10000) := ⟨by rw [nd_neg, nd_pow2]; omega⟩
  have n4 : Asd (nd (-a) ≤ 10000) := ⟨by rw [nd_neg]; omega⟩
  have n5 : Asd (nd 1 ≤ 10000) := ⟨nd_one⟩
  have e63 : pow2 63 = 9223372036854775808 := by decide
  have I1 : Asd (I64 1) := ⟨by decide⟩
  have HQ := Asd.mk (sg_false.2 (show ¬ a < 0 by omega))
  have HU : Asd (U64 a) := ⟨by unfold U64; omega⟩
  have E1 : Asd (wrap64 a = a) := ⟨by unfold wrap64; omega⟩
  clear hA h h0 hc e63 hmin
  rcases hz with rfl | rfl
  all_goals (
  go_enter Tryd.func71, Tryd.ntmps71
  go_wp2
  go_region_held3 (fun w' => w'.cell? ⟨w.heap.size, 0, none⟩ = some (.bool (sg a)) ∧ w'.cell? ⟨w.heap.size, 1, none⟩ = some (.slice A (nd a) c))
    (first | exact ⟨x1_0, x1_1⟩ | exact ⟨x2_0, x2_1⟩ | exact ⟨x3_0, x3_1⟩ | exact ⟨x4_0, x4_1⟩ | exact ⟨x5_0, x5_1⟩ | (simp [go_sem]; done) | (simp (maxDischargeDepth := 9) [go_sem, *]; done))
    (first
      | (go_at_call 79; refine (ref_Cmp a (-pow2 63) A A4 c c4 n1.out n3.out _ (by exact Ra_4.out) (by exact Rt_4.out)).mono ?_; rintro e w5 ⟨rfl, hb5⟩; rw [HC2.out]; have Ra_5 := Asd.mk (RB.below (by exact Ra_4.out) hb5); have Rt_5 := Asd.mk (RB.below (by exact Rt_4.out) hb5); obtain ⟨x5_0, x5_1, x5_2, x5_3⟩ := Bx.low hb5 hz4_x ⟨x4_0, x4_1, x4_2, x4_3⟩; have hz5_x : w.heap.size < w5.heap.size := Nat.lt_of_lt_of_le hz4_x hb5.size; have HB5 := Asd.mk (bl_then (w := w) (by repeat (first | exact Below.refl _ _ | assumption | exact HB4.out | refine bl_alloc ?_ _ | refine bl_drewN ?_ _ | refine bl_drew ?_ | refine bl_set ?_ (by first | (simp; done) | (simp; omega) | (dsimp only; omega)) _ | refine bl_then ?_ (by assumption))) hb5); clear hb5)
      | (go_at_call 72; refine (ref_Turn (pow2 63) A3 c3 _ (by exact Rq_3.out)).mono ?_; rintro e w4 ⟨A4, c4, rfl, hr4, hb4⟩; have Rt_4 := Asd.mk hr4; have Ra_4 := Asd.mk (RB.below (by exact Ra_3.out) hb4); have Rq_4 := Asd.mk (RB.below (by exact Rq_3.out) hb4); obtain ⟨x4_0, x4_1, x4_2, x4_3⟩ := Bx.low hb4 hz3_x ⟨x3_0, x3_1, x3_2, x3_3⟩; have hz4_x : w.heap.size < w4.heap.size := Nat.lt_of_lt_of_le hz3_x hb4.size; have HB4 := Asd.mk (bl_then (w := w) (by repeat (first | exact Below.refl _ _ | assumption | exact HB3.out | refine bl_alloc ?_ _ | refine bl_drewN ?_ _ | refine bl_drew ?_ | refine bl_set ?_ (by first | (simp; done) | (simp; omega) | (dsimp only; omega)) _ | refine bl_then ?_ (by assumption))) hb4); clear hr4 hb4)
      | (go_at_call 53; refine (ref_Power 63 (by omega) _).mono ?_; rintro e w3 ⟨A3, c3, rfl, hr3, hb3⟩; have Rq_3 := Asd.mk hr3; have Ra_3 := Asd.mk (RB.below (by exact Ra_2.out) hb3); obtain ⟨x3_0, x3_1, x3_2, x3_3⟩ := Bx.low hb3 hz2_x ⟨x2_0, x2_1, x2_2, x2_3⟩; have hz3_x : w.heap.size < w3.heap.size := Nat.lt_of_lt_of_le hz2_x hb3.size; have HB3 := Asd.mk (bl_then (w := w) (by repeat (first | exact Below.refl _ _ | assumption | exact HB2.out | refine bl_alloc ?_ _ | refine bl_drewN ?_ _ | refine bl_drew ?_ | refine bl_set ?_ (by first | (simp; done) | (simp; omega) | (dsimp only; omega)) _ | refine bl_then ?_ (by assumption))) hb3); clear hr3 hb3)
      | (go_at_call 79; refine (ref_Cmp a (pow2 63) A A1 c c1 n1.out n2.out _ (by exact Ra_1.out) (by exact Rp_1.out)).mono ?_; rintro e w2 ⟨rfl, hb2⟩; rw [HC.out]; have Ra_2 := Asd.mk (RB.below (by exact Ra_1.out) hb2); have Rp_2 := Asd.mk (RB.below (by exact Rp_1.out) hb2); obtain ⟨x2_0, x2_1, x2_2, x2_3⟩ := Bx.low hb2 hz1_x ⟨x1_0, x1_1, x1_2, x1_3⟩; have hz2_x : w.heap.size < w2.heap.size := Nat.lt_of_lt_of_le hz1_x hb2.size; have HB2 := Asd.mk (bl_then (w := w) (by repeat (first | exact Below.refl _ _ | assumption | exact HB1.out | refine bl_alloc ?_ _ | refine bl_drewN ?_ _ | refine bl_drew ?_ | refine bl_set ?_ (by first | (simp; done) | (simp; omega) | (dsimp only; omega)) _ | refine bl_then ?_ (by assumption))) hb2); clear hb2)
      | (go_at_call 53; refine (ref_Power 63 (by omega) _).mono ?_; rintro e w1 ⟨A1, c1, rfl, hr1, hb1⟩; have Rp_1 := Asd.mk hr1; have Ra_1 := Asd.mk (RB.below (by exact RB.below Ra_0.out (by repeat (first | exact Below.refl _ _ | assumption | refine bl_alloc ?_ _ | refine bl_drewN ?_ _ | refine bl_drew ?_ | refine bl_set ?_ (by first | (simp; done) | (simp; omega) | (dsimp only; omega)) _ | refine bl_then ?_ (by assumption)))) hb1); obtain ⟨x1_0, x1_1, x1_2, x1_3⟩ : Bx w1 (w.heap.size) (.bool (sg a)) (.slice A (nd a) c) := Bx.low hb1 (by first | (simp; done) | (simp; omega) | (simp [go_sem]; done) | (simp [go_sem]; omega) | omega) (by simp (maxDischargeDepth := 9) [Bx, go_sem, *]); have hz1_x : w.heap.size < w1.heap.size := Nat.lt_of_lt_of_le (by first | (simp; done) | (simp; omega) | (simp [go_sem]; done) | (simp [go_sem]; omega) | omega) hb1.size; have HB1 := Asd.mk (bl_then (w := w) (by repeat (first | exact Below.refl _ _ | assumption | refine bl_alloc ?_ _ | refine bl_drewN ?_ _ | refine bl_drew ?_ | refine bl_set ?_ (by first | (simp; done) | (simp; omega) | (dsimp only; omega)) _ | refine bl_then ?_ (by assumption))) hb1); clear hr1 hb1))
  have q := HQ.out
  go_wp2_with (go_at_call 80; refine (ref_low_u a HU.out A c _ (by exact Ra_5.out)).mono ?_; rintro e w' ⟨rfl, rfl⟩)
  have HBf := HB5.out
  go_ret2
  exact ⟨ret2_int E1.out rfl, (by repeat (first | exact Below.refl _ _ | assumption | refine bl_alloc ?_ _ | refine bl_drewN ?_ _ | refine bl_drew ?_ | refine bl_set ?_ (by first | (simp; done) | (simp; omega) | (dsimp only; omega)) _ | refine bl_then ?_ (by assumption)))⟩)
end Go.Proofs.YticcjmcmicchjaaDoor

namespace Go.Proofs.YticcjmcmicchjaaDoor
open Go.RowKit
set_option linter.unusedSimpArgs false
set_option linter.unusedVariables false
attribute [local go_sem] nlt2 nlt3 nlt4 nlt5 nlt6 nlt7 nlt8 nlt9 nlt10 nlt11 nlt12
attribute [local go_sem] field_D

theorem ref_Int (a : Int) (A : Option Addr) (c : Nat) (ha : nd a ≤ 5000) (w : World) (hA : RB w A c a) :
    Calls Tryd.prog 71 #[.agg #[.bool (sg a), .slice A (nd a) c]] w fun e w' => e = .returned (.tuple #[.int .i64 (fitI a), .int .i64 (errI a)]) ∧ Below w.heap.size w w' := by
  have e63 : pow2 63 = 9223372036854775808 := by decide
  by_cases h1 : pow2 63 ≤ a
  · have h : ¬ I64 a := by unfold I64; omega
    have e : fitI a = 0 ∧ errI a = 3 := by simp [fitI, errI, h]
    rw [e.1, e.2]; exact ref_Int_high a A c ha h1 w hA
  · by_cases h2 : a < -pow2 63
    · have h : ¬ I64 a := by unfold I64; omega
      have e : fitI a = 0 ∧ errI a = 3 := by simp [fitI, errI, h]
      rw [e.1, e.2]; exact ref_Int_low a A c ha h2 w hA
    · have h : I64 a := by unfold I64; omega
      have e : fitI a = a ∧ errI a = 0 := by simp [fitI, errI, h]
      rw [e.1, e.2]
      by_cases h0 : a < 0
      · exact ref_Int_neg a A c ha (by omega) h0 w hA
      · exact ref_Int_pos a A c ha (by omega) (by omega) w hA
theorem ref_Int_fits (a : Int) (A : Option Addr) (c : Nat) (h : I64 a) (w : World) (hA : RB w A c a) :
    Calls Tryd.prog 71 #[.agg #[.bool (sg a), .slice A (nd a) c]] w fun e w' => e = .returned (.tuple #[.int .i64 a, .int .i64 0]) ∧ Below w.heap.size w w' := by
  have e : fitI a = a ∧ errI a = 0 := by simp [fitI, errI, h]
  have k := ref_Int a A c (by have := nd_i64 h; omega) w hA
  rw [e.1, e.2] at k; exact k
theorem pow2_64 : pow2 64 = 18446744073709551616 := by decide
theorem pow2_127 : pow2 127 = 170141183460469231731687303715884105728 := by decide
theorem fl_whi (a : Int) : fl a (pow2 64) = whi a := by rw [pow2_64]; rfl
theorem sub_wlo (a : Int) : a - whi a * pow2 64 = wlo a := by rw [pow2_64]; unfold whi wlo; omega
theorem ref_Sub_wlo (a : Int) (A B : Option Addr) (c d : Nat) (ha : W128 a) (w : World) (hA : RB w A c a) (hB : RB w B d (whi a * pow2 64)) :
    Calls Tryd.prog 74 #[.agg #[.bool (sg a), .slice A (nd a) c], .agg #[.bool (sg (whi a * pow2 64)), .slice B (nd (whi a * pow2 64)) d]] w (BigR w (wlo a)) := by
  rw [← sub_wlo]; exact ref_Sub a (whi a * pow2 64) A B c d (by have := nd_W128 ha; omega) (by have h1 := nd_mul (whi a) (pow2 64); have h2 := nd_i64 (whi_i64 ha); have h3 := nd_pow2 64; omega) w hA hB

end Go.Proofs.YticcjmcmicchjaaDoor
