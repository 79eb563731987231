/- Walks of the reference's big numbers, fifteenth part: of a wide number; the lowest 64 bits. -/
import Derived.Test.YtgodfbhjfhdihaaDoorRo
namespace Go.Proofs.YtgodfbhjfhdihaaDoor
open Go.RowKit
attribute [local go_sem] nlt2 nlt3 nlt4 nlt5 nlt6 nlt7 nlt8 nlt9 nlt10 nlt11 nlt12

theorem nd_i64 {x : Int} (h : I64 x) : nd x ≤ 4 := by
  have e : pB 4 = 18446744073709551616 := by decide
  exact nd_le_of (by rw [e]; unfold I64 at h; omega)
theorem nd_u64 {x : Int} (h : U64 x) : nd x ≤ 4 := by
  have e : pB 4 = 18446744073709551616 := by decide
  exact nd_le_of (by rw [e]; unfold U64 at h; omega)
theorem nd_W128 {x : Int} (h : W128 x) : nd x ≤ 8 := by
  have e : pB 8 = 340282366920938463463374607431768211456 := by decide
  exact nd_le_of (by rw [e]; unfold W128 at h; omega)
theorem nd_pow2 (n : Nat) : nd (pow2 n) = n / 16 + 1 := by unfold nd; rw [pow2_digits]; simp
theorem from_eq (a : Int) : whi a * pow2 64 + wlo a = a := by
  have e : pow2 64 = 18446744073709551616 := by decide
  rw [e]; unfold whi wlo; omega

set_option maxRecDepth 100000 in
set_option maxHeartbeats 4000000 in
theorem ref_From (a : Int) (ha : W128 a) (w : World) :
    Calls Tryd.prog 40 #[.agg #[.int .i64 (whi a), .int .u64 (wlo a)]] w (BigR w a) := by
  have hI := Asd.mk (whi_i64 ha)
  have hU := Asd.mk (wlo_u64 a)
  have n1 : Asd (nd (whi a) ≤ 10000) := ⟨by have := nd_i64 hI.out; omega⟩
  have n2 : Asd (nd (pow2 64) ≤ 10000) := ⟨by rw [nd_pow2]; omega⟩
  have n3 : Asd (nd (whi a * pow2 64) ≤ 10000) := ⟨by have h1 := nd_mul (whi a) (pow2 64); have h2 := nd_i64 hI.out; have h3 := nd_pow2 64; omega⟩
  have n4 : Asd (nd (wlo a) ≤ 10000) := ⟨by have := nd_u64 hU.out; omega⟩
  rw [show BigR w a = BigR w (whi a * pow2 64 + wlo a) from by rw [from_eq]]
  clear ha
  go_enter Tryd.func40, Tryd.ntmps40
  go_wp2
  go_region_held3 (fun w' => w'.cell? ⟨w.heap.size, 0, none⟩ = some (.int .i64 (whi a)) ∧ w'.cell? ⟨w.heap.size, 1, none⟩ = some (.int .u64 (wlo a)))
    (first | (simp [go_sem]; done) | exact ⟨x4, x5⟩ | exact ⟨x8, x9⟩ | exact ⟨x12, x13⟩ | exact ⟨x16, x17⟩ | exact ⟨x20, x21⟩ | (simp (maxDischargeDepth := 9) [go_sem, *]; done))
    (first
      | (go_at_call 41; refine (ref_Of (whi a) hI.out _).mono ?_; rintro e w1 ⟨A1, c1, rfl, hr1, hb1⟩; have RO1 := Asd.mk hr1; obtain ⟨x4, x5, x6, x7⟩ : Bx w1 (w.heap.size) (.int .i64 (whi a)) (.int .u64 (wlo a)) := Bx.low hb1 (by first | (simp; done) | (simp; omega) | (simp [go_sem]; done) | (simp [go_sem]; omega) | omega) (by simp (maxDischargeDepth := 9) [Bx, go_sem, *]); obtain ⟨p4, p5, p6, p7⟩ : Bx w1 (w.heap.size + 1) (.bool false) (.slice none 0 0) := Bx.low hb1 (by first | (simp; done) | (simp; omega) | (simp [go_sem]; done) | (simp [go_sem]; omega) | omega) (by simp (maxDischargeDepth := 9) [Bx, go_sem, *]); have hz1_p : w.heap.size + 1 < w1.heap.size := Nat.lt_of_lt_of_le (by first | (simp; done) | (simp; omega) | (simp [go_sem]; done) | (simp [go_sem]; omega)) hb1.size; have hz1_x : w.heap.size < w1.heap.size := (by omega); have HB1 := Asd.mk (bl_then (w := w) (by repeat (first | exact Below.refl _ _ | assumption | refine bl_alloc ?_ _ | refine bl_drewN ?_ _ | refine bl_drew ?_ | refine bl_set ?_ (by first | (simp; done) | (simp; omega) | (dsimp only; omega)) _ | refine bl_then ?_ (by assumption))) hb1); clear hr1 hb1)
      | (go_at_call 53; refine (ref_Power 64 (by omega) _).mono ?_; rintro e w2 ⟨A2, c2, rfl, hr2, hb2⟩; have RP2 := Asd.mk hr2; have RO2 := Asd.mk (RB.below RO1.out hb2); obtain ⟨x8, x9, x10, x11⟩ := Bx.low hb2 hz1_x ⟨x4, x5, x6, x7⟩; have hz2_x : w.heap.size < w2.heap.size := Nat.lt_of_lt_of_le hz1_x hb2.size; obtain ⟨p8, p9, p10, p11⟩ := Bx.low hb2 hz1_p ⟨p4, p5, p6, p7⟩; have hz2_p : w.heap.size + 1 < w2.heap.size := Nat.lt_of_lt_of_le hz1_p hb2.size; have HB2 := Asd.mk (bl_then HB1.out hb2); clear hr2 hb2)
      | (go_at_call 52; refine (ref_Mul (whi a) (pow2 64) A1 A2 c1 c2 n1.out n2.out _ (by exact RO2.out) (by exact RP2.out)).mono ?_; rintro e w3 ⟨A3, c3, rfl, hr3, hb3⟩; have RM3 := Asd.mk hr3; obtain ⟨x12, x13, x14, x15⟩ := Bx.low hb3 hz2_x ⟨x8, x9, x10, x11⟩; have hz3_x : w.heap.size < w3.heap.size := Nat.lt_of_lt_of_le hz2_x hb3.size; obtain ⟨p12, p13, p14, p15⟩ := Bx.low hb3 hz2_p ⟨p8, p9, p10, p11⟩; have hz3_p : w.heap.size + 1 < w3.heap.size := Nat.lt_of_lt_of_le hz2_p hb3.size; have HB3 := Asd.mk (bl_then HB2.out hb3); clear hr3 hb3)
      | (go_at_call 73; refine (ref_nat (wlo a) hU.out _).mono ?_; rintro e w4 ⟨A4, c4, rfl, hr4, hb4⟩; have RN4 := Asd.mk hr4; have RM4 := Asd.mk (RB.below RM3.out hb4); obtain ⟨x16, x17, x18, x19⟩ := Bx.low hb4 hz3_x ⟨x12, x13, x14, x15⟩; have hz4_x : w.heap.size < w4.heap.size := Nat.lt_of_lt_of_le hz3_x hb4.size; obtain ⟨p16, p17, p18, p19⟩ := Bx.low hb4 hz3_p ⟨p12, p13, p14, p15⟩; have hz4_p : w.heap.size + 1 < w4.heap.size := Nat.lt_of_lt_of_le hz3_p hb4.size; have HB4 := Asd.mk (bl_then HB3.out hb4); clear hr4 hb4)
      | (go_at_call 46; refine (ref_Add (whi a * pow2 64) (wlo a) A3 A4 c3 c4 n3.out n4.out _ (by exact RM4.out) (by exact RN4.out)).mono ?_; rintro e w5 ⟨A5, c5, rfl, hr5, hb5⟩; have RA5 := Asd.mk hr5; obtain ⟨x20, x21, x22, x23⟩ := Bx.low hb5 hz4_x ⟨x16, x17, x18, x19⟩; have hz5_x : w.heap.size < w5.heap.size := Nat.lt_of_lt_of_le hz4_x hb5.size; obtain ⟨p20, p21, p22, p23⟩ := Bx.low hb5 hz4_p ⟨p16, p17, p18, p19⟩; have hz5_p : w.heap.size + 1 < w5.heap.size := Nat.lt_of_lt_of_le hz4_p hb5.size; have HB5 := Asd.mk (bl_then HB4.out hb5); clear hr5 hb5))
  go_wp2
  have HBf := HB5.out
  refine bodyPost_ret (v := .agg #[.bool (sg (whi a * pow2 64 + wlo a)), .slice A5 (nd (whi a * pow2 64 + wlo a)) c5]) (by simp (maxDischargeDepth := 9) [results, Tryd.results40, go_sem, *]) rfl ⟨_, _, rfl, RB.store2 RA5.out p20, (by repeat (first | exact Below.refl _ _ | assumption | refine bl_alloc ?_ _ | refine bl_drewN ?_ _ | refine bl_drew ?_ | refine bl_set ?_ (by first | (simp; done) | (simp; omega) | (dsimp only; omega)) _ | refine bl_then ?_ (by assumption)))⟩
end Go.Proofs.YtgodfbhjfhdihaaDoor
