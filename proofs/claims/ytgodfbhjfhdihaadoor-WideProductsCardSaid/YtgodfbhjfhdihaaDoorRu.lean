/- Walks of the reference's big numbers, eighteenth part: a wide number. -/
import Derived.Test.YtgodfbhjfhdihaaDoorRt
import Derived.Test.YtgodfbhjfhdihaaDoorSt
import Derived.Deep.DeepCutAuto
namespace Go.Proofs.YtgodfbhjfhdihaaDoor
open Go.RowKit
set_option linter.unusedSimpArgs false
set_option linter.unusedVariables false
attribute [local go_sem] nlt2 nlt3 nlt4 nlt5 nlt6 nlt7 nlt8 nlt9 nlt10 nlt11 nlt12
attribute [local go_sem] field_D

theorem ref_Int (a : Int) (A : Option Addr) (c : Nat) (ha : nd a ≤ 5000) (w : World) (hA : RB w A c a) :
    Calls Tryd.prog 55 #[.agg #[.bool (sg a), .slice A (nd a) c]] w fun e w' => e = .returned (.tuple #[.int .i64 (fitI a), .int .i64 (errI a)]) ∧ Below w.heap.size w w' := by
  have e63 : pow2 63 = 9223372036854775808 := by decide
  by_cases h1 : pow2 63 ≤ a
  · have h : ¬ I64 a := by unfold I64; omega
    have e : fitI a = 0 ∧ errI a = 3 := by simp [fitI, errI, h]
    rw [e.1, e.2]; exact ref_Int_high a A c ha h1 w hA
  · by_cases h2 : a < -pow2 63
    · have h : ¬ I64 a := by unfold I64; omega
      have e : fitI a = 0 ∧ errI a = 3 := by simp [fitI, errI, h]
      rw [e.1, e.2]; exact ref_Int_low a A c ha h2 w hA
    · have h : I64 a := by unfold I64; omega
      have e : fitI a = a ∧ errI a = 0 := by simp [fitI, errI, h]
      rw [e.1, e.2]
      by_cases h0 : a < 0
      · exact ref_Int_neg a A c ha (by omega) h0 w hA
      · exact ref_Int_pos a A c ha (by omega) (by omega) w hA
theorem ref_Int_fits (a : Int) (A : Option Addr) (c : Nat) (h : I64 a) (w : World) (hA : RB w A c a) :
    Calls Tryd.prog 55 #[.agg #[.bool (sg a), .slice A (nd a) c]] w fun e w' => e = .returned (.tuple #[.int .i64 a, .int .i64 0]) ∧ Below w.heap.size w w' := by
  have e : fitI a = a ∧ errI a = 0 := by simp [fitI, errI, h]
  have k := ref_Int a A c (by have := nd_i64 h; omega) w hA
  rw [e.1, e.2] at k; exact k
theorem pow2_64 : pow2 64 = 18446744073709551616 := by decide
theorem pow2_127 : pow2 127 = 170141183460469231731687303715884105728 := by decide
theorem fl_whi (a : Int) : fl a (pow2 64) = whi a := by rw [pow2_64]; rfl
theorem sub_wlo (a : Int) : a - whi a * pow2 64 = wlo a := by rw [pow2_64]; unfold whi wlo; omega
theorem ref_Div_whi (a : Int) (A B : Option Addr) (c d : Nat) (ha : nd a ≤ 5000) (w : World) (hA : RB w A c a) (hB : RB w B d (pow2 64)) :
    Calls Tryd.prog 43 #[.agg #[.bool (sg a), .slice A (nd a) c], .agg #[.bool (sg (pow2 64)), .slice B (nd (pow2 64)) d]] w (BigR w (whi a)) := by
  rw [← fl_whi]; exact ref_Div a (pow2 64) A B c d (by rw [pow2_64]; decide) ha (by rw [nd_pow2]; omega) w hA hB
theorem ref_Sub_wlo (a : Int) (A B : Option Addr) (c d : Nat) (ha : W128 a) (w : World) (hA : RB w A c a) (hB : RB w B d (whi a * pow2 64)) :
    Calls Tryd.prog 47 #[.agg #[.bool (sg a), .slice A (nd a) c], .agg #[.bool (sg (whi a * pow2 64)), .slice B (nd (whi a * pow2 64)) d]] w (BigR w (wlo a)) := by
  rw [← sub_wlo]; exact ref_Sub a (whi a * pow2 64) A B c d (by have := nd_W128 ha; omega) (by have h1 := nd_mul (whi a) (pow2 64); have h2 := nd_i64 (whi_i64 ha); have h3 := nd_pow2 64; omega) w hA hB

set_option maxRecDepth 100000 in
set_option maxHeartbeats 8000000 in
theorem ref_Wide_high (a : Int) (A : Option Addr) (c : Nat) (ha : nd a ≤ 5000) (h : pow2 127 ≤ a) (w : World) (hA : RB w A c a) :
    Calls Tryd.prog 17 #[.agg #[.bool (sg a), .slice A (nd a) c]] w fun e w' => e = .returned (.tuple #[.agg #[.int .i64 0, .int .u64 0], .int .i64 3]) ∧ Below w.heap.size w w' := by
  have S0 := Asd.mk ((St.refl w).big hA)
  obtain ⟨z, hc, hz⟩ : ∃ z, cmpZ a (pow2 127) = z ∧ (z = 0 ∨ z = 1) := ⟨_, rfl, by unfold cmpZ; rw [if_neg (by omega)]; split <;> simp⟩
  have HC := Asd.mk hc
  clear hc
  have n1 : Asd (nd a ≤ 10000) := ⟨by omega⟩
  have n2 : Asd (nd (pow2 127) ≤ 10000) := ⟨by rw [nd_pow2]; omega⟩
  clear hA h
  rcases hz with rfl | rfl
  all_goals (
  go_enter Tryd.func17, Tryd.ntmps17
  go_wp2
  go_region_with (first
      | (go_at_call 49; replace S1 := S1; refine (ref_Cmp a (pow2 127) A A1 c c1 n1.out n2.out _ (by exact RB.below (S1.out.rb 1 rfl) (by with_reducible repeat (first | exact Below.refl _ _ | refine bl_alloc ?_ _ | refine bl_drewN ?_ _ | refine bl_drew ?_))) (by exact RB.below (S1.out.rb 0 rfl) (by with_reducible repeat (first | exact Below.refl _ _ | refine bl_alloc ?_ _ | refine bl_drewN ?_ _ | refine bl_drew ?_)))).mono ?_; rintro e w2 ⟨rfl, hb2⟩; rw [HC.out]; apply St.step (w0 := w) (hb := hb2); (focus (with_reducible repeat (first | exact S1.out | apply St.lay | apply St.drew | apply St.drewN))); intro S2; (try simp only [sz_alloc, sz_drew, sz_drewN] at S2); clear hb2 S1; (try clear C1); have C2 := S2.out.facts; simp only [facts, apart, cellsAt, Nat.zero_add, Nat.reduceAdd, and_true] at C2)
      | (go_at_call 53; replace S0 := S0; refine (ref_Power 127 (by omega) _).mono ?_; rintro e w1 ⟨A1, c1, rfl, hr1, hb1⟩; apply St.stepB (w0 := w) (hb := hb1) (hr := hr1); (focus (with_reducible repeat (first | exact S0.out | apply St.lay | apply St.drew | apply St.drewN))); intro S1; (try simp only [sz_alloc, sz_drew, sz_drewN] at S1); clear hr1 hb1 S0; (try clear C0); have C1 := S1.out.facts; simp only [facts, apart, cellsAt, Nat.zero_add, Nat.reduceAdd, and_true] at C1))
  all_goals go_wp2
  all_goals have HBf := S2.out.bl
  all_goals refine bodyPost_ret (v := .tuple #[.agg #[.int .i64 0, .int .u64 0], .int .i64 3]) (by simp (maxDischargeDepth := 9) [results, Tryd.results17, go_sem, *]) rfl ⟨rfl, (by repeat (first | exact Below.refl _ _ | assumption | refine bl_alloc ?_ _ | refine bl_drewN ?_ _ | refine bl_drew ?_ | refine bl_set ?_ (by first | (simp; done) | (simp; omega) | (dsimp only; omega)) _ | refine bl_then ?_ (by assumption)))⟩)

set_option maxRecDepth 100000 in
set_option maxHeartbeats 8000000 in
theorem ref_Wide_low (a : Int) (A : Option Addr) (c : Nat) (ha : nd a ≤ 5000) (h : a < -pow2 127) (w : World) (hA : RB w A c a) :
    Calls Tryd.prog 17 #[.agg #[.bool (sg a), .slice A (nd a) c]] w fun e w' => e = .returned (.tuple #[.agg #[.int .i64 0, .int .u64 0], .int .i64 3]) ∧ Below w.heap.size w w' := by
  have S0 := Asd.mk ((St.refl w).big hA)
  have HC := Asd.mk (cmpZ_lt (a := a) (b := pow2 127) (by have := pow2_pos 127; omega))
  have HC2 := Asd.mk (cmpZ_lt (a := a) (b := -pow2 127) h)
  have n1 : Asd (nd a ≤ 10000) := ⟨by omega⟩
  have n2 : Asd (nd (pow2 127) ≤ 10000) := ⟨by rw [nd_pow2]; omega⟩
  have n3 : Asd (nd (-pow2 127) ≤ 10000) := ⟨by rw [nd_neg, nd_pow2]; omega⟩
  clear hA h
  go_enter Tryd.func17, Tryd.ntmps17
  go_wp2
  go_region_held3 (fun w' => w'.cell? ⟨w.heap.size, 0, none⟩ = some (.bool (sg a)) ∧ w'.cell? ⟨w.heap.size, 1, none⟩ = some (.slice A (nd a) c))
    (first | (simp [go_sem, *]; done) | (simp (maxDischargeDepth := 9) [go_sem, *]; done))
    (first
      | (go_at_call 49; replace S4 := S4; refine (ref_Cmp a (-pow2 127) A A4 c c4 n1.out n3.out _ (by exact RB.below (S4.out.rb 3 rfl) (by with_reducible repeat (first | exact Below.refl _ _ | refine bl_alloc ?_ _ | refine bl_drewN ?_ _ | refine bl_drew ?_))) (by exact RB.below (S4.out.rb 0 rfl) (by with_reducible repeat (first | exact Below.refl _ _ | refine bl_alloc ?_ _ | refine bl_drewN ?_ _ | refine bl_drew ?_)))).mono ?_; rintro e w5 ⟨rfl, hb5⟩; rw [HC2.out]; apply St.step (w0 := w) (hb := hb5); (focus (with_reducible repeat (first | exact S4.out | apply St.lay | apply St.drew | apply St.drewN))); intro S5; (try simp only [sz_alloc, sz_drew, sz_drewN] at S5); clear hb5 S4; (try clear C4); have C5 := S5.out.facts; simp only [facts, apart, cellsAt, Nat.zero_add, Nat.reduceAdd, and_true] at C5)
      | (go_at_call 61; replace S3 := S3; refine (ref_Turn (pow2 127) A3 c3 _ (by exact RB.below (S3.out.rb 0 rfl) (by with_reducible repeat (first | exact Below.refl _ _ | refine bl_alloc ?_ _ | refine bl_drewN ?_ _ | refine bl_drew ?_)))).mono ?_; rintro e w4 ⟨A4, c4, rfl, hr4, hb4⟩; apply St.stepB (w0 := w) (hb := hb4) (hr := hr4); (focus (with_reducible repeat (first | exact S3.out | apply St.lay | apply St.drew | apply St.drewN))); intro S4; (try simp only [sz_alloc, sz_drew, sz_drewN] at S4); clear hr4 hb4 S3; (try clear C3); have C4 := S4.out.facts; simp only [facts, apart, cellsAt, Nat.zero_add, Nat.reduceAdd, and_true] at C4)
      | (go_at_call 53; replace S2 := S2; refine (ref_Power 127 (by omega) _).mono ?_; rintro e w3 ⟨A3, c3, rfl, hr3, hb3⟩; apply St.stepB (w0 := w) (hb := hb3) (hr := hr3); (focus (with_reducible repeat (first | exact S2.out | apply St.lay | apply St.drew | apply St.drewN))); intro S3; (try simp only [sz_alloc, sz_drew, sz_drewN] at S3); clear hr3 hb3 S2; (try clear C2); have C3 := S3.out.facts; simp only [facts, apart, cellsAt, Nat.zero_add, Nat.reduceAdd, and_true] at C3)
      | (go_at_call 49; replace S1 := S1; refine (ref_Cmp a (pow2 127) A A1 c c1 n1.out n2.out _ (by exact RB.below (S1.out.rb 1 rfl) (by with_reducible repeat (first | exact Below.refl _ _ | refine bl_alloc ?_ _ | refine bl_drewN ?_ _ | refine bl_drew ?_))) (by exact RB.below (S1.out.rb 0 rfl) (by with_reducible repeat (first | exact Below.refl _ _ | refine bl_alloc ?_ _ | refine bl_drewN ?_ _ | refine bl_drew ?_)))).mono ?_; rintro e w2 ⟨rfl, hb2⟩; rw [HC.out]; apply St.step (w0 := w) (hb := hb2); (focus (with_reducible repeat (first | exact S1.out | apply St.lay | apply St.drew | apply St.drewN))); intro S2; (try simp only [sz_alloc, sz_drew, sz_drewN] at S2); clear hb2 S1; (try clear C1); have C2 := S2.out.facts; simp only [facts, apart, cellsAt, Nat.zero_add, Nat.reduceAdd, and_true] at C2)
      | (go_at_call 53; replace S0 := S0; refine (ref_Power 127 (by omega) _).mono ?_; rintro e w1 ⟨A1, c1, rfl, hr1, hb1⟩; apply St.stepB (w0 := w) (hb := hb1) (hr := hr1); (focus (with_reducible repeat (first | exact S0.out | apply St.lay | apply St.drew | apply St.drewN))); intro S1; (try simp only [sz_alloc, sz_drew, sz_drewN] at S1); clear hr1 hb1 S0; (try clear C0); have C1 := S1.out.facts; simp only [facts, apart, cellsAt, Nat.zero_add, Nat.reduceAdd, and_true] at C1))
  go_wp2
  have HBf := S5.out.bl
  refine bodyPost_ret (v := .tuple #[.agg #[.int .i64 0, .int .u64 0], .int .i64 3]) (by simp (maxDischargeDepth := 9) [results, Tryd.results17, go_sem, *]) rfl ⟨rfl, (by repeat (first | exact Below.refl _ _ | assumption | refine bl_alloc ?_ _ | refine bl_drewN ?_ _ | refine bl_drew ?_ | refine bl_set ?_ (by first | (simp; done) | (simp; omega) | (dsimp only; omega)) _ | refine bl_then ?_ (by assumption)))⟩

set_option maxRecDepth 100000 in
set_option maxHeartbeats 8000000 in
theorem ref_Wide_mid (a : Int) (A : Option Addr) (c : Nat) (h : W128 a) (w : World) (hA : RB w A c a) :
    Calls Tryd.prog 17 #[.agg #[.bool (sg a), .slice A (nd a) c]] w fun e w' => e = .returned (.tuple #[.agg #[.int .i64 (whi a), .int .u64 (wlo a)], .int .i64 0]) ∧ Below w.heap.size w w' := by
  have S0 := Asd.mk ((St.refl w).big hA)
  have e127 := pow2_127
  have hh := h
  unfold W128 at hh
  have HC := Asd.mk (cmpZ_lt (a := a) (b := pow2 127) (by omega))
  obtain ⟨z, hc, hz⟩ : ∃ z, cmpZ a (-pow2 127) = z ∧ (z = 0 ∨ z = 1) := ⟨_, rfl, by unfold cmpZ; rw [if_neg (by omega)]; split <;> simp⟩
  have HC2 := Asd.mk hc
  have ha := nd_W128 h
  have HW := Asd.mk h
  have HI := Asd.mk (whi_i64 h)
  have HU := Asd.mk (wlo_u64 a)
  have n0 : Asd (nd a ≤ 5000) := ⟨by omega⟩
  have n1 : Asd (nd a ≤ 10000) := ⟨by omega⟩
  have n2 : Asd (nd (pow2 127) ≤ 10000) := ⟨by rw [nd_pow2]; omega⟩
  have n3 : Asd (nd (-pow2 127) ≤ 10000) := ⟨by rw [nd_neg, nd_pow2]; omega⟩
  have n4 : Asd (nd (whi a) ≤ 10000) := ⟨by have := nd_i64 HI.out; omega⟩
  have n5 : Asd (nd (pow2 64) ≤ 10000) := ⟨by rw [nd_pow2]; omega⟩
  clear hA h hh hc ha e127
  rcases hz with rfl | rfl
  all_goals (
  go_enter Tryd.func17, Tryd.ntmps17
  go_wp2
  go_region_held3 (fun w' => w'.cell? ⟨w.heap.size, 0, none⟩ = some (.bool (sg a)) ∧ w'.cell? ⟨w.heap.size, 1, none⟩ = some (.slice A (nd a) c))
    (first | (simp [go_sem, *]; done) | (simp (maxDischargeDepth := 9) [go_sem, *]; done))
    (first
      | (go_at_call 49; replace S4 := S4; refine (ref_Cmp a (-pow2 127) A A4 c c4 n1.out n3.out _ (by exact RB.below (S4.out.rb 3 rfl) (by with_reducible repeat (first | exact Below.refl _ _ | refine bl_alloc ?_ _ | refine bl_drewN ?_ _ | refine bl_drew ?_))) (by exact RB.below (S4.out.rb 0 rfl) (by with_reducible repeat (first | exact Below.refl _ _ | refine bl_alloc ?_ _ | refine bl_drewN ?_ _ | refine bl_drew ?_)))).mono ?_; rintro e w5 ⟨rfl, hb5⟩; rw [HC2.out]; apply St.step (w0 := w) (hb := hb5); (focus (with_reducible repeat (first | exact S4.out | apply St.lay | apply St.drew | apply St.drewN))); intro S5; (try simp only [sz_alloc, sz_drew, sz_drewN] at S5); clear hb5 S4; (try clear C4); have C5 := S5.out.facts; simp only [facts, apart, cellsAt, Nat.zero_add, Nat.reduceAdd, and_true] at C5)
      | (go_at_call 61; replace S3 := S3; refine (ref_Turn (pow2 127) A3 c3 _ (by exact RB.below (S3.out.rb 0 rfl) (by with_reducible repeat (first | exact Below.refl _ _ | refine bl_alloc ?_ _ | refine bl_drewN ?_ _ | refine bl_drew ?_)))).mono ?_; rintro e w4 ⟨A4, c4, rfl, hr4, hb4⟩; apply St.stepB (w0 := w) (hb := hb4) (hr := hr4); (focus (with_reducible repeat (first | exact S3.out | apply St.lay | apply St.drew | apply St.drewN))); intro S4; (try simp only [sz_alloc, sz_drew, sz_drewN] at S4); clear hr4 hb4 S3; (try clear C3); have C4 := S4.out.facts; simp only [facts, apart, cellsAt, Nat.zero_add, Nat.reduceAdd, and_true] at C4)
      | (go_at_call 53; replace S2 := S2; refine (ref_Power 127 (by omega) _).mono ?_; rintro e w3 ⟨A3, c3, rfl, hr3, hb3⟩; apply St.stepB (w0 := w) (hb := hb3) (hr := hr3); (focus (with_reducible repeat (first | exact S2.out | apply St.lay | apply St.drew | apply St.drewN))); intro S3; (try simp only [sz_alloc, sz_drew, sz_drewN] at S3); clear hr3 hb3 S2; (try clear C2); have C3 := S3.out.facts; simp only [facts, apart, cellsAt, Nat.zero_add, Nat.reduceAdd, and_true] at C3)
      | (go_at_call 49; replace S1 := S1; refine (ref_Cmp a (pow2 127) A A1 c c1 n1.out n2.out _ (by exact RB.below (S1.out.rb 1 rfl) (by with_reducible repeat (first | exact Below.refl _ _ | refine bl_alloc ?_ _ | refine bl_drewN ?_ _ | refine bl_drew ?_))) (by exact RB.below (S1.out.rb 0 rfl) (by with_reducible repeat (first | exact Below.refl _ _ | refine bl_alloc ?_ _ | refine bl_drewN ?_ _ | refine bl_drew ?_)))).mono ?_; rintro e w2 ⟨rfl, hb2⟩; rw [HC.out]; apply St.step (w0 := w) (hb := hb2); (focus (with_reducible repeat (first | exact S1.out | apply St.lay | apply St.drew | apply St.drewN))); intro S2; (try simp only [sz_alloc, sz_drew, sz_drewN] at S2); clear hb2 S1; (try clear C1); have C2 := S2.out.facts; simp only [facts, apart, cellsAt, Nat.zero_add, Nat.reduceAdd, and_true] at C2)
      | (go_at_call 53; replace S0 := S0; refine (ref_Power 127 (by omega) _).mono ?_; rintro e w1 ⟨A1, c1, rfl, hr1, hb1⟩; apply St.stepB (w0 := w) (hb := hb1) (hr := hr1); (focus (with_reducible repeat (first | exact S0.out | apply St.lay | apply St.drew | apply St.drewN))); intro S1; (try simp only [sz_alloc, sz_drew, sz_drewN] at S1); clear hr1 hb1 S0; (try clear C0); have C1 := S1.out.facts; simp only [facts, apart, cellsAt, Nat.zero_add, Nat.reduceAdd, and_true] at C1))
  go_wp2
  go_cut [4] (fun s4 wx => ∃ (t : Nat) (Ah : Option Addr) (ch : Nat), s4 = .pointer (some ⟨t, 0, none⟩) ∧ Asd (St w wx [(t, [.bool (sg (whi a)), .slice Ah (nd (whi a)) ch]), (w.heap.size + 1, [.int .i64 0, .int .u64 0]), (w.heap.size, [.bool (sg a), .slice A (nd a) c])] [(Ah, ch, whi a), (A, c, a)]))
  case first =>
    go_region_held3 (fun w' => w'.cell? ⟨w.heap.size, 0, none⟩ = some (.bool (sg a)) ∧ w'.cell? ⟨w.heap.size, 1, none⟩ = some (.slice A (nd a) c))
    (first | (simp [go_sem, *]; done) | (simp (maxDischargeDepth := 9) [go_sem, *]; done))
    (first
      | (go_at_call 43; replace S6 := S6; refine (ref_Div_whi a A A6 c c6 n0.out _ (by exact RB.below (S6.out.rb 4 rfl) (by with_reducible repeat (first | exact Below.refl _ _ | refine bl_alloc ?_ _ | refine bl_drewN ?_ _ | refine bl_drew ?_))) (by exact RB.below (S6.out.rb 0 rfl) (by with_reducible repeat (first | exact Below.refl _ _ | refine bl_alloc ?_ _ | refine bl_drewN ?_ _ | refine bl_drew ?_)))).mono ?_; rintro e w7 ⟨A7, c7, rfl, hr7, hb7⟩; apply St.stepB (w0 := w) (hb := hb7) (hr := hr7); (focus (with_reducible repeat (first | exact S6.out | apply St.lay | apply St.drew | apply St.drewN))); intro S7; (try simp only [sz_alloc, sz_drew, sz_drewN] at S7); clear hr7 hb7 S6; (try clear C6); have C7 := S7.out.facts; simp only [facts, apart, cellsAt, Nat.zero_add, Nat.reduceAdd, and_true] at C7)
      | (go_at_call 53; replace S5 := S5; refine (ref_Power 64 (by omega) _).mono ?_; rintro e w6 ⟨A6, c6, rfl, hr6, hb6⟩; apply St.stepB (w0 := w) (hb := hb6) (hr := hr6); (focus (with_reducible repeat (first | exact S5.out | apply St.lay | apply St.drew | apply St.drewN))); intro S6; (try simp only [sz_alloc, sz_drew, sz_drewN] at S6); clear hr6 hb6 S5; (try clear C5); have C6 := S6.out.facts; simp only [facts, apart, cellsAt, Nat.zero_add, Nat.reduceAdd, and_true] at C6))
    all_goals (
      go_wp2_with fail
      go_meet
      case rel =>
        first
          | exact ⟨_, A7, c7, rfl, ⟨St.less (St.lay S7.out _ _) (List.Sublist.refl _) (by simp)⟩⟩
          | exact ⟨_, A7, c7, rfl, ⟨St.less (St.set (St.set S7.out 0 0 rfl (by simp) (.inr rfl) _) 0 1 rfl (by simp) (.inr rfl) _) (List.Sublist.refl _) (by simp)⟩⟩)
  case rest =>
    obtain ⟨t, Ah, ch, rfl, S8⟩ := hcut
    have C8 := S8.out.facts
    simp only [facts, apart, cellsAt, Nat.zero_add, Nat.reduceAdd, and_true] at C8
    go_wp2_with (first
      | (go_at_call 55; replace S8 := S8; refine (ref_Int_fits (whi a) Ah ch HI.out _ (by exact RB.below (S8.out.rb 0 rfl) (by with_reducible repeat (first | exact Below.refl _ _ | refine bl_alloc ?_ _ | refine bl_drewN ?_ _ | refine bl_drew ?_)))).mono ?_; rintro e w9 ⟨rfl, hb9⟩; apply St.step (w0 := w) (hb := hb9); (focus (with_reducible repeat (first | exact S8.out | apply St.lay | apply St.drew | apply St.drewN))); intro S9; (try simp only [sz_alloc, sz_drew, sz_drewN] at S9); clear hb9 S8; (try clear C8); have C9 := S9.out.facts; simp only [facts, apart, cellsAt, Nat.zero_add, Nat.reduceAdd, and_true] at C9))
    go_region_held3 (fun w' => w'.cell? ⟨w.heap.size, 0, none⟩ = some (.bool (sg a)) ∧ w'.cell? ⟨w.heap.size, 1, none⟩ = some (.slice A (nd a) c) ∧ w'.cell? ⟨t, 0, none⟩ = some (.bool (sg (whi a))) ∧ w'.cell? ⟨t, 1, none⟩ = some (.slice Ah (nd (whi a)) ch))
    (first | (simp [go_sem, *]; done) | (simp (maxDischargeDepth := 9) [go_sem, *]; done))
    (first
      | (go_at_call 62; replace S12 := S12; refine (ref_low_u (wlo a) HU.out A12 c12 _ (by exact RB.below (S12.out.rb 0 rfl) (by with_reducible repeat (first | exact Below.refl _ _ | refine bl_alloc ?_ _ | refine bl_drewN ?_ _ | refine bl_drew ?_)))).mono ?_; rintro e w' ⟨rfl, rfl⟩)
      | (go_at_call 47; replace S11 := S11; refine (ref_Sub_wlo a A A11 c c11 HW.out _ (by exact RB.below (S11.out.rb 3 rfl) (by with_reducible repeat (first | exact Below.refl _ _ | refine bl_alloc ?_ _ | refine bl_drewN ?_ _ | refine bl_drew ?_))) (by exact RB.below (S11.out.rb 0 rfl) (by with_reducible repeat (first | exact Below.refl _ _ | refine bl_alloc ?_ _ | refine bl_drewN ?_ _ | refine bl_drew ?_)))).mono ?_; rintro e w12 ⟨A12, c12, rfl, hr12, hb12⟩; apply St.stepB (w0 := w) (hb := hb12) (hr := hr12); (focus (with_reducible repeat (first | exact S11.out | apply St.lay | apply St.drew | apply St.drewN))); intro S12; (try simp only [sz_alloc, sz_drew, sz_drewN] at S12); clear hr12 hb12 S11; (try clear C11); have C12 := S12.out.facts; simp only [facts, apart, cellsAt, Nat.zero_add, Nat.reduceAdd, and_true] at C12)
      | (go_at_call 52; replace S10 := S10; refine (ref_Mul (whi a) (pow2 64) Ah A10 ch c10 n4.out n5.out _ (by exact RB.below (S10.out.rb 1 rfl) (by with_reducible repeat (first | exact Below.refl _ _ | refine bl_alloc ?_ _ | refine bl_drewN ?_ _ | refine bl_drew ?_))) (by exact RB.below (S10.out.rb 0 rfl) (by with_reducible repeat (first | exact Below.refl _ _ | refine bl_alloc ?_ _ | refine bl_drewN ?_ _ | refine bl_drew ?_)))).mono ?_; rintro e w11 ⟨A11, c11, rfl, hr11, hb11⟩; apply St.stepB (w0 := w) (hb := hb11) (hr := hr11); (focus (with_reducible repeat (first | exact S10.out | apply St.lay | apply St.drew | apply St.drewN))); intro S11; (try simp only [sz_alloc, sz_drew, sz_drewN] at S11); clear hr11 hb11 S10; (try clear C10); have C11 := S11.out.facts; simp only [facts, apart, cellsAt, Nat.zero_add, Nat.reduceAdd, and_true] at C11)
      | (go_at_call 53; replace S9 := S9; refine (ref_Power 64 (by omega) _).mono ?_; rintro e w10 ⟨A10, c10, rfl, hr10, hb10⟩; apply St.stepB (w0 := w) (hb := hb10) (hr := hr10); (focus (with_reducible repeat (first | exact S9.out | apply St.lay | apply St.drew | apply St.drewN))); intro S10; (try simp only [sz_alloc, sz_drew, sz_drewN] at S10); clear hr10 hb10 S9; (try clear C9); have C10 := S10.out.facts; simp only [facts, apart, cellsAt, Nat.zero_add, Nat.reduceAdd, and_true] at C10))
    go_wp2
    have HBf := S12.out.bl
    refine bodyPost_ret (v := .tuple #[.agg #[.int .i64 (whi a), .int .u64 (wlo a)], .int .i64 0]) (by simp (maxDischargeDepth := 9) [results, Tryd.results17, go_sem, *]) rfl ⟨rfl, (by repeat (first | exact Below.refl _ _ | assumption | refine bl_alloc ?_ _ | refine bl_drewN ?_ _ | refine bl_drew ?_ | refine bl_set ?_ (by first | (simp; done) | (simp; omega) | (dsimp only; omega)) _ | refine bl_then ?_ (by assumption)))⟩)

theorem ref_Wide (a : Int) (A : Option Addr) (c : Nat) (ha : nd a ≤ 5000) (w : World) (hA : RB w A c a) :
    Calls Tryd.prog 17 #[.agg #[.bool (sg a), .slice A (nd a) c]] w fun e w' => e = .returned (.tuple #[.agg #[.int .i64 (whi (fitW a)), .int .u64 (wlo (fitW a))], .int .i64 (errW a)]) ∧ Below w.heap.size w w' := by
  have e127 := pow2_127
  by_cases h : W128 a
  · rw [(fitW_of h).1, (fitW_of h).2]; exact ref_Wide_mid a A c h w hA
  · rw [(fitW_not h).1, (fitW_not h).2, whi0, wlo0]
    by_cases h1 : pow2 127 ≤ a
    · exact ref_Wide_high a A c ha h1 w hA
    · exact ref_Wide_low a A c ha (by unfold W128 at h; omega) w hA
end Go.Proofs.YtgodfbhjfhdihaaDoor
