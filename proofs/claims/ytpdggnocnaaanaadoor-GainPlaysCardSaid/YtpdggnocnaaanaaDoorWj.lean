/- Walks of the layer 'wide', ninth part: quotients whose signs part. -/
import Derived.Test.YtpdggnocnaaanaaDoorWi
namespace Go.Proofs.YtpdggnocnaaanaaDoor
open Go.RowKit
attribute [local go_sem] nlt2 nlt3 nlt4 nlt5 nlt6 nlt7 nlt8 nlt9 nlt10 nlt11 nlt12
theorem wrapW_twice (q : Int) : wrapW (wrapW (-wrapW q) - 1) = wrapW (-q - 1) := by unfold wrapW; omega

set_option maxRecDepth 100000 in
set_option maxHeartbeats 8000000 in
theorem wide_split_pos (a b : Int) (ha : W128 a) (hi : I64 b) (hb : b ≠ 0) (hx : ¬ (a = LW ∧ b = -1)) (d : (decide (a < 0) != decide (b < 0)) = true) (hr : 0 < (a.natAbs : Int) % b.natAbs) (w : World) (hg : GN w) (hl : GL w) :
    Calls Tryd.prog 109 #[.agg #[.int .i64 (whi a), .int .u64 (wlo a)], .int .i64 b] w fun e w' => e = .returned (.tuple #[.agg #[.int .i64 (whi (fl a b)), .int .u64 (wlo (fl a b))], .int .u64 (rm a b), .int .i64 0]) ∧ Below w.heap.size w w' := by
  have HG := Asd.mk hg
  have hlt := World.block_lt_of_cell? w _ hg.1
  obtain ⟨hlo, hlo', hlol⟩ := low_ne hlt
  have hlt2 := World.block_lt_of_cell? w _ hl.1
  obtain ⟨hlo2, hlo2', hlo2l⟩ := low_ne hlt2
  obtain ⟨g0, g1⟩ := hg
  obtain ⟨l0, l1⟩ := hl
  have hb0 : (b == 0) = false := beq_eq_false_iff_ne.2 hb
  have hwords := least_words' ha
  have hB1 : (0 : Int) < b.natAbs := by omega
  have hB2 : (b.natAbs : Int) ≤ 9223372036854775808 := (size_le hi).2
  have HB1 := Asd.mk hB1
  have HB2 := Asd.mk hB2
  clear hB1 hB2
  have hone : I64 1 := by unfold I64; omega
  have dw : decide (whi a < 0) = decide (a < 0) := by simp only [whi_neg]
  have HX := Asd.mk hx
  have HW := Asd.mk hwords
  clear hx hwords
  obtain ⟨e1, e2⟩ := fl_other hb d
  have RB := Asd.mk (rem_bd (a := a) hb)
  rw [if_pos hr] at e1 e2
  have WZ := Asd.mk (wrapW_of (quo_turn_less ha hb d hr))
  have ZZ : Asd (wrapW (wrapW (-wrapW ((a.natAbs : Int) / b.natAbs)) - 1) = -((a.natAbs : Int) / b.natAbs) - 1) := ⟨by rw [wrapW_twice]; exact WZ.out⟩
  have WR : Asd (IntKind.u64.wrap ((b.natAbs : Int) - (a.natAbs : Int) % b.natAbs) = (b.natAbs : Int) - (a.natAbs : Int) % b.natAbs) := ⟨by have := RB.out; have := HB2.out; rw [IntKind.wrap_u64]; omega⟩
  have E1 := Asd.mk e1
  have E2 := Asd.mk e2
  clear e1 e2
  cases d1 : decide (a < 0)
  all_goals cases d2 : decide (b < 0)
  all_goals rw [d1] at dw
  all_goals first
    | (exfalso; rw [d1, d2] at d; cases d; done)
    | skip
  all_goals clear d d1
  all_goals (
    go_enter Tryd.func109, Tryd.ntmps109
    go_upto_region 3 with fail
    go_cut [0, 16] (fun s0 s16 wc => s16 = .bool false ∧ Blk wc w.heap.size (whi a) (wlo a) ∧ Blk wc (w.heap.size + 1) 0 0 ∧ GN wc ∧ Asd (Below w.heap.size w wc) ∧ w.heap.size + 1 < wc.heap.size)
    case first =>
      go_wp2_with fail
      all_goals go_meet
      all_goals refine ⟨?_, by simp [Blk, go_sem, *], by simp [Blk, go_sem, *], HG.out.below (by repeat (first | exact Below.refl _ _ | assumption | refine bl_alloc ?_ _ | refine bl_drewN ?_ _ | refine bl_drew ?_ | refine bl_set ?_ (by first | (simp; done) | (simp; omega) | (dsimp only; omega)) _ | refine bl_then ?_ (by assumption))), ⟨(by repeat (first | exact Below.refl _ _ | assumption | refine bl_alloc ?_ _ | refine bl_drewN ?_ _ | refine bl_drew ?_ | refine bl_set ?_ (by first | (simp; done) | (simp; omega) | (dsimp only; omega)) _ | refine bl_then ?_ (by assumption)))⟩, by simp⟩
      all_goals first | rfl | (congr 1; rw [beq_eq_false_iff_ne]; intro hb1; exact HX.out ⟨of_decide_eq_true (HW.out.symm.trans (by simp [*])), hb1⟩)
    case rest =>
      clear hlt hlt2 g0 g1 l0 l1
      obtain ⟨rfl, ⟨b0, b1, f0, f1⟩, ⟨r0, r1, s0, s1⟩, HGc, HB, hz⟩ := hcut
      have hz0 : w.heap.size < wc.heap.size := by omega
      have HGC := Asd.mk HGc
      clear HGc
      go_wp2
      go_region_held3 (fun w' => w'.cell? ⟨w.heap.size, 0, none⟩ = some (.int .i64 (whi a)) ∧ w'.cell? ⟨w.heap.size, 1, none⟩ = some (.int .u64 (wlo a))) (first | (simp [go_sem]; done) | (simp [go_sem, *]; done) | exact ⟨b2, b3⟩)
        (first
          | (go_at_call 85; refine (wide_size b hi _).mono ?_; rintro e w' ⟨rfl, rfl⟩)
          | (go_at_call 115; refine (wide_parts a b.natAbs ha HB1.out HB2.out _ (by exact HGC.out)).mono ?_; rintro e w1 ⟨rfl, hb1⟩; obtain ⟨b2, b3, f2, f3⟩ := Blk.below hb1 hz0 ⟨b0, b1, f0, f1⟩; obtain ⟨r2, r3, s2, s3⟩ := Blk.below hb1 hz ⟨r0, r1, s0, s1⟩; have hz1 : w.heap.size + 1 < w1.heap.size := Nat.lt_of_lt_of_le hz hb1.size))
      have HG1 := (GN.below (by exact HGC.out) hb1)
      have hlt1 := World.block_lt_of_cell? w1 _ HG1.1
      obtain ⟨hlo1, hlo1', hlo1l⟩ := low_ne hlt1
      obtain ⟨g0, g1⟩ := HG1
      go_wp2_with (go_at_call 86; refine (wide_neg (wrapW (a.natAbs / b.natAbs)) _).mono ?_; rintro e w2 ⟨rfl, hb2⟩; obtain ⟨b4, b5, f4, f5⟩ : Blk w2 w.heap.size (whi a) (wlo a) := Blk.below hb2 (by simp; omega) (by simp [Blk, go_sem, *]); obtain ⟨r4, r5, s4, s5⟩ : Blk w2 (w.heap.size + 1) (whi (wrapW (a.natAbs / b.natAbs))) (wlo (wrapW (a.natAbs / b.natAbs))) := Blk.below hb2 (by simp; omega) (by simp [Blk, go_sem, *]); have hz2 : w.heap.size + 1 < w2.heap.size := Nat.lt_of_lt_of_le (by simp; omega) hb2.size)
      go_region_with (first
        | (go_at_call 85; refine (wide_size b hi _).mono ?_; rintro e w' ⟨rfl, rfl⟩)
        | (go_at_call 44; refine (wide_Of 1 hone _).mono ?_; rintro e w3 ⟨rfl, hb3⟩; obtain ⟨r6, r7, s6, s7⟩ : Blk w3 (w.heap.size + 1) (whi (wrapW (-wrapW (a.natAbs / b.natAbs)))) (wlo (wrapW (-wrapW (a.natAbs / b.natAbs)))) := Blk.below hb3 (by simp; omega) (by simp [Blk, go_sem, *]); have hz3 : w.heap.size + 1 < w3.heap.size := Nat.lt_of_lt_of_le (by simp; omega) hb3.size)
        | (go_at_call 86; refine (wide_less _ 1 _).mono ?_; rintro e w4 ⟨rfl, hb4⟩; obtain ⟨r8, r9, s8, s9⟩ := Blk.below hb4 hz3 ⟨r6, r7, s6, s7⟩; have hz4 : w.heap.size + 1 < w4.heap.size := Nat.lt_of_lt_of_le hz3 hb4.size))
      all_goals go_wp2
      all_goals have HB' := HB.out
      all_goals refine bodyPost_ret (v := .tuple #[.agg #[.int .i64 (whi (wrapW (wrapW (-wrapW ((a.natAbs : Int) / b.natAbs)) - 1))), .int .u64 (wlo (wrapW (wrapW (-wrapW ((a.natAbs : Int) / b.natAbs)) - 1)))], .int .u64 (IntKind.u64.wrap ((b.natAbs : Int) - (a.natAbs : Int) % b.natAbs)), .int .i64 0]) (by simp (maxDischargeDepth := 9) [results, Tryd.results109, go_sem, *]) rfl ⟨by rw [ZZ.out, WR.out, E1.out, E2.out], (by repeat (first | exact Below.refl _ _ | assumption | refine bl_alloc ?_ _ | refine bl_drewN ?_ _ | refine bl_drew ?_ | refine bl_set ?_ (by first | (simp; done) | (simp; omega) | (dsimp only; omega)) _ | refine bl_then ?_ (by assumption)))⟩)

set_option maxRecDepth 100000 in
set_option maxHeartbeats 8000000 in
theorem wide_split_none (a b : Int) (ha : W128 a) (hi : I64 b) (hb : b ≠ 0) (hx : ¬ (a = LW ∧ b = -1)) (d : (decide (a < 0) != decide (b < 0)) = true) (hr : ¬ 0 < (a.natAbs : Int) % b.natAbs) (w : World) (hg : GN w) (hl : GL w) :
    Calls Tryd.prog 109 #[.agg #[.int .i64 (whi a), .int .u64 (wlo a)], .int .i64 b] w fun e w' => e = .returned (.tuple #[.agg #[.int .i64 (whi (fl a b)), .int .u64 (wlo (fl a b))], .int .u64 (rm a b), .int .i64 0]) ∧ Below w.heap.size w w' := by
  have HG := Asd.mk hg
  have hlt := World.block_lt_of_cell? w _ hg.1
  obtain ⟨hlo, hlo', hlol⟩ := low_ne hlt
  have hlt2 := World.block_lt_of_cell? w _ hl.1
  obtain ⟨hlo2, hlo2', hlo2l⟩ := low_ne hlt2
  obtain ⟨g0, g1⟩ := hg
  obtain ⟨l0, l1⟩ := hl
  have hb0 : (b == 0) = false := beq_eq_false_iff_ne.2 hb
  have hwords := least_words' ha
  have hB1 : (0 : Int) < b.natAbs := by omega
  have hB2 : (b.natAbs : Int) ≤ 9223372036854775808 := (size_le hi).2
  have HB1 := Asd.mk hB1
  have HB2 := Asd.mk hB2
  clear hB1 hB2
  have hone : I64 1 := by unfold I64; omega
  have dw : decide (whi a < 0) = decide (a < 0) := by simp only [whi_neg]
  have HX := Asd.mk hx
  have HW := Asd.mk hwords
  clear hx hwords
  obtain ⟨e1, e2⟩ := fl_other hb d
  rw [if_neg hr] at e1 e2
  have WZ := Asd.mk (wrapW_of (quo_turn ha hb))
  have ZZ : Asd (wrapW (-wrapW ((a.natAbs : Int) / b.natAbs)) = -((a.natAbs : Int) / b.natAbs)) := ⟨by rw [← Int.zero_sub, wrapW_sub', Int.zero_sub]; exact WZ.out⟩
  have E1 := Asd.mk e1
  have E2 := Asd.mk e2
  clear e1 e2
  cases d1 : decide (a < 0)
  all_goals cases d2 : decide (b < 0)
  all_goals rw [d1] at dw
  all_goals first
    | (exfalso; rw [d1, d2] at d; cases d; done)
    | skip
  all_goals clear d d1
  all_goals (
    go_enter Tryd.func109, Tryd.ntmps109
    go_upto_region 3 with fail
    go_cut [0, 16] (fun s0 s16 wc => s16 = .bool false ∧ Blk wc w.heap.size (whi a) (wlo a) ∧ Blk wc (w.heap.size + 1) 0 0 ∧ GN wc ∧ Asd (Below w.heap.size w wc) ∧ w.heap.size + 1 < wc.heap.size)
    case first =>
      go_wp2_with fail
      all_goals go_meet
      all_goals refine ⟨?_, by simp [Blk, go_sem, *], by simp [Blk, go_sem, *], HG.out.below (by repeat (first | exact Below.refl _ _ | assumption | refine bl_alloc ?_ _ | refine bl_drewN ?_ _ | refine bl_drew ?_ | refine bl_set ?_ (by first | (simp; done) | (simp; omega) | (dsimp only; omega)) _ | refine bl_then ?_ (by assumption))), ⟨(by repeat (first | exact Below.refl _ _ | assumption | refine bl_alloc ?_ _ | refine bl_drewN ?_ _ | refine bl_drew ?_ | refine bl_set ?_ (by first | (simp; done) | (simp; omega) | (dsimp only; omega)) _ | refine bl_then ?_ (by assumption)))⟩, by simp⟩
      all_goals first | rfl | (congr 1; rw [beq_eq_false_iff_ne]; intro hb1; exact HX.out ⟨of_decide_eq_true (HW.out.symm.trans (by simp [*])), hb1⟩)
    case rest =>
      clear hlt hlt2 g0 g1 l0 l1
      obtain ⟨rfl, ⟨b0, b1, f0, f1⟩, ⟨r0, r1, s0, s1⟩, HGc, HB, hz⟩ := hcut
      have hz0 : w.heap.size < wc.heap.size := by omega
      have HGC := Asd.mk HGc
      clear HGc
      go_wp2
      go_region_held3 (fun w' => w'.cell? ⟨w.heap.size, 0, none⟩ = some (.int .i64 (whi a)) ∧ w'.cell? ⟨w.heap.size, 1, none⟩ = some (.int .u64 (wlo a))) (first | (simp [go_sem]; done) | (simp [go_sem, *]; done) | exact ⟨b2, b3⟩)
        (first
          | (go_at_call 85; refine (wide_size b hi _).mono ?_; rintro e w' ⟨rfl, rfl⟩)
          | (go_at_call 115; refine (wide_parts a b.natAbs ha HB1.out HB2.out _ (by exact HGC.out)).mono ?_; rintro e w1 ⟨rfl, hb1⟩; obtain ⟨b2, b3, f2, f3⟩ := Blk.below hb1 hz0 ⟨b0, b1, f0, f1⟩; obtain ⟨r2, r3, s2, s3⟩ := Blk.below hb1 hz ⟨r0, r1, s0, s1⟩; have hz1 : w.heap.size + 1 < w1.heap.size := Nat.lt_of_lt_of_le hz hb1.size))
      have HG1 := (GN.below (by exact HGC.out) hb1)
      have hlt1 := World.block_lt_of_cell? w1 _ HG1.1
      obtain ⟨hlo1, hlo1', hlo1l⟩ := low_ne hlt1
      obtain ⟨g0, g1⟩ := HG1
      go_wp2_with (go_at_call 86; refine (wide_neg (wrapW (a.natAbs / b.natAbs)) _).mono ?_; rintro e w2 ⟨rfl, hb2⟩; obtain ⟨b4, b5, f4, f5⟩ : Blk w2 w.heap.size (whi a) (wlo a) := Blk.below hb2 (by simp; omega) (by simp [Blk, go_sem, *]); obtain ⟨r4, r5, s4, s5⟩ : Blk w2 (w.heap.size + 1) (whi (wrapW (a.natAbs / b.natAbs))) (wlo (wrapW (a.natAbs / b.natAbs))) := Blk.below hb2 (by simp; omega) (by simp [Blk, go_sem, *]); have hz2 : w.heap.size + 1 < w2.heap.size := Nat.lt_of_lt_of_le (by simp; omega) hb2.size)
      have HB' := HB.out
      refine bodyPost_ret (v := .tuple #[.agg #[.int .i64 (whi (wrapW (-wrapW ((a.natAbs : Int) / b.natAbs)))), .int .u64 (wlo (wrapW (-wrapW ((a.natAbs : Int) / b.natAbs))))], .int .u64 ((a.natAbs : Int) % b.natAbs), .int .i64 0]) (by simp (maxDischargeDepth := 9) [results, Tryd.results109, go_sem, *]) rfl ⟨by rw [ZZ.out, E1.out, E2.out], (by repeat (first | exact Below.refl _ _ | assumption | refine bl_alloc ?_ _ | refine bl_drewN ?_ _ | refine bl_drew ?_ | refine bl_set ?_ (by first | (simp; done) | (simp; omega) | (dsimp only; omega)) _ | refine bl_then ?_ (by assumption)))⟩)

theorem wide_split (a b : Int) (ha : W128 a) (hi : I64 b) (hb : b ≠ 0) (hx : ¬ (a = LW ∧ b = -1)) (w : World) (hg : GN w) (hl : GL w) :
    Calls Tryd.prog 109 #[.agg #[.int .i64 (whi a), .int .u64 (wlo a)], .int .i64 b] w fun e w' => e = .returned (.tuple #[.agg #[.int .i64 (whi (fl a b)), .int .u64 (wlo (fl a b))], .int .u64 (rm a b), .int .i64 0]) ∧ Below w.heap.size w w' := by
  cases d : (decide (a < 0) != decide (b < 0))
  · exact wide_split_same a b ha hi hb hx d w hg hl
  · by_cases hr : 0 < (a.natAbs : Int) % b.natAbs
    · exact wide_split_pos a b ha hi hb hx d hr w hg hl
    · exact wide_split_none a b ha hi hb hx d hr w hg hl
end Go.Proofs.YtpdggnocnaaanaaDoor
