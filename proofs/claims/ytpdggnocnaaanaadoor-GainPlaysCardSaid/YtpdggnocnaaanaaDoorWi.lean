/- Walks of the layer 'wide', eighth part: quotients. -/
import Derived.Test.YtpdggnocnaaanaaDoorWh
import Derived.Deep.DeepCutAuto
namespace Go.Proofs.YtpdggnocnaaanaaDoor
open Go.RowKit
attribute [local go_sem] nlt2 nlt3 nlt4 nlt5 nlt6 nlt7 nlt8 nlt9 nlt10 nlt11 nlt12

/-- The high word of the least wide number, under a name (a great numeral stops the walk). -/
def LHi : Int := -9223372036854775808
def LW : Int := -170141183460469231731687303715884105728
theorem LW_hi : whi LW = LHi := by decide
theorem LW_lo : wlo LW = 0 := by decide
theorem LW_W128 : W128 LW := by decide
theorem least_words' {a : Int} (ha : W128 a) : (whi a == LHi && wlo a == 0) = decide (a = LW) := least_words ha

def GL (w : World) : Prop := w.cell? ⟨2, 0, none⟩ = some (.int .i64 LHi) ∧ w.cell? ⟨2, 1, none⟩ = some (.int .u64 0)
theorem GL.below {w w' : World} (h : GL w) (hb : Below w.heap.size w w') : GL w' := by
  have hlt := World.block_lt_of_cell? w _ h.1
  exact ⟨((bcell hb).1 _ _ hlt).trans h.1, ((bcell hb).1 _ _ hlt).trans h.2⟩

set_option maxHeartbeats 1000000 in
theorem wide_split_zero (a : Int) (w : World) (hg : GN w) :
    Calls Tryd.prog 109 #[.agg #[.int .i64 (whi a), .int .u64 (wlo a)], .int .i64 0] w fun e w' => e = .returned (.tuple #[.agg #[.int .i64 0, .int .u64 0], .int .u64 0, .int .i64 4]) ∧ Below w.heap.size w w' := by
  have hlt := World.block_lt_of_cell? w _ hg.1
  obtain ⟨hlo, hlo', hlol⟩ := low_ne hlt
  obtain ⟨g0, g1⟩ := hg
  go_enter Tryd.func109, Tryd.ntmps109
  go_wp2
  refine bodyPost_ret (v := .tuple #[.agg #[.int .i64 0, .int .u64 0], .int .u64 0, .int .i64 4]) (by simp (maxDischargeDepth := 9) [results, Tryd.results109, go_sem, *]) rfl ⟨rfl, (by repeat (first | exact Below.refl _ _ | assumption | refine bl_alloc ?_ _ | refine bl_drewN ?_ _ | refine bl_drew ?_ | refine bl_set ?_ (by first | (simp; done) | (simp; omega) | (dsimp only; omega)) _ | refine bl_then ?_ (by assumption)))⟩

set_option maxRecDepth 100000 in
set_option maxHeartbeats 1000000 in
theorem wide_split_beyond (w : World) (hg : GN w) (hl : GL w) :
    Calls Tryd.prog 109 #[.agg #[.int .i64 (whi LW), .int .u64 (wlo LW)], .int .i64 (-1)] w fun e w' => e = .returned (.tuple #[.agg #[.int .i64 0, .int .u64 0], .int .u64 0, .int .i64 3]) ∧ Below w.heap.size w w' := by
  have hlt := World.block_lt_of_cell? w _ hg.1
  obtain ⟨hlo, hlo', hlol⟩ := low_ne hlt
  have hlt2 := World.block_lt_of_cell? w _ hl.1
  obtain ⟨hlo2, hlo2', hlo2l⟩ := low_ne hlt2
  obtain ⟨g0, g1⟩ := hg
  obtain ⟨l0, l1⟩ := hl
  rw [LW_hi, LW_lo]
  go_enter Tryd.func109, Tryd.ntmps109
  go_wp2
  refine bodyPost_ret (v := .tuple #[.agg #[.int .i64 0, .int .u64 0], .int .u64 0, .int .i64 3]) (by simp (maxDischargeDepth := 9) [results, Tryd.results109, go_sem, *]) rfl ⟨rfl, (by repeat (first | exact Below.refl _ _ | assumption | refine bl_alloc ?_ _ | refine bl_drewN ?_ _ | refine bl_drew ?_ | refine bl_set ?_ (by first | (simp; done) | (simp; omega) | (dsimp only; omega)) _ | refine bl_then ?_ (by assumption)))⟩

set_option maxRecDepth 100000 in
set_option maxHeartbeats 2000000 in
theorem wide_split_same (a b : Int) (ha : W128 a) (hi : I64 b) (hb : b ≠ 0) (hx : ¬ (a = LW ∧ b = -1)) (d : (decide (a < 0) != decide (b < 0)) = false) (w : World) (hg : GN w) (hl : GL w) :
    Calls Tryd.prog 109 #[.agg #[.int .i64 (whi a), .int .u64 (wlo a)], .int .i64 b] w fun e w' => e = .returned (.tuple #[.agg #[.int .i64 (whi (fl a b)), .int .u64 (wlo (fl a b))], .int .u64 (rm a b), .int .i64 0]) ∧ Below w.heap.size w w' := by
  have HG := Asd.mk hg
  have hlt := World.block_lt_of_cell? w _ hg.1
  obtain ⟨hlo, hlo', hlol⟩ := low_ne hlt
  have hlt2 := World.block_lt_of_cell? w _ hl.1
  obtain ⟨hlo2, hlo2', hlo2l⟩ := low_ne hlt2
  obtain ⟨g0, g1⟩ := hg
  obtain ⟨l0, l1⟩ := hl
  have hb0 : (b == 0) = false := beq_eq_false_iff_ne.2 hb
  have hwords := least_words' ha
  have hB1 : (0 : Int) < b.natAbs := by omega
  have hB2 : (b.natAbs : Int) ≤ 9223372036854775808 := (size_le hi).2
  have HB1 := Asd.mk hB1
  have HB2 := Asd.mk hB2
  clear hB1 hB2
  have hone : I64 1 := by unfold I64; omega
  have dw : decide (whi a < 0) = decide (a < 0) := by simp only [whi_neg]
  have HX := Asd.mk hx
  have HW := Asd.mk hwords
  clear hx hwords
  obtain ⟨e1, e2⟩ := fl_same hb d
  have QF := Asd.mk (wrapW_of (quo_fits ha hb d HX.out))
  have E1 := Asd.mk e1
  have E2 := Asd.mk e2
  clear e1 e2
  cases d1 : decide (a < 0)
  all_goals cases d2 : decide (b < 0)
  all_goals rw [d1] at dw
  all_goals first
    | (exfalso; rw [d1, d2] at d; cases d; done)
    | skip
  all_goals clear d d1
  all_goals (
    go_enter Tryd.func109, Tryd.ntmps109
    go_upto_region 3 with fail
    go_cut [0, 16] (fun s0 s16 wc => s16 = .bool false ∧ Blk wc w.heap.size (whi a) (wlo a) ∧ Blk wc (w.heap.size + 1) 0 0 ∧ GN wc ∧ Asd (Below w.heap.size w wc) ∧ w.heap.size + 1 < wc.heap.size)
    case first =>
      go_wp2_with fail
      all_goals go_meet
      all_goals refine ⟨?_, by simp [Blk, go_sem, *], by simp [Blk, go_sem, *], HG.out.below (by repeat (first | exact Below.refl _ _ | assumption | refine bl_alloc ?_ _ | refine bl_drewN ?_ _ | refine bl_drew ?_ | refine bl_set ?_ (by first | (simp; done) | (simp; omega) | (dsimp only; omega)) _ | refine bl_then ?_ (by assumption))), ⟨(by repeat (first | exact Below.refl _ _ | assumption | refine bl_alloc ?_ _ | refine bl_drewN ?_ _ | refine bl_drew ?_ | refine bl_set ?_ (by first | (simp; done) | (simp; omega) | (dsimp only; omega)) _ | refine bl_then ?_ (by assumption)))⟩, by simp⟩
      all_goals first | rfl | (congr 1; rw [beq_eq_false_iff_ne]; intro hb1; exact HX.out ⟨of_decide_eq_true (HW.out.symm.trans (by simp [*])), hb1⟩)
    case rest =>
      clear hlt hlt2 g0 g1 l0 l1
      obtain ⟨rfl, ⟨b0, b1, f0, f1⟩, ⟨r0, r1, s0, s1⟩, HGc, HB, hz⟩ := hcut
      have hz0 : w.heap.size < wc.heap.size := by omega
      have HGC := Asd.mk HGc
      clear HGc
      go_wp2
      go_region_held3 (fun w' => w'.cell? ⟨w.heap.size, 0, none⟩ = some (.int .i64 (whi a)) ∧ w'.cell? ⟨w.heap.size, 1, none⟩ = some (.int .u64 (wlo a))) (first | (simp [go_sem]; done) | (simp [go_sem, *]; done) | exact ⟨b2, b3⟩)
        (first
          | (go_at_call 85; refine (wide_size b hi _).mono ?_; rintro e w' ⟨rfl, rfl⟩)
          | (go_at_call 115; refine (wide_parts a b.natAbs ha HB1.out HB2.out _ (by exact HGC.out)).mono ?_; rintro e w1 ⟨rfl, hb1⟩; obtain ⟨b2, b3, f2, f3⟩ := Blk.below hb1 hz0 ⟨b0, b1, f0, f1⟩; obtain ⟨r2, r3, s2, s3⟩ := Blk.below hb1 hz ⟨r0, r1, s0, s1⟩; have hz1 : w.heap.size + 1 < w1.heap.size := Nat.lt_of_lt_of_le hz hb1.size))
      go_wp2
      have HB' := HB.out
      refine bodyPost_ret (v := .tuple #[.agg #[.int .i64 (whi (wrapW (a.natAbs / b.natAbs))), .int .u64 (wlo (wrapW (a.natAbs / b.natAbs)))], .int .u64 (a.natAbs % b.natAbs), .int .i64 0]) (by simp (maxDischargeDepth := 9) [results, Tryd.results109, go_sem, *]) rfl ⟨by rw [E1.out, E2.out, QF.out], (by repeat (first | exact Below.refl _ _ | assumption | refine bl_alloc ?_ _ | refine bl_drewN ?_ _ | refine bl_drew ?_ | refine bl_set ?_ (by first | (simp; done) | (simp; omega) | (dsimp only; omega)) _ | refine bl_then ?_ (by assumption)))⟩)
end Go.Proofs.YtpdggnocnaaanaaDoor
