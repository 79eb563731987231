/- Walks of the layer 'wide', tenth part: Div and Even. -/
import Derived.Test.YtpdggnocnaaanaaDoorWj
namespace Go.Proofs.YtpdggnocnaaanaaDoor
open Go.RowKit
attribute [local go_sem] nlt2 nlt3 nlt4 nlt5 nlt6 nlt7 nlt8 nlt9 nlt10 nlt11 nlt12

/-- What a quotient answers: by zero, beyond, else. -/
def quoV (q a b : Int) : Int := if b = 0 then 0 else if a = LW ∧ b = -1 then 0 else q
def quoE (a b : Int) : Int := if b = 0 then 4 else if a = LW ∧ b = -1 then 3 else 0

theorem split_all (a b : Int) (ha : W128 a) (hi : I64 b) (w : World) (hg : GN w) (hl : GL w) :
    Calls Tryd.prog 109 #[.agg #[.int .i64 (whi a), .int .u64 (wlo a)], .int .i64 b] w fun e w' => e = .returned (.tuple #[.agg #[.int .i64 (whi (quoV (fl a b) a b)), .int .u64 (wlo (quoV (fl a b) a b))], .int .u64 (quoV (rm a b) a b), .int .i64 (quoE a b)]) ∧ Below w.heap.size w w' := by
  unfold quoV quoE
  by_cases hb : b = 0
  · subst hb
    simp only [if_true, whi0, wlo0]
    exact wide_split_zero a w hg
  · simp only [if_neg hb]
    by_cases hx : a = LW ∧ b = -1
    · simp only [if_pos hx, whi0, wlo0]
      obtain ⟨rfl, rfl⟩ := hx
      exact wide_split_beyond w hg hl
    · simp only [if_neg hx]
      exact wide_split a b ha hi hb hx w hg hl

theorem fl_bd {a b : Int} (ha : W128 a) (hb : b ≠ 0) (h : 0 < rm a b) : fl a b ≤ 85070591730234615865843651857942052864 := by
  have k := quo_bd ha hb
  have hr := rem_bd (a := a) hb
  have e := Int.mul_ediv_add_emod (a.natAbs : Int) b.natAbs
  have hB : (b.natAbs : Int) ≠ 1 := by
    intro e1
    have := rm_bd (a := a) hb
    omega
  have hb2 : (2 : Int) ≤ b.natAbs := by omega
  have := Int.mul_le_mul_of_nonneg_right hb2 k.1
  cases d : (decide (a < 0) != decide (b < 0))
  · rw [(fl_same hb d).1]; unfold W128 at ha; omega
  · rw [(fl_other hb d).1]; split <;> omega
/-- A quotient rounded to even fits where the one rounded down does. -/
theorem ev_W128 {a b : Int} (ha : W128 a) (hb : b ≠ 0) (hx : ¬ (a = LW ∧ b = -1)) : W128 (ev a b) := by
  have h := fl_W128 ha hb hx
  rw [ev_eq]
  split
  · have k := fl_bd ha hb (by have := rm_bd (a := a) hb; omega)
    unfold W128 at *; omega
  · exact h
theorem ev_up {a b : Int} (h : 2 * rm a b > (b.natAbs : Int) ∨ 2 * rm a b = (b.natAbs : Int) ∧ fl a b % 2 = 1) : ev a b = fl a b + 1 := by rw [ev_eq, if_pos h]
theorem ev_down {a b : Int} (h : ¬ (2 * rm a b > (b.natAbs : Int) ∨ 2 * rm a b = (b.natAbs : Int) ∧ fl a b % 2 = 1)) : ev a b = fl a b := by rw [ev_eq, if_neg h]

set_option maxRecDepth 100000 in
set_option maxHeartbeats 4000000 in
theorem wide_Even_no (a b : Int) (ha : W128 a) (hi : I64 b) (h : b = 0 ∨ a = LW ∧ b = -1) (w : World) (hg : GN w) (hl : GL w) :
    Calls Tryd.prog 98 #[.agg #[.int .i64 (whi a), .int .u64 (wlo a)], .int .i64 b] w fun e w' => e = .returned (.tuple #[.agg #[.int .i64 0, .int .u64 0], .int .i64 (quoE a b)]) ∧ Below w.heap.size w w' := by
  have HG := Asd.mk hg
  have HL := Asd.mk hl
  have hlt := World.block_lt_of_cell? w _ hg.1
  obtain ⟨hlo, hlo', hlol⟩ := low_ne hlt
  obtain ⟨g0, g1⟩ := hg
  clear hl
  have hq : (quoE a b != 0) = true := by
    rcases h with rfl | ⟨rfl, rfl⟩
    · rfl
    · rfl
  clear h
  go_enter Tryd.func98, Tryd.ntmps98
  go_wp2_with (go_at_call 109; refine (split_all a b ha hi _ (by exact HG.out.below (by repeat (first | exact Below.refl _ _ | assumption | refine bl_alloc ?_ _ | refine bl_drewN ?_ _ | refine bl_drew ?_ | refine bl_set ?_ (by first | (simp; done) | (simp; omega) | (dsimp only; omega)) _ | refine bl_then ?_ (by assumption)))) (by exact HL.out.below (by repeat (first | exact Below.refl _ _ | assumption | refine bl_alloc ?_ _ | refine bl_drewN ?_ _ | refine bl_drew ?_ | refine bl_set ?_ (by first | (simp; done) | (simp; omega) | (dsimp only; omega)) _ | refine bl_then ?_ (by assumption))))).mono ?_; rintro e w1 ⟨rfl, hb1⟩; obtain ⟨hc1, hf1⟩ := bcell hb1; have hz1_0 : w.heap.size < w1.heap.size := Nat.lt_of_lt_of_le (by first | (simp; done) | (simp; omega) | (simp [go_sem]; done) | (simp [go_sem]; omega) | omega) hb1.size; have hz1_1 : w.heap.size + 1 < w1.heap.size := Nat.lt_of_lt_of_le (by first | (simp; done) | (simp; omega) | (simp [go_sem]; done) | (simp [go_sem]; omega) | omega) hb1.size; have hg10 : 0 < w1.heap.size := Nat.lt_of_lt_of_le (by first | (simp; done) | (simp; omega) | (simp [go_sem]; done) | (simp [go_sem]; omega) | omega) hb1.size)
  refine bodyPost_ret (v := .tuple #[.agg #[.int .i64 0, .int .u64 0], .int .i64 (quoE a b)]) (by simp (maxDischargeDepth := 9) [results, Tryd.results98, go_sem, *]) rfl ⟨rfl, (by repeat (first | exact Below.refl _ _ | assumption | refine bl_alloc ?_ _ | refine bl_drewN ?_ _ | refine bl_drew ?_ | refine bl_set ?_ (by first | (simp; done) | (simp; omega) | (dsimp only; omega)) _ | refine bl_then ?_ (by assumption)))⟩

set_option maxRecDepth 100000 in
set_option maxHeartbeats 8000000 in
theorem wide_Even_ok (a b : Int) (ha : W128 a) (hi : I64 b) (hb : b ≠ 0) (hx : ¬ (a = LW ∧ b = -1)) (w : World) (hg : GN w) (hl : GL w) :
    Calls Tryd.prog 98 #[.agg #[.int .i64 (whi a), .int .u64 (wlo a)], .int .i64 b] w fun e w' => e = .returned (.tuple #[.agg #[.int .i64 (whi (ev a b)), .int .u64 (wlo (ev a b))], .int .i64 0]) ∧ Below w.heap.size w w' := by
  have HG := Asd.mk hg
  have HL := Asd.mk hl
  have HX := Asd.mk hx
  have hone : I64 1 := by unfold I64; omega
  have HW := ev_W128 ha hb hx
  have hr := rm_bd (a := a) hb
  have hs := size_le hi
  have ha1 : bits .and .u64 (wlo (fl a b)) 1 = fl a b % 2 := (and_one _ (wlo_u64 _).1 (wlo_u64 _).2).trans (by unfold wlo; omega)
  have eL : IntKind.u64.wrap ((b.natAbs : Int) - rm a b) = (b.natAbs : Int) - rm a b := by rw [IntKind.wrap_u64]; omega
  have HH := Asd.mk (And.intro hr hs)
  clear hg hl hx hr hs
  by_cases c1 : (b.natAbs : Int) - rm a b < rm a b
  · have HE := ev_up (a := a) (b := b) (.inl (by omega))
    rw [HE] at HW ⊢
    have WE := Asd.mk (wrapW_of HW)
    clear HE HW
    go_enter Tryd.func98, Tryd.ntmps98
    go_wp2_with (first
      | (go_at_call 109; refine (wide_split a b ha hi hb HX.out _ (by exact HG.out.below (by repeat (first | exact Below.refl _ _ | assumption | refine bl_alloc ?_ _ | refine bl_drewN ?_ _ | refine bl_drew ?_ | refine bl_set ?_ (by first | (simp; done) | (simp; omega) | (dsimp only; omega)) _ | refine bl_then ?_ (by assumption)))) (by exact HL.out.below (by repeat (first | exact Below.refl _ _ | assumption | refine bl_alloc ?_ _ | refine bl_drewN ?_ _ | refine bl_drew ?_ | refine bl_set ?_ (by first | (simp; done) | (simp; omega) | (dsimp only; omega)) _ | refine bl_then ?_ (by assumption))))).mono ?_; rintro e w1 ⟨rfl, hb1⟩; obtain ⟨hc1, hf1⟩ := bcell hb1; have hz1_0 : w.heap.size < w1.heap.size := Nat.lt_of_lt_of_le (by first | (simp; done) | (simp; omega) | (simp [go_sem]; done) | (simp [go_sem]; omega) | omega) hb1.size; have hz1_1 : w.heap.size + 1 < w1.heap.size := Nat.lt_of_lt_of_le (by first | (simp; done) | (simp; omega) | (simp [go_sem]; done) | (simp [go_sem]; omega) | omega) hb1.size)
      | (go_at_call 85; refine (wide_size b hi _).mono ?_; rintro e w' ⟨rfl, rfl⟩))
    go_region_held3 (fun w' => w'.cell? ⟨w1.heap.size, 0, none⟩ = some (.int .i64 (whi (fl a b))) ∧ w'.cell? ⟨w1.heap.size, 1, none⟩ = some (.int .u64 (wlo (fl a b)))) (first | (simp [go_sem]; done) | exact ⟨b4, b5⟩ | exact ⟨b2, b3⟩ | (simp [go_sem, *]; done))
      (first
        | (go_at_call 44; refine (wide_Of 1 hone _).mono ?_; rintro e w2 ⟨rfl, hb2⟩; obtain ⟨b2, b3, f2, f3⟩ : Blk w2 w1.heap.size (whi (fl a b)) (wlo (fl a b)) := Blk.below hb2 (by simp) (by simp [Blk, go_sem, *]); obtain ⟨r2, r3, s2, s3⟩ : Blk w2 (w.heap.size + 1) 0 0 := Blk.below hb2 (by simp; omega) (by simp [Blk, go_sem, *]); have hz2 : w1.heap.size < w2.heap.size := Nat.lt_of_lt_of_le (by simp) hb2.size)
        | (go_at_call 100; refine (wide_plus (fl a b) 1 _).mono ?_; rintro e w3 ⟨rfl, hb3⟩; obtain ⟨b4, b5, f4, f5⟩ := Blk.below hb3 hz2 ⟨b2, b3, f2, f3⟩; obtain ⟨r4, r5, s4, s5⟩ := Blk.below hb3 (Nat.lt_trans hz1_1 hz2) ⟨r2, r3, s2, s3⟩; have hz3 : w1.heap.size < w3.heap.size := Nat.lt_of_lt_of_le hz2 hb3.size))
    go_wp2
    refine bodyPost_ret (v := .tuple #[.agg #[.int .i64 (whi (wrapW (fl a b + 1))), .int .u64 (wlo (wrapW (fl a b + 1)))], .int .i64 0]) (by simp (maxDischargeDepth := 9) [results, Tryd.results98, go_sem, *]) rfl ⟨by rw [WE.out], (by repeat (first | exact Below.refl _ _ | assumption | refine bl_alloc ?_ _ | refine bl_drewN ?_ _ | refine bl_drew ?_ | refine bl_set ?_ (by first | (simp; done) | (simp; omega) | (dsimp only; omega)) _ | refine bl_then ?_ (by assumption)))⟩
  · by_cases c2 : rm a b = (b.natAbs : Int) - rm a b
    · by_cases c3 : fl a b % 2 = 1
      · have HE := ev_up (a := a) (b := b) (.inr ⟨by omega, c3⟩)
        have q2 : (rm a b == (b.natAbs : Int) - rm a b) = true := beq_iff_eq.2 c2
        have C2 := Asd.mk c2
        clear c2
        rw [HE] at HW ⊢
        have WE := Asd.mk (wrapW_of HW)
        clear HE HW
        go_enter Tryd.func98, Tryd.ntmps98
        go_wp2_with (first
          | (go_at_call 109; refine (wide_split a b ha hi hb HX.out _ (by exact HG.out.below (by repeat (first | exact Below.refl _ _ | assumption | refine bl_alloc ?_ _ | refine bl_drewN ?_ _ | refine bl_drew ?_ | refine bl_set ?_ (by first | (simp; done) | (simp; omega) | (dsimp only; omega)) _ | refine bl_then ?_ (by assumption)))) (by exact HL.out.below (by repeat (first | exact Below.refl _ _ | assumption | refine bl_alloc ?_ _ | refine bl_drewN ?_ _ | refine bl_drew ?_ | refine bl_set ?_ (by first | (simp; done) | (simp; omega) | (dsimp only; omega)) _ | refine bl_then ?_ (by assumption))))).mono ?_; rintro e w1 ⟨rfl, hb1⟩; obtain ⟨hc1, hf1⟩ := bcell hb1; have hz1_0 : w.heap.size < w1.heap.size := Nat.lt_of_lt_of_le (by first | (simp; done) | (simp; omega) | (simp [go_sem]; done) | (simp [go_sem]; omega) | omega) hb1.size; have hz1_1 : w.heap.size + 1 < w1.heap.size := Nat.lt_of_lt_of_le (by first | (simp; done) | (simp; omega) | (simp [go_sem]; done) | (simp [go_sem]; omega) | omega) hb1.size)
          | (go_at_call 85; refine (wide_size b hi _).mono ?_; rintro e w' ⟨rfl, rfl⟩))
        go_region_held3 (fun w' => w'.cell? ⟨w1.heap.size, 0, none⟩ = some (.int .i64 (whi (fl a b))) ∧ w'.cell? ⟨w1.heap.size, 1, none⟩ = some (.int .u64 (wlo (fl a b)))) (first | (simp [go_sem]; done) | exact ⟨b4, b5⟩ | exact ⟨b2, b3⟩ | (simp [go_sem, *]; done))
          (first
            | (go_at_call 44; refine (wide_Of 1 hone _).mono ?_; rintro e w2 ⟨rfl, hb2⟩; obtain ⟨b2, b3, f2, f3⟩ : Blk w2 w1.heap.size (whi (fl a b)) (wlo (fl a b)) := Blk.below hb2 (by simp) (by simp [Blk, go_sem, *]); obtain ⟨r2, r3, s2, s3⟩ : Blk w2 (w.heap.size + 1) 0 0 := Blk.below hb2 (by simp; omega) (by simp [Blk, go_sem, *]); have hz2 : w1.heap.size < w2.heap.size := Nat.lt_of_lt_of_le (by simp) hb2.size)
            | (go_at_call 100; refine (wide_plus (fl a b) 1 _).mono ?_; rintro e w3 ⟨rfl, hb3⟩; obtain ⟨b4, b5, f4, f5⟩ := Blk.below hb3 hz2 ⟨b2, b3, f2, f3⟩; obtain ⟨r4, r5, s4, s5⟩ := Blk.below hb3 (Nat.lt_trans hz1_1 hz2) ⟨r2, r3, s2, s3⟩; have hz3 : w1.heap.size < w3.heap.size := Nat.lt_of_lt_of_le hz2 hb3.size))
        go_wp2
        refine bodyPost_ret (v := .tuple #[.agg #[.int .i64 (whi (wrapW (fl a b + 1))), .int .u64 (wlo (wrapW (fl a b + 1)))], .int .i64 0]) (by simp (maxDischargeDepth := 9) [results, Tryd.results98, go_sem, *]) rfl ⟨by rw [WE.out], (by repeat (first | exact Below.refl _ _ | assumption | refine bl_alloc ?_ _ | refine bl_drewN ?_ _ | refine bl_drew ?_ | refine bl_set ?_ (by first | (simp; done) | (simp; omega) | (dsimp only; omega)) _ | refine bl_then ?_ (by assumption)))⟩
      · have HE := ev_down (a := a) (b := b) (by omega)
        have q2 : (rm a b == (b.natAbs : Int) - rm a b) = true := beq_iff_eq.2 c2
        have c4 : fl a b % 2 = 0 := by omega
        have C2 := Asd.mk c2
        clear c2
        rw [HE] at HW ⊢
        clear HE HW
        go_enter Tryd.func98, Tryd.ntmps98
        go_wp2_with (first
          | (go_at_call 109; refine (wide_split a b ha hi hb HX.out _ (by exact HG.out.below (by repeat (first | exact Below.refl _ _ | assumption | refine bl_alloc ?_ _ | refine bl_drewN ?_ _ | refine bl_drew ?_ | refine bl_set ?_ (by first | (simp; done) | (simp; omega) | (dsimp only; omega)) _ | refine bl_then ?_ (by assumption)))) (by exact HL.out.below (by repeat (first | exact Below.refl _ _ | assumption | refine bl_alloc ?_ _ | refine bl_drewN ?_ _ | refine bl_drew ?_ | refine bl_set ?_ (by first | (simp; done) | (simp; omega) | (dsimp only; omega)) _ | refine bl_then ?_ (by assumption))))).mono ?_; rintro e w1 ⟨rfl, hb1⟩; obtain ⟨hc1, hf1⟩ := bcell hb1; have hz1_0 : w.heap.size < w1.heap.size := Nat.lt_of_lt_of_le (by first | (simp; done) | (simp; omega) | (simp [go_sem]; done) | (simp [go_sem]; omega) | omega) hb1.size; have hz1_1 : w.heap.size + 1 < w1.heap.size := Nat.lt_of_lt_of_le (by first | (simp; done) | (simp; omega) | (simp [go_sem]; done) | (simp [go_sem]; omega) | omega) hb1.size)
          | (go_at_call 85; refine (wide_size b hi _).mono ?_; rintro e w' ⟨rfl, rfl⟩))
        refine bodyPost_ret (v := .tuple #[.agg #[.int .i64 (whi (fl a b)), .int .u64 (wlo (fl a b))], .int .i64 0]) (by simp (maxDischargeDepth := 9) [results, Tryd.results98, go_sem, *]) rfl ⟨rfl, (by repeat (first | exact Below.refl _ _ | assumption | refine bl_alloc ?_ _ | refine bl_drewN ?_ _ | refine bl_drew ?_ | refine bl_set ?_ (by first | (simp; done) | (simp; omega) | (dsimp only; omega)) _ | refine bl_then ?_ (by assumption)))⟩
    · have HE := ev_down (a := a) (b := b) (by omega)
      have q2 : (rm a b == (b.natAbs : Int) - rm a b) = false := beq_eq_false_iff_ne.2 c2
      have C2 := Asd.mk c2
      clear c2
      rw [HE] at HW ⊢
      clear HE HW
      go_enter Tryd.func98, Tryd.ntmps98
      go_wp2_with (first
        | (go_at_call 109; refine (wide_split a b ha hi hb HX.out _ (by exact HG.out.below (by repeat (first | exact Below.refl _ _ | assumption | refine bl_alloc ?_ _ | refine bl_drewN ?_ _ | refine bl_drew ?_ | refine bl_set ?_ (by first | (simp; done) | (simp; omega) | (dsimp only; omega)) _ | refine bl_then ?_ (by assumption)))) (by exact HL.out.below (by repeat (first | exact Below.refl _ _ | assumption | refine bl_alloc ?_ _ | refine bl_drewN ?_ _ | refine bl_drew ?_ | refine bl_set ?_ (by first | (simp; done) | (simp; omega) | (dsimp only; omega)) _ | refine bl_then ?_ (by assumption))))).mono ?_; rintro e w1 ⟨rfl, hb1⟩; obtain ⟨hc1, hf1⟩ := bcell hb1; have hz1_0 : w.heap.size < w1.heap.size := Nat.lt_of_lt_of_le (by first | (simp; done) | (simp; omega) | (simp [go_sem]; done) | (simp [go_sem]; omega) | omega) hb1.size; have hz1_1 : w.heap.size + 1 < w1.heap.size := Nat.lt_of_lt_of_le (by first | (simp; done) | (simp; omega) | (simp [go_sem]; done) | (simp [go_sem]; omega) | omega) hb1.size)
        | (go_at_call 85; refine (wide_size b hi _).mono ?_; rintro e w' ⟨rfl, rfl⟩))
      refine bodyPost_ret (v := .tuple #[.agg #[.int .i64 (whi (fl a b)), .int .u64 (wlo (fl a b))], .int .i64 0]) (by simp (maxDischargeDepth := 9) [results, Tryd.results98, go_sem, *]) rfl ⟨rfl, (by repeat (first | exact Below.refl _ _ | assumption | refine bl_alloc ?_ _ | refine bl_drewN ?_ _ | refine bl_drew ?_ | refine bl_set ?_ (by first | (simp; done) | (simp; omega) | (dsimp only; omega)) _ | refine bl_then ?_ (by assumption)))⟩

theorem wide_Even (a b : Int) (ha : W128 a) (hi : I64 b) (w : World) (hg : GN w) (hl : GL w) :
    Calls Tryd.prog 98 #[.agg #[.int .i64 (whi a), .int .u64 (wlo a)], .int .i64 b] w fun e w' => e = .returned (.tuple #[.agg #[.int .i64 (whi (quoV (ev a b) a b)), .int .u64 (wlo (quoV (ev a b) a b))], .int .i64 (quoE a b)]) ∧ Below w.heap.size w w' := by
  by_cases h : b = 0 ∨ a = LW ∧ b = -1
  · have e : quoV (ev a b) a b = 0 := by
      unfold quoV
      by_cases hb : b = 0
      · rw [if_pos hb]
      · rw [if_neg hb, if_pos (h.resolve_left hb)]
    rw [e, whi0, wlo0]
    exact wide_Even_no a b ha hi h w hg hl
  · have hb : b ≠ 0 := fun k => h (.inl k)
    have hx : ¬ (a = LW ∧ b = -1) := fun k => h (.inr k)
    have e : quoV (ev a b) a b = ev a b ∧ quoE a b = 0 := by simp [quoV, quoE, hb, hx]
    rw [e.1, e.2]
    exact wide_Even_ok a b ha hi hb hx w hg hl
end Go.Proofs.YtpdggnocnaaanaaDoor
