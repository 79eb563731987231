/- Walks of the layer 'wide', seventh part: the quotient, bit by bit. -/
import Derived.Test.YtpdggnocnaaanaaDoorWc
import Derived.Scope
import Derived.ScopeJumps
namespace Go.Proofs.YtpdggnocnaaanaaDoor
open Go.RowKit
attribute [local go_sem] nlt2 nlt3 nlt4 nlt5 nlt6 nlt7 nlt8 nlt9 nlt10 nlt11 nlt12

theorem jump_mono {l : Nat} {J J' : Act → World → Prop} {Q : Exit → Act → World → Prop} (h : ∀ a w, J' a w → J a w) : ∀ e a w, Exit.jump l J' Q e a w → Exit.jump l J Q e a w := by
  intro e a w hh
  cases e <;> first | exact hh | exact ⟨hh.1, h _ _ hh.2⟩

theorem wide_neg (a : Int) (w : World) :
    Calls Tryd.prog 86 #[.agg #[.int .i64 0, .int .u64 0], .agg #[.int .i64 (whi a), .int .u64 (wlo a)]] w fun e w' => e = .returned (.agg #[.int .i64 (whi (wrapW (-a))), .int .u64 (wlo (wrapW (-a)))]) ∧ Below w.heap.size w w' := by
  have h := wide_less 0 a w
  rw [whi0, wlo0, Int.zero_sub] at h
  exact h
theorem skip_seq {P : Program} {y : Code} {Q : Exit → Act → World → Prop} {a : Act} {w : World} (h : y.wp P Q a w) : (Code.seq .skip y).wp P Q a w := wp_seq (wp_skip h)

/-- A body whose label is gone back to: what goes on from the label serves for the first time as for each other. -/
theorem scope_again {P : Program} {c y : Code} {Q : Exit → Act → World → Prop} {a : Act} {w : World} (l : Nat) (J : Act → World → Prop) (μ : Act → World → Nat) (hf : findLabel c l = some (.seq .skip y))
    (first : (∀ a w, J a w → y.wp P (Exit.jump l J Q) a w) → c.wp P (Exit.jump l J Q) a w)
    (pass : ∀ a w, J a w → y.wp P (Exit.jump l (fun a' w' => J a' w' ∧ μ a' w' < μ a w) Q) a w) : (Code.scope c).wp P Q a w :=
  wp_scope_jumps l J μ hf (first (fun a w h => Code.wp_mono (jump_mono (fun _ _ k => k.1)) (pass a w h))) (fun a w h => skip_seq (pass a w h))

set_option maxRecDepth 1000000 in
set_option maxHeartbeats 4000000 in
theorem wide_parts (a b : Int) (ha : W128 a) (hb : 0 < b) (hb2 : b ≤ 9223372036854775808) (w : World) (hg : GN w) :
    Calls Tryd.prog 115 #[.agg #[.int .i64 (whi a), .int .u64 (wlo a)], .int .u64 b] w fun e w' => e = .returned (.tuple #[.agg #[.int .i64 (whi (wrapW (a.natAbs / b))), .int .u64 (wlo (wrapW (a.natAbs / b)))], .int .u64 (a.natAbs % b)]) ∧ Below w.heap.size w w' := by
  have hlt := World.block_lt_of_cell? w _ hg.1
  obtain ⟨hlo, hlo', hlol⟩ := low_ne hlt
  obtain ⟨g0, g1⟩ := hg
  obtain ⟨A, hAe⟩ : ∃ A : Int, A = a.natAbs := ⟨_, rfl⟩
  have hA : SA A := by unfold W128 at ha; unfold SA; omega
  rw [← hAe]
  have HAe := Lib.hid hAe
  clear hAe
  obtain ⟨HE1, HE2⟩ := qs_end hA hb
  have HE1 := Lib.hid HE1
  have HE2 := Lib.hid HE2
  have hb2' : b ≤ 9223372036854775808 := hb2
  have HB2 := Lib.hid hb2'
  clear hb2 hb2'
  go_enter Tryd.func115, Tryd.ntmps115
  go_wp2
  refine scope_again 0 (fun a' w' => ∃ (k : Nat) (u0 u2 u3 u8 u10 u11 u12 u13 u14 u15 u16 u17 u18 u19 u20 u21 u22 u23 u24 u25 u26 u27 u28 u29 u30 u31 u32 u33 u34 u35 u36 u37 u38 u39 u40 u41 u42 u43 u44 u45 u46 u47 u48 u49 u50 u51 u52 u53 u54 u55 : Value), k ≤ 128 ∧ a' = ({ tmps := #[u0, .int .u64 b, u2, u3, .pointer (some ⟨w.heap.size + 1, 0, none⟩), .int .u64 (rs A b k), .int .u64 (shi A k), .int .u64 (slo A k), u8, .int .i64 (128 - k), u10, u11, u12, u13, u14, u15, u16, u17, u18, u19, u20, u21, u22, u23, u24, u25, u26, u27, u28, u29, u30, u31, u32, u33, u34, u35, u36, u37, u38, u39, u40, u41, u42, u43, u44, u45, u46, u47, u48, u49, u50, u51, u52, u53, u54, u55], defers := [] } : Act) ∧ Blk w' (w.heap.size + 1) (whi (wrapW (qs A b k))) (wlo (wrapW (qs A b k))) ∧ Hid (Below w.heap.size w w') ∧ w.heap.size + 1 < w'.heap.size) (fun a' _ => (intOf (a'.tmps.getD 9 undef)).toNat) rfl ?first ?pass
  case first =>
    intro again
    by_cases h : a < 0
    · have hs : decide (whi a < 0) = true := by rw [decide_eq_true_iff, whi_neg]; exact h
      obtain ⟨_, hhi, hlo⟩ := size_neg ha h
      have Hhi := Lib.hid hhi
      have Hlo := Lib.hid hlo
      clear hhi hlo
      go_wp2
      go_region_held3 (fun w' => w'.cell? ⟨w.heap.size, 0, none⟩ = some (.int .i64 (whi a)) ∧ w'.cell? ⟨w.heap.size, 1, none⟩ = some (.int .u64 (wlo a))) (first | (simp [go_sem]; done) | (simp [go_sem, *]; done)) (fail)
      go_wp2_with (go_at_call 86; refine (wide_neg a _).mono ?_; rintro e w1 ⟨rfl, hb1⟩; obtain ⟨hc1, hf1⟩ := bcell hb1; have hz1_0 : w.heap.size < w1.heap.size := Nat.lt_of_lt_of_le (by first | (simp; done) | (simp; omega) | (simp [go_sem]; done) | (simp [go_sem]; omega) | omega) hb1.size; have hz1_1 : w.heap.size + 1 < w1.heap.size := Nat.lt_of_lt_of_le (by first | (simp; done) | (simp; omega) | (simp [go_sem]; done) | (simp [go_sem]; omega) | omega) hb1.size; have hg10 : 0 < w1.heap.size := Nat.lt_of_lt_of_le (by first | (simp; done) | (simp; omega) | (simp [go_sem]; done) | (simp [go_sem]; omega) | omega) hb1.size)
      go_region_held3 (fun w' => w'.cell? ⟨w1.heap.size, 0, none⟩ = some (.int .i64 (whi (wrapW (-a)))) ∧ w'.cell? ⟨w1.heap.size, 1, none⟩ = some (.int .u64 (wlo (wrapW (-a))))) (first | (simp [go_sem]; done) | (simp [go_sem, *]; done)) (fail)
      go_wp2
      go_step3
      rename_i aK
      refine aK _ _ ?_
      refine again _ _ ?_
      rw [Hhi.out, Hlo.out, ← HAe.out]
      refine ⟨0, _, _, _, _, _, _, _, _, _, _, _, _, _, _, _, _, _, _, _, _, _, _, _, _, _, _, _, _, _, _, _, _, _, _, _, _, _, _, _, _, _, _, _, _, _, _, _, _, _, _, by omega, rfl, ?_, ?_, ?_⟩
      · simp [Blk, go_sem, *]; exact ⟨rfl, rfl⟩
      · exact (by repeat (first | exact Below.refl _ _ | assumption | refine bl_alloc ?_ _ | refine bl_drewN ?_ _ | refine bl_drew ?_ | refine bl_set ?_ (by first | (simp; done) | (simp; omega) | (dsimp only; omega)) _ | refine bl_then ?_ (by assumption)))
      · simp; omega
    · obtain ⟨_, hhi, hlo⟩ := size_pos ha h
      have hs : decide (whi a < 0) = false := by rw [decide_eq_false_iff_not, whi_neg]; exact h
      have Hhi := Lib.hid hhi
      have Hlo := Lib.hid hlo
      clear hhi hlo
      go_wp2
      go_region_held3 (fun w' => w'.cell? ⟨w.heap.size, 0, none⟩ = some (.int .i64 (whi a)) ∧ w'.cell? ⟨w.heap.size, 1, none⟩ = some (.int .u64 (wlo a))) (first | (simp [go_sem]; done) | (simp [go_sem, *]; done)) (fail)
      go_wp2
      go_step3
      rename_i aK
      refine aK _ _ ?_
      refine again _ _ ?_
      rw [Hhi.out, Hlo.out, ← HAe.out]
      refine ⟨0, _, _, _, _, _, _, _, _, _, _, _, _, _, _, _, _, _, _, _, _, _, _, _, _, _, _, _, _, _, _, _, _, _, _, _, _, _, _, _, _, _, _, _, _, _, _, _, _, _, _, by omega, rfl, ?_, ?_, ?_⟩
      · simp [Blk, go_sem]; exact ⟨rfl, rfl⟩
      · exact (by repeat (first | exact Below.refl _ _ | assumption | refine bl_alloc ?_ _ | refine bl_drewN ?_ _ | refine bl_drew ?_ | refine bl_set ?_ (by first | (simp; done) | (simp; omega) | (dsimp only; omega)) _ | refine bl_then ?_ (by assumption)))
      · simp
  case pass =>
    intro a1 w1 hJ
    obtain ⟨k, u0, u2, u3, u8, u10, u11, u12, u13, u14, u15, u16, u17, u18, u19, u20, u21, u22, u23, u24, u25, u26, u27, u28, u29, u30, u31, u32, u33, u34, u35, u36, u37, u38, u39, u40, u41, u42, u43, u44, u45, u46, u47, u48, u49, u50, u51, u52, u53, u54, u55, hk, rfl, ⟨b0, b1, f0, f1⟩, HB, hz⟩ := hJ
    by_cases hk2 : k = 128
    · subst hk2
      have HB' := HB.out
      go_wp2
      simp only [Exit.jump]
      refine bodyPost_ret (v := .tuple #[.agg #[.int .i64 (whi (wrapW (qs A b 128))), .int .u64 (wlo (wrapW (qs A b 128)))], .int .u64 (rs A b 128)]) (by simp (maxDischargeDepth := 9) [results, Tryd.results115, go_sem, *]) rfl ⟨by rw [HE1.out, HE2.out], (by repeat (first | exact Below.refl _ _ | assumption | refine bl_alloc ?_ _ | refine bl_drewN ?_ _ | refine bl_drew ?_ | refine bl_set ?_ (by first | (simp; done) | (simp; omega) | (dsimp only; omega)) _ | refine bl_then ?_ (by assumption)))⟩
    · have hk3 : k < 128 := by omega
      have hi0 : ((128 : Int) - k == 0) = false := by rw [beq_eq_false_iff_ne]; omega
      clear hk2
      have e5 : Hid ((128 : Int) - k - 1 = 128 - ((k + 1 : Nat) : Int)) := by show _ = _; omega
      obtain ⟨T, hT⟩ : ∃ T, T = 2 * rs A b k + bt A k := ⟨_, rfl⟩
      have E1 : bits .or .u64 (IntKind.u64.wrap (rs A b k * 2)) (shi A k / 9223372036854775808) = T := (rs_step hA hb HB2.out k).trans hT.symm
      have E2 := Lib.hid (sh_hi hA k)
      have E3 := Lib.hid (sh_lo A k)
      have hr := rs_bd hA hb k
      have ht := bt_01 hA k
      have T0 : 0 ≤ T := by omega
      have T1 : Hid (T < 18446744073709551616) := by have := HB2.out; show T < _; omega
      have HT := Lib.hid hT
      clear hT hr ht
      have one : I64 1 := by unfold I64; omega
      by_cases hge : b ≤ T
      · have ER : rs A b (k + 1) = T - b := by rw [HT.out]; exact if_pos (by rw [← HT.out]; exact hge)
        have EQ : qs A b (k + 1) = 2 * qs A b k + 1 := if_pos (by rw [← HT.out]; exact hge)
        have WT := Lib.hid (show IntKind.u64.wrap (T - b) = rs A b (k + 1) by have := T1.out; rw [ER, IntKind.wrap_u64]; omega)
        have ZZ := Lib.hid (show wrapW (wrapW (wrapW (qs A b k) + wrapW (qs A b k)) + 1) = wrapW (2 * qs A b k + 1) by rw [wrapW_add, wrapW_add']; congr 1; omega)
        clear ER
        have EQ := Lib.hid EQ
        go_wp2_with (go_at_call 100; refine (wide_plus _ _ _).mono ?_; rintro e w2 ⟨rfl, hb2⟩; obtain ⟨b2, b3, f2, f3⟩ := Blk.below hb2 hz ⟨b0, b1, f0, f1⟩; have hz2 : w.heap.size + 1 < w2.heap.size := Nat.lt_of_lt_of_le hz hb2.size)
        go_region_with (first | (go_at_call 44; refine (wide_Of 1 one _).mono ?_; rintro e w3 ⟨rfl, hb3⟩; obtain ⟨b4, b5, f4, f5⟩ : Blk w3 (w.heap.size + 1) (whi (wrapW (wrapW (qs A b k) + wrapW (qs A b k)))) (wlo (wrapW (wrapW (qs A b k) + wrapW (qs A b k)))) := Blk.below hb3 (by simp; omega) (by simp [Blk, go_sem, *]); have hz3 : w.heap.size + 1 < w3.heap.size := Nat.lt_of_lt_of_le (by simp; omega) hb3.size) | (go_at_call 100; refine (wide_plus _ 1 _).mono ?_; rintro e w4 ⟨rfl, hb4⟩; obtain ⟨b6, b7, f6, f7⟩ := Blk.below hb4 hz3 ⟨b4, b5, f4, f5⟩; have hz4 : w.heap.size + 1 < w4.heap.size := Nat.lt_of_lt_of_le hz3 hb4.size))
        all_goals go_wp2
        all_goals go_step3
        all_goals rw [E2.out, E3.out, e5.out, WT.out]
        all_goals have HB' := HB.out
        all_goals refine ⟨rfl, ⟨k + 1, _, _, _, _, _, _, _, _, _, _, _, _, _, _, _, _, _, _, _, _, _, _, _, _, _, _, _, _, _, _, _, _, _, _, _, _, _, _, _, _, _, _, _, _, _, _, _, _, _, _, by omega, rfl, ?_, (by repeat (first | exact Below.refl _ _ | assumption | refine bl_alloc ?_ _ | refine bl_drewN ?_ _ | refine bl_drew ?_ | refine bl_set ?_ (by first | (simp; done) | (simp; omega) | (dsimp only; omega)) _ | refine bl_then ?_ (by assumption))), by simp; omega⟩, ?_⟩
        all_goals first | (rw [EQ.out, ← ZZ.out]; simp [Blk, go_sem, *]; done) | (simp [intOf]; omega)
      · have ER : rs A b (k + 1) = T := by rw [HT.out]; exact if_neg (by rw [← HT.out]; exact hge)
        have EQ : qs A b (k + 1) = 2 * qs A b k := if_neg (by rw [← HT.out]; exact hge)
        have ZZ := Lib.hid (show wrapW (wrapW (qs A b k) + wrapW (qs A b k)) = wrapW (2 * qs A b k) by rw [wrapW_add]; congr 1; omega)
        have ER := Lib.hid ER
        have EQ := Lib.hid EQ
        go_wp2_with (go_at_call 100; refine (wide_plus _ _ _).mono ?_; rintro e w2 ⟨rfl, hb2⟩; obtain ⟨b2, b3, f2, f3⟩ := Blk.below hb2 hz ⟨b0, b1, f0, f1⟩; have hz2 : w.heap.size + 1 < w2.heap.size := Nat.lt_of_lt_of_le hz hb2.size)
        go_step3
        rw [E2.out, E3.out, e5.out, ← ER.out]
        have HB' := HB.out
        refine ⟨rfl, ⟨k + 1, _, _, _, _, _, _, _, _, _, _, _, _, _, _, _, _, _, _, _, _, _, _, _, _, _, _, _, _, _, _, _, _, _, _, _, _, _, _, _, _, _, _, _, _, _, _, _, _, _, _, by omega, rfl, ?_, (by repeat (first | exact Below.refl _ _ | assumption | refine bl_alloc ?_ _ | refine bl_drewN ?_ _ | refine bl_drew ?_ | refine bl_set ?_ (by first | (simp; done) | (simp; omega) | (dsimp only; omega)) _ | refine bl_then ?_ (by assumption))), by simp; omega⟩, ?_⟩
        · rw [EQ.out, ← ZZ.out]; simp [Blk, go_sem, *]
        · simp [intOf]; omega
end Go.Proofs.YtpdggnocnaaanaaDoor
