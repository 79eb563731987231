/- WideDivides is proved: for every wide number and every number of 64 bits the quotients, rounded down and rounded to even, are the reference's; its condition: the package's variables none and least hold what their initialisers lay. -/
import Derived.Test.YtgodfbhjfhdihaaDoorLb
import Derived.Test.YtgodfbhjfhdihaaDoorLr
namespace Go.Proofs.YtgodfbhjfhdihaaDoor
open Go.RowKit Go.WideShapes Go.ChangeShapes
set_option linter.unusedSimpArgs false
set_option linter.unusedVariables false
attribute [local go_sem] nlt2 nlt3 nlt4 nlt5 nlt6 nlt7 nlt8 nlt9 nlt10 nlt11 nlt12
attribute [local go_sem] field_D

theorem fl_bound {a b : Int} (ha : W128 a) (hb : b ≠ 0) : nd (fl a b) ≤ 5000 := by
  by_cases hx : a = LW ∧ b = -1
  · obtain ⟨rfl, rfl⟩ := hx; exact Nat.le_trans (nd_le_of (k := 9) (by decide)) (by omega)
  · have := nd_W128 (fl_W128 ha hb hx); omega
theorem ev_bound {a b : Int} (ha : W128 a) (hb : b ≠ 0) : nd (ev a b) ≤ 5000 := by
  by_cases hx : a = LW ∧ b = -1
  · obtain ⟨rfl, rfl⟩ := hx; exact Nat.le_trans (nd_le_of (k := 9) (by decide)) (by omega)
  · have := nd_W128 (ev_W128 ha hb hx); omega
theorem fl_fit {a b : Int} (ha : W128 a) (hb : b ≠ 0) : fitW (fl a b) = quoV (fl a b) a b ∧ errW (fl a b) = quoE a b := by
  unfold quoV quoE
  rw [if_neg hb, if_neg hb]
  by_cases hx : a = LW ∧ b = -1
  · rw [if_pos hx, if_pos hx]; obtain ⟨rfl, rfl⟩ := hx; exact fitW_not fl_beyond
  · rw [if_neg hx, if_neg hx]; exact fitW_of (fl_W128 ha hb hx)
theorem ev_fit {a b : Int} (ha : W128 a) (hb : b ≠ 0) : fitW (ev a b) = quoV (ev a b) a b ∧ errW (ev a b) = quoE a b := by
  unfold quoV quoE
  rw [if_neg hb, if_neg hb]
  by_cases hx : a = LW ∧ b = -1
  · rw [if_pos hx, if_pos hx]; obtain ⟨rfl, rfl⟩ := hx; exact fitW_not ev_beyond
  · rw [if_neg hx, if_neg hx]; exact fitW_of (ev_W128 ha hb hx)
theorem wide_Div0 (a : Int) (ha : W128 a) (w : World) (hg : GN w) (hl : GL w) :
    Calls Tryd.prog 37 #[.agg #[.int .i64 (whi a), .int .u64 (wlo a)], .int .i64 0] w fun e w' => e = .returned (.tuple #[.agg #[.int .i64 0, .int .u64 0], .int .i64 4]) ∧ Below w.heap.size w w' := by
  have h := wide_Div a 0 ha (by decide) w hg hl
  simp only [quoV, quoE, if_true, whi0, wlo0] at h; exact h
theorem wide_Even0 (a : Int) (ha : W128 a) (w : World) (hg : GN w) (hl : GL w) :
    Calls Tryd.prog 38 #[.agg #[.int .i64 (whi a), .int .u64 (wlo a)], .int .i64 0] w fun e w' => e = .returned (.tuple #[.agg #[.int .i64 0, .int .u64 0], .int .i64 4]) ∧ Below w.heap.size w w' := by
  have h := wide_Even a 0 ha (by decide) w hg hl
  simp only [quoV, quoE, if_true, whi0, wlo0] at h; exact h

set_option maxRecDepth 100000 in
set_option maxHeartbeats 4000000 in
theorem law_WideDivides0 (a : Int) (ha : W128 a) (w : World) (hg : GN w) (hl : GL w) :
    Calls Tryd.prog 8 #[.agg #[.int .i64 (whi a), .int .u64 (wlo a)], .int .i64 0] w fun e w' => e = .returned (.bool true) ∧ Below w.heap.size w w' := by
  have HG := Asd.mk hg
  have HL := Asd.mk hl
  have S0 := Asd.mk (St.refl w)
  clear hg hl
  go_enter Tryd.func8, Tryd.ntmps8
  go_wp2_with (first
      | (go_at_call 39; replace S2 := S2; refine (law01_fixed _ (by exact HG.out.below (by with_reducible repeat (first | exact S2.out.bl | refine bl_alloc ?_ _ | refine bl_drewN ?_ _ | refine bl_drew ?_))) (by exact HL.out.below (by with_reducible repeat (first | exact S2.out.bl | refine bl_alloc ?_ _ | refine bl_drewN ?_ _ | refine bl_drew ?_)))).mono ?_; rintro e w3 ⟨rfl, hb3⟩; apply St.step (w0 := w) (hb := hb3); (focus (with_reducible repeat (first | exact S2.out | apply St.lay | apply St.drew | apply St.drewN))); intro S3; (try simp only [sz_alloc, sz_drew, sz_drewN] at S3); clear hb3 S2; (try clear C2); have C3 := S3.out.facts; simp only [facts, apart, cellsAt, Nat.zero_add, Nat.reduceAdd, and_true] at C3)
      | (go_at_call 38; replace S1 := S1; refine (wide_Even0 a ha _ (by exact HG.out.below (by with_reducible repeat (first | exact S1.out.bl | refine bl_alloc ?_ _ | refine bl_drewN ?_ _ | refine bl_drew ?_))) (by exact HL.out.below (by with_reducible repeat (first | exact S1.out.bl | refine bl_alloc ?_ _ | refine bl_drewN ?_ _ | refine bl_drew ?_)))).mono ?_; rintro e w2 ⟨rfl, hb2⟩; apply St.step (w0 := w) (hb := hb2); (focus (with_reducible repeat (first | exact S1.out | apply St.lay | apply St.drew | apply St.drewN))); intro S2; (try simp only [sz_alloc, sz_drew, sz_drewN] at S2); clear hb2 S1; (try clear C1); have C2 := S2.out.facts; simp only [facts, apart, cellsAt, Nat.zero_add, Nat.reduceAdd, and_true] at C2)
      | (go_at_call 37; replace S0 := S0; refine (wide_Div0 a ha _ (by exact HG.out.below (by with_reducible repeat (first | exact S0.out.bl | refine bl_alloc ?_ _ | refine bl_drewN ?_ _ | refine bl_drew ?_))) (by exact HL.out.below (by with_reducible repeat (first | exact S0.out.bl | refine bl_alloc ?_ _ | refine bl_drewN ?_ _ | refine bl_drew ?_)))).mono ?_; rintro e w1 ⟨rfl, hb1⟩; apply St.step (w0 := w) (hb := hb1); (focus (with_reducible repeat (first | exact S0.out | apply St.lay | apply St.drew | apply St.drewN))); intro S1; (try simp only [sz_alloc, sz_drew, sz_drewN] at S1); clear hb1 S0; (try clear C0); have C1 := S1.out.facts; simp only [facts, apart, cellsAt, Nat.zero_add, Nat.reduceAdd, and_true] at C1))
  have HBf := S3.out.bl
  go_ret
  exact ⟨rfl, (by repeat (first | exact Below.refl _ _ | assumption | refine bl_alloc ?_ _ | refine bl_drewN ?_ _ | refine bl_drew ?_ | refine bl_set ?_ (by first | (simp; done) | (simp; omega) | (dsimp only; omega)) _ | refine bl_then ?_ (by assumption)))⟩

set_option maxRecDepth 100000 in
set_option maxHeartbeats 4000000 in
theorem law_WideDividesN (a b : Int) (ha : W128 a) (hb : I64 b) (h0 : b ≠ 0) (w : World) (hg : GN w) (hl : GL w) :
    Calls Tryd.prog 8 #[.agg #[.int .i64 (whi a), .int .u64 (wlo a)], .int .i64 b] w fun e w' => e = .returned (.bool true) ∧ Below w.heap.size w w' := by
  have HG := Asd.mk hg
  have HL := Asd.mk hl
  have S0 := Asd.mk (St.refl w)
  have F := Asd.mk (fl_fit ha h0)
  have E := Asd.mk (ev_fit ha h0)
  have H0 := Asd.mk h0
  have q : (b == 0) = false := beq_eq_false_iff_ne.2 h0
  have n1 : Asd (nd a ≤ 5000) := ⟨by have := nd_W128 ha; omega⟩
  have n2 : Asd (nd b ≤ 5000) := ⟨by have := nd_i64 hb; omega⟩
  have n3 : Asd (nd a ≤ 2000) := ⟨by have := nd_W128 ha; omega⟩
  have n4 : Asd (nd b ≤ 2000) := ⟨by have := nd_i64 hb; omega⟩
  have n5 : Asd (nd (fl a b) ≤ 5000) := ⟨fl_bound ha h0⟩
  have n6 : Asd (nd (ev a b) ≤ 5000) := ⟨ev_bound ha h0⟩
  clear hg hl h0
  go_enter Tryd.func8, Tryd.ntmps8
  go_wp2_with (first
      | (go_at_call 41; replace S3 := S3; refine (ref_Of b hb _).mono ?_; rintro e w4 ⟨A4, c4, rfl, hr4, hb4⟩; apply St.stepB (w0 := w) (hb := hb4) (hr := hr4); (focus (with_reducible repeat (first | exact S3.out | apply St.lay | apply St.drew | apply St.drewN))); intro S4; (try simp only [sz_alloc, sz_drew, sz_drewN] at S4); clear hr4 hb4 S3; (try clear C3); have C4 := S4.out.facts; simp only [facts, apart, cellsAt, Nat.zero_add, Nat.reduceAdd, and_true] at C4)
      | (go_at_call 40; replace S2 := S2; refine (ref_From a ha _).mono ?_; rintro e w3 ⟨A3, c3, rfl, hr3, hb3⟩; apply St.stepB (w0 := w) (hb := hb3) (hr := hr3); (focus (with_reducible repeat (first | exact S2.out | apply St.lay | apply St.drew | apply St.drewN))); intro S3; (try simp only [sz_alloc, sz_drew, sz_drewN] at S3); clear hr3 hb3 S2; (try clear C2); have C3 := S3.out.facts; simp only [facts, apart, cellsAt, Nat.zero_add, Nat.reduceAdd, and_true] at C3)
      | (go_at_call 38; replace S1 := S1; refine (wide_Even a b ha hb _ (by exact HG.out.below (by with_reducible repeat (first | exact S1.out.bl | refine bl_alloc ?_ _ | refine bl_drewN ?_ _ | refine bl_drew ?_))) (by exact HL.out.below (by with_reducible repeat (first | exact S1.out.bl | refine bl_alloc ?_ _ | refine bl_drewN ?_ _ | refine bl_drew ?_)))).mono ?_; rintro e w2 ⟨rfl, hb2⟩; apply St.step (w0 := w) (hb := hb2); (focus (with_reducible repeat (first | exact S1.out | apply St.lay | apply St.drew | apply St.drewN))); intro S2; (try simp only [sz_alloc, sz_drew, sz_drewN] at S2); clear hb2 S1; (try clear C1); have C2 := S2.out.facts; simp only [facts, apart, cellsAt, Nat.zero_add, Nat.reduceAdd, and_true] at C2)
      | (go_at_call 37; replace S0 := S0; refine (wide_Div a b ha hb _ (by exact HG.out.below (by with_reducible repeat (first | exact S0.out.bl | refine bl_alloc ?_ _ | refine bl_drewN ?_ _ | refine bl_drew ?_))) (by exact HL.out.below (by with_reducible repeat (first | exact S0.out.bl | refine bl_alloc ?_ _ | refine bl_drewN ?_ _ | refine bl_drew ?_)))).mono ?_; rintro e w1 ⟨rfl, hb1⟩; apply St.step (w0 := w) (hb := hb1); (focus (with_reducible repeat (first | exact S0.out | apply St.lay | apply St.drew | apply St.drewN))); intro S1; (try simp only [sz_alloc, sz_drew, sz_drewN] at S1); clear hb1 S0; (try clear C0); have C1 := S1.out.facts; simp only [facts, apart, cellsAt, Nat.zero_add, Nat.reduceAdd, and_true] at C1))
  go_region_held3 (fun w' => w'.cell? ⟨w1.heap.size, 0, none⟩ = some (.int .i64 (whi (quoV (fl a b) a b))) ∧ w'.cell? ⟨w1.heap.size, 1, none⟩ = some (.int .u64 (wlo (quoV (fl a b) a b))) ∧ w'.cell? ⟨w2.heap.size, 0, none⟩ = some (.int .i64 (whi (quoV (ev a b) a b))) ∧ w'.cell? ⟨w2.heap.size, 1, none⟩ = some (.int .u64 (wlo (quoV (ev a b) a b))) ∧ w'.cell? ⟨w4.heap.size, 0, none⟩ = some (.bool (sg a)) ∧ w'.cell? ⟨w4.heap.size, 1, none⟩ = some (.slice A3 (nd a) c3) ∧ w'.cell? ⟨w4.heap.size + 1, 0, none⟩ = some (.bool (sg b)) ∧ w'.cell? ⟨w4.heap.size + 1, 1, none⟩ = some (.slice A4 (nd b) c4))
    (first | (simp [go_sem, *]; done) | (simp (maxDischargeDepth := 9) [go_sem, *]; done))
    (first
      | (go_at_call 42; replace S8 := S8; refine (law_same (ev a b) _ _ E.out.1 E.out.2 A8 c8 n6.out _ (by exact RB.below (S8.out.rb 0 rfl) (by with_reducible repeat (first | exact Below.refl _ _ | refine bl_alloc ?_ _ | refine bl_drewN ?_ _ | refine bl_drew ?_)))).mono ?_; rintro e w9 ⟨rfl, hb9⟩; apply St.step (w0 := w) (hb := hb9); (focus (with_reducible repeat (first | exact S8.out | apply St.lay | apply St.drew | apply St.drewN))); intro S9; (try simp only [sz_alloc, sz_drew, sz_drewN] at S9); clear hb9 S8; (try clear C8); have C9 := S9.out.facts; simp only [facts, apart, cellsAt, Nat.zero_add, Nat.reduceAdd, and_true] at C9)
      | (go_at_call 44; replace S7 := S7; refine (ref_Even_any a b A3 A4 c3 c4 H0.out n3.out n4.out _ (by exact RB.below (S7.out.rb 2 rfl) (by with_reducible repeat (first | exact Below.refl _ _ | refine bl_alloc ?_ _ | refine bl_drewN ?_ _ | refine bl_drew ?_))) (by exact RB.below (S7.out.rb 1 rfl) (by with_reducible repeat (first | exact Below.refl _ _ | refine bl_alloc ?_ _ | refine bl_drewN ?_ _ | refine bl_drew ?_)))).mono ?_; rintro e w8 ⟨A8, c8, rfl, hr8, hb8⟩; apply St.stepB (w0 := w) (hb := hb8) (hr := hr8); (focus (with_reducible repeat (first | exact S7.out | apply St.lay | apply St.drew | apply St.drewN))); intro S8; (try simp only [sz_alloc, sz_drew, sz_drewN] at S8); clear hr8 hb8 S7; (try clear C7); have C8 := S8.out.facts; simp only [facts, apart, cellsAt, Nat.zero_add, Nat.reduceAdd, and_true] at C8)
      | (go_at_call 42; replace S6 := S6; refine (law_same (fl a b) _ _ F.out.1 F.out.2 A6 c6 n5.out _ (by exact RB.below (S6.out.rb 0 rfl) (by with_reducible repeat (first | exact Below.refl _ _ | refine bl_alloc ?_ _ | refine bl_drewN ?_ _ | refine bl_drew ?_)))).mono ?_; rintro e w7 ⟨rfl, hb7⟩; apply St.step (w0 := w) (hb := hb7); (focus (with_reducible repeat (first | exact S6.out | apply St.lay | apply St.drew | apply St.drewN))); intro S7; (try simp only [sz_alloc, sz_drew, sz_drewN] at S7); clear hb7 S6; (try clear C6); have C7 := S7.out.facts; simp only [facts, apart, cellsAt, Nat.zero_add, Nat.reduceAdd, and_true] at C7)
      | (go_at_call 43; replace S5 := S5; refine (ref_Div a b A3 A4 c3 c4 H0.out n1.out n2.out _ (by exact RB.below (S5.out.rb 1 rfl) (by with_reducible repeat (first | exact Below.refl _ _ | refine bl_alloc ?_ _ | refine bl_drewN ?_ _ | refine bl_drew ?_))) (by exact RB.below (S5.out.rb 0 rfl) (by with_reducible repeat (first | exact Below.refl _ _ | refine bl_alloc ?_ _ | refine bl_drewN ?_ _ | refine bl_drew ?_)))).mono ?_; rintro e w6 ⟨A6, c6, rfl, hr6, hb6⟩; apply St.stepB (w0 := w) (hb := hb6) (hr := hr6); (focus (with_reducible repeat (first | exact S5.out | apply St.lay | apply St.drew | apply St.drewN))); intro S6; (try simp only [sz_alloc, sz_drew, sz_drewN] at S6); clear hr6 hb6 S5; (try clear C5); have C6 := S6.out.facts; simp only [facts, apart, cellsAt, Nat.zero_add, Nat.reduceAdd, and_true] at C6)
      | (go_at_call 39; replace S4 := S4; refine (law01_fixed _ (by exact HG.out.below (by with_reducible repeat (first | exact S4.out.bl | refine bl_alloc ?_ _ | refine bl_drewN ?_ _ | refine bl_drew ?_))) (by exact HL.out.below (by with_reducible repeat (first | exact S4.out.bl | refine bl_alloc ?_ _ | refine bl_drewN ?_ _ | refine bl_drew ?_)))).mono ?_; rintro e w5 ⟨rfl, hb5⟩; apply St.step (w0 := w) (hb := hb5); (focus (with_reducible repeat (first | exact S4.out | apply St.lay | apply St.drew | apply St.drewN))); intro S5; (try simp only [sz_alloc, sz_drew, sz_drewN] at S5); clear hb5 S4; (try clear C4); have C5 := S5.out.facts; simp only [facts, apart, cellsAt, Nat.zero_add, Nat.reduceAdd, and_true] at C5))
  go_wp2
  have HBf := S9.out.bl
  go_ret
  exact ⟨rfl, (by repeat (first | exact Below.refl _ _ | assumption | refine bl_alloc ?_ _ | refine bl_drewN ?_ _ | refine bl_drew ?_ | refine bl_set ?_ (by first | (simp; done) | (simp; omega) | (dsimp only; omega)) _ | refine bl_then ?_ (by assumption)))⟩
theorem law_WideDivides (a b : Int) (ha : W128 a) (hb : I64 b) (w : World) (hg : GN w) (hl : GL w) :
    Calls Tryd.prog 8 #[.agg #[.int .i64 (whi a), .int .u64 (wlo a)], .int .i64 b] w fun e w' => e = .returned (.bool true) ∧ Below w.heap.size w w' := by
  by_cases h0 : b = 0
  · subst h0; exact law_WideDivides0 a ha w hg hl
  · exact law_WideDividesN a b ha hb h0 w hg hl

namespace wideDivides
theorem reads (os : Os) {H : Type} (enc : TypeId × Value → H) : ∃ places, DataW.whole enc Tryd.prog ((World.doorLaid Tryd.prog 400 os).forCall (fun _ _ => 0) ⟨#[], #[.agg #[.int .i64 0, .int .u64 0], .int .i64 0], []⟩).memory Tryd.f8.params.toList Rows.wideDividesSpec.vars false #[.agg #[.int .i64 0, .int .u64 0], .int .i64 0].toList 8 = some ([.agg [.lit (.int .i64 0), .lit (.int .u64 0)], .lit (.int .i64 0)], [], places) :=
  ⟨[], by kernel_rfl⟩
theorem laid_met (os : Os) : laidMet Tryd.prog Rows.wideDividesRow.laid ((World.doorLaid Tryd.prog 400 os).forCall (fun _ _ => 0) ⟨#[], #[.agg #[.int .i64 0, .int .u64 0], .int .i64 0], []⟩).memory :=
  laidMet_of_run' 8 (by kernel_rfl) (by kernel_rfl)
set_option maxRecDepth 100000 in
theorem lifted (os : Os) (started : os.Started) (H : Type) (enc : TypeId × Value → H) (F : Stop.Interp) :
    ReturnsInHanded {} Tryd.checked os 8 .any ((OpenSpec.ofChange Rows.wideDividesSpec).preRow enc Tryd.prog Tryd.f8 Rows.wideDividesRow.domain false Rows.wideDividesRow.laid) (((OpenSpec.ofChange Rows.wideDividesSpec).at F).post enc Tryd.prog Tryd.f8 false true false false) := by
  obtain ⟨places, hx⟩ := reads os enc
  refine returnsInHanded_of_row (C := Tryd.checked) (s := OpenSpec.ofChange Rows.wideDividesSpec) own started (by kernel_rfl) Tryd.func8
    (witness_row_at (enc := enc) (C := Tryd.checked) false (World.doorLaid Tryd.prog 400 os) #[.agg #[.int .i64 0, .int .u64 0], .int .i64 0] rfl (by kernel_rfl) (by kernel_rfl) (by kernel_rfl)
      (OpenSpec.preRow_of_cond 8 hx (by kernel_rfl) (fun k hk => by cases hk) (by kernel_rfl) (laid_met os))) ?_
  intro W base args ds gs before hval hW _ _ _ hL _ _
  have hW' := hW
  obtain ⟨p, q, hA0, hV, rfl, hfz, hnd⟩ := hW
  have hA : DataW.TrodAll enc Tryd.prog W 0 (fun _ => true) true Tryd.f8.params.toList args.toList ds p := hA0
  rw [Tryd.params8] at hA hval
  obtain ⟨v0, v1, d0, d1, p0, p1, rfl, rfl, rfl, h0, h1⟩ := trodAll_two hA
  obtain ⟨a, ha, rfl⟩ := open_wide (hval 0 _ v0 rfl rfl) h0
  obtain ⟨b, hb, rfl⟩ := open_i64 (hval 1 _ v1 rfl rfl) h1
  obtain ⟨rfl, rfl⟩ := trodVars_none hV
  have hg := laid_GN (L := Rows.wideDividesRow.laid) hL (List.Mem.head _)
  have hl := laid_GL (L := Rows.wideDividesRow.laid) hL (List.Mem.tail _ (List.Mem.head _))
  refine (law_WideDivides a b ha hb W hg hl).mono ?_
  rintro e W' ⟨rfl, hbel⟩
  exact ⟨_, rfl, law_post hW' rfl rfl rfl rfl (by kernel_rfl) Tryd.underlying4 law_laidOut (by kernel_rfl) hbel⟩
theorem said : Rows.WideDividesSaid :=
  OpenClaim.holds_of_cond 8 Tryd.f8 rfl rfl rfl rfl rfl rfl rfl ⟨rfl, rfl, rfl, rfl, rfl⟩ rfl rfl rfl rfl rfl (by kernel_rfl) Tryd.func8 (by kernel_rfl)
    (of_decide_eq_true (by kernel_rfl)) (by unfold Func.isWrapper; first | (rw [if_pos (by decide +kernel)]; kernel_rfl) | (rw [if_neg (by decide +kernel)]; exact ⟨rfl, rfl⟩))
    (fun os started H enc _ F => by rw [OpenClaim.pre_eq_preRow]; exact lifted os started H enc F)
theorem plain (f : FuncId) (fn : Func) (hf : Tryd.pinned.checked.prog.funcNamed "aneroid/aneroidlaw01.WideDivides" = some f) (hfn : Tryd.pinned.checked.prog.funcs[f]? = some fn) :
    false = Tryd.pinned.checked.prog.looks [] ∧ ∀ (j : Nat) t, fn.params[j]? = some t → Tryd.pinned.checked.prog.wantsStandIn t = false := by
  obtain rfl : f = 8 := Option.some.inj ((show Tryd.prog.funcNamed "aneroid/aneroidlaw01.WideDivides" = some 8 by kernel_rfl).symm.trans hf) |>.symm
  obtain rfl : fn = Tryd.f8 := (Option.some.inj (Tryd.func8.symm.trans hfn)).symm
  refine ⟨by kernel_rfl, fun j t ht => ?_⟩
  have hall : (Tryd.f8.params.all fun t => !Tryd.prog.wantsStandIn t) = true := by kernel_rfl
  exact Bool.not_eq_true' _ ▸ (Array.all_eq_true_iff_forall_mem.1 hall) t (Array.mem_of_getElem? ht)
/-- The card. -/
theorem card : Rows.WideDividesCardSaid :=
  Claim7.holds_tied_plain_at .later [] _ _ _ _ said (fun _ h => by cases h) (by kernel_rfl) (fun _ h => by cases h) wideDivides_row_tie rfl ⟨rfl, rfl⟩ (by kernel_rfl) rfl plain (by kernel_rfl)
end wideDivides
end Go.Proofs.YtgodfbhjfhdihaaDoor
