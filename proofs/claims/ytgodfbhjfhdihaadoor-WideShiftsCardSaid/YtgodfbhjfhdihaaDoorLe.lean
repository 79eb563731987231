/- WideShifts is proved: for every wide number and every whole number the product with that power of 2, and the quotient by it, rounded to even, are the reference's; its condition: the package's variables none and least hold what their initialisers lay. -/
import Derived.Test.YtgodfbhjfhdihaaDoorLb
import Derived.Test.YtgodfbhjfhdihaaDoorLr
namespace Go.Proofs.YtgodfbhjfhdihaaDoor
open Go.RowKit Go.WideShapes Go.ChangeShapes
set_option linter.unusedSimpArgs false
set_option linter.unusedVariables false
attribute [local go_sem] nlt2 nlt3 nlt4 nlt5 nlt6 nlt7 nlt8 nlt9 nlt10 nlt11 nlt12
attribute [local go_sem] field_D

theorem up_pow (a : Int) (n : Nat) : up a n = a * pow2 n := rfl
theorem ev_pow (a : Int) (n : Nat) : ev a (pow2 n) = evP a (pow2 n) := by have := pow2_pos n; unfold ev; rw [if_neg (by omega)]
theorem half_fit {a : Int} (ha : W128 a) (n : Nat) : W128 (evP a (pow2 n)) := by
  have := pow2_pos n
  rw [← ev_pow]; exact ev_W128 ha (by omega) (by omega)
theorem ref_Even_pow (a : Int) (n : Nat) (A B : Option Addr) (c d : Nat) (ha : W128 a) (hn : n ≤ 127) (w : World) (hA : RB w A c a) (hB : RB w B d (pow2 n)) :
    Calls Tryd.prog 44 #[.agg #[.bool (sg a), .slice A (nd a) c], .agg #[.bool (sg (pow2 n)), .slice B (nd (pow2 n)) d]] w (BigR w (evP a (pow2 n))) := by
  rw [← ev_pow]; exact ref_Even_any a (pow2 n) A B c d (by have := pow2_pos n; omega) (by have := nd_W128 ha; omega) (by rw [nd_pow2]; omega) w hA hB
theorem wide_Up_bad (a n : Int) (hn : n < 0 ∨ 127 < n) (w : World) (hg : GN w) :
    Calls Tryd.prog 50 #[.agg #[.int .i64 (whi a), .int .u64 (wlo a)], .int .i64 n] w fun e w' => e = .returned (.tuple #[.agg #[.int .i64 0, .int .u64 0], .int .i64 1]) ∧ Below w.heap.size w w' := wide_Up_arg a n hn w hg
theorem wide_Half_bad (a n : Int) (hn : n < 0 ∨ 127 < n) (w : World) (hg : GN w) :
    Calls Tryd.prog 51 #[.agg #[.int .i64 (whi a), .int .u64 (wlo a)], .int .i64 n] w fun e w' => e = .returned (.tuple #[.agg #[.int .i64 0, .int .u64 0], .int .i64 1]) ∧ Below w.heap.size w w' := wide_Half_arg a n hn w hg

set_option maxRecDepth 100000 in
set_option maxHeartbeats 4000000 in
theorem law_WideShifts_bad (a n : Int) (hn : n < 0 ∨ 127 < n) (w : World) (hg : GN w) (hl : GL w) :
    Calls Tryd.prog 10 #[.agg #[.int .i64 (whi a), .int .u64 (wlo a)], .int .i64 n] w fun e w' => e = .returned (.bool true) ∧ Below w.heap.size w w' := by
  have HG := Asd.mk hg
  have HL := Asd.mk hl
  have HN := Asd.mk hn
  have S0 := Asd.mk (St.refl w)
  clear hg hl
  rcases hn with hn | hn
  all_goals (
  go_enter Tryd.func10, Tryd.ntmps10
  go_wp2_with (first
      | (go_at_call 39; replace S2 := S2; refine (law01_fixed _ (by exact HG.out.below (by with_reducible repeat (first | exact S2.out.bl | refine bl_alloc ?_ _ | refine bl_drewN ?_ _ | refine bl_drew ?_))) (by exact HL.out.below (by with_reducible repeat (first | exact S2.out.bl | refine bl_alloc ?_ _ | refine bl_drewN ?_ _ | refine bl_drew ?_)))).mono ?_; rintro e w3 ⟨rfl, hb3⟩; apply St.step (w0 := w) (hb := hb3); (focus (with_reducible repeat (first | exact S2.out | apply St.lay | apply St.drew | apply St.drewN))); intro S3; (try simp only [sz_alloc, sz_drew, sz_drewN] at S3); clear hb3 S2; (try clear C2); have C3 := S3.out.facts; simp only [facts, apart, cellsAt, Nat.zero_add, Nat.reduceAdd, and_true] at C3)
      | (go_at_call 51; replace S1 := S1; refine (wide_Half_bad a n HN.out _ (by exact HG.out.below (by with_reducible repeat (first | exact S1.out.bl | refine bl_alloc ?_ _ | refine bl_drewN ?_ _ | refine bl_drew ?_)))).mono ?_; rintro e w2 ⟨rfl, hb2⟩; apply St.step (w0 := w) (hb := hb2); (focus (with_reducible repeat (first | exact S1.out | apply St.lay | apply St.drew | apply St.drewN))); intro S2; (try simp only [sz_alloc, sz_drew, sz_drewN] at S2); clear hb2 S1; (try clear C1); have C2 := S2.out.facts; simp only [facts, apart, cellsAt, Nat.zero_add, Nat.reduceAdd, and_true] at C2)
      | (go_at_call 50; replace S0 := S0; refine (wide_Up_bad a n HN.out _ (by exact HG.out.below (by with_reducible repeat (first | exact S0.out.bl | refine bl_alloc ?_ _ | refine bl_drewN ?_ _ | refine bl_drew ?_)))).mono ?_; rintro e w1 ⟨rfl, hb1⟩; apply St.step (w0 := w) (hb := hb1); (focus (with_reducible repeat (first | exact S0.out | apply St.lay | apply St.drew | apply St.drewN))); intro S1; (try simp only [sz_alloc, sz_drew, sz_drewN] at S1); clear hb1 S0; (try clear C0); have C1 := S1.out.facts; simp only [facts, apart, cellsAt, Nat.zero_add, Nat.reduceAdd, and_true] at C1))
  have HBf := S3.out.bl
  go_ret
  exact ⟨rfl, (by repeat (first | exact Below.refl _ _ | assumption | refine bl_alloc ?_ _ | refine bl_drewN ?_ _ | refine bl_drew ?_ | refine bl_set ?_ (by first | (simp; done) | (simp; omega) | (dsimp only; omega)) _ | refine bl_then ?_ (by assumption)))⟩)

set_option maxRecDepth 100000 in
set_option maxHeartbeats 8000000 in
theorem law_WideShifts_ok (a : Int) (n : Nat) (ha : W128 a) (hn : n ≤ 127) (w : World) (hg : GN w) (hl : GL w) :
    Calls Tryd.prog 10 #[.agg #[.int .i64 (whi a), .int .u64 (wlo a)], .int .i64 n] w fun e w' => e = .returned (.bool true) ∧ Below w.heap.size w w' := by
  have HG := Asd.mk hg
  have HL := Asd.mk hl
  have S0 := Asd.mk (St.refl w)
  have hp := nd_pow2 n
  have hd := nd_W128 ha
  have hm := nd_mul a (pow2 n)
  have n1 : Asd (nd a ≤ 10000) := ⟨by omega⟩
  have n2 : Asd (nd (pow2 n) ≤ 10000) := ⟨by omega⟩
  have n3 : Asd (nd (a * pow2 n) ≤ 5000) := ⟨by omega⟩
  have hf := half_fit ha n
  have n4 : Asd (nd (evP a (pow2 n)) ≤ 5000) := ⟨by have := nd_W128 hf; omega⟩
  have F := Asd.mk (fitW_of hf)
  have hn2 : n ≤ 2000 := by omega
  clear hg hl hp hd hm hf
  go_enter Tryd.func10, Tryd.ntmps10
  go_wp2_with (first
      | (go_at_call 40; replace S2 := S2; refine (ref_From a ha _).mono ?_; rintro e w3 ⟨A3, c3, rfl, hr3, hb3⟩; apply St.stepB (w0 := w) (hb := hb3) (hr := hr3); (focus (with_reducible repeat (first | exact S2.out | apply St.lay | apply St.drew | apply St.drewN))); intro S3; (try simp only [sz_alloc, sz_drew, sz_drewN] at S3); clear hr3 hb3 S2; (try clear C2); have C3 := S3.out.facts; simp only [facts, apart, cellsAt, Nat.zero_add, Nat.reduceAdd, and_true] at C3)
      | (go_at_call 51; replace S1 := S1; refine (wide_Half_loop a n hn ha _).mono ?_; rintro e w2 ⟨rfl, hb2⟩; apply St.step (w0 := w) (hb := hb2); (focus (with_reducible repeat (first | exact S1.out | apply St.lay | apply St.drew | apply St.drewN))); intro S2; (try simp only [sz_alloc, sz_drew, sz_drewN] at S2); clear hb2 S1; (try clear C1); have C2 := S2.out.facts; simp only [facts, apart, cellsAt, Nat.zero_add, Nat.reduceAdd, and_true] at C2)
      | (go_at_call 50; replace S0 := S0; refine (wide_Up_loop a n hn ha _ (by exact HG.out.below (by with_reducible repeat (first | exact S0.out.bl | refine bl_alloc ?_ _ | refine bl_drewN ?_ _ | refine bl_drew ?_)))).mono ?_; rintro e w1 ⟨rfl, hb1⟩; apply St.step (w0 := w) (hb := hb1); (focus (with_reducible repeat (first | exact S0.out | apply St.lay | apply St.drew | apply St.drewN))); intro S1; (try simp only [sz_alloc, sz_drew, sz_drewN] at S1); clear hb1 S0; (try clear C0); have C1 := S1.out.facts; simp only [facts, apart, cellsAt, Nat.zero_add, Nat.reduceAdd, and_true] at C1))
  go_region_held3 (fun w' => w'.cell? ⟨w1.heap.size, 0, none⟩ = some (.int .i64 (whi (fitW (up a n)))) ∧ w'.cell? ⟨w1.heap.size, 1, none⟩ = some (.int .u64 (wlo (fitW (up a n)))) ∧ w'.cell? ⟨w2.heap.size, 0, none⟩ = some (.int .i64 (whi (evP a (pow2 n)))) ∧ w'.cell? ⟨w2.heap.size, 1, none⟩ = some (.int .u64 (wlo (evP a (pow2 n)))) ∧ w'.cell? ⟨w3.heap.size, 0, none⟩ = some (.bool (sg a)) ∧ w'.cell? ⟨w3.heap.size, 1, none⟩ = some (.slice A3 (nd a) c3))
    (first | (simp [go_sem, *]; done) | (simp (maxDischargeDepth := 9) [go_sem, *]; done))
    (first
      | (go_at_call 42; replace S9 := S9; refine (law_same (evP a (pow2 n)) _ _ F.out.1 F.out.2 A9 c9 n4.out _ (by exact RB.below (S9.out.rb 0 rfl) (by with_reducible repeat (first | exact Below.refl _ _ | refine bl_alloc ?_ _ | refine bl_drewN ?_ _ | refine bl_drew ?_)))).mono ?_; rintro e w10 ⟨rfl, hb10⟩; apply St.step (w0 := w) (hb := hb10); (focus (with_reducible repeat (first | exact S9.out | apply St.lay | apply St.drew | apply St.drewN))); intro S10; (try simp only [sz_alloc, sz_drew, sz_drewN] at S10); clear hb10 S9; (try clear C9); have C10 := S10.out.facts; simp only [facts, apart, cellsAt, Nat.zero_add, Nat.reduceAdd, and_true] at C10)
      | (go_at_call 44; replace S8 := S8; refine (ref_Even_pow a n A3 A8 c3 c8 ha hn _ (by exact RB.below (S8.out.rb 3 rfl) (by with_reducible repeat (first | exact Below.refl _ _ | refine bl_alloc ?_ _ | refine bl_drewN ?_ _ | refine bl_drew ?_))) (by exact RB.below (S8.out.rb 0 rfl) (by with_reducible repeat (first | exact Below.refl _ _ | refine bl_alloc ?_ _ | refine bl_drewN ?_ _ | refine bl_drew ?_)))).mono ?_; rintro e w9 ⟨A9, c9, rfl, hr9, hb9⟩; apply St.stepB (w0 := w) (hb := hb9) (hr := hr9); (focus (with_reducible repeat (first | exact S8.out | apply St.lay | apply St.drew | apply St.drewN))); intro S9; (try simp only [sz_alloc, sz_drew, sz_drewN] at S9); clear hr9 hb9 S8; (try clear C8); have C9 := S9.out.facts; simp only [facts, apart, cellsAt, Nat.zero_add, Nat.reduceAdd, and_true] at C9)
      | (go_at_call 53; replace S7 := S7; refine (ref_Power n hn2 _).mono ?_; rintro e w8 ⟨A8, c8, rfl, hr8, hb8⟩; apply St.stepB (w0 := w) (hb := hb8) (hr := hr8); (focus (with_reducible repeat (first | exact S7.out | apply St.lay | apply St.drew | apply St.drewN))); intro S8; (try simp only [sz_alloc, sz_drew, sz_drewN] at S8); clear hr8 hb8 S7; (try clear C7); have C8 := S8.out.facts; simp only [facts, apart, cellsAt, Nat.zero_add, Nat.reduceAdd, and_true] at C8)
      | (go_at_call 42; replace S6 := S6; refine (law_same (a * pow2 n) (fitW (up a n)) (errW (up a n)) rfl rfl A6 c6 n3.out _ (by exact RB.below (S6.out.rb 0 rfl) (by with_reducible repeat (first | exact Below.refl _ _ | refine bl_alloc ?_ _ | refine bl_drewN ?_ _ | refine bl_drew ?_)))).mono ?_; rintro e w7 ⟨rfl, hb7⟩; apply St.step (w0 := w) (hb := hb7); (focus (with_reducible repeat (first | exact S6.out | apply St.lay | apply St.drew | apply St.drewN))); intro S7; (try simp only [sz_alloc, sz_drew, sz_drewN] at S7); clear hb7 S6; (try clear C6); have C7 := S7.out.facts; simp only [facts, apart, cellsAt, Nat.zero_add, Nat.reduceAdd, and_true] at C7)
      | (go_at_call 52; replace S5 := S5; refine (ref_Mul a (pow2 n) A3 A5 c3 c5 n1.out n2.out _ (by exact RB.below (S5.out.rb 1 rfl) (by with_reducible repeat (first | exact Below.refl _ _ | refine bl_alloc ?_ _ | refine bl_drewN ?_ _ | refine bl_drew ?_))) (by exact RB.below (S5.out.rb 0 rfl) (by with_reducible repeat (first | exact Below.refl _ _ | refine bl_alloc ?_ _ | refine bl_drewN ?_ _ | refine bl_drew ?_)))).mono ?_; rintro e w6 ⟨A6, c6, rfl, hr6, hb6⟩; apply St.stepB (w0 := w) (hb := hb6) (hr := hr6); (focus (with_reducible repeat (first | exact S5.out | apply St.lay | apply St.drew | apply St.drewN))); intro S6; (try simp only [sz_alloc, sz_drew, sz_drewN] at S6); clear hr6 hb6 S5; (try clear C5); have C6 := S6.out.facts; simp only [facts, apart, cellsAt, Nat.zero_add, Nat.reduceAdd, and_true] at C6)
      | (go_at_call 53; replace S4 := S4; refine (ref_Power n hn2 _).mono ?_; rintro e w5 ⟨A5, c5, rfl, hr5, hb5⟩; apply St.stepB (w0 := w) (hb := hb5) (hr := hr5); (focus (with_reducible repeat (first | exact S4.out | apply St.lay | apply St.drew | apply St.drewN))); intro S5; (try simp only [sz_alloc, sz_drew, sz_drewN] at S5); clear hr5 hb5 S4; (try clear C4); have C5 := S5.out.facts; simp only [facts, apart, cellsAt, Nat.zero_add, Nat.reduceAdd, and_true] at C5)
      | (go_at_call 39; replace S3 := S3; refine (law01_fixed _ (by exact HG.out.below (by with_reducible repeat (first | exact S3.out.bl | refine bl_alloc ?_ _ | refine bl_drewN ?_ _ | refine bl_drew ?_))) (by exact HL.out.below (by with_reducible repeat (first | exact S3.out.bl | refine bl_alloc ?_ _ | refine bl_drewN ?_ _ | refine bl_drew ?_)))).mono ?_; rintro e w4 ⟨rfl, hb4⟩; apply St.step (w0 := w) (hb := hb4); (focus (with_reducible repeat (first | exact S3.out | apply St.lay | apply St.drew | apply St.drewN))); intro S4; (try simp only [sz_alloc, sz_drew, sz_drewN] at S4); clear hb4 S3; (try clear C3); have C4 := S4.out.facts; simp only [facts, apart, cellsAt, Nat.zero_add, Nat.reduceAdd, and_true] at C4))
  go_wp2
  have HBf := S10.out.bl
  go_ret
  exact ⟨rfl, (by repeat (first | exact Below.refl _ _ | assumption | refine bl_alloc ?_ _ | refine bl_drewN ?_ _ | refine bl_drew ?_ | refine bl_set ?_ (by first | (simp; done) | (simp; omega) | (dsimp only; omega)) _ | refine bl_then ?_ (by assumption)))⟩
theorem law_WideShifts (a n : Int) (ha : W128 a) (_hn : I64 n) (w : World) (hg : GN w) (hl : GL w) :
    Calls Tryd.prog 10 #[.agg #[.int .i64 (whi a), .int .u64 (wlo a)], .int .i64 n] w fun e w' => e = .returned (.bool true) ∧ Below w.heap.size w w' := by
  by_cases h : n < 0 ∨ 127 < n
  · exact law_WideShifts_bad a n h w hg hl
  · obtain ⟨k, rfl⟩ := Int.eq_ofNat_of_zero_le (show 0 ≤ n by omega)
    exact law_WideShifts_ok a k ha (by omega) w hg hl

namespace wideShifts
theorem reads (os : Os) {H : Type} (enc : TypeId × Value → H) : ∃ places, DataW.whole enc Tryd.prog ((World.doorLaid Tryd.prog 400 os).forCall (fun _ _ => 0) ⟨#[], #[.agg #[.int .i64 0, .int .u64 0], .int .i64 0], []⟩).memory Tryd.f10.params.toList Rows.wideShiftsSpec.vars false #[.agg #[.int .i64 0, .int .u64 0], .int .i64 0].toList 8 = some ([.agg [.lit (.int .i64 0), .lit (.int .u64 0)], .lit (.int .i64 0)], [], places) :=
  ⟨[], by kernel_rfl⟩
theorem laid_met (os : Os) : laidMet Tryd.prog Rows.wideShiftsRow.laid ((World.doorLaid Tryd.prog 400 os).forCall (fun _ _ => 0) ⟨#[], #[.agg #[.int .i64 0, .int .u64 0], .int .i64 0], []⟩).memory :=
  laidMet_of_run' 8 (by kernel_rfl) (by kernel_rfl)
set_option maxRecDepth 100000 in
theorem lifted (os : Os) (started : os.Started) (H : Type) (enc : TypeId × Value → H) (F : Stop.Interp) :
    ReturnsInHanded {} Tryd.checked os 10 .any ((OpenSpec.ofChange Rows.wideShiftsSpec).preRow enc Tryd.prog Tryd.f10 Rows.wideShiftsRow.domain false Rows.wideShiftsRow.laid) (((OpenSpec.ofChange Rows.wideShiftsSpec).at F).post enc Tryd.prog Tryd.f10 false true false false) := by
  obtain ⟨places, hx⟩ := reads os enc
  refine returnsInHanded_of_row (C := Tryd.checked) (s := OpenSpec.ofChange Rows.wideShiftsSpec) own started (by kernel_rfl) Tryd.func10
    (witness_row_at (enc := enc) (C := Tryd.checked) false (World.doorLaid Tryd.prog 400 os) #[.agg #[.int .i64 0, .int .u64 0], .int .i64 0] rfl (by kernel_rfl) (by kernel_rfl) (by kernel_rfl)
      (OpenSpec.preRow_of_cond 8 hx (by kernel_rfl) (fun k hk => by cases hk) (by kernel_rfl) (laid_met os))) ?_
  intro W base args ds gs before hval hW _ _ _ hL _ _
  have hW' := hW
  obtain ⟨p, q, hA0, hV, rfl, hfz, hnd⟩ := hW
  have hA : DataW.TrodAll enc Tryd.prog W 0 (fun _ => true) true Tryd.f10.params.toList args.toList ds p := hA0
  rw [Tryd.params10] at hA hval
  obtain ⟨v0, v1, d0, d1, p0, p1, rfl, rfl, rfl, h0, h1⟩ := trodAll_two hA
  obtain ⟨a, ha, rfl⟩ := open_wide (hval 0 _ v0 rfl rfl) h0
  obtain ⟨n, hn, rfl⟩ := open_int' (hval 1 _ v1 rfl rfl) h1
  obtain ⟨rfl, rfl⟩ := trodVars_none hV
  have hg := laid_GN (L := Rows.wideShiftsRow.laid) hL (List.Mem.head _)
  have hl := laid_GL (L := Rows.wideShiftsRow.laid) hL (List.Mem.tail _ (List.Mem.head _))
  refine (law_WideShifts a n ha hn W hg hl).mono ?_
  rintro e W' ⟨rfl, hbel⟩
  exact ⟨_, rfl, law_post hW' rfl rfl rfl rfl (by kernel_rfl) Tryd.underlying4 law_laidOut (by kernel_rfl) hbel⟩
theorem said : Rows.WideShiftsSaid :=
  OpenClaim.holds_of_cond 10 Tryd.f10 rfl rfl rfl rfl rfl rfl rfl ⟨rfl, rfl, rfl, rfl, rfl⟩ rfl rfl rfl rfl rfl (by kernel_rfl) Tryd.func10 (by kernel_rfl)
    (of_decide_eq_true (by kernel_rfl)) (by unfold Func.isWrapper; first | (rw [if_pos (by decide +kernel)]; kernel_rfl) | (rw [if_neg (by decide +kernel)]; exact ⟨rfl, rfl⟩))
    (fun os started H enc _ F => by rw [OpenClaim.pre_eq_preRow]; exact lifted os started H enc F)
theorem plain (f : FuncId) (fn : Func) (hf : Tryd.pinned.checked.prog.funcNamed "aneroid/aneroidlaw01.WideShifts" = some f) (hfn : Tryd.pinned.checked.prog.funcs[f]? = some fn) :
    false = Tryd.pinned.checked.prog.looks [] ∧ ∀ (j : Nat) t, fn.params[j]? = some t → Tryd.pinned.checked.prog.wantsStandIn t = false := by
  obtain rfl : f = 10 := Option.some.inj ((show Tryd.prog.funcNamed "aneroid/aneroidlaw01.WideShifts" = some 10 by kernel_rfl).symm.trans hf) |>.symm
  obtain rfl : fn = Tryd.f10 := (Option.some.inj (Tryd.func10.symm.trans hfn)).symm
  refine ⟨by kernel_rfl, fun j t ht => ?_⟩
  have hall : (Tryd.f10.params.all fun t => !Tryd.prog.wantsStandIn t) = true := by kernel_rfl
  exact Bool.not_eq_true' _ ▸ (Array.all_eq_true_iff_forall_mem.1 hall) t (Array.mem_of_getElem? ht)
/-- The card. -/
theorem card : Rows.WideShiftsCardSaid :=
  Claim7.holds_tied_plain_at .later [] _ _ _ _ said (fun _ h => by cases h) (by kernel_rfl) (fun _ h => by cases h) wideShifts_row_tie rfl ⟨rfl, rfl⟩ (by kernel_rfl) rfl plain (by kernel_rfl)
end wideShifts
end Go.Proofs.YtgodfbhjfhdihaaDoor
