/- RootSquares is proved: the root of a square is what was squared, and of one less it is one less; its condition: the package's variable none holds what its initialiser lays. -/
import Derived.Test.YtgodfbhjfhdihaaDoorQd
import Derived.Test.YtgodfbhjfhdihaaDoorLr
namespace Go.Proofs.YtgodfbhjfhdihaaDoor
open Go.RowKit Go.WideShapes Go.ChangeShapes
set_option linter.unusedSimpArgs false
set_option linter.unusedVariables false
attribute [local go_sem] nlt2 nlt3 nlt4 nlt5 nlt6 nlt7 nlt8 nlt9 nlt10 nlt11 nlt12
attribute [local go_sem] field_D
set_option maxRecDepth 100000 in
set_option maxHeartbeats 8000000 in
theorem law_RootSquares_low (x : Int) (h : x < 1) (w : World) (hg : GN w) :
    Calls Tryd.prog 5 #[.int .i64 x] w fun e w' => e = .returned (.bool true) ∧ Below w.heap.size w w' := by
  have HG := Asd.mk hg
  have S0 := Asd.mk (St.refl w)
  clear hg
  go_enter Tryd.func5, Tryd.ntmps5
  go_wp2_with (first
      | (go_at_call 16; replace S0 := S0; refine (law03_fixed _ (by exact HG.out.below (by with_reducible repeat (first | exact S0.out.bl | refine bl_alloc ?_ _ | refine bl_drewN ?_ _ | refine bl_drew ?_)))).mono ?_; rintro e w1 ⟨rfl, hb1⟩; apply St.step (w0 := w) (hb := hb1); (focus (with_reducible repeat (first | exact S0.out | apply St.lay | apply St.drew | apply St.drewN))); intro S1; (try simp only [sz_alloc, sz_drew, sz_drewN] at S1); clear hb1 S0; (try clear C0); have C1 := S1.out.facts; simp only [facts, apart, cellsAt, Nat.zero_add, Nat.reduceAdd, and_true] at C1))
  have HBf := S1.out.bl
  go_ret
  exact ⟨rfl, (by repeat (first | exact Below.refl _ _ | assumption | refine bl_alloc ?_ _ | refine bl_drewN ?_ _ | refine bl_drew ?_ | refine bl_set ?_ (by first | (simp; done) | (simp; omega) | (dsimp only; omega)) _ | refine bl_then ?_ (by assumption)))⟩
theorem wide_Sub_fits (a b : Int) (ha : W128 a) (hb : W128 b) (h : W128 (a - b)) (w : World) (hg : GN w) : Calls Tryd.prog 22 #[.agg #[.int .i64 (whi a), .int .u64 (wlo a)], .agg #[.int .i64 (whi b), .int .u64 (wlo b)]] w fun e w' => e = .returned (.tuple #[.agg #[.int .i64 (whi (a - b)), .int .u64 (wlo (a - b))], .int .i64 0]) ∧ Below w.heap.size w w' := by
  have k := wide_Sub a b ha hb w hg
  rw [(fitW_of h).1, (fitW_of h).2] at k; exact k
set_option maxRecDepth 100000 in
set_option maxHeartbeats 8000000 in
theorem law_RootSquares_high (x : Int) (hx : I64 x) (h : 1 ≤ x) (w : World) (hg : GN w) :
    Calls Tryd.prog 5 #[.int .i64 x] w fun e w' => e = .returned (.bool true) ∧ Below w.heap.size w w' := by
  have HG := Asd.mk hg
  have S0 := Asd.mk (St.refl w)
  have hp := prod0 hx hx (by omega)
  have hq : 1 ≤ x * x := by have := sq_le (x := 1) (y := x) (by omega) h; omega
  have W1 : Asd (W128 (x * x)) := ⟨by unfold W128; omega⟩
  have W2 : Asd (W128 (x * x - 1)) := ⟨by unfold W128; omega⟩
  have P1 : Asd (0 ≤ x * x ∧ 0 ≤ x * x - 1) := ⟨by omega⟩
  have WO : Asd (W128 1) := ⟨by decide⟩
  have E1 := Asd.mk (rt_sq (x := x) (by omega))
  have E2 := Asd.mk (rt_sq1 h)
  have E3 := Asd.mk (show mn x x = x by unfold mn; rw [if_neg (by omega)]; exact rt_sq (by omega))
  have hu : x ≤ 9223372036854775807 := hx.2
  clear hg hp hq
  go_enter Tryd.func5, Tryd.ntmps5
  go_wp2_with (first
      | (go_at_call 21; replace S0 := S0; refine (wide_Mul x x hx hx _ (by exact HG.out.below (by with_reducible repeat (first | exact S0.out.bl | refine bl_alloc ?_ _ | refine bl_drewN ?_ _ | refine bl_drew ?_)))).mono ?_; rintro e w1 ⟨rfl, hb1⟩; apply St.step (w0 := w) (hb := hb1); (focus (with_reducible repeat (first | exact S0.out | apply St.lay | apply St.drew | apply St.drewN))); intro S1; (try simp only [sz_alloc, sz_drew, sz_drewN] at S1); clear hb1 S0; (try clear C0); have C1 := S1.out.facts; simp only [facts, apart, cellsAt, Nat.zero_add, Nat.reduceAdd, and_true] at C1))
  go_cut [4, 5] (fun s4 s5 wx => ∃ t : Nat, s4 = .pointer (some ⟨t, 0, none⟩) ∧ s5 = .int .i64 0 ∧ Asd (St w wx [(t, [.int .i64 (whi (x * x - 1)), .int .u64 (wlo (x * x - 1))]), (w1.heap.size, [.int .i64 (whi (x * x)), .int .u64 (wlo (x * x))])] []))
  case first =>
    go_region_held3 (fun w' => w'.cell? ⟨w1.heap.size, 0, none⟩ = some (.int .i64 (whi (x * x))) ∧ w'.cell? ⟨w1.heap.size, 1, none⟩ = some (.int .u64 (wlo (x * x))))
    (first | (simp [go_sem, *]; done) | (simp (maxDischargeDepth := 9) [go_sem, *]; done))
    (first
      | (go_at_call 22; replace S2 := S2; refine (wide_Sub_fits (x * x) 1 W1.out WO.out W2.out _ (by exact HG.out.below (by with_reducible repeat (first | exact S2.out.bl | refine bl_alloc ?_ _ | refine bl_drewN ?_ _ | refine bl_drew ?_)))).mono ?_; rintro e w3 ⟨rfl, hb3⟩; apply St.step (w0 := w) (hb := hb3); (focus (with_reducible repeat (first | exact S2.out | apply St.lay | apply St.drew | apply St.drewN))); intro S3; (try simp only [sz_alloc, sz_drew, sz_drewN] at S3); clear hb3 S2; (try clear C2); have C3 := S3.out.facts; simp only [facts, apart, cellsAt, Nat.zero_add, Nat.reduceAdd, and_true] at C3)
      | (go_at_call 23; replace S1 := S1; refine (wide_Of 1 (by decide) _).mono ?_; rintro e w2 ⟨rfl, hb2⟩; apply St.step (w0 := w) (hb := hb2); (focus (with_reducible repeat (first | exact S1.out | apply St.lay | apply St.drew | apply St.drewN))); intro S2; (try simp only [sz_alloc, sz_drew, sz_drewN] at S2); clear hb2 S1; (try clear C1); have C2 := S2.out.facts; simp only [facts, apart, cellsAt, Nat.zero_add, Nat.reduceAdd, and_true] at C2))
    all_goals (
      go_wp2_with fail
      go_meet
      case rel => exact ⟨_, rfl, rfl, ⟨St.of (by have hlow := S3.out.lows; simp only [low, and_true] at hlow; exact (by repeat (first | exact Below.refl _ _ | assumption | exact S3.out.bl | refine bl_alloc ?_ _ | refine bl_drewN ?_ _ | refine bl_drew ?_ | refine bl_set ?_ (by first | (simp; done) | (simp; omega) | (dsimp only; omega)) _ | refine bl_then ?_ (by assumption)))) (by simp (maxDischargeDepth := 9) [facts, cellsAt, apart, go_sem, *]; try omega) (by have hlow := S3.out.lows; simp only [low, and_true] at hlow; have hsz := S3.out.bl.size; simp [low]; try omega) (by refine trivial)⟩⟩)
  case rest =>
    obtain ⟨t, rfl, rfl, S4⟩ := hcut
    have C4 := S4.out.facts
    simp only [facts, apart, cellsAt, Nat.zero_add, Nat.reduceAdd, and_true] at C4
    go_wp2_with (first
      | (go_at_call 19; replace S7 := S7; refine (root_Mean x x hx hx _ (by exact HG.out.below (by with_reducible repeat (first | exact S7.out.bl | refine bl_alloc ?_ _ | refine bl_drewN ?_ _ | refine bl_drew ?_)))).mono ?_; rintro e w8 ⟨rfl, hb8⟩; rw [E3.out]; apply St.step (w0 := w) (hb := hb8); (focus (with_reducible repeat (first | exact S7.out | apply St.lay | apply St.drew | apply St.drewN))); intro S8; (try simp only [sz_alloc, sz_drew, sz_drewN] at S8); clear hb8 S7; (try clear C7); have C8 := S8.out.facts; simp only [facts, apart, cellsAt, Nat.zero_add, Nat.reduceAdd, and_true] at C8)
      | (go_at_call 16; replace S6 := S6; refine (law03_fixed _ (by exact HG.out.below (by with_reducible repeat (first | exact S6.out.bl | refine bl_alloc ?_ _ | refine bl_drewN ?_ _ | refine bl_drew ?_)))).mono ?_; rintro e w7 ⟨rfl, hb7⟩; apply St.step (w0 := w) (hb := hb7); (focus (with_reducible repeat (first | exact S6.out | apply St.lay | apply St.drew | apply St.drewN))); intro S7; (try simp only [sz_alloc, sz_drew, sz_drewN] at S7); clear hb7 S6; (try clear C6); have C7 := S7.out.facts; simp only [facts, apart, cellsAt, Nat.zero_add, Nat.reduceAdd, and_true] at C7)
      | (go_at_call 15; replace S5 := S5; refine (root_Of (x * x - 1) W2.out P1.out.2 _).mono ?_; rintro e w6 ⟨rfl, hb6⟩; rw [E2.out]; apply St.step (w0 := w) (hb := hb6); (focus (with_reducible repeat (first | exact S5.out | apply St.lay | apply St.drew | apply St.drewN))); intro S6; (try simp only [sz_alloc, sz_drew, sz_drewN] at S6); clear hb6 S5; (try clear C5); have C6 := S6.out.facts; simp only [facts, apart, cellsAt, Nat.zero_add, Nat.reduceAdd, and_true] at C6)
      | (go_at_call 15; replace S4 := S4; refine (root_Of (x * x) W1.out P1.out.1 _).mono ?_; rintro e w5 ⟨rfl, hb5⟩; rw [E1.out]; apply St.step (w0 := w) (hb := hb5); (focus (with_reducible repeat (first | exact S4.out | apply St.lay | apply St.drew | apply St.drewN))); intro S5; (try simp only [sz_alloc, sz_drew, sz_drewN] at S5); clear hb5 S4; (try clear C4); have C5 := S5.out.facts; simp only [facts, apart, cellsAt, Nat.zero_add, Nat.reduceAdd, and_true] at C5))
    have HBf := S8.out.bl
    go_ret
    exact ⟨rfl, (by repeat (first | exact Below.refl _ _ | assumption | refine bl_alloc ?_ _ | refine bl_drewN ?_ _ | refine bl_drew ?_ | refine bl_set ?_ (by first | (simp; done) | (simp; omega) | (dsimp only; omega)) _ | refine bl_then ?_ (by assumption)))⟩
theorem law_RootSquares (x : Int) (hx : I64 x) (w : World) (hg : GN w) :
    Calls Tryd.prog 5 #[.int .i64 x] w fun e w' => e = .returned (.bool true) ∧ Below w.heap.size w w' := by
  by_cases h : x < 1
  · exact law_RootSquares_low x h w hg
  · exact law_RootSquares_high x hx (by omega) w hg

namespace rootSquares
theorem reads (os : Os) {H : Type} (enc : TypeId × Value → H) : ∃ places, DataW.whole enc Tryd.prog ((World.doorLaid Tryd.prog 400 os).forCall (fun _ _ => 0) ⟨#[], #[.int .i64 0], []⟩).memory Tryd.f5.params.toList Rows.rootSquaresSpec.vars false #[.int .i64 0].toList 8 = some ([.lit (.int .i64 0)], [], places) :=
  ⟨[], by kernel_rfl⟩
theorem laid_met (os : Os) : laidMet Tryd.prog Rows.rootSquaresRow.laid ((World.doorLaid Tryd.prog 400 os).forCall (fun _ _ => 0) ⟨#[], #[.int .i64 0], []⟩).memory :=
  laidMet_of_run' 8 (by kernel_rfl) (by kernel_rfl)
set_option maxRecDepth 100000 in
theorem lifted (os : Os) (started : os.Started) (H : Type) (enc : TypeId × Value → H) (F : Stop.Interp) :
    ReturnsInHanded {} Tryd.checked os 5 .any ((OpenSpec.ofChange Rows.rootSquaresSpec).preRow enc Tryd.prog Tryd.f5 Rows.rootSquaresRow.domain false Rows.rootSquaresRow.laid) (((OpenSpec.ofChange Rows.rootSquaresSpec).at F).post enc Tryd.prog Tryd.f5 false true false false) := by
  obtain ⟨places, hx⟩ := reads os enc
  refine returnsInHanded_of_row (C := Tryd.checked) (s := OpenSpec.ofChange Rows.rootSquaresSpec) own started (by kernel_rfl) Tryd.func5
    (witness_row_at (enc := enc) (C := Tryd.checked) false (World.doorLaid Tryd.prog 400 os) #[.int .i64 0] rfl (by kernel_rfl) (by kernel_rfl) (by kernel_rfl)
      (OpenSpec.preRow_of_cond 8 hx (by kernel_rfl) (fun k hk => by cases hk) (by kernel_rfl) (laid_met os))) ?_
  intro W base args ds gs before hval hW _ _ _ hL _ _
  have hW' := hW
  obtain ⟨p, q, hA0, hV, rfl, hfz, hnd⟩ := hW
  have hA : DataW.TrodAll enc Tryd.prog W 0 (fun _ => true) true Tryd.f5.params.toList args.toList ds p := hA0
  rw [Tryd.params5] at hA hval
  obtain ⟨v0, d0, rfl, rfl, h0⟩ := trodAll_one hA
  obtain ⟨x, hx, rfl⟩ := open_i64 (hval 0 _ v0 rfl rfl) h0
  obtain ⟨rfl, rfl⟩ := trodVars_none hV
  have hg := laid_GN (L := Rows.rootSquaresRow.laid) hL (List.Mem.head _)
  refine (law_RootSquares x hx W hg).mono ?_
  rintro e W' ⟨rfl, hbel⟩
  exact ⟨_, rfl, law_post hW' rfl rfl rfl rfl (by kernel_rfl) Tryd.underlying4 law_laidOut (by kernel_rfl) hbel⟩
theorem said : Rows.RootSquaresSaid :=
  OpenClaim.holds_of_cond 5 Tryd.f5 rfl rfl rfl rfl rfl rfl rfl ⟨rfl, rfl, rfl, rfl, rfl⟩ rfl rfl rfl rfl rfl (by kernel_rfl) Tryd.func5 (by kernel_rfl)
    (of_decide_eq_true (by kernel_rfl)) (by unfold Func.isWrapper; first | (rw [if_pos (by decide +kernel)]; kernel_rfl) | (rw [if_neg (by decide +kernel)]; exact ⟨rfl, rfl⟩))
    (fun os started H enc _ F => by rw [OpenClaim.pre_eq_preRow]; exact lifted os started H enc F)
theorem plain (f : FuncId) (fn : Func) (hf : Tryd.pinned.checked.prog.funcNamed "aneroid/aneroidlaw03.RootSquares" = some f) (hfn : Tryd.pinned.checked.prog.funcs[f]? = some fn) :
    false = Tryd.pinned.checked.prog.looks [] ∧ ∀ (j : Nat) t, fn.params[j]? = some t → Tryd.pinned.checked.prog.wantsStandIn t = false := by
  obtain rfl : f = 5 := Option.some.inj ((show Tryd.prog.funcNamed "aneroid/aneroidlaw03.RootSquares" = some 5 by kernel_rfl).symm.trans hf) |>.symm
  obtain rfl : fn = Tryd.f5 := (Option.some.inj (Tryd.func5.symm.trans hfn)).symm
  refine ⟨by kernel_rfl, fun j t ht => ?_⟩
  have hall : (Tryd.f5.params.all fun t => !Tryd.prog.wantsStandIn t) = true := by kernel_rfl
  exact Bool.not_eq_true' _ ▸ (Array.all_eq_true_iff_forall_mem.1 hall) t (Array.mem_of_getElem? ht)
/-- The card. -/
theorem card : Rows.RootSquaresCardSaid :=
  Claim7.holds_tied_plain_at .later [] _ _ _ _ said (fun _ h => by cases h) (by kernel_rfl) (fun _ h => by cases h) rootSquares_row_tie rfl ⟨rfl, rfl⟩ (by kernel_rfl) rfl plain (by kernel_rfl)
end rootSquares
end Go.Proofs.YtgodfbhjfhdihaaDoor
