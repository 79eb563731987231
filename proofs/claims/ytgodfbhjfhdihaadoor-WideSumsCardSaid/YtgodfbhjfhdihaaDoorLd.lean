/- WideSums is proved: for any two wide numbers the sum, the difference and how they stand are the reference's; its condition: the package's variables none and least hold what their initialisers lay. -/
import Derived.Test.YtgodfbhjfhdihaaDoorLb
import Derived.Test.YtgodfbhjfhdihaaDoorLr
import Derived.Test.YtgodfbhjfhdihaaDoorSv
namespace Go.Proofs.YtgodfbhjfhdihaaDoor
open Go.RowKit Go.WideShapes Go.ChangeShapes
set_option linter.unusedSimpArgs false
set_option linter.unusedVariables false
attribute [local go_sem] nlt2 nlt3 nlt4 nlt5 nlt6 nlt7 nlt8 nlt9 nlt10 nlt11 nlt12
attribute [local go_sem] field_D

theorem cmp_same (a b : Int) : cmpI a b = cmpZ a b := rfl
set_option maxRecDepth 100000 in
set_option maxHeartbeats 8000000 in
theorem law_WideSums (a b : Int) (ha : W128 a) (hb : W128 b) (w : World) (hg : GN w) (hl : GL w) :
    Calls Tryd.prog 9 #[.agg #[.int .i64 (whi a), .int .u64 (wlo a)], .agg #[.int .i64 (whi b), .int .u64 (wlo b)]] w fun e w' => e = .returned (.bool true) ∧ Below w.heap.size w w' := by
  have HG := Asd.mk hg
  have HL := Asd.mk hl
  have S0 := Asd.mk (St.refl w)
  have n1 : Asd (nd a ≤ 10000) := ⟨by have := nd_W128 ha; omega⟩
  have n2 : Asd (nd b ≤ 10000) := ⟨by have := nd_W128 hb; omega⟩
  have n3 : Asd (nd (a + b) ≤ 5000) := ⟨by have h1 := nd_W128 ha; have h2 := nd_W128 hb; have := nd_add a b; omega⟩
  have n4 : Asd (nd (a - b) ≤ 5000) := ⟨by have h1 := nd_W128 ha; have h2 := nd_W128 hb; have h3 := nd_add a (-b); rw [nd_neg] at h3; rw [show a - b = a + -b from by omega]; omega⟩
  clear hg hl
  go_enter Tryd.func9, Tryd.ntmps9
  go_wp2
  go_cut [5, 6] (fun s5 s6 wx => ∃ (t u : Nat) (Ax : Option Addr) (cx : Nat) (Ay : Option Addr) (cy : Nat), s5 = .pointer (some ⟨t, 0, none⟩) ∧ s6 = .pointer (some ⟨u, 0, none⟩) ∧ Asd (St w wx [(t, [.bool (sg a), .slice Ax (nd a) cx]), (u, [.bool (sg b), .slice Ay (nd b) cy]), (w.heap.size + 1, [.int .i64 (whi b), .int .u64 (wlo b)]), (w.heap.size, [.int .i64 (whi a), .int .u64 (wlo a)])] [(Ax, cx, a), (Ay, cy, b)]))
  case first =>
    go_region_held3 (fun w' => w'.cell? ⟨w.heap.size, 0, none⟩ = some (.int .i64 (whi a)) ∧ w'.cell? ⟨w.heap.size, 1, none⟩ = some (.int .u64 (wlo a)) ∧ w'.cell? ⟨w.heap.size + 1, 0, none⟩ = some (.int .i64 (whi b)) ∧ w'.cell? ⟨w.heap.size + 1, 1, none⟩ = some (.int .u64 (wlo b)))
    (first | (simp [go_sem, *]; done) | (simp (maxDischargeDepth := 9) [go_sem, *]; done))
    (first
      | (go_at_call 40; replace S1 := S1; refine (ref_From b hb _).mono ?_; rintro e w2 ⟨A2, c2, rfl, hr2, hb2⟩; apply St.stepB (w0 := w) (hb := hb2) (hr := hr2); (focus (with_reducible repeat (first | exact S1.out | apply St.lay | apply St.drew | apply St.drewN))); intro S2; (try simp only [sz_alloc, sz_drew, sz_drewN] at S2); clear hr2 hb2 S1; (try clear C1); have C2 := S2.out.facts; simp only [facts, apart, cellsAt, Nat.zero_add, Nat.reduceAdd, and_true] at C2)
      | (go_at_call 40; replace S0 := S0; refine (ref_From a ha _).mono ?_; rintro e w1 ⟨A1, c1, rfl, hr1, hb1⟩; apply St.stepB (w0 := w) (hb := hb1) (hr := hr1); (focus (with_reducible repeat (first | exact S0.out | apply St.lay | apply St.drew | apply St.drewN))); intro S1; (try simp only [sz_alloc, sz_drew, sz_drewN] at S1); clear hr1 hb1 S0; (try clear C0); have C1 := S1.out.facts; simp only [facts, apart, cellsAt, Nat.zero_add, Nat.reduceAdd, and_true] at C1))
    all_goals (
      go_wp2_with fail
      go_meet
      case rel => exact ⟨_, _, A1, c1, A2, c2, rfl, rfl, ⟨(by refine St.gsub (gs := [(A2, c2, b), (A1, c1, a)]) ?_ (by simp); first | ((repeat (first | exact S2.out | refine St.layAt (by simp; done) ?_ | refine St.two0 (v0 := .bool false) (v1 := .slice none 0 0) ?_ rfl rfl | refine St.two1 (v0 := .bool false) (v1 := .slice none 0 0) ?_ rfl rfl)); done) | (refine St.swap ?_; (repeat (first | exact S2.out | refine St.layAt (by simp; done) ?_ | refine St.two0 (v0 := .bool false) (v1 := .slice none 0 0) ?_ rfl rfl | refine St.two1 (v0 := .bool false) (v1 := .slice none 0 0) ?_ rfl rfl)); done))⟩⟩)
  case rest =>
    obtain ⟨t, u, Ax, cx, Ay, cy, rfl, rfl, S3⟩ := hcut
    have C3 := S3.out.facts
    simp only [facts, apart, cellsAt, Nat.zero_add, Nat.reduceAdd, and_true] at C3
    go_wp2_with (first
      | (go_at_call 22; replace S4 := S4; refine (wide_Sub a b ha hb _ (by exact HG.out.below (by with_reducible repeat (first | exact S4.out.bl | refine bl_alloc ?_ _ | refine bl_drewN ?_ _ | refine bl_drew ?_)))).mono ?_; rintro e w5 ⟨rfl, hb5⟩; apply St.step (w0 := w) (hb := hb5); (focus (with_reducible repeat (first | exact S4.out | apply St.lay | apply St.drew | apply St.drewN))); intro S5; (try simp only [sz_alloc, sz_drew, sz_drewN] at S5); clear hb5 S4; (try clear C4); have C5 := S5.out.facts; simp only [facts, apart, cellsAt, Nat.zero_add, Nat.reduceAdd, and_true] at C5)
      | (go_at_call 45; replace S3 := S3; refine (wide_Add a b ha hb _ (by exact HG.out.below (by with_reducible repeat (first | exact S3.out.bl | refine bl_alloc ?_ _ | refine bl_drewN ?_ _ | refine bl_drew ?_)))).mono ?_; rintro e w4 ⟨rfl, hb4⟩; apply St.step (w0 := w) (hb := hb4); (focus (with_reducible repeat (first | exact S3.out | apply St.lay | apply St.drew | apply St.drewN))); intro S4; (try simp only [sz_alloc, sz_drew, sz_drewN] at S4); clear hb4 S3; (try clear C3); have C4 := S4.out.facts; simp only [facts, apart, cellsAt, Nat.zero_add, Nat.reduceAdd, and_true] at C4))
    go_region_held3 (fun w' => w'.cell? ⟨w.heap.size, 0, none⟩ = some (.int .i64 (whi a)) ∧ w'.cell? ⟨w.heap.size, 1, none⟩ = some (.int .u64 (wlo a)) ∧ w'.cell? ⟨w.heap.size + 1, 0, none⟩ = some (.int .i64 (whi b)) ∧ w'.cell? ⟨w.heap.size + 1, 1, none⟩ = some (.int .u64 (wlo b)) ∧ w'.cell? ⟨w4.heap.size, 0, none⟩ = some (.int .i64 (whi (fitW (a + b)))) ∧ w'.cell? ⟨w4.heap.size, 1, none⟩ = some (.int .u64 (wlo (fitW (a + b)))) ∧ w'.cell? ⟨w5.heap.size, 0, none⟩ = some (.int .i64 (whi (fitW (a - b)))) ∧ w'.cell? ⟨w5.heap.size, 1, none⟩ = some (.int .u64 (wlo (fitW (a - b)))) ∧ w'.cell? ⟨t, 0, none⟩ = some (.bool (sg a)) ∧ w'.cell? ⟨t, 1, none⟩ = some (.slice Ax (nd a) cx) ∧ w'.cell? ⟨u, 0, none⟩ = some (.bool (sg b)) ∧ w'.cell? ⟨u, 1, none⟩ = some (.slice Ay (nd b) cy))
    (first | (simp [go_sem, *]; done) | (simp (maxDischargeDepth := 9) [go_sem, *]; done))
    (first
      | (go_at_call 49; replace S11 := S11; refine (ref_Cmp a b Ax Ay cx cy n1.out n2.out _ (by exact RB.below (S11.out.rb 2 rfl) (by with_reducible repeat (first | exact Below.refl _ _ | refine bl_alloc ?_ _ | refine bl_drewN ?_ _ | refine bl_drew ?_))) (by exact RB.below (S11.out.rb 3 rfl) (by with_reducible repeat (first | exact Below.refl _ _ | refine bl_alloc ?_ _ | refine bl_drewN ?_ _ | refine bl_drew ?_)))).mono ?_; rintro e w12 ⟨rfl, hb12⟩; rw [← cmp_same]; apply St.step (w0 := w) (hb := hb12); (focus (with_reducible repeat (first | exact S11.out | apply St.lay | apply St.drew | apply St.drewN))); intro S12; (try simp only [sz_alloc, sz_drew, sz_drewN] at S12); clear hb12 S11; (try clear C11); have C12 := S12.out.facts; simp only [facts, apart, cellsAt, Nat.zero_add, Nat.reduceAdd, and_true] at C12)
      | (go_at_call 48; replace S10 := S10; refine (wide_Cmp a b _).mono ?_; rintro e w11 ⟨rfl, hb11⟩; apply St.step (w0 := w) (hb := hb11); (focus (with_reducible repeat (first | exact S10.out | apply St.lay | apply St.drew | apply St.drewN))); intro S11; (try simp only [sz_alloc, sz_drew, sz_drewN] at S11); clear hb11 S10; (try clear C10); have C11 := S11.out.facts; simp only [facts, apart, cellsAt, Nat.zero_add, Nat.reduceAdd, and_true] at C11)
      | (go_at_call 42; replace S9 := S9; refine (law_same (a - b) _ _ rfl rfl A9 c9 n4.out _ (by exact RB.below (S9.out.rb 0 rfl) (by with_reducible repeat (first | exact Below.refl _ _ | refine bl_alloc ?_ _ | refine bl_drewN ?_ _ | refine bl_drew ?_)))).mono ?_; rintro e w10 ⟨rfl, hb10⟩; apply St.step (w0 := w) (hb := hb10); (focus (with_reducible repeat (first | exact S9.out | apply St.lay | apply St.drew | apply St.drewN))); intro S10; (try simp only [sz_alloc, sz_drew, sz_drewN] at S10); clear hb10 S9; (try clear C9); have C10 := S10.out.facts; simp only [facts, apart, cellsAt, Nat.zero_add, Nat.reduceAdd, and_true] at C10)
      | (go_at_call 47; replace S8 := S8; refine (ref_Sub a b Ax Ay cx cy n1.out n2.out _ (by exact RB.below (S8.out.rb 1 rfl) (by with_reducible repeat (first | exact Below.refl _ _ | refine bl_alloc ?_ _ | refine bl_drewN ?_ _ | refine bl_drew ?_))) (by exact RB.below (S8.out.rb 2 rfl) (by with_reducible repeat (first | exact Below.refl _ _ | refine bl_alloc ?_ _ | refine bl_drewN ?_ _ | refine bl_drew ?_)))).mono ?_; rintro e w9 ⟨A9, c9, rfl, hr9, hb9⟩; apply St.stepB (w0 := w) (hb := hb9) (hr := hr9); (focus (with_reducible repeat (first | exact S8.out | apply St.lay | apply St.drew | apply St.drewN))); intro S9; (try simp only [sz_alloc, sz_drew, sz_drewN] at S9); clear hr9 hb9 S8; (try clear C8); have C9 := S9.out.facts; simp only [facts, apart, cellsAt, Nat.zero_add, Nat.reduceAdd, and_true] at C9)
      | (go_at_call 42; replace S7 := S7; refine (law_same (a + b) _ _ rfl rfl A7 c7 n3.out _ (by exact RB.below (S7.out.rb 0 rfl) (by with_reducible repeat (first | exact Below.refl _ _ | refine bl_alloc ?_ _ | refine bl_drewN ?_ _ | refine bl_drew ?_)))).mono ?_; rintro e w8 ⟨rfl, hb8⟩; apply St.step (w0 := w) (hb := hb8); (focus (with_reducible repeat (first | exact S7.out | apply St.lay | apply St.drew | apply St.drewN))); intro S8; (try simp only [sz_alloc, sz_drew, sz_drewN] at S8); clear hb8 S7; (try clear C7); have C8 := S8.out.facts; simp only [facts, apart, cellsAt, Nat.zero_add, Nat.reduceAdd, and_true] at C8)
      | (go_at_call 46; replace S6 := S6; refine (ref_Add a b Ax Ay cx cy n1.out n2.out _ (by exact RB.below (S6.out.rb 0 rfl) (by with_reducible repeat (first | exact Below.refl _ _ | refine bl_alloc ?_ _ | refine bl_drewN ?_ _ | refine bl_drew ?_))) (by exact RB.below (S6.out.rb 1 rfl) (by with_reducible repeat (first | exact Below.refl _ _ | refine bl_alloc ?_ _ | refine bl_drewN ?_ _ | refine bl_drew ?_)))).mono ?_; rintro e w7 ⟨A7, c7, rfl, hr7, hb7⟩; apply St.stepB (w0 := w) (hb := hb7) (hr := hr7); (focus (with_reducible repeat (first | exact S6.out | apply St.lay | apply St.drew | apply St.drewN))); intro S7; (try simp only [sz_alloc, sz_drew, sz_drewN] at S7); clear hr7 hb7 S6; (try clear C6); have C7 := S7.out.facts; simp only [facts, apart, cellsAt, Nat.zero_add, Nat.reduceAdd, and_true] at C7)
      | (go_at_call 39; replace S5 := S5; refine (law01_fixed _ (by exact HG.out.below (by with_reducible repeat (first | exact S5.out.bl | refine bl_alloc ?_ _ | refine bl_drewN ?_ _ | refine bl_drew ?_))) (by exact HL.out.below (by with_reducible repeat (first | exact S5.out.bl | refine bl_alloc ?_ _ | refine bl_drewN ?_ _ | refine bl_drew ?_)))).mono ?_; rintro e w6 ⟨rfl, hb6⟩; apply St.step (w0 := w) (hb := hb6); (focus (with_reducible repeat (first | exact S5.out | apply St.lay | apply St.drew | apply St.drewN))); intro S6; (try simp only [sz_alloc, sz_drew, sz_drewN] at S6); clear hb6 S5; (try clear C5); have C6 := S6.out.facts; simp only [facts, apart, cellsAt, Nat.zero_add, Nat.reduceAdd, and_true] at C6))
    go_wp2
    have HBf := S12.out.bl
    go_ret
    exact ⟨rfl, (by repeat (first | exact Below.refl _ _ | assumption | refine bl_alloc ?_ _ | refine bl_drewN ?_ _ | refine bl_drew ?_ | refine bl_set ?_ (by first | (simp; done) | (simp; omega) | (dsimp only; omega)) _ | refine bl_then ?_ (by assumption)))⟩

namespace wideSums
theorem reads (os : Os) {H : Type} (enc : TypeId × Value → H) : ∃ places, DataW.whole enc Tryd.prog ((World.doorLaid Tryd.prog 400 os).forCall (fun _ _ => 0) ⟨#[], #[.agg #[.int .i64 0, .int .u64 0], .agg #[.int .i64 0, .int .u64 0]], []⟩).memory Tryd.f9.params.toList Rows.wideSumsSpec.vars false #[.agg #[.int .i64 0, .int .u64 0], .agg #[.int .i64 0, .int .u64 0]].toList 8 = some ([.agg [.lit (.int .i64 0), .lit (.int .u64 0)], .agg [.lit (.int .i64 0), .lit (.int .u64 0)]], [], places) :=
  ⟨[], by kernel_rfl⟩
theorem laid_met (os : Os) : laidMet Tryd.prog Rows.wideSumsRow.laid ((World.doorLaid Tryd.prog 400 os).forCall (fun _ _ => 0) ⟨#[], #[.agg #[.int .i64 0, .int .u64 0], .agg #[.int .i64 0, .int .u64 0]], []⟩).memory :=
  laidMet_of_run' 8 (by kernel_rfl) (by kernel_rfl)
set_option maxRecDepth 100000 in
theorem lifted (os : Os) (started : os.Started) (H : Type) (enc : TypeId × Value → H) (F : Stop.Interp) :
    ReturnsInHanded {} Tryd.checked os 9 .any ((OpenSpec.ofChange Rows.wideSumsSpec).preRow enc Tryd.prog Tryd.f9 Rows.wideSumsRow.domain false Rows.wideSumsRow.laid) (((OpenSpec.ofChange Rows.wideSumsSpec).at F).post enc Tryd.prog Tryd.f9 false true false false) := by
  obtain ⟨places, hx⟩ := reads os enc
  refine returnsInHanded_of_row (C := Tryd.checked) (s := OpenSpec.ofChange Rows.wideSumsSpec) own started (by kernel_rfl) Tryd.func9
    (witness_row_at (enc := enc) (C := Tryd.checked) false (World.doorLaid Tryd.prog 400 os) #[.agg #[.int .i64 0, .int .u64 0], .agg #[.int .i64 0, .int .u64 0]] rfl (by kernel_rfl) (by kernel_rfl) (by kernel_rfl)
      (OpenSpec.preRow_of_cond 8 hx (by kernel_rfl) (fun k hk => by cases hk) (by kernel_rfl) (laid_met os))) ?_
  intro W base args ds gs before hval hW _ _ _ hL _ _
  have hW' := hW
  obtain ⟨p, q, hA0, hV, rfl, hfz, hnd⟩ := hW
  have hA : DataW.TrodAll enc Tryd.prog W 0 (fun _ => true) true Tryd.f9.params.toList args.toList ds p := hA0
  rw [Tryd.params9] at hA hval
  obtain ⟨v0, v1, d0, d1, p0, p1, rfl, rfl, rfl, h0, h1⟩ := trodAll_two hA
  obtain ⟨a, ha, rfl⟩ := open_wide (hval 0 _ v0 rfl rfl) h0
  obtain ⟨b, hb, rfl⟩ := open_wide (hval 1 _ v1 rfl rfl) h1
  obtain ⟨rfl, rfl⟩ := trodVars_none hV
  have hg := laid_GN (L := Rows.wideSumsRow.laid) hL (List.Mem.head _)
  have hl := laid_GL (L := Rows.wideSumsRow.laid) hL (List.Mem.tail _ (List.Mem.head _))
  refine (law_WideSums a b ha hb W hg hl).mono ?_
  rintro e W' ⟨rfl, hbel⟩
  exact ⟨_, rfl, law_post hW' rfl rfl rfl rfl (by kernel_rfl) Tryd.underlying4 law_laidOut (by kernel_rfl) hbel⟩
theorem said : Rows.WideSumsSaid :=
  OpenClaim.holds_of_cond 9 Tryd.f9 rfl rfl rfl rfl rfl rfl rfl ⟨rfl, rfl, rfl, rfl, rfl⟩ rfl rfl rfl rfl rfl (by kernel_rfl) Tryd.func9 (by kernel_rfl)
    (of_decide_eq_true (by kernel_rfl)) (by unfold Func.isWrapper; first | (rw [if_pos (by decide +kernel)]; kernel_rfl) | (rw [if_neg (by decide +kernel)]; exact ⟨rfl, rfl⟩))
    (fun os started H enc _ F => by rw [OpenClaim.pre_eq_preRow]; exact lifted os started H enc F)
theorem plain (f : FuncId) (fn : Func) (hf : Tryd.pinned.checked.prog.funcNamed "aneroid/aneroidlaw01.WideSums" = some f) (hfn : Tryd.pinned.checked.prog.funcs[f]? = some fn) :
    false = Tryd.pinned.checked.prog.looks [] ∧ ∀ (j : Nat) t, fn.params[j]? = some t → Tryd.pinned.checked.prog.wantsStandIn t = false := by
  obtain rfl : f = 9 := Option.some.inj ((show Tryd.prog.funcNamed "aneroid/aneroidlaw01.WideSums" = some 9 by kernel_rfl).symm.trans hf) |>.symm
  obtain rfl : fn = Tryd.f9 := (Option.some.inj (Tryd.func9.symm.trans hfn)).symm
  refine ⟨by kernel_rfl, fun j t ht => ?_⟩
  have hall : (Tryd.f9.params.all fun t => !Tryd.prog.wantsStandIn t) = true := by kernel_rfl
  exact Bool.not_eq_true' _ ▸ (Array.all_eq_true_iff_forall_mem.1 hall) t (Array.mem_of_getElem? ht)
/-- The card. -/
theorem card : Rows.WideSumsCardSaid :=
  Claim7.holds_tied_plain_at .later [] _ _ _ _ said (fun _ h => by cases h) (by kernel_rfl) (fun _ h => by cases h) wideSums_row_tie rfl ⟨rfl, rfl⟩ (by kernel_rfl) rfl plain (by kernel_rfl)
end wideSums
end Go.Proofs.YtgodfbhjfhdihaaDoor
