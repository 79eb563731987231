/- RootOf is proved: the whole root of every wide number, or that it has none, is the reference's; its condition: the package's variable none holds what its initialiser lays. -/
import Derived.Test.YtgodfbhjfhdihaaDoorQd
import Derived.Test.YtgodfbhjfhdihaaDoorLr
namespace Go.Proofs.YtgodfbhjfhdihaaDoor
open Go.RowKit Go.WideShapes Go.ChangeShapes
set_option linter.unusedSimpArgs false
set_option linter.unusedVariables false
attribute [local go_sem] nlt2 nlt3 nlt4 nlt5 nlt6 nlt7 nlt8 nlt9 nlt10 nlt11 nlt12
attribute [local go_sem] field_D

theorem ref_Wide_u (z : Int) (hz : U64 z) (A : Option Addr) (c : Nat) (w : World) (hA : RB w A c z) :
    Calls Tryd.prog 17 #[.agg #[.bool (sg z), .slice A (nd z) c]] w fun e w' => e = .returned (.tuple #[.agg #[.int .i64 0, .int .u64 z], .int .i64 0]) ∧ Below w.heap.size w w' := by
  have h := ref_Wide z A c (by have := nd_u64 hz; omega) w hA
  have hW : W128 z := by unfold U64 at hz; unfold W128; omega
  rw [(fitW_of hW).1, (fitW_of hW).2, show whi z = 0 by unfold U64 at hz; unfold whi; omega, show wlo z = z by unfold U64 at hz; unfold wlo; omega] at h
  exact h
set_option maxRecDepth 100000 in
set_option maxHeartbeats 4000000 in
theorem law_RootOf_neg (a : Int) (h : a < 0) (w : World) (hg : GN w) :
    Calls Tryd.prog 3 #[.agg #[.int .i64 (whi a), .int .u64 (wlo a)]] w fun e w' => e = .returned (.bool true) ∧ Below w.heap.size w w' := by
  have HG := Asd.mk hg
  have H := Asd.mk h
  have S0 := Asd.mk (St.refl w)
  have q : whi a < 0 := (whi_neg a).2 h
  clear hg h
  go_enter Tryd.func3, Tryd.ntmps3
  go_wp2_with (first
      | (go_at_call 16; replace S1 := S1; refine (law03_fixed _ (by exact HG.out.below (by with_reducible repeat (first | exact S1.out.bl | refine bl_alloc ?_ _ | refine bl_drewN ?_ _ | refine bl_drew ?_)))).mono ?_; rintro e w2 ⟨rfl, hb2⟩; apply St.step (w0 := w) (hb := hb2); (focus (with_reducible repeat (first | exact S1.out | apply St.lay | apply St.drew | apply St.drewN))); intro S2; (try simp only [sz_alloc, sz_drew, sz_drewN] at S2); clear hb2 S1; (try clear C1); have C2 := S2.out.facts; simp only [facts, apart, cellsAt, Nat.zero_add, Nat.reduceAdd, and_true] at C2)
      | (go_at_call 15; replace S0 := S0; refine (root_Of_neg a H.out _).mono ?_; rintro e w1 ⟨rfl, hb1⟩; apply St.step (w0 := w) (hb := hb1); (focus (with_reducible repeat (first | exact S0.out | apply St.lay | apply St.drew | apply St.drewN))); intro S1; (try simp only [sz_alloc, sz_drew, sz_drewN] at S1); clear hb1 S0; (try clear C0); have C1 := S1.out.facts; simp only [facts, apart, cellsAt, Nat.zero_add, Nat.reduceAdd, and_true] at C1))
  have HBf := S2.out.bl
  go_ret
  exact ⟨rfl, (by repeat (first | exact Below.refl _ _ | assumption | refine bl_alloc ?_ _ | refine bl_drewN ?_ _ | refine bl_drew ?_ | refine bl_set ?_ (by first | (simp; done) | (simp; omega) | (dsimp only; omega)) _ | refine bl_then ?_ (by assumption)))⟩
set_option maxRecDepth 100000 in
set_option maxHeartbeats 4000000 in
theorem law_RootOf_pos (a : Int) (ha : W128 a) (h : 0 ≤ a) (w : World) (hg : GN w) :
    Calls Tryd.prog 3 #[.agg #[.int .i64 (whi a), .int .u64 (wlo a)]] w fun e w' => e = .returned (.bool true) ∧ Below w.heap.size w w' := by
  have HG := Asd.mk hg
  have H := Asd.mk h
  have S0 := Asd.mk (St.refl w)
  have q : 0 ≤ whi a := by have := whi_neg a; omega
  have HU : Asd (U64 (rt a)) := ⟨⟨rt_nonneg a, rt_bd h (by omega) (by unfold W128 at ha; omega)⟩⟩
  clear hg h
  go_enter Tryd.func3, Tryd.ntmps3
  go_wp2_with (first
      | (go_at_call 16; replace S3 := S3; refine (law03_fixed _ (by exact HG.out.below (by with_reducible repeat (first | exact S3.out.bl | refine bl_alloc ?_ _ | refine bl_drewN ?_ _ | refine bl_drew ?_)))).mono ?_; rintro e w4 ⟨rfl, hb4⟩; apply St.step (w0 := w) (hb := hb4); (focus (with_reducible repeat (first | exact S3.out | apply St.lay | apply St.drew | apply St.drewN))); intro S4; (try simp only [sz_alloc, sz_drew, sz_drewN] at S4); clear hb4 S3; (try clear C3); have C4 := S4.out.facts; simp only [facts, apart, cellsAt, Nat.zero_add, Nat.reduceAdd, and_true] at C4)
      | (go_at_call 17; replace S2 := S2; refine (ref_Wide_u (rt a) HU.out A2 c2 _ (by exact RB.below (S2.out.rb 0 rfl) (by with_reducible repeat (first | exact Below.refl _ _ | refine bl_alloc ?_ _ | refine bl_drewN ?_ _ | refine bl_drew ?_)))).mono ?_; rintro e w3 ⟨rfl, hb3⟩; apply St.step (w0 := w) (hb := hb3); (focus (with_reducible repeat (first | exact S2.out | apply St.lay | apply St.drew | apply St.drewN))); intro S3; (try simp only [sz_alloc, sz_drew, sz_drewN] at S3); clear hb3 S2; (try clear C2); have C3 := S3.out.facts; simp only [facts, apart, cellsAt, Nat.zero_add, Nat.reduceAdd, and_true] at C3)
      | (go_at_call 18; replace S1 := S1; refine (ref3_Wide a ha H.out _).mono ?_; rintro e w2 ⟨A2, c2, rfl, hr2, hb2⟩; apply St.stepB (w0 := w) (hb := hb2) (hr := hr2); (focus (with_reducible repeat (first | exact S1.out | apply St.lay | apply St.drew | apply St.drewN))); intro S2; (try simp only [sz_alloc, sz_drew, sz_drewN] at S2); clear hr2 hb2 S1; (try clear C1); have C2 := S2.out.facts; simp only [facts, apart, cellsAt, Nat.zero_add, Nat.reduceAdd, and_true] at C2)
      | (go_at_call 15; replace S0 := S0; refine (root_Of a ha H.out _).mono ?_; rintro e w1 ⟨rfl, hb1⟩; apply St.step (w0 := w) (hb := hb1); (focus (with_reducible repeat (first | exact S0.out | apply St.lay | apply St.drew | apply St.drewN))); intro S1; (try simp only [sz_alloc, sz_drew, sz_drewN] at S1); clear hb1 S0; (try clear C0); have C1 := S1.out.facts; simp only [facts, apart, cellsAt, Nat.zero_add, Nat.reduceAdd, and_true] at C1))
  have HBf := S4.out.bl
  go_ret
  exact ⟨rfl, (by repeat (first | exact Below.refl _ _ | assumption | refine bl_alloc ?_ _ | refine bl_drewN ?_ _ | refine bl_drew ?_ | refine bl_set ?_ (by first | (simp; done) | (simp; omega) | (dsimp only; omega)) _ | refine bl_then ?_ (by assumption)))⟩
theorem law_RootOf (a : Int) (ha : W128 a) (w : World) (hg : GN w) :
    Calls Tryd.prog 3 #[.agg #[.int .i64 (whi a), .int .u64 (wlo a)]] w fun e w' => e = .returned (.bool true) ∧ Below w.heap.size w w' := by
  by_cases h : a < 0
  · exact law_RootOf_neg a h w hg
  · exact law_RootOf_pos a ha (by omega) w hg

namespace rootOf
theorem reads (os : Os) {H : Type} (enc : TypeId × Value → H) : ∃ places, DataW.whole enc Tryd.prog ((World.doorLaid Tryd.prog 400 os).forCall (fun _ _ => 0) ⟨#[], #[.agg #[.int .i64 0, .int .u64 0]], []⟩).memory Tryd.f3.params.toList Rows.rootOfSpec.vars false #[.agg #[.int .i64 0, .int .u64 0]].toList 8 = some ([.agg [.lit (.int .i64 0), .lit (.int .u64 0)]], [], places) :=
  ⟨[], by kernel_rfl⟩
theorem laid_met (os : Os) : laidMet Tryd.prog Rows.rootOfRow.laid ((World.doorLaid Tryd.prog 400 os).forCall (fun _ _ => 0) ⟨#[], #[.agg #[.int .i64 0, .int .u64 0]], []⟩).memory :=
  laidMet_of_run' 8 (by kernel_rfl) (by kernel_rfl)
set_option maxRecDepth 100000 in
theorem lifted (os : Os) (started : os.Started) (H : Type) (enc : TypeId × Value → H) (F : Stop.Interp) :
    ReturnsInHanded {} Tryd.checked os 3 .any ((OpenSpec.ofChange Rows.rootOfSpec).preRow enc Tryd.prog Tryd.f3 Rows.rootOfRow.domain false Rows.rootOfRow.laid) (((OpenSpec.ofChange Rows.rootOfSpec).at F).post enc Tryd.prog Tryd.f3 false true false false) := by
  obtain ⟨places, hx⟩ := reads os enc
  refine returnsInHanded_of_row (C := Tryd.checked) (s := OpenSpec.ofChange Rows.rootOfSpec) own started (by kernel_rfl) Tryd.func3
    (witness_row_at (enc := enc) (C := Tryd.checked) false (World.doorLaid Tryd.prog 400 os) #[.agg #[.int .i64 0, .int .u64 0]] rfl (by kernel_rfl) (by kernel_rfl) (by kernel_rfl)
      (OpenSpec.preRow_of_cond 8 hx (by kernel_rfl) (fun k hk => by cases hk) (by kernel_rfl) (laid_met os))) ?_
  intro W base args ds gs before hval hW _ _ _ hL _ _
  have hW' := hW
  obtain ⟨p, q, hA0, hV, rfl, hfz, hnd⟩ := hW
  have hA : DataW.TrodAll enc Tryd.prog W 0 (fun _ => true) true Tryd.f3.params.toList args.toList ds p := hA0
  rw [Tryd.params3] at hA hval
  obtain ⟨v0, d0, rfl, rfl, h0⟩ := trodAll_one hA
  obtain ⟨a, ha, rfl⟩ := open_wide (hval 0 _ v0 rfl rfl) h0
  obtain ⟨rfl, rfl⟩ := trodVars_none hV
  have hg := laid_GN (L := Rows.rootOfRow.laid) hL (List.Mem.head _)
  refine (law_RootOf a ha W hg).mono ?_
  rintro e W' ⟨rfl, hbel⟩
  exact ⟨_, rfl, law_post hW' rfl rfl rfl rfl (by kernel_rfl) Tryd.underlying4 law_laidOut (by kernel_rfl) hbel⟩
theorem said : Rows.RootOfSaid :=
  OpenClaim.holds_of_cond 3 Tryd.f3 rfl rfl rfl rfl rfl rfl rfl ⟨rfl, rfl, rfl, rfl, rfl⟩ rfl rfl rfl rfl rfl (by kernel_rfl) Tryd.func3 (by kernel_rfl)
    (of_decide_eq_true (by kernel_rfl)) (by unfold Func.isWrapper; first | (rw [if_pos (by decide +kernel)]; kernel_rfl) | (rw [if_neg (by decide +kernel)]; exact ⟨rfl, rfl⟩))
    (fun os started H enc _ F => by rw [OpenClaim.pre_eq_preRow]; exact lifted os started H enc F)
theorem plain (f : FuncId) (fn : Func) (hf : Tryd.pinned.checked.prog.funcNamed "aneroid/aneroidlaw03.RootOf" = some f) (hfn : Tryd.pinned.checked.prog.funcs[f]? = some fn) :
    false = Tryd.pinned.checked.prog.looks [] ∧ ∀ (j : Nat) t, fn.params[j]? = some t → Tryd.pinned.checked.prog.wantsStandIn t = false := by
  obtain rfl : f = 3 := Option.some.inj ((show Tryd.prog.funcNamed "aneroid/aneroidlaw03.RootOf" = some 3 by kernel_rfl).symm.trans hf) |>.symm
  obtain rfl : fn = Tryd.f3 := (Option.some.inj (Tryd.func3.symm.trans hfn)).symm
  refine ⟨by kernel_rfl, fun j t ht => ?_⟩
  have hall : (Tryd.f3.params.all fun t => !Tryd.prog.wantsStandIn t) = true := by kernel_rfl
  exact Bool.not_eq_true' _ ▸ (Array.all_eq_true_iff_forall_mem.1 hall) t (Array.mem_of_getElem? ht)
/-- The card. -/
theorem card : Rows.RootOfCardSaid :=
  Claim7.holds_tied_plain_at .later [] _ _ _ _ said (fun _ h => by cases h) (by kernel_rfl) (fun _ h => by cases h) rootOf_row_tie rfl ⟨rfl, rfl⟩ (by kernel_rfl) rfl plain (by kernel_rfl)
end rootOf
end Go.Proofs.YtgodfbhjfhdihaaDoor
