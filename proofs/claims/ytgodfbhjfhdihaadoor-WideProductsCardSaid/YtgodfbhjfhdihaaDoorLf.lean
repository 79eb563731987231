/- WideProducts is proved: any two numbers' product, any number made wide, and any wide number made a number of 64 bits, are the reference's; its condition: the package's variables none and least hold what their initialisers lay. -/
import Derived.Test.YtgodfbhjfhdihaaDoorLb
import Derived.Test.YtgodfbhjfhdihaaDoorLr
namespace Go.Proofs.YtgodfbhjfhdihaaDoor
open Go.RowKit Go.WideShapes Go.ChangeShapes
set_option linter.unusedSimpArgs false
set_option linter.unusedVariables false
attribute [local go_sem] nlt2 nlt3 nlt4 nlt5 nlt6 nlt7 nlt8 nlt9 nlt10 nlt11 nlt12
attribute [local go_sem] field_D

theorem wide_Int_fits (x : Int) (hx : I64 x) (w : World) :
    Calls Tryd.prog 54 #[.agg #[.int .i64 (whi x), .int .u64 (wlo x)]] w fun e w' => e = .returned (.tuple #[.int .i64 x, .int .i64 0]) ∧ Below w.heap.size w w' := by
  have h := wide_Int x w
  rw [show fitI x = x by simp [fitI, hx], show errI x = 0 by simp [errI, hx]] at h; exact h

set_option maxRecDepth 100000 in
set_option maxHeartbeats 8000000 in
theorem law_WideProducts (x y a : Int) (hx : I64 x) (hy : I64 y) (ha : W128 a) (w : World) (hg : GN w) (hl : GL w) :
    Calls Tryd.prog 11 #[.int .i64 x, .int .i64 y, .agg #[.int .i64 (whi a), .int .u64 (wlo a)]] w fun e w' => e = .returned (.bool true) ∧ Below w.heap.size w w' := by
  have HG := Asd.mk hg
  have HL := Asd.mk hl
  have S0 := Asd.mk (St.refl w)
  have n0 : Asd (nd a ≤ 5000) := ⟨by have := nd_W128 ha; omega⟩
  have n1 : Asd (nd x ≤ 10000) := ⟨by have := nd_i64 hx; omega⟩
  have n2 : Asd (nd y ≤ 10000) := ⟨by have := nd_i64 hy; omega⟩
  have n3 : Asd (nd (x * y) ≤ 5000) := ⟨by have h1 := nd_i64 hx; have h2 := nd_i64 hy; have := nd_mul x y; omega⟩
  have n4 : Asd (nd x ≤ 5000) := ⟨by have := nd_i64 hx; omega⟩
  have F := Asd.mk (fitW_of (prod_W128 hx hy))
  have E := Asd.mk (fitW_of (i64_W128 hx))
  clear hg hl
  go_enter Tryd.func11, Tryd.ntmps11
  go_wp2_with (first
      | (go_at_call 42; replace S13 := S13; refine (law_same x _ _ E.out.1 E.out.2 A13 c13 n4.out _ (by exact RB.below (S13.out.rb 0 rfl) (by with_reducible repeat (first | exact Below.refl _ _ | refine bl_alloc ?_ _ | refine bl_drewN ?_ _ | refine bl_drew ?_)))).mono ?_; rintro e w14 ⟨rfl, hb14⟩; apply St.step (w0 := w) (hb := hb14); (focus (with_reducible repeat (first | exact S13.out | apply St.lay | apply St.drew | apply St.drewN))); intro S14; (try simp only [sz_alloc, sz_drew, sz_drewN] at S14); clear hb14 S13; (try clear C13); have C14 := S14.out.facts; simp only [facts, apart, cellsAt, Nat.zero_add, Nat.reduceAdd, and_true] at C14)
      | (go_at_call 41; replace S12 := S12; refine (ref_Of x hx _).mono ?_; rintro e w13 ⟨A13, c13, rfl, hr13, hb13⟩; apply St.stepB (w0 := w) (hb := hb13) (hr := hr13); (focus (with_reducible repeat (first | exact S12.out | apply St.lay | apply St.drew | apply St.drewN))); intro S13; (try simp only [sz_alloc, sz_drew, sz_drewN] at S13); clear hr13 hb13 S12; (try clear C12); have C13 := S13.out.facts; simp only [facts, apart, cellsAt, Nat.zero_add, Nat.reduceAdd, and_true] at C13)
      | (go_at_call 23; replace S11 := S11; refine (wide_Of x hx _).mono ?_; rintro e w12 ⟨rfl, hb12⟩; apply St.step (w0 := w) (hb := hb12); (focus (with_reducible repeat (first | exact S11.out | apply St.lay | apply St.drew | apply St.drewN))); intro S12; (try simp only [sz_alloc, sz_drew, sz_drewN] at S12); clear hb12 S11; (try clear C11); have C12 := S12.out.facts; simp only [facts, apart, cellsAt, Nat.zero_add, Nat.reduceAdd, and_true] at C12)
      | (go_at_call 42; replace S10 := S10; refine (law_same (x * y) _ _ F.out.1 F.out.2 A10 c10 n3.out _ (by exact RB.below (S10.out.rb 0 rfl) (by with_reducible repeat (first | exact Below.refl _ _ | refine bl_alloc ?_ _ | refine bl_drewN ?_ _ | refine bl_drew ?_)))).mono ?_; rintro e w11 ⟨rfl, hb11⟩; apply St.step (w0 := w) (hb := hb11); (focus (with_reducible repeat (first | exact S10.out | apply St.lay | apply St.drew | apply St.drewN))); intro S11; (try simp only [sz_alloc, sz_drew, sz_drewN] at S11); clear hb11 S10; (try clear C10); have C11 := S11.out.facts; simp only [facts, apart, cellsAt, Nat.zero_add, Nat.reduceAdd, and_true] at C11)
      | (go_at_call 52; replace S9 := S9; refine (ref_Mul x y A8 A9 c8 c9 n1.out n2.out _ (by exact RB.below (S9.out.rb 1 rfl) (by with_reducible repeat (first | exact Below.refl _ _ | refine bl_alloc ?_ _ | refine bl_drewN ?_ _ | refine bl_drew ?_))) (by exact RB.below (S9.out.rb 0 rfl) (by with_reducible repeat (first | exact Below.refl _ _ | refine bl_alloc ?_ _ | refine bl_drewN ?_ _ | refine bl_drew ?_)))).mono ?_; rintro e w10 ⟨A10, c10, rfl, hr10, hb10⟩; apply St.stepB (w0 := w) (hb := hb10) (hr := hr10); (focus (with_reducible repeat (first | exact S9.out | apply St.lay | apply St.drew | apply St.drewN))); intro S10; (try simp only [sz_alloc, sz_drew, sz_drewN] at S10); clear hr10 hb10 S9; (try clear C9); have C10 := S10.out.facts; simp only [facts, apart, cellsAt, Nat.zero_add, Nat.reduceAdd, and_true] at C10)
      | (go_at_call 41; replace S8 := S8; refine (ref_Of y hy _).mono ?_; rintro e w9 ⟨A9, c9, rfl, hr9, hb9⟩; apply St.stepB (w0 := w) (hb := hb9) (hr := hr9); (focus (with_reducible repeat (first | exact S8.out | apply St.lay | apply St.drew | apply St.drewN))); intro S9; (try simp only [sz_alloc, sz_drew, sz_drewN] at S9); clear hr9 hb9 S8; (try clear C8); have C9 := S9.out.facts; simp only [facts, apart, cellsAt, Nat.zero_add, Nat.reduceAdd, and_true] at C9)
      | (go_at_call 41; replace S7 := S7; refine (ref_Of x hx _).mono ?_; rintro e w8 ⟨A8, c8, rfl, hr8, hb8⟩; apply St.stepB (w0 := w) (hb := hb8) (hr := hr8); (focus (with_reducible repeat (first | exact S7.out | apply St.lay | apply St.drew | apply St.drewN))); intro S8; (try simp only [sz_alloc, sz_drew, sz_drewN] at S8); clear hr8 hb8 S7; (try clear C7); have C8 := S8.out.facts; simp only [facts, apart, cellsAt, Nat.zero_add, Nat.reduceAdd, and_true] at C8)
      | (go_at_call 21; replace S6 := S6; refine (wide_Mul x y hx hy _ (by exact HG.out.below (by with_reducible repeat (first | exact S6.out.bl | refine bl_alloc ?_ _ | refine bl_drewN ?_ _ | refine bl_drew ?_)))).mono ?_; rintro e w7 ⟨rfl, hb7⟩; apply St.step (w0 := w) (hb := hb7); (focus (with_reducible repeat (first | exact S6.out | apply St.lay | apply St.drew | apply St.drewN))); intro S7; (try simp only [sz_alloc, sz_drew, sz_drewN] at S7); clear hb7 S6; (try clear C6); have C7 := S7.out.facts; simp only [facts, apart, cellsAt, Nat.zero_add, Nat.reduceAdd, and_true] at C7)
      | (go_at_call 39; replace S5 := S5; refine (law01_fixed _ (by exact HG.out.below (by with_reducible repeat (first | exact S5.out.bl | refine bl_alloc ?_ _ | refine bl_drewN ?_ _ | refine bl_drew ?_))) (by exact HL.out.below (by with_reducible repeat (first | exact S5.out.bl | refine bl_alloc ?_ _ | refine bl_drewN ?_ _ | refine bl_drew ?_)))).mono ?_; rintro e w6 ⟨rfl, hb6⟩; apply St.step (w0 := w) (hb := hb6); (focus (with_reducible repeat (first | exact S5.out | apply St.lay | apply St.drew | apply St.drewN))); intro S6; (try simp only [sz_alloc, sz_drew, sz_drewN] at S6); clear hb6 S5; (try clear C5); have C6 := S6.out.facts; simp only [facts, apart, cellsAt, Nat.zero_add, Nat.reduceAdd, and_true] at C6)
      | (go_at_call 54; replace S4 := S4; refine (wide_Int_fits x hx _).mono ?_; rintro e w5 ⟨rfl, hb5⟩; apply St.step (w0 := w) (hb := hb5); (focus (with_reducible repeat (first | exact S4.out | apply St.lay | apply St.drew | apply St.drewN))); intro S5; (try simp only [sz_alloc, sz_drew, sz_drewN] at S5); clear hb5 S4; (try clear C4); have C5 := S5.out.facts; simp only [facts, apart, cellsAt, Nat.zero_add, Nat.reduceAdd, and_true] at C5)
      | (go_at_call 23; replace S3 := S3; refine (wide_Of x hx _).mono ?_; rintro e w4 ⟨rfl, hb4⟩; apply St.step (w0 := w) (hb := hb4); (focus (with_reducible repeat (first | exact S3.out | apply St.lay | apply St.drew | apply St.drewN))); intro S4; (try simp only [sz_alloc, sz_drew, sz_drewN] at S4); clear hb4 S3; (try clear C3); have C4 := S4.out.facts; simp only [facts, apart, cellsAt, Nat.zero_add, Nat.reduceAdd, and_true] at C4)
      | (go_at_call 55; replace S2 := S2; refine (ref_Int a A2 c2 n0.out _ (by exact RB.below (S2.out.rb 0 rfl) (by with_reducible repeat (first | exact Below.refl _ _ | refine bl_alloc ?_ _ | refine bl_drewN ?_ _ | refine bl_drew ?_)))).mono ?_; rintro e w3 ⟨rfl, hb3⟩; apply St.step (w0 := w) (hb := hb3); (focus (with_reducible repeat (first | exact S2.out | apply St.lay | apply St.drew | apply St.drewN))); intro S3; (try simp only [sz_alloc, sz_drew, sz_drewN] at S3); clear hb3 S2; (try clear C2); have C3 := S3.out.facts; simp only [facts, apart, cellsAt, Nat.zero_add, Nat.reduceAdd, and_true] at C3)
      | (go_at_call 40; replace S1 := S1; refine (ref_From a ha _).mono ?_; rintro e w2 ⟨A2, c2, rfl, hr2, hb2⟩; apply St.stepB (w0 := w) (hb := hb2) (hr := hr2); (focus (with_reducible repeat (first | exact S1.out | apply St.lay | apply St.drew | apply St.drewN))); intro S2; (try simp only [sz_alloc, sz_drew, sz_drewN] at S2); clear hr2 hb2 S1; (try clear C1); have C2 := S2.out.facts; simp only [facts, apart, cellsAt, Nat.zero_add, Nat.reduceAdd, and_true] at C2)
      | (go_at_call 54; replace S0 := S0; refine (wide_Int a _).mono ?_; rintro e w1 ⟨rfl, hb1⟩; apply St.step (w0 := w) (hb := hb1); (focus (with_reducible repeat (first | exact S0.out | apply St.lay | apply St.drew | apply St.drewN))); intro S1; (try simp only [sz_alloc, sz_drew, sz_drewN] at S1); clear hb1 S0; (try clear C0); have C1 := S1.out.facts; simp only [facts, apart, cellsAt, Nat.zero_add, Nat.reduceAdd, and_true] at C1))
  have HBf := S14.out.bl
  go_ret
  exact ⟨rfl, (by repeat (first | exact Below.refl _ _ | assumption | refine bl_alloc ?_ _ | refine bl_drewN ?_ _ | refine bl_drew ?_ | refine bl_set ?_ (by first | (simp; done) | (simp; omega) | (dsimp only; omega)) _ | refine bl_then ?_ (by assumption)))⟩

namespace wideProducts
theorem reads (os : Os) {H : Type} (enc : TypeId × Value → H) : ∃ places, DataW.whole enc Tryd.prog ((World.doorLaid Tryd.prog 400 os).forCall (fun _ _ => 0) ⟨#[], #[.int .i64 0, .int .i64 0, .agg #[.int .i64 0, .int .u64 0]], []⟩).memory Tryd.f11.params.toList Rows.wideProductsSpec.vars false #[.int .i64 0, .int .i64 0, .agg #[.int .i64 0, .int .u64 0]].toList 8 = some ([.lit (.int .i64 0), .lit (.int .i64 0), .agg [.lit (.int .i64 0), .lit (.int .u64 0)]], [], places) :=
  ⟨[], by kernel_rfl⟩
theorem laid_met (os : Os) : laidMet Tryd.prog Rows.wideProductsRow.laid ((World.doorLaid Tryd.prog 400 os).forCall (fun _ _ => 0) ⟨#[], #[.int .i64 0, .int .i64 0, .agg #[.int .i64 0, .int .u64 0]], []⟩).memory :=
  laidMet_of_run' 8 (by kernel_rfl) (by kernel_rfl)
set_option maxRecDepth 100000 in
theorem lifted (os : Os) (started : os.Started) (H : Type) (enc : TypeId × Value → H) (F : Stop.Interp) :
    ReturnsInHanded {} Tryd.checked os 11 .any ((OpenSpec.ofChange Rows.wideProductsSpec).preRow enc Tryd.prog Tryd.f11 Rows.wideProductsRow.domain false Rows.wideProductsRow.laid) (((OpenSpec.ofChange Rows.wideProductsSpec).at F).post enc Tryd.prog Tryd.f11 false true false false) := by
  obtain ⟨places, hx⟩ := reads os enc
  refine returnsInHanded_of_row (C := Tryd.checked) (s := OpenSpec.ofChange Rows.wideProductsSpec) own started (by kernel_rfl) Tryd.func11
    (witness_row_at (enc := enc) (C := Tryd.checked) false (World.doorLaid Tryd.prog 400 os) #[.int .i64 0, .int .i64 0, .agg #[.int .i64 0, .int .u64 0]] rfl (by kernel_rfl) (by kernel_rfl) (by kernel_rfl)
      (OpenSpec.preRow_of_cond 8 hx (by kernel_rfl) (fun k hk => by cases hk) (by kernel_rfl) (laid_met os))) ?_
  intro W base args ds gs before hval hW _ _ _ hL _ _
  have hW' := hW
  obtain ⟨p, q, hA0, hV, rfl, hfz, hnd⟩ := hW
  have hA : DataW.TrodAll enc Tryd.prog W 0 (fun _ => true) true Tryd.f11.params.toList args.toList ds p := hA0
  rw [Tryd.params11] at hA hval
  obtain ⟨v0, v1, v2, d0, d1, d2, p0, p1, p2, rfl, rfl, rfl, h0, h1, h2⟩ := trodAll_three hA
  obtain ⟨x, hx, rfl⟩ := open_i64 (hval 0 _ v0 rfl rfl) h0
  obtain ⟨y, hy, rfl⟩ := open_i64 (hval 1 _ v1 rfl rfl) h1
  obtain ⟨a, ha, rfl⟩ := open_wide (hval 2 _ v2 rfl rfl) h2
  obtain ⟨rfl, rfl⟩ := trodVars_none hV
  have hg := laid_GN (L := Rows.wideProductsRow.laid) hL (List.Mem.head _)
  have hl := laid_GL (L := Rows.wideProductsRow.laid) hL (List.Mem.tail _ (List.Mem.head _))
  refine (law_WideProducts x y a hx hy ha W hg hl).mono ?_
  rintro e W' ⟨rfl, hbel⟩
  exact ⟨_, rfl, law_post hW' rfl rfl rfl rfl (by kernel_rfl) Tryd.underlying4 law_laidOut (by kernel_rfl) hbel⟩
theorem said : Rows.WideProductsSaid :=
  OpenClaim.holds_of_cond 11 Tryd.f11 rfl rfl rfl rfl rfl rfl rfl ⟨rfl, rfl, rfl, rfl, rfl⟩ rfl rfl rfl rfl rfl (by kernel_rfl) Tryd.func11 (by kernel_rfl)
    (of_decide_eq_true (by kernel_rfl)) (by unfold Func.isWrapper; first | (rw [if_pos (by decide +kernel)]; kernel_rfl) | (rw [if_neg (by decide +kernel)]; exact ⟨rfl, rfl⟩))
    (fun os started H enc _ F => by rw [OpenClaim.pre_eq_preRow]; exact lifted os started H enc F)
theorem plain (f : FuncId) (fn : Func) (hf : Tryd.pinned.checked.prog.funcNamed "aneroid/aneroidlaw01.WideProducts" = some f) (hfn : Tryd.pinned.checked.prog.funcs[f]? = some fn) :
    false = Tryd.pinned.checked.prog.looks [] ∧ ∀ (j : Nat) t, fn.params[j]? = some t → Tryd.pinned.checked.prog.wantsStandIn t = false := by
  obtain rfl : f = 11 := Option.some.inj ((show Tryd.prog.funcNamed "aneroid/aneroidlaw01.WideProducts" = some 11 by kernel_rfl).symm.trans hf) |>.symm
  obtain rfl : fn = Tryd.f11 := (Option.some.inj (Tryd.func11.symm.trans hfn)).symm
  refine ⟨by kernel_rfl, fun j t ht => ?_⟩
  have hall : (Tryd.f11.params.all fun t => !Tryd.prog.wantsStandIn t) = true := by kernel_rfl
  exact Bool.not_eq_true' _ ▸ (Array.all_eq_true_iff_forall_mem.1 hall) t (Array.mem_of_getElem? ht)
/-- The card. -/
theorem card : Rows.WideProductsCardSaid :=
  Claim7.holds_tied_plain_at .later [] _ _ _ _ said (fun _ h => by cases h) (by kernel_rfl) (fun _ h => by cases h) wideProducts_row_tie rfl ⟨rfl, rfl⟩ (by kernel_rfl) rfl plain (by kernel_rfl)
end wideProducts
end Go.Proofs.YtgodfbhjfhdihaaDoor
