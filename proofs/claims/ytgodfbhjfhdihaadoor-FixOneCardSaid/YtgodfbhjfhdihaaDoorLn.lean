/- FixOne is proved: times 1, and through 1, a number is as it was, a product doesn't hang on the order, and a greater number times one that isn't below 0 is no less; its condition: the package's variables none and least hold what their initialisers lay. -/
import Derived.Test.YtgodfbhjfhdihaaDoorFd
import Derived.Test.YtgodfbhjfhdihaaDoorLr
namespace Go.Proofs.YtgodfbhjfhdihaaDoor
open Go.RowKit Go.WideShapes Go.ChangeShapes
set_option linter.unusedSimpArgs false
set_option linter.unusedVariables false
attribute [local go_sem] nlt2 nlt3 nlt4 nlt5 nlt6 nlt7 nlt8 nlt9 nlt10 nlt11 nlt12
attribute [local go_sem] field_D
theorem mulZ_comm (a b : Int) : mulZ b a = mulZ a b := by unfold mulZ; rw [Int.mul_comm]
theorem both_comm (a b z : Int) : bothV b a z = bothV a b z ∧ bothE b a z = bothE a b z := by unfold bothV bothE; rw [Bool.and_comm]; exact ⟨rfl, rfl⟩
theorem evP_mono {x y p : Int} (hp : 0 < p) (h : x ≤ y) : evP x p ≤ evP y p := by
  have h1 := Int.mul_ediv_add_emod x p
  have h2 := Int.mul_ediv_add_emod y p
  have m1 := Int.emod_nonneg x (show p ≠ 0 by omega)
  have m2 := Int.emod_nonneg y (show p ≠ 0 by omega)
  have l1 := Int.emod_lt_of_pos x hp
  have l2 := Int.emod_lt_of_pos y hp
  have hd : x / p ≤ y / p := Int.ediv_le_ediv hp h
  unfold evP
  rcases Int.lt_or_le (x / p) (y / p) with k | k
  · split <;> split <;> omega
  · have e : x / p = y / p := by omega
    rw [e] at h1
    rw [e]
    have : x % p ≤ y % p := by omega
    split <;> split <;> omega
theorem mul_one {a : Int} (h : fitB a = true) : bothV a 1099511627776 (mulZ a 1099511627776) = a ∧ bothE a 1099511627776 (mulZ a 1099511627776) = 0 := by
  have e : mulZ a 1099511627776 = a := by
    unfold mulZ evP; rw [pow2_40, Int.mul_emod_left, Int.mul_ediv_cancel _ (by decide), if_neg (by omega)]
  rw [(both_yes h (by decide)).1, (both_yes h (by decide)).2, e]
  exact to_fit h
theorem div_one {a : Int} (h : fitB a = true) : divV a 1099511627776 (divZ a 1099511627776) = a ∧ divE a 1099511627776 (divZ a 1099511627776) = 0 := by
  have e : divZ a 1099511627776 = a := by
    unfold divZ ev evP; rw [pow2_40, if_neg (by decide), Int.mul_emod_left, Int.mul_ediv_cancel _ (by decide), if_neg (by omega)]
  rw [(div_yes h (by decide) (by decide)).1, (div_yes h (by decide) (by decide)).2, e]
  exact to_fit h
/-- A greater number times one that isn't below 0 is no less. -/
theorem both_mono {a b c : Int} (h1 : bothE a b (mulZ a b) = 0) (h2 : bothE c b (mulZ c b) = 0) (hb : 0 ≤ b) (h : a ≤ c) : bothV a b (mulZ a b) ≤ bothV c b (mulZ c b) := by
  have hz : mulZ a b ≤ mulZ c b := evP_mono (pow2_pos 40) (Int.mul_le_mul_of_nonneg_right h hb)
  have key : ∀ x y z : Int, bothE x y z = 0 → bothV x y z = z := by
    intro x y z hh
    unfold bothE toE at hh
    unfold bothV toV
    split at hh
    · rename_i k
      rw [if_pos k]
      split at hh
      · rename_i k2; rw [if_pos k2]
      · omega
    · omega
  rw [key _ _ _ h1, key _ _ _ h2]; exact hz
set_option maxRecDepth 100000 in
set_option maxHeartbeats 4000000 in
theorem law_FixOne (a b c : Int) (ha : I64 a) (hb : I64 b) (hc : I64 c) (w : World) (hg : GN w) (hl : GL w) :
    Calls Tryd.prog 13 #[.int .i64 a, .int .i64 b, .int .i64 c] w fun e w' => e = .returned (.bool true) ∧ Below w.heap.size w w' := by
  have HG := Asd.mk hg
  have HL := Asd.mk hl
  have S0 := Asd.mk (St.refl w)
  have hm := fun h1 h2 hb h => both_mono (a := a) (b := b) (c := c) h1 h2 hb h
  have hcm : bothV b a (mulZ b a) = bothV a b (mulZ a b) ∧ bothE b a (mulZ b a) = bothE a b (mulZ a b) := by rw [mulZ_comm]; exact both_comm a b _
  have HC := Asd.mk hcm
  obtain ⟨X, hX⟩ : ∃ X, bothV a b (mulZ a b) = X := ⟨_, rfl⟩
  obtain ⟨E, hE⟩ : ∃ E, bothE a b (mulZ a b) = E := ⟨_, rfl⟩
  obtain ⟨Y, hY⟩ : ∃ Y, bothV c b (mulZ c b) = Y := ⟨_, rfl⟩
  obtain ⟨F, hF⟩ : ∃ F, bothE c b (mulZ c b) = F := ⟨_, rfl⟩
  rw [hX, hE, hY, hF] at hm
  have HM := Asd.mk hm
  have HX := Asd.mk hX
  have HE := Asd.mk hE
  have HY := Asd.mk hY
  have HF := Asd.mk hF
  clear hg hl hm hcm hX hE hY hF
  cases h1 : fitB a
  · have H1 := Asd.mk (both_no1 (b := 1099511627776) (z := mulZ a 1099511627776) h1)
    have H2 := Asd.mk (div_no1 (b := 1099511627776) (z := divZ a 1099511627776) h1)
    go_enter Tryd.func13, Tryd.ntmps13
    go_wp2_with (first
      | (go_at_call 28; replace S5 := S5; refine (law02_fixed _ (by exact HG.out.below (by with_reducible repeat (first | exact S5.out.bl | refine bl_alloc ?_ _ | refine bl_drewN ?_ _ | refine bl_drew ?_)))).mono ?_; rintro e w6 ⟨rfl, hb6⟩; apply St.step (w0 := w) (hb := hb6); (focus (with_reducible repeat (first | exact S5.out | apply St.lay | apply St.drew | apply St.drewN))); intro S6; (try simp only [sz_alloc, sz_drew, sz_drewN] at S6); clear hb6 S5; (try clear C5); have C6 := S6.out.facts; simp only [facts, apart, cellsAt, Nat.zero_add, Nat.reduceAdd, and_true] at C6)
      | (go_at_call 56; replace S4 := S4; refine (fix_Mul c b _ (by exact HG.out.below (by with_reducible repeat (first | exact S4.out.bl | refine bl_alloc ?_ _ | refine bl_drewN ?_ _ | refine bl_drew ?_)))).mono ?_; rintro e w5 ⟨rfl, hb5⟩; rw [HY.out, HF.out]; apply St.step (w0 := w) (hb := hb5); (focus (with_reducible repeat (first | exact S4.out | apply St.lay | apply St.drew | apply St.drewN))); intro S5; (try simp only [sz_alloc, sz_drew, sz_drewN] at S5); clear hb5 S4; (try clear C4); have C5 := S5.out.facts; simp only [facts, apart, cellsAt, Nat.zero_add, Nat.reduceAdd, and_true] at C5)
      | (go_at_call 56; replace S3 := S3; refine (fix_Mul b a _ (by exact HG.out.below (by with_reducible repeat (first | exact S3.out.bl | refine bl_alloc ?_ _ | refine bl_drewN ?_ _ | refine bl_drew ?_)))).mono ?_; rintro e w4 ⟨rfl, hb4⟩; rw [HC.out.1, HC.out.2, HX.out, HE.out]; apply St.step (w0 := w) (hb := hb4); (focus (with_reducible repeat (first | exact S3.out | apply St.lay | apply St.drew | apply St.drewN))); intro S4; (try simp only [sz_alloc, sz_drew, sz_drewN] at S4); clear hb4 S3; (try clear C3); have C4 := S4.out.facts; simp only [facts, apart, cellsAt, Nat.zero_add, Nat.reduceAdd, and_true] at C4)
      | (go_at_call 56; replace S2 := S2; refine (fix_Mul a b _ (by exact HG.out.below (by with_reducible repeat (first | exact S2.out.bl | refine bl_alloc ?_ _ | refine bl_drewN ?_ _ | refine bl_drew ?_)))).mono ?_; rintro e w3 ⟨rfl, hb3⟩; rw [HX.out, HE.out]; apply St.step (w0 := w) (hb := hb3); (focus (with_reducible repeat (first | exact S2.out | apply St.lay | apply St.drew | apply St.drewN))); intro S3; (try simp only [sz_alloc, sz_drew, sz_drewN] at S3); clear hb3 S2; (try clear C2); have C3 := S3.out.facts; simp only [facts, apart, cellsAt, Nat.zero_add, Nat.reduceAdd, and_true] at C3)
      | (go_at_call 58; replace S1 := S1; refine (fix_Div a 1099511627776 _ (by exact HG.out.below (by with_reducible repeat (first | exact S1.out.bl | refine bl_alloc ?_ _ | refine bl_drewN ?_ _ | refine bl_drew ?_))) (by exact HL.out.below (by with_reducible repeat (first | exact S1.out.bl | refine bl_alloc ?_ _ | refine bl_drewN ?_ _ | refine bl_drew ?_)))).mono ?_; rintro e w2 ⟨rfl, hb2⟩; rw [H2.out.1, H2.out.2]; apply St.step (w0 := w) (hb := hb2); (focus (with_reducible repeat (first | exact S1.out | apply St.lay | apply St.drew | apply St.drewN))); intro S2; (try simp only [sz_alloc, sz_drew, sz_drewN] at S2); clear hb2 S1; (try clear C1); have C2 := S2.out.facts; simp only [facts, apart, cellsAt, Nat.zero_add, Nat.reduceAdd, and_true] at C2)
      | (go_at_call 56; replace S0 := S0; refine (fix_Mul a 1099511627776 _ (by exact HG.out.below (by with_reducible repeat (first | exact S0.out.bl | refine bl_alloc ?_ _ | refine bl_drewN ?_ _ | refine bl_drew ?_)))).mono ?_; rintro e w1 ⟨rfl, hb1⟩; rw [H1.out.1, H1.out.2]; apply St.step (w0 := w) (hb := hb1); (focus (with_reducible repeat (first | exact S0.out | apply St.lay | apply St.drew | apply St.drewN))); intro S1; (try simp only [sz_alloc, sz_drew, sz_drewN] at S1); clear hb1 S0; (try clear C0); have C1 := S1.out.facts; simp only [facts, apart, cellsAt, Nat.zero_add, Nat.reduceAdd, and_true] at C1)
      | (go_at_call 29; refine (fix_Fits _ _).mono ?_; rintro e w' ⟨rfl, rfl⟩))
    all_goals (
    have HBf := S6.out.bl
    have hm := HM.out
    go_ret
    exact ⟨by first | rfl | exact ret_bool (by rw [Bool.eq_iff_iff]; simp <;> omega), (by repeat (first | exact Below.refl _ _ | assumption | refine bl_alloc ?_ _ | refine bl_drewN ?_ _ | refine bl_drew ?_ | refine bl_set ?_ (by first | (simp; done) | (simp; omega) | (dsimp only; omega)) _ | refine bl_then ?_ (by assumption)))⟩)
  · have H1 := Asd.mk (mul_one h1)
    have H2 := Asd.mk (div_one h1)
    go_enter Tryd.func13, Tryd.ntmps13
    go_wp2_with (first
      | (go_at_call 28; replace S5 := S5; refine (law02_fixed _ (by exact HG.out.below (by with_reducible repeat (first | exact S5.out.bl | refine bl_alloc ?_ _ | refine bl_drewN ?_ _ | refine bl_drew ?_)))).mono ?_; rintro e w6 ⟨rfl, hb6⟩; apply St.step (w0 := w) (hb := hb6); (focus (with_reducible repeat (first | exact S5.out | apply St.lay | apply St.drew | apply St.drewN))); intro S6; (try simp only [sz_alloc, sz_drew, sz_drewN] at S6); clear hb6 S5; (try clear C5); have C6 := S6.out.facts; simp only [facts, apart, cellsAt, Nat.zero_add, Nat.reduceAdd, and_true] at C6)
      | (go_at_call 56; replace S4 := S4; refine (fix_Mul c b _ (by exact HG.out.below (by with_reducible repeat (first | exact S4.out.bl | refine bl_alloc ?_ _ | refine bl_drewN ?_ _ | refine bl_drew ?_)))).mono ?_; rintro e w5 ⟨rfl, hb5⟩; rw [HY.out, HF.out]; apply St.step (w0 := w) (hb := hb5); (focus (with_reducible repeat (first | exact S4.out | apply St.lay | apply St.drew | apply St.drewN))); intro S5; (try simp only [sz_alloc, sz_drew, sz_drewN] at S5); clear hb5 S4; (try clear C4); have C5 := S5.out.facts; simp only [facts, apart, cellsAt, Nat.zero_add, Nat.reduceAdd, and_true] at C5)
      | (go_at_call 56; replace S3 := S3; refine (fix_Mul b a _ (by exact HG.out.below (by with_reducible repeat (first | exact S3.out.bl | refine bl_alloc ?_ _ | refine bl_drewN ?_ _ | refine bl_drew ?_)))).mono ?_; rintro e w4 ⟨rfl, hb4⟩; rw [HC.out.1, HC.out.2, HX.out, HE.out]; apply St.step (w0 := w) (hb := hb4); (focus (with_reducible repeat (first | exact S3.out | apply St.lay | apply St.drew | apply St.drewN))); intro S4; (try simp only [sz_alloc, sz_drew, sz_drewN] at S4); clear hb4 S3; (try clear C3); have C4 := S4.out.facts; simp only [facts, apart, cellsAt, Nat.zero_add, Nat.reduceAdd, and_true] at C4)
      | (go_at_call 56; replace S2 := S2; refine (fix_Mul a b _ (by exact HG.out.below (by with_reducible repeat (first | exact S2.out.bl | refine bl_alloc ?_ _ | refine bl_drewN ?_ _ | refine bl_drew ?_)))).mono ?_; rintro e w3 ⟨rfl, hb3⟩; rw [HX.out, HE.out]; apply St.step (w0 := w) (hb := hb3); (focus (with_reducible repeat (first | exact S2.out | apply St.lay | apply St.drew | apply St.drewN))); intro S3; (try simp only [sz_alloc, sz_drew, sz_drewN] at S3); clear hb3 S2; (try clear C2); have C3 := S3.out.facts; simp only [facts, apart, cellsAt, Nat.zero_add, Nat.reduceAdd, and_true] at C3)
      | (go_at_call 58; replace S1 := S1; refine (fix_Div a 1099511627776 _ (by exact HG.out.below (by with_reducible repeat (first | exact S1.out.bl | refine bl_alloc ?_ _ | refine bl_drewN ?_ _ | refine bl_drew ?_))) (by exact HL.out.below (by with_reducible repeat (first | exact S1.out.bl | refine bl_alloc ?_ _ | refine bl_drewN ?_ _ | refine bl_drew ?_)))).mono ?_; rintro e w2 ⟨rfl, hb2⟩; rw [H2.out.1, H2.out.2]; apply St.step (w0 := w) (hb := hb2); (focus (with_reducible repeat (first | exact S1.out | apply St.lay | apply St.drew | apply St.drewN))); intro S2; (try simp only [sz_alloc, sz_drew, sz_drewN] at S2); clear hb2 S1; (try clear C1); have C2 := S2.out.facts; simp only [facts, apart, cellsAt, Nat.zero_add, Nat.reduceAdd, and_true] at C2)
      | (go_at_call 56; replace S0 := S0; refine (fix_Mul a 1099511627776 _ (by exact HG.out.below (by with_reducible repeat (first | exact S0.out.bl | refine bl_alloc ?_ _ | refine bl_drewN ?_ _ | refine bl_drew ?_)))).mono ?_; rintro e w1 ⟨rfl, hb1⟩; rw [H1.out.1, H1.out.2]; apply St.step (w0 := w) (hb := hb1); (focus (with_reducible repeat (first | exact S0.out | apply St.lay | apply St.drew | apply St.drewN))); intro S1; (try simp only [sz_alloc, sz_drew, sz_drewN] at S1); clear hb1 S0; (try clear C0); have C1 := S1.out.facts; simp only [facts, apart, cellsAt, Nat.zero_add, Nat.reduceAdd, and_true] at C1)
      | (go_at_call 29; refine (fix_Fits _ _).mono ?_; rintro e w' ⟨rfl, rfl⟩))
    all_goals (
    have HBf := S6.out.bl
    have hm := HM.out
    go_ret
    exact ⟨by first | rfl | exact ret_bool (by rw [Bool.eq_iff_iff]; simp <;> omega), (by repeat (first | exact Below.refl _ _ | assumption | refine bl_alloc ?_ _ | refine bl_drewN ?_ _ | refine bl_drew ?_ | refine bl_set ?_ (by first | (simp; done) | (simp; omega) | (dsimp only; omega)) _ | refine bl_then ?_ (by assumption)))⟩)

namespace fixOne
theorem reads (os : Os) {H : Type} (enc : TypeId × Value → H) : ∃ places, DataW.whole enc Tryd.prog ((World.doorLaid Tryd.prog 400 os).forCall (fun _ _ => 0) ⟨#[], #[.int .i64 0, .int .i64 0, .int .i64 0], []⟩).memory Tryd.f13.params.toList Rows.fixOneSpec.vars false #[.int .i64 0, .int .i64 0, .int .i64 0].toList 8 = some ([.lit (.int .i64 0), .lit (.int .i64 0), .lit (.int .i64 0)], [], places) :=
  ⟨[], by kernel_rfl⟩
theorem laid_met (os : Os) : laidMet Tryd.prog Rows.fixOneRow.laid ((World.doorLaid Tryd.prog 400 os).forCall (fun _ _ => 0) ⟨#[], #[.int .i64 0, .int .i64 0, .int .i64 0], []⟩).memory :=
  laidMet_of_run' 8 (by kernel_rfl) (by kernel_rfl)
set_option maxRecDepth 100000 in
theorem lifted (os : Os) (started : os.Started) (H : Type) (enc : TypeId × Value → H) (F : Stop.Interp) :
    ReturnsInHanded {} Tryd.checked os 13 .any ((OpenSpec.ofChange Rows.fixOneSpec).preRow enc Tryd.prog Tryd.f13 Rows.fixOneRow.domain false Rows.fixOneRow.laid) (((OpenSpec.ofChange Rows.fixOneSpec).at F).post enc Tryd.prog Tryd.f13 false true false false) := by
  obtain ⟨places, hx⟩ := reads os enc
  refine returnsInHanded_of_row (C := Tryd.checked) (s := OpenSpec.ofChange Rows.fixOneSpec) own started (by kernel_rfl) Tryd.func13
    (witness_row_at (enc := enc) (C := Tryd.checked) false (World.doorLaid Tryd.prog 400 os) #[.int .i64 0, .int .i64 0, .int .i64 0] rfl (by kernel_rfl) (by kernel_rfl) (by kernel_rfl)
      (OpenSpec.preRow_of_cond 8 hx (by kernel_rfl) (fun k hk => by cases hk) (by kernel_rfl) (laid_met os))) ?_
  intro W base args ds gs before hval hW _ _ _ hL _ _
  have hW' := hW
  obtain ⟨p, q, hA0, hV, rfl, hfz, hnd⟩ := hW
  have hA : DataW.TrodAll enc Tryd.prog W 0 (fun _ => true) true Tryd.f13.params.toList args.toList ds p := hA0
  rw [Tryd.params13] at hA hval
  obtain ⟨v0, v1, v2, d0, d1, d2, p0, p1, p2, rfl, rfl, rfl, h0, h1, h2⟩ := trodAll_three hA
  obtain ⟨a, ha, rfl⟩ := open_i64 (hval 0 _ v0 rfl rfl) h0
  obtain ⟨b, hb, rfl⟩ := open_i64 (hval 1 _ v1 rfl rfl) h1
  obtain ⟨c, hc, rfl⟩ := open_i64 (hval 2 _ v2 rfl rfl) h2
  obtain ⟨rfl, rfl⟩ := trodVars_none hV
  have hg := laid_GN (L := Rows.fixOneRow.laid) hL (List.Mem.head _)
  have hl := laid_GL (L := Rows.fixOneRow.laid) hL (List.Mem.tail _ (List.Mem.head _))
  refine (law_FixOne a b c ha hb hc W hg hl).mono ?_
  rintro e W' ⟨rfl, hbel⟩
  exact ⟨_, rfl, law_post hW' rfl rfl rfl rfl (by kernel_rfl) Tryd.underlying4 law_laidOut (by kernel_rfl) hbel⟩
theorem said : Rows.FixOneSaid :=
  OpenClaim.holds_of_cond 13 Tryd.f13 rfl rfl rfl rfl rfl rfl rfl ⟨rfl, rfl, rfl, rfl, rfl⟩ rfl rfl rfl rfl rfl (by kernel_rfl) Tryd.func13 (by kernel_rfl)
    (of_decide_eq_true (by kernel_rfl)) (by unfold Func.isWrapper; first | (rw [if_pos (by decide +kernel)]; kernel_rfl) | (rw [if_neg (by decide +kernel)]; exact ⟨rfl, rfl⟩))
    (fun os started H enc _ F => by rw [OpenClaim.pre_eq_preRow]; exact lifted os started H enc F)
theorem plain (f : FuncId) (fn : Func) (hf : Tryd.pinned.checked.prog.funcNamed "aneroid/aneroidlaw02.FixOne" = some f) (hfn : Tryd.pinned.checked.prog.funcs[f]? = some fn) :
    false = Tryd.pinned.checked.prog.looks [] ∧ ∀ (j : Nat) t, fn.params[j]? = some t → Tryd.pinned.checked.prog.wantsStandIn t = false := by
  obtain rfl : f = 13 := Option.some.inj ((show Tryd.prog.funcNamed "aneroid/aneroidlaw02.FixOne" = some 13 by kernel_rfl).symm.trans hf) |>.symm
  obtain rfl : fn = Tryd.f13 := (Option.some.inj (Tryd.func13.symm.trans hfn)).symm
  refine ⟨by kernel_rfl, fun j t ht => ?_⟩
  have hall : (Tryd.f13.params.all fun t => !Tryd.prog.wantsStandIn t) = true := by kernel_rfl
  exact Bool.not_eq_true' _ ▸ (Array.all_eq_true_iff_forall_mem.1 hall) t (Array.mem_of_getElem? ht)
/-- The card. -/
theorem card : Rows.FixOneCardSaid :=
  Claim7.holds_tied_plain_at .later [] _ _ _ _ said (fun _ h => by cases h) (by kernel_rfl) (fun _ h => by cases h) fixOne_row_tie rfl ⟨rfl, rfl⟩ (by kernel_rfl) rfl plain (by kernel_rfl)
end fixOne
end Go.Proofs.YtgodfbhjfhdihaaDoor
