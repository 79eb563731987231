/- Walks of the layer 'root' and of its reference: roots of wide numbers, means; the chapter's examples. -/
import Derived.Test.YtgodfbhjfhdihaaDoorQb
import Derived.Test.YtgodfbhjfhdihaaDoorQc
namespace Go.Proofs.YtgodfbhjfhdihaaDoor
open Go.RowKit
set_option linter.unusedSimpArgs false
set_option linter.unusedVariables false
attribute [local go_sem] nlt2 nlt3 nlt4 nlt5 nlt6 nlt7 nlt8 nlt9 nlt10 nlt11 nlt12
attribute [local go_sem] field_D

set_option maxRecDepth 100000 in
set_option maxHeartbeats 4000000 in
theorem ref3_Wide (a : Int) (ha : W128 a) (h0 : 0 ≤ a) (w : World) :
    Calls Tryd.prog 18 #[.agg #[.int .i64 (whi a), .int .u64 (wlo a)]] w (BigR w (rt a)) := by
  have S0 := Asd.mk (St.refl w)
  have hlt : a < 340282366920938463463374607431768211456 := by unfold W128 at ha; omega
  go_enter Tryd.func18, Tryd.ntmps18
  go_wp2_with (first
      | (go_at_call 63; replace S1 := S1; refine (ref3_Of a A1 c1 h0 hlt _ (by exact RB.below (S1.out.rb 0 rfl) (by with_reducible repeat (first | exact Below.refl _ _ | refine bl_alloc ?_ _ | refine bl_drewN ?_ _ | refine bl_drew ?_)))).mono ?_; rintro e w2 ⟨A2, c2, rfl, hr2, hb2⟩; apply St.stepB (w0 := w) (hb := hb2) (hr := hr2); (focus (with_reducible repeat (first | exact S1.out | apply St.lay | apply St.drew | apply St.drewN))); intro S2; (try simp only [sz_alloc, sz_drew, sz_drewN] at S2); clear hr2 hb2 S1; (try clear C1); have C2 := S2.out.facts; simp only [facts, apart, cellsAt, Nat.zero_add, Nat.reduceAdd, and_true] at C2)
      | (go_at_call 40; replace S0 := S0; refine (ref_From a ha _).mono ?_; rintro e w1 ⟨A1, c1, rfl, hr1, hb1⟩; apply St.stepB (w0 := w) (hb := hb1) (hr := hr1); (focus (with_reducible repeat (first | exact S0.out | apply St.lay | apply St.drew | apply St.drewN))); intro S1; (try simp only [sz_alloc, sz_drew, sz_drewN] at S1); clear hr1 hb1 S0; (try clear C0); have C1 := S1.out.facts; simp only [facts, apart, cellsAt, Nat.zero_add, Nat.reduceAdd, and_true] at C1))
  have S3 := (St.set (St.set S2.out 0 0 rfl (by simp) (.inr rfl) (.bool (sg (rt a)))) 0 1 rfl (by simp) (.inr rfl) (.slice A2 (nd (rt a)) c2))
  refine bodyPost_ret (v := .agg #[.bool (sg (rt a)), .slice A2 (nd (rt a)) c2]) (by simp (maxDischargeDepth := 9) [results, Tryd.results18, go_sem, *]) rfl ⟨_, _, rfl, S3.rb 0 rfl, S3.bl⟩

/-- The mean of two numbers. -/
def mn (x y : Int) : Int := if x < 0 ∨ y < 0 then 0 else rt (x * y)
theorem prod0 {x y : Int} (hx : I64 x) (hy : I64 y) (h : ¬ (x < 0 ∨ y < 0)) : 0 ≤ x * y ∧ x * y < 85070591730234615865843651857942052864 := by
  have h1 : 0 ≤ x * y := Int.mul_nonneg (by omega) (by omega)
  have := mul_le_mul' (a := x) (b := y) 9223372036854775807 (by omega) (by omega) (by unfold I64 at hx; omega) (by unfold I64 at hy; omega)
  omega
theorem mn_i64 {x y : Int} (hx : I64 x) (hy : I64 y) : 0 ≤ mn x y ∧ mn x y ≤ 9223372036854775807 := by
  unfold mn
  split
  · omega
  · rename_i h
    have hp := prod0 hx hy h
    have := rt_bd (m := 9223372036854775808) hp.1 (by omega) (by omega)
    have := rt_nonneg (x * y)
    omega

set_option maxRecDepth 100000 in
set_option maxHeartbeats 4000000 in
theorem ref3_Mean (x y : Int) (hx : I64 x) (hy : I64 y) (w : World) :
    Calls Tryd.prog 20 #[.int .i64 x, .int .i64 y] w fun e w' => e = .returned (.int .i64 (mn x y)) ∧ Below w.heap.size w w' := by
  by_cases h : x < 0 ∨ y < 0
  · have e : mn x y = 0 := by unfold mn; rw [if_pos h]
    rw [e]
    rcases Decidable.em (x < 0) with h1 | h1
    · go_enter Tryd.func20, Tryd.ntmps20
      go_wp2
      go_ret
      exact ⟨rfl, (by repeat (first | exact Below.refl _ _ | assumption | refine bl_alloc ?_ _ | refine bl_drewN ?_ _ | refine bl_drew ?_ | refine bl_set ?_ (by first | (simp; done) | (simp; omega) | (dsimp only; omega)) _ | refine bl_then ?_ (by assumption)))⟩
    · have h2 : y < 0 := h.resolve_left h1
      go_enter Tryd.func20, Tryd.ntmps20
      go_wp2
      go_ret
      exact ⟨rfl, (by repeat (first | exact Below.refl _ _ | assumption | refine bl_alloc ?_ _ | refine bl_drewN ?_ _ | refine bl_drew ?_ | refine bl_set ?_ (by first | (simp; done) | (simp; omega) | (dsimp only; omega)) _ | refine bl_then ?_ (by assumption)))⟩
  · have e : mn x y = rt (x * y) := by unfold mn; rw [if_neg h]
    have hp := prod0 hx hy h
    have hm := mn_i64 hx hy
    rw [e] at hm ⊢
    have hlt : x * y < 340282366920938463463374607431768211456 := by omega
    have hI : I64 (rt (x * y)) := by unfold I64; omega
    have HP := Asd.mk hp
    have HL := Asd.mk hlt
    have HI := Asd.mk hI
    have n1 : Asd (nd x ≤ 10000) := ⟨by have := nd_i64 hx; omega⟩
    have n2 : Asd (nd y ≤ 10000) := ⟨by have := nd_i64 hy; omega⟩
    have h1 : 0 ≤ x := by omega
    have h2 : 0 ≤ y := by omega
    have S0 := Asd.mk (St.refl w)
    clear e h hp hm hlt hI
    go_enter Tryd.func20, Tryd.ntmps20
    go_wp2_with (first
      | (go_at_call 55; replace S4 := S4; refine (ref_Int_fits (rt (x * y)) A4 c4 HI.out _ (by exact RB.below (S4.out.rb 0 rfl) (by with_reducible repeat (first | exact Below.refl _ _ | refine bl_alloc ?_ _ | refine bl_drewN ?_ _ | refine bl_drew ?_)))).mono ?_; rintro e w5 ⟨rfl, hb5⟩; apply St.step (w0 := w) (hb := hb5); (focus (with_reducible repeat (first | exact S4.out | apply St.lay | apply St.drew | apply St.drewN))); intro S5; (try simp only [sz_alloc, sz_drew, sz_drewN] at S5); clear hb5 S4; (try clear C4); have C5 := S5.out.facts; simp only [facts, apart, cellsAt, Nat.zero_add, Nat.reduceAdd, and_true] at C5)
      | (go_at_call 63; replace S3 := S3; refine (ref3_Of (x * y) A3 c3 HP.out.1 HL.out _ (by exact RB.below (S3.out.rb 0 rfl) (by with_reducible repeat (first | exact Below.refl _ _ | refine bl_alloc ?_ _ | refine bl_drewN ?_ _ | refine bl_drew ?_)))).mono ?_; rintro e w4 ⟨A4, c4, rfl, hr4, hb4⟩; apply St.stepB (w0 := w) (hb := hb4) (hr := hr4); (focus (with_reducible repeat (first | exact S3.out | apply St.lay | apply St.drew | apply St.drewN))); intro S4; (try simp only [sz_alloc, sz_drew, sz_drewN] at S4); clear hr4 hb4 S3; (try clear C3); have C4 := S4.out.facts; simp only [facts, apart, cellsAt, Nat.zero_add, Nat.reduceAdd, and_true] at C4)
      | (go_at_call 52; replace S2 := S2; refine (ref_Mul x y A1 A2 c1 c2 n1.out n2.out _ (by exact RB.below (S2.out.rb 1 rfl) (by with_reducible repeat (first | exact Below.refl _ _ | refine bl_alloc ?_ _ | refine bl_drewN ?_ _ | refine bl_drew ?_))) (by exact RB.below (S2.out.rb 0 rfl) (by with_reducible repeat (first | exact Below.refl _ _ | refine bl_alloc ?_ _ | refine bl_drewN ?_ _ | refine bl_drew ?_)))).mono ?_; rintro e w3 ⟨A3, c3, rfl, hr3, hb3⟩; apply St.stepB (w0 := w) (hb := hb3) (hr := hr3); (focus (with_reducible repeat (first | exact S2.out | apply St.lay | apply St.drew | apply St.drewN))); intro S3; (try simp only [sz_alloc, sz_drew, sz_drewN] at S3); clear hr3 hb3 S2; (try clear C2); have C3 := S3.out.facts; simp only [facts, apart, cellsAt, Nat.zero_add, Nat.reduceAdd, and_true] at C3)
      | (go_at_call 41; replace S1 := S1; refine (ref_Of y hy _).mono ?_; rintro e w2 ⟨A2, c2, rfl, hr2, hb2⟩; apply St.stepB (w0 := w) (hb := hb2) (hr := hr2); (focus (with_reducible repeat (first | exact S1.out | apply St.lay | apply St.drew | apply St.drewN))); intro S2; (try simp only [sz_alloc, sz_drew, sz_drewN] at S2); clear hr2 hb2 S1; (try clear C1); have C2 := S2.out.facts; simp only [facts, apart, cellsAt, Nat.zero_add, Nat.reduceAdd, and_true] at C2)
      | (go_at_call 41; replace S0 := S0; refine (ref_Of x hx _).mono ?_; rintro e w1 ⟨A1, c1, rfl, hr1, hb1⟩; apply St.stepB (w0 := w) (hb := hb1) (hr := hr1); (focus (with_reducible repeat (first | exact S0.out | apply St.lay | apply St.drew | apply St.drewN))); intro S1; (try simp only [sz_alloc, sz_drew, sz_drewN] at S1); clear hr1 hb1 S0; (try clear C0); have C1 := S1.out.facts; simp only [facts, apart, cellsAt, Nat.zero_add, Nat.reduceAdd, and_true] at C1))
    have HBf := S5.out.bl
    go_ret
    exact ⟨rfl, (by repeat (first | exact Below.refl _ _ | assumption | refine bl_alloc ?_ _ | refine bl_drewN ?_ _ | refine bl_drew ?_ | refine bl_set ?_ (by first | (simp; done) | (simp; omega) | (dsimp only; omega)) _ | refine bl_then ?_ (by assumption)))⟩

set_option maxRecDepth 100000 in
set_option maxHeartbeats 4000000 in
theorem root_Mean (x y : Int) (hx : I64 x) (hy : I64 y) (w : World) (hg : GN w) :
    Calls Tryd.prog 19 #[.int .i64 x, .int .i64 y] w fun e w' => e = .returned (.int .i64 (mn x y)) ∧ Below w.heap.size w w' := by
  by_cases h : x < 0 ∨ y < 0
  · have e : mn x y = 0 := by unfold mn; rw [if_pos h]
    rw [e]
    rcases Decidable.em (x < 0) with h1 | h1
    · go_enter Tryd.func19, Tryd.ntmps19
      go_wp2
      go_ret
      exact ⟨rfl, (by repeat (first | exact Below.refl _ _ | assumption | refine bl_alloc ?_ _ | refine bl_drewN ?_ _ | refine bl_drew ?_ | refine bl_set ?_ (by first | (simp; done) | (simp; omega) | (dsimp only; omega)) _ | refine bl_then ?_ (by assumption)))⟩
    · have h2 : y < 0 := h.resolve_left h1
      go_enter Tryd.func19, Tryd.ntmps19
      go_wp2
      go_ret
      exact ⟨rfl, (by repeat (first | exact Below.refl _ _ | assumption | refine bl_alloc ?_ _ | refine bl_drewN ?_ _ | refine bl_drew ?_ | refine bl_set ?_ (by first | (simp; done) | (simp; omega) | (dsimp only; omega)) _ | refine bl_then ?_ (by assumption)))⟩
  · have e : mn x y = rt (x * y) := by unfold mn; rw [if_neg h]
    have hp := prod0 hx hy h
    have hm := mn_i64 hx hy
    rw [e] at hm ⊢
    have hW : W128 (x * y) := prod_W128 hx hy
    have HP := Asd.mk hp
    have HW := Asd.mk hW
    have HE := Asd.mk (show wrap64 (rt (x * y)) = rt (x * y) by unfold wrap64; omega)
    have HG := Asd.mk hg
    have h1 : 0 ≤ x := by omega
    have h2 : 0 ≤ y := by omega
    have S0 := Asd.mk (St.refl w)
    clear e h hp hm hW hg
    go_enter Tryd.func19, Tryd.ntmps19
    go_wp2_with (first
      | (go_at_call 15; replace S1 := S1; refine (root_Of (x * y) HW.out HP.out.1 _).mono ?_; rintro e w2 ⟨rfl, hb2⟩; apply St.step (w0 := w) (hb := hb2); (focus (with_reducible repeat (first | exact S1.out | apply St.lay | apply St.drew | apply St.drewN))); intro S2; (try simp only [sz_alloc, sz_drew, sz_drewN] at S2); clear hb2 S1; (try clear C1); have C2 := S2.out.facts; simp only [facts, apart, cellsAt, Nat.zero_add, Nat.reduceAdd, and_true] at C2)
      | (go_at_call 21; replace S0 := S0; refine (wide_Mul x y hx hy _ (by exact HG.out.below (by with_reducible repeat (first | exact S0.out.bl | refine bl_alloc ?_ _ | refine bl_drewN ?_ _ | refine bl_drew ?_)))).mono ?_; rintro e w1 ⟨rfl, hb1⟩; apply St.step (w0 := w) (hb := hb1); (focus (with_reducible repeat (first | exact S0.out | apply St.lay | apply St.drew | apply St.drewN))); intro S1; (try simp only [sz_alloc, sz_drew, sz_drewN] at S1); clear hb1 S0; (try clear C0); have C1 := S1.out.facts; simp only [facts, apart, cellsAt, Nat.zero_add, Nat.reduceAdd, and_true] at C1))
    have HBf := S2.out.bl
    go_ret
    exact ⟨ret_int HE.out, (by repeat (first | exact Below.refl _ _ | assumption | refine bl_alloc ?_ _ | refine bl_drewN ?_ _ | refine bl_drew ?_ | refine bl_set ?_ (by first | (simp; done) | (simp; omega) | (dsimp only; omega)) _ | refine bl_then ?_ (by assumption)))⟩

set_option maxRecDepth 100000 in
set_option maxHeartbeats 4000000 in
theorem law03_fixed (w : World) (hg : GN w) :
    Calls Tryd.prog 16 #[] w fun e w' => e = .returned (.bool true) ∧ Below w.heap.size w w' := by
  have HG := Asd.mk hg
  have S0 := Asd.mk (St.refl w)
  have E1 := Asd.mk (show rt 17 = 4 by decide)
  have E2 := Asd.mk (show mn 2 8 = 4 by decide)
  clear hg
  go_enter Tryd.func16, Tryd.ntmps16
  go_wp2_with (first
      | (go_at_call 19; replace S2 := S2; refine (root_Mean 2 8 (by decide) (by decide) _ (by exact HG.out.below (by with_reducible repeat (first | exact S2.out.bl | refine bl_alloc ?_ _ | refine bl_drewN ?_ _ | refine bl_drew ?_)))).mono ?_; rintro e w3 ⟨rfl, hb3⟩; rw [E2.out]; apply St.step (w0 := w) (hb := hb3); (focus (with_reducible repeat (first | exact S2.out | apply St.lay | apply St.drew | apply St.drewN))); intro S3; (try simp only [sz_alloc, sz_drew, sz_drewN] at S3); clear hb3 S2; (try clear C2); have C3 := S3.out.facts; simp only [facts, apart, cellsAt, Nat.zero_add, Nat.reduceAdd, and_true] at C3)
      | (go_at_call 15; replace S1 := S1; refine (root_Of 17 (by decide) (by decide) _).mono ?_; rintro e w2 ⟨rfl, hb2⟩; rw [E1.out]; apply St.step (w0 := w) (hb := hb2); (focus (with_reducible repeat (first | exact S1.out | apply St.lay | apply St.drew | apply St.drewN))); intro S2; (try simp only [sz_alloc, sz_drew, sz_drewN] at S2); clear hb2 S1; (try clear C1); have C2 := S2.out.facts; simp only [facts, apart, cellsAt, Nat.zero_add, Nat.reduceAdd, and_true] at C2)
      | (go_at_call 23; replace S0 := S0; refine (wide_Of 17 (by decide) _).mono ?_; rintro e w1 ⟨rfl, hb1⟩; apply St.step (w0 := w) (hb := hb1); (focus (with_reducible repeat (first | exact S0.out | apply St.lay | apply St.drew | apply St.drewN))); intro S1; (try simp only [sz_alloc, sz_drew, sz_drewN] at S1); clear hb1 S0; (try clear C0); have C1 := S1.out.facts; simp only [facts, apart, cellsAt, Nat.zero_add, Nat.reduceAdd, and_true] at C1))
  have HBf := S3.out.bl
  go_ret
  exact ⟨rfl, (by repeat (first | exact Below.refl _ _ | assumption | refine bl_alloc ?_ _ | refine bl_drewN ?_ _ | refine bl_drew ?_ | refine bl_set ?_ (by first | (simp; done) | (simp; omega) | (dsimp only; omega)) _ | refine bl_then ?_ (by assumption)))⟩
end Go.Proofs.YtgodfbhjfhdihaaDoor
