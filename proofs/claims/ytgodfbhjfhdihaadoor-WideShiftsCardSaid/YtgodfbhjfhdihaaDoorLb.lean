/- The laws of layer 1: the chapter's examples, and 'same'. -/
import Derived.Test.YtgodfbhjfhdihaaDoorRu
import Derived.Test.YtgodfbhjfhdihaaDoorRp
import Derived.Test.YtgodfbhjfhdihaaDoorWl
namespace Go.Proofs.YtgodfbhjfhdihaaDoor
open Go.RowKit
set_option linter.unusedSimpArgs false
set_option linter.unusedVariables false
attribute [local go_sem] nlt2 nlt3 nlt4 nlt5 nlt6 nlt7 nlt8 nlt9 nlt10 nlt11 nlt12
attribute [local go_sem] field_D

theorem even_5_2 (w : World) (hg : GN w) (hl : GL w) : Calls Tryd.prog 38 #[.agg #[.int .i64 (whi 5), .int .u64 (wlo 5)], .int .i64 2] w fun e w' => e = .returned (.tuple #[.agg #[.int .i64 (whi 2), .int .u64 (wlo 2)], .int .i64 0]) ∧ Below w.heap.size w w' := by
  have h := wide_Even 5 2 (by decide) (by decide) w hg hl
  rw [show quoV (ev 5 2) 5 2 = 2 by decide, show quoE 5 2 = 0 by decide] at h; exact h
theorem div_m7_2 (w : World) (hg : GN w) (hl : GL w) : Calls Tryd.prog 37 #[.agg #[.int .i64 (whi (-7)), .int .u64 (wlo (-7))], .int .i64 2] w fun e w' => e = .returned (.tuple #[.agg #[.int .i64 (whi (-4)), .int .u64 (wlo (-4))], .int .i64 0]) ∧ Below w.heap.size w w' := by
  have h := wide_Div (-7) 2 (by decide) (by decide) w hg hl
  rw [show quoV (fl (-7) 2) (-7) 2 = -4 by decide, show quoE (-7) 2 = 0 by decide] at h; exact h
theorem half_7_1 (w : World) : Calls Tryd.prog 51 #[.agg #[.int .i64 (whi 7), .int .u64 (wlo 7)], .int .i64 1] w fun e w' => e = .returned (.tuple #[.agg #[.int .i64 (whi 4), .int .u64 (wlo 4)], .int .i64 0]) ∧ Below w.heap.size w w' := by
  have h := wide_Half_loop 7 1 (by decide) (by decide) w
  rw [show evP 7 (pow2 1) = 4 by decide] at h; exact h
theorem cmp_1_2 (w : World) : Calls Tryd.prog 48 #[.agg #[.int .i64 (whi 1), .int .u64 (wlo 1)], .agg #[.int .i64 (whi 2), .int .u64 (wlo 2)]] w fun e w' => e = .returned (.int .i64 (-1)) ∧ Below w.heap.size w w' := by
  have h := wide_Cmp 1 2 w
  rw [show cmpI 1 2 = -1 by decide] at h; exact h

set_option maxRecDepth 100000 in
set_option maxHeartbeats 4000000 in
theorem law01_fixed (w : World) (hg : GN w) (hl : GL w) :
    Calls Tryd.prog 39 #[] w fun e w' => e = .returned (.bool true) ∧ Below w.heap.size w w' := by
  have HG := Asd.mk hg
  have HL := Asd.mk hl
  have S0 := Asd.mk (St.refl w)
  clear hg hl
  go_enter Tryd.func39, Tryd.ntmps39
  go_wp2_with (first
      | (go_at_call 37; replace S5 := S5; refine (div_m7_2 _ (by exact HG.out.below (by with_reducible repeat (first | exact S5.out.bl | refine bl_alloc ?_ _ | refine bl_drewN ?_ _ | refine bl_drew ?_))) (by exact HL.out.below (by with_reducible repeat (first | exact S5.out.bl | refine bl_alloc ?_ _ | refine bl_drewN ?_ _ | refine bl_drew ?_)))).mono ?_; rintro e w6 ⟨rfl, hb6⟩; apply St.step (w0 := w) (hb := hb6); (focus (with_reducible repeat (first | exact S5.out | apply St.lay | apply St.drew | apply St.drewN))); intro S6; (try simp only [sz_alloc, sz_drew, sz_drewN] at S6); clear hb6 S5; (try clear C5); have C6 := S6.out.facts; simp only [facts, apart, cellsAt, Nat.zero_add, Nat.reduceAdd, and_true] at C6)
      | (go_at_call 23; replace S4 := S4; refine (wide_Of (-7) (by decide) _).mono ?_; rintro e w5 ⟨rfl, hb5⟩; apply St.step (w0 := w) (hb := hb5); (focus (with_reducible repeat (first | exact S4.out | apply St.lay | apply St.drew | apply St.drewN))); intro S5; (try simp only [sz_alloc, sz_drew, sz_drewN] at S5); clear hb5 S4; (try clear C4); have C5 := S5.out.facts; simp only [facts, apart, cellsAt, Nat.zero_add, Nat.reduceAdd, and_true] at C5)
      | (go_at_call 51; replace S3 := S3; refine (half_7_1 _).mono ?_; rintro e w4 ⟨rfl, hb4⟩; apply St.step (w0 := w) (hb := hb4); (focus (with_reducible repeat (first | exact S3.out | apply St.lay | apply St.drew | apply St.drewN))); intro S4; (try simp only [sz_alloc, sz_drew, sz_drewN] at S4); clear hb4 S3; (try clear C3); have C4 := S4.out.facts; simp only [facts, apart, cellsAt, Nat.zero_add, Nat.reduceAdd, and_true] at C4)
      | (go_at_call 23; replace S2 := S2; refine (wide_Of 7 (by decide) _).mono ?_; rintro e w3 ⟨rfl, hb3⟩; apply St.step (w0 := w) (hb := hb3); (focus (with_reducible repeat (first | exact S2.out | apply St.lay | apply St.drew | apply St.drewN))); intro S3; (try simp only [sz_alloc, sz_drew, sz_drewN] at S3); clear hb3 S2; (try clear C2); have C3 := S3.out.facts; simp only [facts, apart, cellsAt, Nat.zero_add, Nat.reduceAdd, and_true] at C3)
      | (go_at_call 38; replace S1 := S1; refine (even_5_2 _ (by exact HG.out.below (by with_reducible repeat (first | exact S1.out.bl | refine bl_alloc ?_ _ | refine bl_drewN ?_ _ | refine bl_drew ?_))) (by exact HL.out.below (by with_reducible repeat (first | exact S1.out.bl | refine bl_alloc ?_ _ | refine bl_drewN ?_ _ | refine bl_drew ?_)))).mono ?_; rintro e w2 ⟨rfl, hb2⟩; apply St.step (w0 := w) (hb := hb2); (focus (with_reducible repeat (first | exact S1.out | apply St.lay | apply St.drew | apply St.drewN))); intro S2; (try simp only [sz_alloc, sz_drew, sz_drewN] at S2); clear hb2 S1; (try clear C1); have C2 := S2.out.facts; simp only [facts, apart, cellsAt, Nat.zero_add, Nat.reduceAdd, and_true] at C2)
      | (go_at_call 23; replace S0 := S0; refine (wide_Of 5 (by decide) _).mono ?_; rintro e w1 ⟨rfl, hb1⟩; apply St.step (w0 := w) (hb := hb1); (focus (with_reducible repeat (first | exact S0.out | apply St.lay | apply St.drew | apply St.drewN))); intro S1; (try simp only [sz_alloc, sz_drew, sz_drewN] at S1); clear hb1 S0; (try clear C0); have C1 := S1.out.facts; simp only [facts, apart, cellsAt, Nat.zero_add, Nat.reduceAdd, and_true] at C1))
  go_region_held3 (fun w' => w'.cell? ⟨w2.heap.size, 0, none⟩ = some (.int .i64 (whi 2)) ∧ w'.cell? ⟨w2.heap.size, 1, none⟩ = some (.int .u64 (wlo 2)) ∧ w'.cell? ⟨w4.heap.size, 0, none⟩ = some (.int .i64 (whi 4)) ∧ w'.cell? ⟨w4.heap.size, 1, none⟩ = some (.int .u64 (wlo 4)) ∧ w'.cell? ⟨w6.heap.size, 0, none⟩ = some (.int .i64 (whi (-4))) ∧ w'.cell? ⟨w6.heap.size, 1, none⟩ = some (.int .u64 (wlo (-4))))
    (first | (simp [go_sem, *]; done) | (simp (maxDischargeDepth := 9) [go_sem, *]; done))
    (first
      | (go_at_call 48; replace S11 := S11; refine (cmp_1_2 _).mono ?_; rintro e w12 ⟨rfl, hb12⟩; apply St.step (w0 := w) (hb := hb12); (focus (with_reducible repeat (first | exact S11.out | apply St.lay | apply St.drew | apply St.drewN))); intro S12; (try simp only [sz_alloc, sz_drew, sz_drewN] at S12); clear hb12 S11; (try clear C11); have C12 := S12.out.facts; simp only [facts, apart, cellsAt, Nat.zero_add, Nat.reduceAdd, and_true] at C12)
      | (go_at_call 23; replace S10 := S10; refine (wide_Of 2 (by decide) _).mono ?_; rintro e w11 ⟨rfl, hb11⟩; apply St.step (w0 := w) (hb := hb11); (focus (with_reducible repeat (first | exact S10.out | apply St.lay | apply St.drew | apply St.drewN))); intro S11; (try simp only [sz_alloc, sz_drew, sz_drewN] at S11); clear hb11 S10; (try clear C10); have C11 := S11.out.facts; simp only [facts, apart, cellsAt, Nat.zero_add, Nat.reduceAdd, and_true] at C11)
      | (go_at_call 23; replace S9 := S9; refine (wide_Of 1 (by decide) _).mono ?_; rintro e w10 ⟨rfl, hb10⟩; apply St.step (w0 := w) (hb := hb10); (focus (with_reducible repeat (first | exact S9.out | apply St.lay | apply St.drew | apply St.drewN))); intro S10; (try simp only [sz_alloc, sz_drew, sz_drewN] at S10); clear hb10 S9; (try clear C9); have C10 := S10.out.facts; simp only [facts, apart, cellsAt, Nat.zero_add, Nat.reduceAdd, and_true] at C10)
      | (go_at_call 23; replace S8 := S8; refine (wide_Of (-4) (by decide) _).mono ?_; rintro e w9 ⟨rfl, hb9⟩; apply St.step (w0 := w) (hb := hb9); (focus (with_reducible repeat (first | exact S8.out | apply St.lay | apply St.drew | apply St.drewN))); intro S9; (try simp only [sz_alloc, sz_drew, sz_drewN] at S9); clear hb9 S8; (try clear C8); have C9 := S9.out.facts; simp only [facts, apart, cellsAt, Nat.zero_add, Nat.reduceAdd, and_true] at C9)
      | (go_at_call 23; replace S7 := S7; refine (wide_Of 4 (by decide) _).mono ?_; rintro e w8 ⟨rfl, hb8⟩; apply St.step (w0 := w) (hb := hb8); (focus (with_reducible repeat (first | exact S7.out | apply St.lay | apply St.drew | apply St.drewN))); intro S8; (try simp only [sz_alloc, sz_drew, sz_drewN] at S8); clear hb8 S7; (try clear C7); have C8 := S8.out.facts; simp only [facts, apart, cellsAt, Nat.zero_add, Nat.reduceAdd, and_true] at C8)
      | (go_at_call 23; replace S6 := S6; refine (wide_Of 2 (by decide) _).mono ?_; rintro e w7 ⟨rfl, hb7⟩; apply St.step (w0 := w) (hb := hb7); (focus (with_reducible repeat (first | exact S6.out | apply St.lay | apply St.drew | apply St.drewN))); intro S7; (try simp only [sz_alloc, sz_drew, sz_drewN] at S7); clear hb7 S6; (try clear C6); have C7 := S7.out.facts; simp only [facts, apart, cellsAt, Nat.zero_add, Nat.reduceAdd, and_true] at C7))
  go_wp2
  have HBf := S12.out.bl
  go_ret
  exact ⟨rfl, (by repeat (first | exact Below.refl _ _ | assumption | refine bl_alloc ?_ _ | refine bl_drewN ?_ _ | refine bl_drew ?_ | refine bl_set ?_ (by first | (simp; done) | (simp; omega) | (dsimp only; omega)) _ | refine bl_then ?_ (by assumption)))⟩

set_option maxRecDepth 100000 in
set_option maxHeartbeats 4000000 in
theorem law_same (z g f : Int) (hG : fitW z = g) (hF : errW z = f) (A : Option Addr) (c : Nat) (hz : nd z ≤ 5000) (w : World) (h : RB w A c z) :
    Calls Tryd.prog 42 #[.agg #[.int .i64 (whi g), .int .u64 (wlo g)], .int .i64 f, .agg #[.bool (sg z), .slice A (nd z) c]] w fun e w' => e = .returned (.bool true) ∧ Below w.heap.size w w' := by
  subst hG
  subst hF
  have S0 := Asd.mk ((St.refl w).big h)
  clear h
  go_enter Tryd.func42, Tryd.ntmps42
  go_wp2_with (first
      | (go_at_call 17; replace S0 := S0; refine (ref_Wide z A c hz _ (by exact RB.below (S0.out.rb 0 rfl) (by with_reducible repeat (first | exact Below.refl _ _ | refine bl_alloc ?_ _ | refine bl_drewN ?_ _ | refine bl_drew ?_)))).mono ?_; rintro e w1 ⟨rfl, hb1⟩; apply St.step (w0 := w) (hb := hb1); (focus (with_reducible repeat (first | exact S0.out | apply St.lay | apply St.drew | apply St.drewN))); intro S1; (try simp only [sz_alloc, sz_drew, sz_drewN] at S1); clear hb1 S0; (try clear C0); have C1 := S1.out.facts; simp only [facts, apart, cellsAt, Nat.zero_add, Nat.reduceAdd, and_true] at C1))
  have HBf := S1.out.bl
  go_ret
  exact ⟨rfl, (by repeat (first | exact Below.refl _ _ | assumption | refine bl_alloc ?_ _ | refine bl_drewN ?_ _ | refine bl_drew ?_ | refine bl_set ?_ (by first | (simp; done) | (simp; omega) | (dsimp only; omega)) _ | refine bl_then ?_ (by assumption)))⟩
end Go.Proofs.YtgodfbhjfhdihaaDoor
