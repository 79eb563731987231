/- WideBack is proved: a product through one of its factors is the other one, with nothing left, and a sum without one of its parts is the other one; its condition: the package's variables none and least hold what their initialisers lay. -/
import Derived.Test.YtgodfbhjfhdihaaDoorLb
import Derived.Test.YtgodfbhjfhdihaaDoorLr
import Derived.Test.YtgodfbhjfhdihaaDoorLo
namespace Go.Proofs.YtgodfbhjfhdihaaDoor
open Go.RowKit Go.WideShapes Go.ChangeShapes
set_option linter.unusedSimpArgs false
set_option linter.unusedVariables false
attribute [local go_sem] nlt2 nlt3 nlt4 nlt5 nlt6 nlt7 nlt8 nlt9 nlt10 nlt11 nlt12
attribute [local go_sem] field_D

theorem fl_back (x y : Int) (hy : y ≠ 0) : fl (x * y) y = x := by
  unfold fl
  split
  · rw [show -(x * y) = x * -y by rw [Int.mul_neg]]; exact Int.mul_ediv_cancel _ (by omega)
  · exact Int.mul_ediv_cancel _ hy
theorem evP_back (x y : Int) (hy : 0 < y) : evP (x * y) y = x := by
  have h1 : (x * y) % y = 0 := Int.mul_emod_left _ _
  have h2 : (x * y) / y = x := Int.mul_ediv_cancel _ (by omega)
  unfold evP; rw [h1, h2, if_neg (by omega)]
theorem ev_back (x y : Int) (hy : y ≠ 0) : ev (x * y) y = x := by
  unfold ev
  split
  · rw [show -(x * y) = x * -y by rw [Int.mul_neg]]; exact evP_back _ _ (by omega)
  · exact evP_back _ _ (by omega)
theorem back_ok {x y : Int} (hx : I64 x) (hy : I64 y) (h0 : y ≠ 0) (q : Int) : quoV q (x * y) y = q ∧ quoE (x * y) y = 0 := by
  have hp := prod_bd hx hy
  rw [prod_abs] at hp
  have hn : ¬ (x * y = LW ∧ y = -1) := by unfold LW; omega
  simp [quoV, quoE, h0, hn]
theorem wide_Div_back (x y : Int) (hx : I64 x) (hy : I64 y) (h0 : y ≠ 0) (w : World) (hg : GN w) (hl : GL w) :
    Calls Tryd.prog 37 #[.agg #[.int .i64 (whi (x * y)), .int .u64 (wlo (x * y))], .int .i64 y] w fun e w' => e = .returned (.tuple #[.agg #[.int .i64 (whi x), .int .u64 (wlo x)], .int .i64 0]) ∧ Below w.heap.size w w' := by
  have h := wide_Div (x * y) y (prod_W128 hx hy) hy w hg hl
  rw [(back_ok hx hy h0 _).1, (back_ok hx hy h0 0).2, fl_back x y h0] at h; exact h
theorem wide_Even_back (x y : Int) (hx : I64 x) (hy : I64 y) (h0 : y ≠ 0) (w : World) (hg : GN w) (hl : GL w) :
    Calls Tryd.prog 38 #[.agg #[.int .i64 (whi (x * y)), .int .u64 (wlo (x * y))], .int .i64 y] w fun e w' => e = .returned (.tuple #[.agg #[.int .i64 (whi x), .int .u64 (wlo x)], .int .i64 0]) ∧ Below w.heap.size w w' := by
  have h := wide_Even (x * y) y (prod_W128 hx hy) hy w hg hl
  rw [(back_ok hx hy h0 _).1, (back_ok hx hy h0 0).2, ev_back x y h0] at h; exact h
theorem wide_Mul0 (x : Int) (hx : I64 x) (w : World) (hg : GN w) : Calls Tryd.prog 21 #[.int .i64 x, .int .i64 0] w fun e w' => e = .returned (.agg #[.int .i64 0, .int .u64 0]) ∧ Below w.heap.size w w' := by
  have h := wide_Mul x 0 hx (by decide) w hg
  rw [Int.mul_zero, whi0, wlo0] at h; exact h
theorem wide_Add_fits (a b : Int) (ha : W128 a) (hb : W128 b) (h : W128 (a + b)) (w : World) (hg : GN w) : Calls Tryd.prog 45 #[.agg #[.int .i64 (whi a), .int .u64 (wlo a)], .agg #[.int .i64 (whi b), .int .u64 (wlo b)]] w fun e w' => e = .returned (.tuple #[.agg #[.int .i64 (whi (a + b)), .int .u64 (wlo (a + b))], .int .i64 0]) ∧ Below w.heap.size w w' := by
  have k := wide_Add a b ha hb w hg
  rw [(fitW_of h).1, (fitW_of h).2] at k; exact k
theorem wide_Sub_back (a b : Int) (ha : W128 a) (hb : W128 b) (h : W128 (a + b)) (w : World) (hg : GN w) : Calls Tryd.prog 22 #[.agg #[.int .i64 (whi (a + b)), .int .u64 (wlo (a + b))], .agg #[.int .i64 (whi b), .int .u64 (wlo b)]] w fun e w' => e = .returned (.tuple #[.agg #[.int .i64 (whi a), .int .u64 (wlo a)], .int .i64 0]) ∧ Below w.heap.size w w' := by
  have k := wide_Sub (a + b) b h hb w hg
  rw [show a + b - b = a by omega, (fitW_of ha).1, (fitW_of ha).2] at k; exact k
theorem wide_Add_beyond (a b : Int) (ha : W128 a) (hb : W128 b) (h : ¬ W128 (a + b)) (w : World) (hg : GN w) : Calls Tryd.prog 45 #[.agg #[.int .i64 (whi a), .int .u64 (wlo a)], .agg #[.int .i64 (whi b), .int .u64 (wlo b)]] w fun e w' => e = .returned (.tuple #[.agg #[.int .i64 (whi 0), .int .u64 (wlo 0)], .int .i64 3]) ∧ Below w.heap.size w w' := by
  have k := wide_Add a b ha hb w hg
  rw [(fitW_not h).1, (fitW_not h).2] at k; exact k

set_option maxRecDepth 100000 in
set_option maxHeartbeats 8000000 in
theorem law_WideBack_00 (x y a b : Int) (hx : I64 x) (hy : I64 y) (ha : W128 a) (hb : W128 b) (hf : ¬ W128 (a + b)) (h0 : y ≠ 0) (w : World) (hg : GN w) (hl : GL w) :
    Calls Tryd.prog 14 #[.agg #[.int .i64 x, .int .i64 y], .agg #[.int .i64 (whi a), .int .u64 (wlo a)], .agg #[.int .i64 (whi b), .int .u64 (wlo b)]] w fun e w' => e = .returned (.bool true) ∧ Below w.heap.size w w' := by
  have HG := Asd.mk hg
  have HL := Asd.mk hl
  have HF := Asd.mk hf
  have S0 := Asd.mk (St.refl w)
  have H0 := Asd.mk h0
  have q : (y == 0) = false := beq_eq_false_iff_ne.2 h0
  clear h0
  clear hg hl hf
  go_enter Tryd.func14, Tryd.ntmps14
  go_wp2
  go_quiet (fail)
  go_wp2_with (first
      | (go_at_call 38; replace S4 := S4; refine (wide_Even_back x y hx hy H0.out _ (by exact HG.out.below (by with_reducible repeat (first | exact S4.out.bl | refine bl_alloc ?_ _ | refine bl_drewN ?_ _ | refine bl_drew ?_))) (by exact HL.out.below (by with_reducible repeat (first | exact S4.out.bl | refine bl_alloc ?_ _ | refine bl_drewN ?_ _ | refine bl_drew ?_)))).mono ?_; rintro e w5 ⟨rfl, hb5⟩; apply St.step (w0 := w) (hb := hb5); (focus (with_reducible repeat (first | exact S4.out | apply St.lay | apply St.drew | apply St.drewN))); intro S5; (try simp only [sz_alloc, sz_drew, sz_drewN] at S5); clear hb5 S4; (try clear C4); have C5 := S5.out.facts; simp only [facts, apart, cellsAt, Nat.zero_add, Nat.reduceAdd, and_true] at C5)
      | (go_at_call 37; replace S3 := S3; refine (wide_Div_back x y hx hy H0.out _ (by exact HG.out.below (by with_reducible repeat (first | exact S3.out.bl | refine bl_alloc ?_ _ | refine bl_drewN ?_ _ | refine bl_drew ?_))) (by exact HL.out.below (by with_reducible repeat (first | exact S3.out.bl | refine bl_alloc ?_ _ | refine bl_drewN ?_ _ | refine bl_drew ?_)))).mono ?_; rintro e w4 ⟨rfl, hb4⟩; apply St.step (w0 := w) (hb := hb4); (focus (with_reducible repeat (first | exact S3.out | apply St.lay | apply St.drew | apply St.drewN))); intro S4; (try simp only [sz_alloc, sz_drew, sz_drewN] at S4); clear hb4 S3; (try clear C3); have C4 := S4.out.facts; simp only [facts, apart, cellsAt, Nat.zero_add, Nat.reduceAdd, and_true] at C4)
      | (go_at_call 21; replace S2 := S2; refine (wide_Mul x y hx hy _ (by exact HG.out.below (by with_reducible repeat (first | exact S2.out.bl | refine bl_alloc ?_ _ | refine bl_drewN ?_ _ | refine bl_drew ?_)))).mono ?_; rintro e w3 ⟨rfl, hb3⟩; apply St.step (w0 := w) (hb := hb3); (focus (with_reducible repeat (first | exact S2.out | apply St.lay | apply St.drew | apply St.drewN))); intro S3; (try simp only [sz_alloc, sz_drew, sz_drewN] at S3); clear hb3 S2; (try clear C2); have C3 := S3.out.facts; simp only [facts, apart, cellsAt, Nat.zero_add, Nat.reduceAdd, and_true] at C3)
      | (go_at_call 22; replace S1 := S1; refine (wide_Sub 0 b (by decide) hb _ (by exact HG.out.below (by with_reducible repeat (first | exact S1.out.bl | refine bl_alloc ?_ _ | refine bl_drewN ?_ _ | refine bl_drew ?_)))).mono ?_; rintro e w2 ⟨rfl, hb2⟩; apply St.step (w0 := w) (hb := hb2); (focus (with_reducible repeat (first | exact S1.out | apply St.lay | apply St.drew | apply St.drewN))); intro S2; (try simp only [sz_alloc, sz_drew, sz_drewN] at S2); clear hb2 S1; (try clear C1); have C2 := S2.out.facts; simp only [facts, apart, cellsAt, Nat.zero_add, Nat.reduceAdd, and_true] at C2)
      | (go_at_call 45; replace S0 := S0; refine (wide_Add_beyond a b ha hb HF.out _ (by exact HG.out.below (by with_reducible repeat (first | exact S0.out.bl | refine bl_alloc ?_ _ | refine bl_drewN ?_ _ | refine bl_drew ?_)))).mono ?_; rintro e w1 ⟨rfl, hb1⟩; apply St.step (w0 := w) (hb := hb1); (focus (with_reducible repeat (first | exact S0.out | apply St.lay | apply St.drew | apply St.drewN))); intro S1; (try simp only [sz_alloc, sz_drew, sz_drewN] at S1); clear hb1 S0; (try clear C0); have C1 := S1.out.facts; simp only [facts, apart, cellsAt, Nat.zero_add, Nat.reduceAdd, and_true] at C1))
  go_region_held3 (fun w' => w'.cell? ⟨w4.heap.size, 0, none⟩ = some (.int .i64 (whi x)) ∧ w'.cell? ⟨w4.heap.size, 1, none⟩ = some (.int .u64 (wlo x)) ∧ w'.cell? ⟨w5.heap.size, 0, none⟩ = some (.int .i64 (whi x)) ∧ w'.cell? ⟨w5.heap.size, 1, none⟩ = some (.int .u64 (wlo x)))
    (first | (simp [go_sem, *]; done) | (simp (maxDischargeDepth := 9) [go_sem, *]; done))
    (first
      | (go_at_call 23; replace S6 := S6; refine (wide_Of x hx _).mono ?_; rintro e w7 ⟨rfl, hb7⟩; apply St.step (w0 := w) (hb := hb7); (focus (with_reducible repeat (first | exact S6.out | apply St.lay | apply St.drew | apply St.drewN))); intro S7; (try simp only [sz_alloc, sz_drew, sz_drewN] at S7); clear hb7 S6; (try clear C6); have C7 := S7.out.facts; simp only [facts, apart, cellsAt, Nat.zero_add, Nat.reduceAdd, and_true] at C7)
      | (go_at_call 39; replace S5 := S5; refine (law01_fixed _ (by exact HG.out.below (by with_reducible repeat (first | exact S5.out.bl | refine bl_alloc ?_ _ | refine bl_drewN ?_ _ | refine bl_drew ?_))) (by exact HL.out.below (by with_reducible repeat (first | exact S5.out.bl | refine bl_alloc ?_ _ | refine bl_drewN ?_ _ | refine bl_drew ?_)))).mono ?_; rintro e w6 ⟨rfl, hb6⟩; apply St.step (w0 := w) (hb := hb6); (focus (with_reducible repeat (first | exact S5.out | apply St.lay | apply St.drew | apply St.drewN))); intro S6; (try simp only [sz_alloc, sz_drew, sz_drewN] at S6); clear hb6 S5; (try clear C5); have C6 := S6.out.facts; simp only [facts, apart, cellsAt, Nat.zero_add, Nat.reduceAdd, and_true] at C6))
  go_wp2
  have HBf := S7.out.bl
  go_ret
  exact ⟨rfl, (by repeat (first | exact Below.refl _ _ | assumption | refine bl_alloc ?_ _ | refine bl_drewN ?_ _ | refine bl_drew ?_ | refine bl_set ?_ (by first | (simp; done) | (simp; omega) | (dsimp only; omega)) _ | refine bl_then ?_ (by assumption)))⟩

set_option maxRecDepth 100000 in
set_option maxHeartbeats 8000000 in
theorem law_WideBack_01 (x y a b : Int) (hx : I64 x) (hy : I64 y) (ha : W128 a) (hb : W128 b) (hf : ¬ W128 (a + b)) (h0 : y = 0) (w : World) (hg : GN w) (hl : GL w) :
    Calls Tryd.prog 14 #[.agg #[.int .i64 x, .int .i64 y], .agg #[.int .i64 (whi a), .int .u64 (wlo a)], .agg #[.int .i64 (whi b), .int .u64 (wlo b)]] w fun e w' => e = .returned (.bool true) ∧ Below w.heap.size w w' := by
  have HG := Asd.mk hg
  have HL := Asd.mk hl
  have HF := Asd.mk hf
  have S0 := Asd.mk (St.refl w)
  subst h0
  clear hg hl hf
  go_enter Tryd.func14, Tryd.ntmps14
  go_wp2
  go_quiet (fail)
  go_wp2_with (first
      | (go_at_call 21; replace S3 := S3; refine (wide_Mul0 x hx _ (by exact HG.out.below (by with_reducible repeat (first | exact S3.out.bl | refine bl_alloc ?_ _ | refine bl_drewN ?_ _ | refine bl_drew ?_)))).mono ?_; rintro e w4 ⟨rfl, hb4⟩; apply St.step (w0 := w) (hb := hb4); (focus (with_reducible repeat (first | exact S3.out | apply St.lay | apply St.drew | apply St.drewN))); intro S4; (try simp only [sz_alloc, sz_drew, sz_drewN] at S4); clear hb4 S3; (try clear C3); have C4 := S4.out.facts; simp only [facts, apart, cellsAt, Nat.zero_add, Nat.reduceAdd, and_true] at C4)
      | (go_at_call 39; replace S2 := S2; refine (law01_fixed _ (by exact HG.out.below (by with_reducible repeat (first | exact S2.out.bl | refine bl_alloc ?_ _ | refine bl_drewN ?_ _ | refine bl_drew ?_))) (by exact HL.out.below (by with_reducible repeat (first | exact S2.out.bl | refine bl_alloc ?_ _ | refine bl_drewN ?_ _ | refine bl_drew ?_)))).mono ?_; rintro e w3 ⟨rfl, hb3⟩; apply St.step (w0 := w) (hb := hb3); (focus (with_reducible repeat (first | exact S2.out | apply St.lay | apply St.drew | apply St.drewN))); intro S3; (try simp only [sz_alloc, sz_drew, sz_drewN] at S3); clear hb3 S2; (try clear C2); have C3 := S3.out.facts; simp only [facts, apart, cellsAt, Nat.zero_add, Nat.reduceAdd, and_true] at C3)
      | (go_at_call 22; replace S1 := S1; refine (wide_Sub 0 b (by decide) hb _ (by exact HG.out.below (by with_reducible repeat (first | exact S1.out.bl | refine bl_alloc ?_ _ | refine bl_drewN ?_ _ | refine bl_drew ?_)))).mono ?_; rintro e w2 ⟨rfl, hb2⟩; apply St.step (w0 := w) (hb := hb2); (focus (with_reducible repeat (first | exact S1.out | apply St.lay | apply St.drew | apply St.drewN))); intro S2; (try simp only [sz_alloc, sz_drew, sz_drewN] at S2); clear hb2 S1; (try clear C1); have C2 := S2.out.facts; simp only [facts, apart, cellsAt, Nat.zero_add, Nat.reduceAdd, and_true] at C2)
      | (go_at_call 45; replace S0 := S0; refine (wide_Add_beyond a b ha hb HF.out _ (by exact HG.out.below (by with_reducible repeat (first | exact S0.out.bl | refine bl_alloc ?_ _ | refine bl_drewN ?_ _ | refine bl_drew ?_)))).mono ?_; rintro e w1 ⟨rfl, hb1⟩; apply St.step (w0 := w) (hb := hb1); (focus (with_reducible repeat (first | exact S0.out | apply St.lay | apply St.drew | apply St.drewN))); intro S1; (try simp only [sz_alloc, sz_drew, sz_drewN] at S1); clear hb1 S0; (try clear C0); have C1 := S1.out.facts; simp only [facts, apart, cellsAt, Nat.zero_add, Nat.reduceAdd, and_true] at C1))
  have HBf := S4.out.bl
  go_ret
  exact ⟨rfl, (by repeat (first | exact Below.refl _ _ | assumption | refine bl_alloc ?_ _ | refine bl_drewN ?_ _ | refine bl_drew ?_ | refine bl_set ?_ (by first | (simp; done) | (simp; omega) | (dsimp only; omega)) _ | refine bl_then ?_ (by assumption)))⟩

set_option maxRecDepth 100000 in
set_option maxHeartbeats 8000000 in
theorem law_WideBack_10 (x y a b : Int) (hx : I64 x) (hy : I64 y) (ha : W128 a) (hb : W128 b) (hf : W128 (a + b)) (h0 : y ≠ 0) (w : World) (hg : GN w) (hl : GL w) :
    Calls Tryd.prog 14 #[.agg #[.int .i64 x, .int .i64 y], .agg #[.int .i64 (whi a), .int .u64 (wlo a)], .agg #[.int .i64 (whi b), .int .u64 (wlo b)]] w fun e w' => e = .returned (.bool true) ∧ Below w.heap.size w w' := by
  have HG := Asd.mk hg
  have HL := Asd.mk hl
  have HF := Asd.mk hf
  have S0 := Asd.mk (St.refl w)
  have H0 := Asd.mk h0
  have q : (y == 0) = false := beq_eq_false_iff_ne.2 h0
  clear h0
  clear hg hl hf
  go_enter Tryd.func14, Tryd.ntmps14
  go_wp2
  go_quiet (fail)
  go_wp2_with (first
      | (go_at_call 38; replace S4 := S4; refine (wide_Even_back x y hx hy H0.out _ (by exact HG.out.below (by with_reducible repeat (first | exact S4.out.bl | refine bl_alloc ?_ _ | refine bl_drewN ?_ _ | refine bl_drew ?_))) (by exact HL.out.below (by with_reducible repeat (first | exact S4.out.bl | refine bl_alloc ?_ _ | refine bl_drewN ?_ _ | refine bl_drew ?_)))).mono ?_; rintro e w5 ⟨rfl, hb5⟩; apply St.step (w0 := w) (hb := hb5); (focus (with_reducible repeat (first | exact S4.out | apply St.lay | apply St.drew | apply St.drewN))); intro S5; (try simp only [sz_alloc, sz_drew, sz_drewN] at S5); clear hb5 S4; (try clear C4); have C5 := S5.out.facts; simp only [facts, apart, cellsAt, Nat.zero_add, Nat.reduceAdd, and_true] at C5)
      | (go_at_call 37; replace S3 := S3; refine (wide_Div_back x y hx hy H0.out _ (by exact HG.out.below (by with_reducible repeat (first | exact S3.out.bl | refine bl_alloc ?_ _ | refine bl_drewN ?_ _ | refine bl_drew ?_))) (by exact HL.out.below (by with_reducible repeat (first | exact S3.out.bl | refine bl_alloc ?_ _ | refine bl_drewN ?_ _ | refine bl_drew ?_)))).mono ?_; rintro e w4 ⟨rfl, hb4⟩; apply St.step (w0 := w) (hb := hb4); (focus (with_reducible repeat (first | exact S3.out | apply St.lay | apply St.drew | apply St.drewN))); intro S4; (try simp only [sz_alloc, sz_drew, sz_drewN] at S4); clear hb4 S3; (try clear C3); have C4 := S4.out.facts; simp only [facts, apart, cellsAt, Nat.zero_add, Nat.reduceAdd, and_true] at C4)
      | (go_at_call 21; replace S2 := S2; refine (wide_Mul x y hx hy _ (by exact HG.out.below (by with_reducible repeat (first | exact S2.out.bl | refine bl_alloc ?_ _ | refine bl_drewN ?_ _ | refine bl_drew ?_)))).mono ?_; rintro e w3 ⟨rfl, hb3⟩; apply St.step (w0 := w) (hb := hb3); (focus (with_reducible repeat (first | exact S2.out | apply St.lay | apply St.drew | apply St.drewN))); intro S3; (try simp only [sz_alloc, sz_drew, sz_drewN] at S3); clear hb3 S2; (try clear C2); have C3 := S3.out.facts; simp only [facts, apart, cellsAt, Nat.zero_add, Nat.reduceAdd, and_true] at C3)
      | (go_at_call 22; replace S1 := S1; refine (wide_Sub_back a b ha hb HF.out _ (by exact HG.out.below (by with_reducible repeat (first | exact S1.out.bl | refine bl_alloc ?_ _ | refine bl_drewN ?_ _ | refine bl_drew ?_)))).mono ?_; rintro e w2 ⟨rfl, hb2⟩; apply St.step (w0 := w) (hb := hb2); (focus (with_reducible repeat (first | exact S1.out | apply St.lay | apply St.drew | apply St.drewN))); intro S2; (try simp only [sz_alloc, sz_drew, sz_drewN] at S2); clear hb2 S1; (try clear C1); have C2 := S2.out.facts; simp only [facts, apart, cellsAt, Nat.zero_add, Nat.reduceAdd, and_true] at C2)
      | (go_at_call 45; replace S0 := S0; refine (wide_Add_fits a b ha hb HF.out _ (by exact HG.out.below (by with_reducible repeat (first | exact S0.out.bl | refine bl_alloc ?_ _ | refine bl_drewN ?_ _ | refine bl_drew ?_)))).mono ?_; rintro e w1 ⟨rfl, hb1⟩; apply St.step (w0 := w) (hb := hb1); (focus (with_reducible repeat (first | exact S0.out | apply St.lay | apply St.drew | apply St.drewN))); intro S1; (try simp only [sz_alloc, sz_drew, sz_drewN] at S1); clear hb1 S0; (try clear C0); have C1 := S1.out.facts; simp only [facts, apart, cellsAt, Nat.zero_add, Nat.reduceAdd, and_true] at C1))
  go_region_held3 (fun w' => w'.cell? ⟨w4.heap.size, 0, none⟩ = some (.int .i64 (whi x)) ∧ w'.cell? ⟨w4.heap.size, 1, none⟩ = some (.int .u64 (wlo x)) ∧ w'.cell? ⟨w5.heap.size, 0, none⟩ = some (.int .i64 (whi x)) ∧ w'.cell? ⟨w5.heap.size, 1, none⟩ = some (.int .u64 (wlo x)))
    (first | (simp [go_sem, *]; done) | (simp (maxDischargeDepth := 9) [go_sem, *]; done))
    (first
      | (go_at_call 23; replace S6 := S6; refine (wide_Of x hx _).mono ?_; rintro e w7 ⟨rfl, hb7⟩; apply St.step (w0 := w) (hb := hb7); (focus (with_reducible repeat (first | exact S6.out | apply St.lay | apply St.drew | apply St.drewN))); intro S7; (try simp only [sz_alloc, sz_drew, sz_drewN] at S7); clear hb7 S6; (try clear C6); have C7 := S7.out.facts; simp only [facts, apart, cellsAt, Nat.zero_add, Nat.reduceAdd, and_true] at C7)
      | (go_at_call 39; replace S5 := S5; refine (law01_fixed _ (by exact HG.out.below (by with_reducible repeat (first | exact S5.out.bl | refine bl_alloc ?_ _ | refine bl_drewN ?_ _ | refine bl_drew ?_))) (by exact HL.out.below (by with_reducible repeat (first | exact S5.out.bl | refine bl_alloc ?_ _ | refine bl_drewN ?_ _ | refine bl_drew ?_)))).mono ?_; rintro e w6 ⟨rfl, hb6⟩; apply St.step (w0 := w) (hb := hb6); (focus (with_reducible repeat (first | exact S5.out | apply St.lay | apply St.drew | apply St.drewN))); intro S6; (try simp only [sz_alloc, sz_drew, sz_drewN] at S6); clear hb6 S5; (try clear C5); have C6 := S6.out.facts; simp only [facts, apart, cellsAt, Nat.zero_add, Nat.reduceAdd, and_true] at C6))
  go_wp2
  have HBf := S7.out.bl
  go_ret
  exact ⟨rfl, (by repeat (first | exact Below.refl _ _ | assumption | refine bl_alloc ?_ _ | refine bl_drewN ?_ _ | refine bl_drew ?_ | refine bl_set ?_ (by first | (simp; done) | (simp; omega) | (dsimp only; omega)) _ | refine bl_then ?_ (by assumption)))⟩

set_option maxRecDepth 100000 in
set_option maxHeartbeats 8000000 in
theorem law_WideBack_11 (x y a b : Int) (hx : I64 x) (hy : I64 y) (ha : W128 a) (hb : W128 b) (hf : W128 (a + b)) (h0 : y = 0) (w : World) (hg : GN w) (hl : GL w) :
    Calls Tryd.prog 14 #[.agg #[.int .i64 x, .int .i64 y], .agg #[.int .i64 (whi a), .int .u64 (wlo a)], .agg #[.int .i64 (whi b), .int .u64 (wlo b)]] w fun e w' => e = .returned (.bool true) ∧ Below w.heap.size w w' := by
  have HG := Asd.mk hg
  have HL := Asd.mk hl
  have HF := Asd.mk hf
  have S0 := Asd.mk (St.refl w)
  subst h0
  clear hg hl hf
  go_enter Tryd.func14, Tryd.ntmps14
  go_wp2
  go_quiet (fail)
  go_wp2_with (first
      | (go_at_call 21; replace S3 := S3; refine (wide_Mul0 x hx _ (by exact HG.out.below (by with_reducible repeat (first | exact S3.out.bl | refine bl_alloc ?_ _ | refine bl_drewN ?_ _ | refine bl_drew ?_)))).mono ?_; rintro e w4 ⟨rfl, hb4⟩; apply St.step (w0 := w) (hb := hb4); (focus (with_reducible repeat (first | exact S3.out | apply St.lay | apply St.drew | apply St.drewN))); intro S4; (try simp only [sz_alloc, sz_drew, sz_drewN] at S4); clear hb4 S3; (try clear C3); have C4 := S4.out.facts; simp only [facts, apart, cellsAt, Nat.zero_add, Nat.reduceAdd, and_true] at C4)
      | (go_at_call 39; replace S2 := S2; refine (law01_fixed _ (by exact HG.out.below (by with_reducible repeat (first | exact S2.out.bl | refine bl_alloc ?_ _ | refine bl_drewN ?_ _ | refine bl_drew ?_))) (by exact HL.out.below (by with_reducible repeat (first | exact S2.out.bl | refine bl_alloc ?_ _ | refine bl_drewN ?_ _ | refine bl_drew ?_)))).mono ?_; rintro e w3 ⟨rfl, hb3⟩; apply St.step (w0 := w) (hb := hb3); (focus (with_reducible repeat (first | exact S2.out | apply St.lay | apply St.drew | apply St.drewN))); intro S3; (try simp only [sz_alloc, sz_drew, sz_drewN] at S3); clear hb3 S2; (try clear C2); have C3 := S3.out.facts; simp only [facts, apart, cellsAt, Nat.zero_add, Nat.reduceAdd, and_true] at C3)
      | (go_at_call 22; replace S1 := S1; refine (wide_Sub_back a b ha hb HF.out _ (by exact HG.out.below (by with_reducible repeat (first | exact S1.out.bl | refine bl_alloc ?_ _ | refine bl_drewN ?_ _ | refine bl_drew ?_)))).mono ?_; rintro e w2 ⟨rfl, hb2⟩; apply St.step (w0 := w) (hb := hb2); (focus (with_reducible repeat (first | exact S1.out | apply St.lay | apply St.drew | apply St.drewN))); intro S2; (try simp only [sz_alloc, sz_drew, sz_drewN] at S2); clear hb2 S1; (try clear C1); have C2 := S2.out.facts; simp only [facts, apart, cellsAt, Nat.zero_add, Nat.reduceAdd, and_true] at C2)
      | (go_at_call 45; replace S0 := S0; refine (wide_Add_fits a b ha hb HF.out _ (by exact HG.out.below (by with_reducible repeat (first | exact S0.out.bl | refine bl_alloc ?_ _ | refine bl_drewN ?_ _ | refine bl_drew ?_)))).mono ?_; rintro e w1 ⟨rfl, hb1⟩; apply St.step (w0 := w) (hb := hb1); (focus (with_reducible repeat (first | exact S0.out | apply St.lay | apply St.drew | apply St.drewN))); intro S1; (try simp only [sz_alloc, sz_drew, sz_drewN] at S1); clear hb1 S0; (try clear C0); have C1 := S1.out.facts; simp only [facts, apart, cellsAt, Nat.zero_add, Nat.reduceAdd, and_true] at C1))
  have HBf := S4.out.bl
  go_ret
  exact ⟨rfl, (by repeat (first | exact Below.refl _ _ | assumption | refine bl_alloc ?_ _ | refine bl_drewN ?_ _ | refine bl_drew ?_ | refine bl_set ?_ (by first | (simp; done) | (simp; omega) | (dsimp only; omega)) _ | refine bl_then ?_ (by assumption)))⟩
theorem law_WideBack (x y a b : Int) (hx : I64 x) (hy : I64 y) (ha : W128 a) (hb : W128 b) (w : World) (hg : GN w) (hl : GL w) :
    Calls Tryd.prog 14 #[.agg #[.int .i64 x, .int .i64 y], .agg #[.int .i64 (whi a), .int .u64 (wlo a)], .agg #[.int .i64 (whi b), .int .u64 (wlo b)]] w fun e w' => e = .returned (.bool true) ∧ Below w.heap.size w w' := by
  by_cases hf : W128 (a + b) <;> by_cases h0 : y = 0
  · exact law_WideBack_11 x y a b hx hy ha hb hf h0 w hg hl
  · exact law_WideBack_10 x y a b hx hy ha hb hf h0 w hg hl
  · exact law_WideBack_01 x y a b hx hy ha hb hf h0 w hg hl
  · exact law_WideBack_00 x y a b hx hy ha hb hf h0 w hg hl

namespace wideBack
theorem reads (os : Os) {H : Type} (enc : TypeId × Value → H) : ∃ places, DataW.whole enc Tryd.prog ((World.doorLaid Tryd.prog 400 os).forCall (fun _ _ => 0) ⟨#[], #[.agg #[.int .i64 0, .int .i64 0], .agg #[.int .i64 0, .int .u64 0], .agg #[.int .i64 0, .int .u64 0]], []⟩).memory Tryd.f14.params.toList Rows.wideBackSpec.vars false #[.agg #[.int .i64 0, .int .i64 0], .agg #[.int .i64 0, .int .u64 0], .agg #[.int .i64 0, .int .u64 0]].toList 8 = some ([.agg [.lit (.int .i64 0), .lit (.int .i64 0)], .agg [.lit (.int .i64 0), .lit (.int .u64 0)], .agg [.lit (.int .i64 0), .lit (.int .u64 0)]], [], places) :=
  ⟨[], by kernel_rfl⟩
theorem laid_met (os : Os) : laidMet Tryd.prog Rows.wideBackRow.laid ((World.doorLaid Tryd.prog 400 os).forCall (fun _ _ => 0) ⟨#[], #[.agg #[.int .i64 0, .int .i64 0], .agg #[.int .i64 0, .int .u64 0], .agg #[.int .i64 0, .int .u64 0]], []⟩).memory :=
  laidMet_of_run' 8 (by kernel_rfl) (by kernel_rfl)
set_option maxRecDepth 100000 in
theorem lifted (os : Os) (started : os.Started) (H : Type) (enc : TypeId × Value → H) (F : Stop.Interp) :
    ReturnsInHanded {} Tryd.checked os 14 .any ((OpenSpec.ofChange Rows.wideBackSpec).preRow enc Tryd.prog Tryd.f14 Rows.wideBackRow.domain false Rows.wideBackRow.laid) (((OpenSpec.ofChange Rows.wideBackSpec).at F).post enc Tryd.prog Tryd.f14 false true false false) := by
  obtain ⟨places, hx⟩ := reads os enc
  refine returnsInHanded_of_row (C := Tryd.checked) (s := OpenSpec.ofChange Rows.wideBackSpec) own started (by kernel_rfl) Tryd.func14
    (witness_row_at (enc := enc) (C := Tryd.checked) false (World.doorLaid Tryd.prog 400 os) #[.agg #[.int .i64 0, .int .i64 0], .agg #[.int .i64 0, .int .u64 0], .agg #[.int .i64 0, .int .u64 0]] rfl (by kernel_rfl) (by kernel_rfl) (by kernel_rfl)
      (OpenSpec.preRow_of_cond 8 hx (by kernel_rfl) (fun k hk => by cases hk) (by kernel_rfl) (laid_met os))) ?_
  intro W base args ds gs before hval hW _ _ _ hL _ _
  have hW' := hW
  obtain ⟨p, q, hA0, hV, rfl, hfz, hnd⟩ := hW
  have hA : DataW.TrodAll enc Tryd.prog W 0 (fun _ => true) true Tryd.f14.params.toList args.toList ds p := hA0
  rw [Tryd.params14] at hA hval
  obtain ⟨v0, v1, v2, d0, d1, d2, p0, p1, p2, rfl, rfl, rfl, h0, h1, h2⟩ := trodAll_three hA
  obtain ⟨x, y, hx, hy, rfl⟩ := open_two (hval 0 _ v0 rfl rfl) h0
  obtain ⟨a, ha, rfl⟩ := open_wide (hval 1 _ v1 rfl rfl) h1
  obtain ⟨b, hb, rfl⟩ := open_wide (hval 2 _ v2 rfl rfl) h2
  obtain ⟨rfl, rfl⟩ := trodVars_none hV
  have hg := laid_GN (L := Rows.wideBackRow.laid) hL (List.Mem.head _)
  have hl := laid_GL (L := Rows.wideBackRow.laid) hL (List.Mem.tail _ (List.Mem.head _))
  refine (law_WideBack x y a b hx hy ha hb W hg hl).mono ?_
  rintro e W' ⟨rfl, hbel⟩
  exact ⟨_, rfl, law_post hW' rfl rfl rfl rfl (by kernel_rfl) Tryd.underlying4 law_laidOut (by kernel_rfl) hbel⟩
theorem said : Rows.WideBackSaid :=
  OpenClaim.holds_of_cond 14 Tryd.f14 rfl rfl rfl rfl rfl rfl rfl ⟨rfl, rfl, rfl, rfl, rfl⟩ rfl rfl rfl rfl rfl (by kernel_rfl) Tryd.func14 (by kernel_rfl)
    (of_decide_eq_true (by kernel_rfl)) (by unfold Func.isWrapper; first | (rw [if_pos (by decide +kernel)]; kernel_rfl) | (rw [if_neg (by decide +kernel)]; exact ⟨rfl, rfl⟩))
    (fun os started H enc _ F => by rw [OpenClaim.pre_eq_preRow]; exact lifted os started H enc F)
theorem plain (f : FuncId) (fn : Func) (hf : Tryd.pinned.checked.prog.funcNamed "aneroid/aneroidlaw01.WideBack" = some f) (hfn : Tryd.pinned.checked.prog.funcs[f]? = some fn) :
    false = Tryd.pinned.checked.prog.looks [] ∧ ∀ (j : Nat) t, fn.params[j]? = some t → Tryd.pinned.checked.prog.wantsStandIn t = false := by
  obtain rfl : f = 14 := Option.some.inj ((show Tryd.prog.funcNamed "aneroid/aneroidlaw01.WideBack" = some 14 by kernel_rfl).symm.trans hf) |>.symm
  obtain rfl : fn = Tryd.f14 := (Option.some.inj (Tryd.func14.symm.trans hfn)).symm
  refine ⟨by kernel_rfl, fun j t ht => ?_⟩
  have hall : (Tryd.f14.params.all fun t => !Tryd.prog.wantsStandIn t) = true := by kernel_rfl
  exact Bool.not_eq_true' _ ▸ (Array.all_eq_true_iff_forall_mem.1 hall) t (Array.mem_of_getElem? ht)
/-- The card. -/
theorem card : Rows.WideBackCardSaid :=
  Claim7.holds_tied_plain_at .later [] _ _ _ _ said (fun _ h => by cases h) (by kernel_rfl) (fun _ h => by cases h) wideBack_row_tie rfl ⟨rfl, rfl⟩ (by kernel_rfl) rfl plain (by kernel_rfl)
end wideBack
end Go.Proofs.YtgodfbhjfhdihaaDoor
