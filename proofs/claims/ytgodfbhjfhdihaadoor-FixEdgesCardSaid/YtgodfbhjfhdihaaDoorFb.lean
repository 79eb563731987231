/- Walks of layer 2 (fix): products and quotients. -/
import Derived.Test.YtgodfbhjfhdihaaDoorFa
import Derived.Test.YtgodfbhjfhdihaaDoorSu
namespace Go.Proofs.YtgodfbhjfhdihaaDoor
open Go.RowKit
set_option linter.unusedSimpArgs false
set_option linter.unusedVariables false
attribute [local go_sem] nlt2 nlt3 nlt4 nlt5 nlt6 nlt7 nlt8 nlt9 nlt10 nlt11 nlt12

set_option maxRecDepth 100000 in
set_option maxHeartbeats 2000000 in
theorem fix_Mul1 (a b : Int) (ha : I64 a) (hb : I64 b) (w : World) (hg : GN w) :
    Calls Tryd.prog 85 #[.int .i64 a, .int .i64 b] w fun e w' => e = .returned (.tuple #[.agg #[.int .i64 (whi (mulZ a b)), .int .u64 (wlo (mulZ a b))], .int .i64 0]) ∧ Below w.heap.size w w' := by
  have HG := Asd.mk hg
  have S0 := Asd.mk (St.refl w)
  have HP := Asd.mk (prod_W128 ha hb)
  clear hg
  go_enter Tryd.func85, Tryd.ntmps85
  go_wp2_with (first
      | (go_at_call 51; replace S1 := S1; refine (wide_Half_loop (a * b) 40 (by decide) HP.out _).mono ?_; rintro e w2 ⟨rfl, hb2⟩; apply St.step (w0 := w) (hb := hb2); (focus (with_reducible repeat (first | exact S1.out | apply St.lay | apply St.drew | apply St.drewN))); intro S2; (try simp only [sz_alloc, sz_drew, sz_drewN] at S2); clear hb2 S1; (try clear C1); have C2 := S2.out.facts; simp only [facts, apart, cellsAt, Nat.zero_add, Nat.reduceAdd, and_true] at C2)
      | (go_at_call 21; replace S0 := S0; refine (wide_Mul a b ha hb _ (by exact HG.out.below (by with_reducible repeat (first | exact S0.out.bl | refine bl_alloc ?_ _ | refine bl_drewN ?_ _ | refine bl_drew ?_)))).mono ?_; rintro e w1 ⟨rfl, hb1⟩; apply St.step (w0 := w) (hb := hb1); (focus (with_reducible repeat (first | exact S0.out | apply St.lay | apply St.drew | apply St.drewN))); intro S1; (try simp only [sz_alloc, sz_drew, sz_drewN] at S1); clear hb1 S0; (try clear C0); have C1 := S1.out.facts; simp only [facts, apart, cellsAt, Nat.zero_add, Nat.reduceAdd, and_true] at C1))
  have HBf := S2.out.bl
  have hlow := S2.out.lows
  simp only [low, and_true] at hlow
  refine bodyPost_ret (v := .tuple #[.agg #[.int .i64 (whi (mulZ a b)), .int .u64 (wlo (mulZ a b))], .int .i64 0]) (by simp (maxDischargeDepth := 9) [results, Tryd.results85, go_sem, *]; exact ⟨rfl, rfl⟩) rfl ⟨rfl, (by repeat (first | exact Below.refl _ _ | assumption | refine bl_alloc ?_ _ | refine bl_drewN ?_ _ | refine bl_drew ?_ | refine bl_set ?_ (by first | (simp; done) | (simp; omega) | (dsimp only; omega)) _ | refine bl_then ?_ (by assumption)))⟩

theorem divZ_fits {a b : Int} (h : fitB a = true) (hb : b ≠ 0) : W128 (divZ a b) := by
  have k := fitB_true.1 h
  exact ev_W128 (up_40 h) hb (by rw [pow2_40]; unfold LW; omega)
theorem wide_Up_40 (a : Int) (h : fitB a = true) (w : World) (hg : GN w) : Calls Tryd.prog 50 #[.agg #[.int .i64 (whi a), .int .u64 (wlo a)], .int .i64 40] w fun e w' => e = .returned (.tuple #[.agg #[.int .i64 (whi (a * pow2 40)), .int .u64 (wlo (a * pow2 40))], .int .i64 0]) ∧ Below w.heap.size w w' := by
  have k := wide_Up_loop a 40 (by decide) (i64_W128 (fitB_i64 h)) w hg
  have e : up a 40 = a * pow2 40 := rfl
  rw [e, (fitW_of (up_40 h)).1, (fitW_of (up_40 h)).2] at k; exact k
theorem wide_Even_div (a b : Int) (h : fitB a = true) (hb : I64 b) (h0 : b ≠ 0) (w : World) (hg : GN w) (hl : GL w) :
    Calls Tryd.prog 38 #[.agg #[.int .i64 (whi (a * pow2 40)), .int .u64 (wlo (a * pow2 40))], .int .i64 b] w fun e w' => e = .returned (.tuple #[.agg #[.int .i64 (whi (divZ a b)), .int .u64 (wlo (divZ a b))], .int .i64 0]) ∧ Below w.heap.size w w' := by
  have k := wide_Even (a * pow2 40) b (up_40 h) hb w hg hl
  have hk := fitB_true.1 h
  have hn : ¬ (a * pow2 40 = LW ∧ b = -1) := by rw [pow2_40]; unfold LW; omega
  have e : quoV (ev (a * pow2 40) b) (a * pow2 40) b = divZ a b ∧ quoE (a * pow2 40) b = 0 := by unfold quoV quoE; rw [if_neg h0, if_neg hn, if_neg h0, if_neg hn]; exact ⟨rfl, rfl⟩
  rw [e.1, e.2] at k; exact k
theorem wide_Even_div0 (a : Int) (h : fitB a = true) (w : World) (hg : GN w) (hl : GL w) :
    Calls Tryd.prog 38 #[.agg #[.int .i64 (whi (a * pow2 40)), .int .u64 (wlo (a * pow2 40))], .int .i64 0] w fun e w' => e = .returned (.tuple #[.agg #[.int .i64 (whi 0), .int .u64 (wlo 0)], .int .i64 4]) ∧ Below w.heap.size w w' := by
  have k := wide_Even (a * pow2 40) 0 (up_40 h) (by decide) w hg hl
  simp only [quoV, quoE, if_true] at k; exact k
set_option maxRecDepth 100000 in
set_option maxHeartbeats 2000000 in
theorem fix_Div1 (a : Int) (h : fitB a = true) (b : Int) (hb : I64 b) (h0 : b ≠ 0) (w : World) (hg : GN w) (hl : GL w) :
    Calls Tryd.prog 86 #[.int .i64 a, .int .i64 b] w fun e w' => e = .returned (.tuple #[.agg #[.int .i64 (whi (divZ a b)), .int .u64 (wlo (divZ a b))], .int .i64 0]) ∧ Below w.heap.size w w' := by
  have HG := Asd.mk hg
  have HL := Asd.mk hl
  have HI := Asd.mk (fitB_i64 h)
  have S0 := Asd.mk (St.refl w)
  clear hg hl
  go_enter Tryd.func86, Tryd.ntmps86
  go_wp2_with (first
      | (go_at_call 38; replace S2 := S2; refine (wide_Even_div a b h hb h0 _ (by exact HG.out.below (by with_reducible repeat (first | exact S2.out.bl | refine bl_alloc ?_ _ | refine bl_drewN ?_ _ | refine bl_drew ?_))) (by exact HL.out.below (by with_reducible repeat (first | exact S2.out.bl | refine bl_alloc ?_ _ | refine bl_drewN ?_ _ | refine bl_drew ?_)))).mono ?_; rintro e w3 ⟨rfl, hb3⟩; apply St.step (w0 := w) (hb := hb3); (focus (with_reducible repeat (first | exact S2.out | apply St.lay | apply St.drew | apply St.drewN))); intro S3; (try simp only [sz_alloc, sz_drew, sz_drewN] at S3); clear hb3 S2; (try clear C2); have C3 := S3.out.facts; simp only [facts, apart, cellsAt, Nat.zero_add, Nat.reduceAdd, and_true] at C3)
      | (go_at_call 50; replace S1 := S1; refine (wide_Up_40 a h _ (by exact HG.out.below (by with_reducible repeat (first | exact S1.out.bl | refine bl_alloc ?_ _ | refine bl_drewN ?_ _ | refine bl_drew ?_)))).mono ?_; rintro e w2 ⟨rfl, hb2⟩; apply St.step (w0 := w) (hb := hb2); (focus (with_reducible repeat (first | exact S1.out | apply St.lay | apply St.drew | apply St.drewN))); intro S2; (try simp only [sz_alloc, sz_drew, sz_drewN] at S2); clear hb2 S1; (try clear C1); have C2 := S2.out.facts; simp only [facts, apart, cellsAt, Nat.zero_add, Nat.reduceAdd, and_true] at C2)
      | (go_at_call 23; replace S0 := S0; refine (wide_Of a HI.out _).mono ?_; rintro e w1 ⟨rfl, hb1⟩; apply St.step (w0 := w) (hb := hb1); (focus (with_reducible repeat (first | exact S0.out | apply St.lay | apply St.drew | apply St.drewN))); intro S1; (try simp only [sz_alloc, sz_drew, sz_drewN] at S1); clear hb1 S0; (try clear C0); have C1 := S1.out.facts; simp only [facts, apart, cellsAt, Nat.zero_add, Nat.reduceAdd, and_true] at C1))
  have HBf := S3.out.bl
  have hlow := S3.out.lows
  simp only [low, and_true] at hlow
  refine bodyPost_ret (v := .tuple #[.agg #[.int .i64 (whi (divZ a b)), .int .u64 (wlo (divZ a b))], .int .i64 0]) (by simp (maxDischargeDepth := 9) [results, Tryd.results86, go_sem, *]) rfl ⟨rfl, (by repeat (first | exact Below.refl _ _ | assumption | refine bl_alloc ?_ _ | refine bl_drewN ?_ _ | refine bl_drew ?_ | refine bl_set ?_ (by first | (simp; done) | (simp; omega) | (dsimp only; omega)) _ | refine bl_then ?_ (by assumption)))⟩
set_option maxRecDepth 100000 in
set_option maxHeartbeats 2000000 in
theorem fix_Div10 (a : Int) (h : fitB a = true)  (w : World) (hg : GN w) (hl : GL w) :
    Calls Tryd.prog 86 #[.int .i64 a, .int .i64 0] w fun e w' => e = .returned (.tuple #[.agg #[.int .i64 (whi 0), .int .u64 (wlo 0)], .int .i64 4]) ∧ Below w.heap.size w w' := by
  have HG := Asd.mk hg
  have HL := Asd.mk hl
  have HI := Asd.mk (fitB_i64 h)
  have S0 := Asd.mk (St.refl w)
  clear hg hl
  go_enter Tryd.func86, Tryd.ntmps86
  go_wp2_with (first
      | (go_at_call 38; replace S2 := S2; refine (wide_Even_div0 a h _ (by exact HG.out.below (by with_reducible repeat (first | exact S2.out.bl | refine bl_alloc ?_ _ | refine bl_drewN ?_ _ | refine bl_drew ?_))) (by exact HL.out.below (by with_reducible repeat (first | exact S2.out.bl | refine bl_alloc ?_ _ | refine bl_drewN ?_ _ | refine bl_drew ?_)))).mono ?_; rintro e w3 ⟨rfl, hb3⟩; apply St.step (w0 := w) (hb := hb3); (focus (with_reducible repeat (first | exact S2.out | apply St.lay | apply St.drew | apply St.drewN))); intro S3; (try simp only [sz_alloc, sz_drew, sz_drewN] at S3); clear hb3 S2; (try clear C2); have C3 := S3.out.facts; simp only [facts, apart, cellsAt, Nat.zero_add, Nat.reduceAdd, and_true] at C3)
      | (go_at_call 50; replace S1 := S1; refine (wide_Up_40 a h _ (by exact HG.out.below (by with_reducible repeat (first | exact S1.out.bl | refine bl_alloc ?_ _ | refine bl_drewN ?_ _ | refine bl_drew ?_)))).mono ?_; rintro e w2 ⟨rfl, hb2⟩; apply St.step (w0 := w) (hb := hb2); (focus (with_reducible repeat (first | exact S1.out | apply St.lay | apply St.drew | apply St.drewN))); intro S2; (try simp only [sz_alloc, sz_drew, sz_drewN] at S2); clear hb2 S1; (try clear C1); have C2 := S2.out.facts; simp only [facts, apart, cellsAt, Nat.zero_add, Nat.reduceAdd, and_true] at C2)
      | (go_at_call 23; replace S0 := S0; refine (wide_Of a HI.out _).mono ?_; rintro e w1 ⟨rfl, hb1⟩; apply St.step (w0 := w) (hb := hb1); (focus (with_reducible repeat (first | exact S0.out | apply St.lay | apply St.drew | apply St.drewN))); intro S1; (try simp only [sz_alloc, sz_drew, sz_drewN] at S1); clear hb1 S0; (try clear C0); have C1 := S1.out.facts; simp only [facts, apart, cellsAt, Nat.zero_add, Nat.reduceAdd, and_true] at C1))
  have HBf := S3.out.bl
  have hlow := S3.out.lows
  simp only [low, and_true] at hlow
  refine bodyPost_ret (v := .tuple #[.agg #[.int .i64 (whi 0), .int .u64 (wlo 0)], .int .i64 4]) (by simp (maxDischargeDepth := 9) [results, Tryd.results86, go_sem, *]) rfl ⟨rfl, (by repeat (first | exact Below.refl _ _ | assumption | refine bl_alloc ?_ _ | refine bl_drewN ?_ _ | refine bl_drew ?_ | refine bl_set ?_ (by first | (simp; done) | (simp; omega) | (dsimp only; omega)) _ | refine bl_then ?_ (by assumption)))⟩
theorem int_ok {z : Int} (h : fitB z = true) : fitI z = z ∧ errI z = 0 := by have := fitB_i64 h; simp [fitI, errI, this]
theorem int_big {z : Int} (h : ¬ I64 z) : fitI z = 0 ∧ errI z = 3 := by simp [fitI, errI, h]
theorem int_mid {z : Int} (h : I64 z) : fitI z = z ∧ errI z = 0 := by simp [fitI, errI, h]
set_option maxRecDepth 100000 in
set_option maxHeartbeats 4000000 in
theorem fix_bothMul (a b : Int) (w : World) (hg : GN w) : Calls Tryd.prog 84 #[.int .i64 a, .int .i64 b, .func (.func 85) #[] #[], .func (.func 54) #[] #[]] w fun e w' => e = .returned (.tuple #[.int .i64 (bothV a b (mulZ a b)), .int .i64 (bothE a b (mulZ a b))]) ∧ Below w.heap.size w w' := by
  have HG := Asd.mk hg
  have S0 := Asd.mk (St.refl w)
  clear hg
  cases h1 : fitB a
  · rw [(both_no1 h1).1, (both_no1 h1).2]
    go_enter Tryd.func84, Tryd.ntmps84
    go_wp2_with (go_at_call 29; refine (fix_Fits _ _).mono ?_; rintro e w' ⟨rfl, rfl⟩)
    go_ret2
    exact ⟨rfl, (by repeat (first | exact Below.refl _ _ | assumption | refine bl_alloc ?_ _ | refine bl_drewN ?_ _ | refine bl_drew ?_ | refine bl_set ?_ (by first | (simp; done) | (simp; omega) | (dsimp only; omega)) _ | refine bl_then ?_ (by assumption)))⟩
  · cases h2 : fitB b
    · rw [(both_no2 h2).1, (both_no2 h2).2]
      go_enter Tryd.func84, Tryd.ntmps84
      go_wp2_with (go_at_call 29; refine (fix_Fits _ _).mono ?_; rintro e w' ⟨rfl, rfl⟩)
      go_ret2
      exact ⟨rfl, (by repeat (first | exact Below.refl _ _ | assumption | refine bl_alloc ?_ _ | refine bl_drewN ?_ _ | refine bl_drew ?_ | refine bl_set ?_ (by first | (simp; done) | (simp; omega) | (dsimp only; omega)) _ | refine bl_then ?_ (by assumption)))⟩
    · rw [(both_yes h1 h2).1, (both_yes h1 h2).2]
      have HA := Asd.mk (fitB_i64 h1)
      have HB := Asd.mk (fitB_i64 h2)
      cases h3 : fitB (mulZ a b)
      · rw [(to_not h3).1, (to_not h3).2]
        by_cases h4 : I64 (mulZ a b)
        · have HZ := Asd.mk (int_mid h4)
          clear h4
          go_enter Tryd.func84, Tryd.ntmps84
          go_wp2_with (first
          | (go_at_call 54; replace S1 := S1; refine (wide_Int (mulZ a b) _).mono ?_; rintro e w2 ⟨rfl, hb2⟩; rw [HZ.out.1, HZ.out.2]; apply St.step (w0 := w) (hb := hb2); (focus (with_reducible repeat (first | exact S1.out | apply St.lay | apply St.drew | apply St.drewN))); intro S2; (try simp only [sz_alloc, sz_drew, sz_drewN] at S2); clear hb2 S1; (try clear C1); have C2 := S2.out.facts; simp only [facts, apart, cellsAt, Nat.zero_add, Nat.reduceAdd, and_true] at C2)
          | (go_at_call 85; replace S0 := S0; refine (fix_Mul1 a b HA.out HB.out _ (by exact HG.out.below (by with_reducible repeat (first | exact S0.out.bl | refine bl_alloc ?_ _ | refine bl_drewN ?_ _ | refine bl_drew ?_)))).mono ?_; rintro e w1 ⟨rfl, hb1⟩; apply St.step (w0 := w) (hb := hb1); (focus (with_reducible repeat (first | exact S0.out | apply St.lay | apply St.drew | apply St.drewN))); intro S1; (try simp only [sz_alloc, sz_drew, sz_drewN] at S1); clear hb1 S0; (try clear C0); have C1 := S1.out.facts; simp only [facts, apart, cellsAt, Nat.zero_add, Nat.reduceAdd, and_true] at C1)
          | (go_at_call 29; refine (fix_Fits _ _).mono ?_; rintro e w' ⟨rfl, rfl⟩))
          have HBf := S2.out.bl
          go_ret2
          exact ⟨rfl, (by repeat (first | exact Below.refl _ _ | assumption | refine bl_alloc ?_ _ | refine bl_drewN ?_ _ | refine bl_drew ?_ | refine bl_set ?_ (by first | (simp; done) | (simp; omega) | (dsimp only; omega)) _ | refine bl_then ?_ (by assumption)))⟩
        · have HZ := Asd.mk (int_big h4)
          clear h4
          go_enter Tryd.func84, Tryd.ntmps84
          go_wp2_with (first
          | (go_at_call 54; replace S1 := S1; refine (wide_Int (mulZ a b) _).mono ?_; rintro e w2 ⟨rfl, hb2⟩; rw [HZ.out.1, HZ.out.2]; apply St.step (w0 := w) (hb := hb2); (focus (with_reducible repeat (first | exact S1.out | apply St.lay | apply St.drew | apply St.drewN))); intro S2; (try simp only [sz_alloc, sz_drew, sz_drewN] at S2); clear hb2 S1; (try clear C1); have C2 := S2.out.facts; simp only [facts, apart, cellsAt, Nat.zero_add, Nat.reduceAdd, and_true] at C2)
          | (go_at_call 85; replace S0 := S0; refine (fix_Mul1 a b HA.out HB.out _ (by exact HG.out.below (by with_reducible repeat (first | exact S0.out.bl | refine bl_alloc ?_ _ | refine bl_drewN ?_ _ | refine bl_drew ?_)))).mono ?_; rintro e w1 ⟨rfl, hb1⟩; apply St.step (w0 := w) (hb := hb1); (focus (with_reducible repeat (first | exact S0.out | apply St.lay | apply St.drew | apply St.drewN))); intro S1; (try simp only [sz_alloc, sz_drew, sz_drewN] at S1); clear hb1 S0; (try clear C0); have C1 := S1.out.facts; simp only [facts, apart, cellsAt, Nat.zero_add, Nat.reduceAdd, and_true] at C1)
          | (go_at_call 29; refine (fix_Fits _ _).mono ?_; rintro e w' ⟨rfl, rfl⟩))
          have HBf := S2.out.bl
          go_ret2
          exact ⟨rfl, (by repeat (first | exact Below.refl _ _ | assumption | refine bl_alloc ?_ _ | refine bl_drewN ?_ _ | refine bl_drew ?_ | refine bl_set ?_ (by first | (simp; done) | (simp; omega) | (dsimp only; omega)) _ | refine bl_then ?_ (by assumption)))⟩
      · rw [(to_fit h3).1, (to_fit h3).2]
        have HZ := Asd.mk (int_ok h3)
        go_enter Tryd.func84, Tryd.ntmps84
        go_wp2_with (first
        | (go_at_call 54; replace S1 := S1; refine (wide_Int (mulZ a b) _).mono ?_; rintro e w2 ⟨rfl, hb2⟩; rw [HZ.out.1, HZ.out.2]; apply St.step (w0 := w) (hb := hb2); (focus (with_reducible repeat (first | exact S1.out | apply St.lay | apply St.drew | apply St.drewN))); intro S2; (try simp only [sz_alloc, sz_drew, sz_drewN] at S2); clear hb2 S1; (try clear C1); have C2 := S2.out.facts; simp only [facts, apart, cellsAt, Nat.zero_add, Nat.reduceAdd, and_true] at C2)
        | (go_at_call 85; replace S0 := S0; refine (fix_Mul1 a b HA.out HB.out _ (by exact HG.out.below (by with_reducible repeat (first | exact S0.out.bl | refine bl_alloc ?_ _ | refine bl_drewN ?_ _ | refine bl_drew ?_)))).mono ?_; rintro e w1 ⟨rfl, hb1⟩; apply St.step (w0 := w) (hb := hb1); (focus (with_reducible repeat (first | exact S0.out | apply St.lay | apply St.drew | apply St.drewN))); intro S1; (try simp only [sz_alloc, sz_drew, sz_drewN] at S1); clear hb1 S0; (try clear C0); have C1 := S1.out.facts; simp only [facts, apart, cellsAt, Nat.zero_add, Nat.reduceAdd, and_true] at C1)
        | (go_at_call 29; refine (fix_Fits _ _).mono ?_; rintro e w' ⟨rfl, rfl⟩))
        have HBf := S2.out.bl
        go_ret2
        exact ⟨rfl, (by repeat (first | exact Below.refl _ _ | assumption | refine bl_alloc ?_ _ | refine bl_drewN ?_ _ | refine bl_drew ?_ | refine bl_set ?_ (by first | (simp; done) | (simp; omega) | (dsimp only; omega)) _ | refine bl_then ?_ (by assumption)))⟩

set_option maxRecDepth 100000 in
set_option maxHeartbeats 4000000 in
theorem fix_bothDiv (a b : Int) (w : World) (hg : GN w) (hl : GL w) : Calls Tryd.prog 84 #[.int .i64 a, .int .i64 b, .func (.func 86) #[] #[], .func (.func 54) #[] #[]] w fun e w' => e = .returned (.tuple #[.int .i64 (divV a b (divZ a b)), .int .i64 (divE a b (divZ a b))]) ∧ Below w.heap.size w w' := by
  have HG := Asd.mk hg
  have HL := Asd.mk hl
  have S0 := Asd.mk (St.refl w)
  clear hg hl
  cases h1 : fitB a
  · rw [(div_no1 h1).1, (div_no1 h1).2]
    go_enter Tryd.func84, Tryd.ntmps84
    go_wp2_with (go_at_call 29; refine (fix_Fits _ _).mono ?_; rintro e w' ⟨rfl, rfl⟩)
    go_ret2
    exact ⟨rfl, (by repeat (first | exact Below.refl _ _ | assumption | refine bl_alloc ?_ _ | refine bl_drewN ?_ _ | refine bl_drew ?_ | refine bl_set ?_ (by first | (simp; done) | (simp; omega) | (dsimp only; omega)) _ | refine bl_then ?_ (by assumption)))⟩
  · cases h2 : fitB b
    · rw [(div_no2 h2).1, (div_no2 h2).2]
      go_enter Tryd.func84, Tryd.ntmps84
      go_wp2_with (go_at_call 29; refine (fix_Fits _ _).mono ?_; rintro e w' ⟨rfl, rfl⟩)
      go_ret2
      exact ⟨rfl, (by repeat (first | exact Below.refl _ _ | assumption | refine bl_alloc ?_ _ | refine bl_drewN ?_ _ | refine bl_drew ?_ | refine bl_set ?_ (by first | (simp; done) | (simp; omega) | (dsimp only; omega)) _ | refine bl_then ?_ (by assumption)))⟩
    · have HB := Asd.mk (fitB_i64 h2)
      by_cases h0 : b = 0
      · subst h0
        rw [(div_zero h1).1, (div_zero h1).2]
        go_enter Tryd.func84, Tryd.ntmps84
        go_wp2_with (first
      | (go_at_call 86; replace S0 := S0; refine (fix_Div10 a h1 _ (by exact HG.out.below (by with_reducible repeat (first | exact S0.out.bl | refine bl_alloc ?_ _ | refine bl_drewN ?_ _ | refine bl_drew ?_))) (by exact HL.out.below (by with_reducible repeat (first | exact S0.out.bl | refine bl_alloc ?_ _ | refine bl_drewN ?_ _ | refine bl_drew ?_)))).mono ?_; rintro e w1 ⟨rfl, hb1⟩; apply St.step (w0 := w) (hb := hb1); (focus (with_reducible repeat (first | exact S0.out | apply St.lay | apply St.drew | apply St.drewN))); intro S1; (try simp only [sz_alloc, sz_drew, sz_drewN] at S1); clear hb1 S0; (try clear C0); have C1 := S1.out.facts; simp only [facts, apart, cellsAt, Nat.zero_add, Nat.reduceAdd, and_true] at C1)
      | (go_at_call 29; refine (fix_Fits _ _).mono ?_; rintro e w' ⟨rfl, rfl⟩))
        have HBf := S1.out.bl
        go_ret2
        exact ⟨rfl, (by repeat (first | exact Below.refl _ _ | assumption | refine bl_alloc ?_ _ | refine bl_drewN ?_ _ | refine bl_drew ?_ | refine bl_set ?_ (by first | (simp; done) | (simp; omega) | (dsimp only; omega)) _ | refine bl_then ?_ (by assumption)))⟩
      · have H0 := Asd.mk h0
        rw [(div_yes h1 h2 h0).1, (div_yes h1 h2 h0).2]
        clear h0
        cases h3 : fitB (divZ a b)
        · rw [(to_not h3).1, (to_not h3).2]
          by_cases h4 : I64 (divZ a b)
          · have HZ := Asd.mk (int_mid h4)
            clear h4
            go_enter Tryd.func84, Tryd.ntmps84
            go_wp2_with (first
            | (go_at_call 54; replace S1 := S1; refine (wide_Int (divZ a b) _).mono ?_; rintro e w2 ⟨rfl, hb2⟩; rw [HZ.out.1, HZ.out.2]; apply St.step (w0 := w) (hb := hb2); (focus (with_reducible repeat (first | exact S1.out | apply St.lay | apply St.drew | apply St.drewN))); intro S2; (try simp only [sz_alloc, sz_drew, sz_drewN] at S2); clear hb2 S1; (try clear C1); have C2 := S2.out.facts; simp only [facts, apart, cellsAt, Nat.zero_add, Nat.reduceAdd, and_true] at C2)
            | (go_at_call 86; replace S0 := S0; refine (fix_Div1 a h1 b HB.out H0.out _ (by exact HG.out.below (by with_reducible repeat (first | exact S0.out.bl | refine bl_alloc ?_ _ | refine bl_drewN ?_ _ | refine bl_drew ?_))) (by exact HL.out.below (by with_reducible repeat (first | exact S0.out.bl | refine bl_alloc ?_ _ | refine bl_drewN ?_ _ | refine bl_drew ?_)))).mono ?_; rintro e w1 ⟨rfl, hb1⟩; apply St.step (w0 := w) (hb := hb1); (focus (with_reducible repeat (first | exact S0.out | apply St.lay | apply St.drew | apply St.drewN))); intro S1; (try simp only [sz_alloc, sz_drew, sz_drewN] at S1); clear hb1 S0; (try clear C0); have C1 := S1.out.facts; simp only [facts, apart, cellsAt, Nat.zero_add, Nat.reduceAdd, and_true] at C1)
            | (go_at_call 29; refine (fix_Fits _ _).mono ?_; rintro e w' ⟨rfl, rfl⟩))
            have HBf := S2.out.bl
            go_ret2
            exact ⟨rfl, (by repeat (first | exact Below.refl _ _ | assumption | refine bl_alloc ?_ _ | refine bl_drewN ?_ _ | refine bl_drew ?_ | refine bl_set ?_ (by first | (simp; done) | (simp; omega) | (dsimp only; omega)) _ | refine bl_then ?_ (by assumption)))⟩
          · have HZ := Asd.mk (int_big h4)
            clear h4
            go_enter Tryd.func84, Tryd.ntmps84
            go_wp2_with (first
            | (go_at_call 54; replace S1 := S1; refine (wide_Int (divZ a b) _).mono ?_; rintro e w2 ⟨rfl, hb2⟩; rw [HZ.out.1, HZ.out.2]; apply St.step (w0 := w) (hb := hb2); (focus (with_reducible repeat (first | exact S1.out | apply St.lay | apply St.drew | apply St.drewN))); intro S2; (try simp only [sz_alloc, sz_drew, sz_drewN] at S2); clear hb2 S1; (try clear C1); have C2 := S2.out.facts; simp only [facts, apart, cellsAt, Nat.zero_add, Nat.reduceAdd, and_true] at C2)
            | (go_at_call 86; replace S0 := S0; refine (fix_Div1 a h1 b HB.out H0.out _ (by exact HG.out.below (by with_reducible repeat (first | exact S0.out.bl | refine bl_alloc ?_ _ | refine bl_drewN ?_ _ | refine bl_drew ?_))) (by exact HL.out.below (by with_reducible repeat (first | exact S0.out.bl | refine bl_alloc ?_ _ | refine bl_drewN ?_ _ | refine bl_drew ?_)))).mono ?_; rintro e w1 ⟨rfl, hb1⟩; apply St.step (w0 := w) (hb := hb1); (focus (with_reducible repeat (first | exact S0.out | apply St.lay | apply St.drew | apply St.drewN))); intro S1; (try simp only [sz_alloc, sz_drew, sz_drewN] at S1); clear hb1 S0; (try clear C0); have C1 := S1.out.facts; simp only [facts, apart, cellsAt, Nat.zero_add, Nat.reduceAdd, and_true] at C1)
            | (go_at_call 29; refine (fix_Fits _ _).mono ?_; rintro e w' ⟨rfl, rfl⟩))
            have HBf := S2.out.bl
            go_ret2
            exact ⟨rfl, (by repeat (first | exact Below.refl _ _ | assumption | refine bl_alloc ?_ _ | refine bl_drewN ?_ _ | refine bl_drew ?_ | refine bl_set ?_ (by first | (simp; done) | (simp; omega) | (dsimp only; omega)) _ | refine bl_then ?_ (by assumption)))⟩
        · rw [(to_fit h3).1, (to_fit h3).2]
          have HZ := Asd.mk (int_ok h3)
          go_enter Tryd.func84, Tryd.ntmps84
          go_wp2_with (first
          | (go_at_call 54; replace S1 := S1; refine (wide_Int (divZ a b) _).mono ?_; rintro e w2 ⟨rfl, hb2⟩; rw [HZ.out.1, HZ.out.2]; apply St.step (w0 := w) (hb := hb2); (focus (with_reducible repeat (first | exact S1.out | apply St.lay | apply St.drew | apply St.drewN))); intro S2; (try simp only [sz_alloc, sz_drew, sz_drewN] at S2); clear hb2 S1; (try clear C1); have C2 := S2.out.facts; simp only [facts, apart, cellsAt, Nat.zero_add, Nat.reduceAdd, and_true] at C2)
          | (go_at_call 86; replace S0 := S0; refine (fix_Div1 a h1 b HB.out H0.out _ (by exact HG.out.below (by with_reducible repeat (first | exact S0.out.bl | refine bl_alloc ?_ _ | refine bl_drewN ?_ _ | refine bl_drew ?_))) (by exact HL.out.below (by with_reducible repeat (first | exact S0.out.bl | refine bl_alloc ?_ _ | refine bl_drewN ?_ _ | refine bl_drew ?_)))).mono ?_; rintro e w1 ⟨rfl, hb1⟩; apply St.step (w0 := w) (hb := hb1); (focus (with_reducible repeat (first | exact S0.out | apply St.lay | apply St.drew | apply St.drewN))); intro S1; (try simp only [sz_alloc, sz_drew, sz_drewN] at S1); clear hb1 S0; (try clear C0); have C1 := S1.out.facts; simp only [facts, apart, cellsAt, Nat.zero_add, Nat.reduceAdd, and_true] at C1)
          | (go_at_call 29; refine (fix_Fits _ _).mono ?_; rintro e w' ⟨rfl, rfl⟩))
          have HBf := S2.out.bl
          go_ret2
          exact ⟨rfl, (by repeat (first | exact Below.refl _ _ | assumption | refine bl_alloc ?_ _ | refine bl_drewN ?_ _ | refine bl_drew ?_ | refine bl_set ?_ (by first | (simp; done) | (simp; omega) | (dsimp only; omega)) _ | refine bl_then ?_ (by assumption)))⟩

set_option maxHeartbeats 400000 in
theorem fix_Mul (a b : Int) (w : World) (hg : GN w) : Calls Tryd.prog 56 #[.int .i64 a, .int .i64 b] w fun e w' => e = .returned (.tuple #[.int .i64 (bothV a b (mulZ a b)), .int .i64 (bothE a b (mulZ a b))]) ∧ Below w.heap.size w w' := by
  have HG := Asd.mk hg
  clear hg
  go_enter Tryd.func56, Tryd.ntmps56
  go_wp2_with (go_at_call 84; refine (fix_bothMul a b _ HG.out).mono ?_; rintro e w1 ⟨rfl, hb1⟩)
  go_ret2
  exact ⟨rfl, (by repeat (first | exact Below.refl _ _ | assumption | refine bl_alloc ?_ _ | refine bl_drewN ?_ _ | refine bl_drew ?_ | refine bl_set ?_ (by first | (simp; done) | (simp; omega) | (dsimp only; omega)) _ | refine bl_then ?_ (by assumption)))⟩
set_option maxHeartbeats 400000 in
theorem fix_Div (a b : Int) (w : World) (hg : GN w) (hl : GL w) : Calls Tryd.prog 58 #[.int .i64 a, .int .i64 b] w fun e w' => e = .returned (.tuple #[.int .i64 (divV a b (divZ a b)), .int .i64 (divE a b (divZ a b))]) ∧ Below w.heap.size w w' := by
  have HG := Asd.mk hg
  have HL := Asd.mk hl
  clear hg hl
  go_enter Tryd.func58, Tryd.ntmps58
  go_wp2_with (go_at_call 84; refine (fix_bothDiv a b _ HG.out HL.out).mono ?_; rintro e w1 ⟨rfl, hb1⟩)
  go_ret2
  exact ⟨rfl, (by repeat (first | exact Below.refl _ _ | assumption | refine bl_alloc ?_ _ | refine bl_drewN ?_ _ | refine bl_drew ?_ | refine bl_set ?_ (by first | (simp; done) | (simp; omega) | (dsimp only; omega)) _ | refine bl_then ?_ (by assumption)))⟩
end Go.Proofs.YtgodfbhjfhdihaaDoor
