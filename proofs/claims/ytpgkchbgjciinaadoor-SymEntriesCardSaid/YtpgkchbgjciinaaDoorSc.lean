/- SymEntries is proved: any entry of any matrix, a matrix with another one, its rows and its diagonal, are the document's; its condition: the table of places holds what its initialiser lays. -/
import Derived.Test.YtpgkchbgjciinaaDoorSb
import Derived.Test.YtpgkchbgjciinaaDoorSv
import Derived.Test.YtpgkchbgjciinaaDoorSe
import Derived.Deep.QuietTactic
import Derived.BigQuiet
namespace Go.Proofs.YtpgkchbgjciinaaDoor
open Go.RowKit
set_option linter.unusedSimpArgs false
set_option linter.unusedVariables false
attribute [local go_sem] nlt2 nlt3 nlt4 nlt5 nlt6 nlt7 nlt8 nlt9 nlt10 nlt11 nlt12
attribute [local go_sem] eqVec eqSym

theorem quiet_left {P : Program} {f : FuncId} {args : Array Value} {w : World} {n : Nat} {v : Value}
    (h : Calls P f args (w.drewN n) fun e w' => e = .returned v ∧ w.drewN n = w') : Calls P f args (w.drewN n) fun e w' => e = .returned v ∧ ∃ m, w' = w.drewN m :=
  h.mono fun _ _ ⟨he, hw⟩ => ⟨he, n, hw.symm⟩
theorem row_ex (w : World) (hg : GP w) : Calls Tryd.prog 12 #[.agg #[.int .i64 1, .int .i64 2, .int .i64 3, .int .i64 4, .int .i64 5, .int .i64 6], .int .i64 1] w fun e w' => e = .returned (.tuple #[.agg #[.int .i64 2, .int .i64 4, .int .i64 5], .int .i64 0]) ∧ Below w.heap.size w w' :=
  Row_1 (fun i => match i with | 0 => 1 | 1 => 2 | 2 => 3 | 3 => 4 | 4 => 5 | _ => 6) w hg
set_option maxHeartbeats 800000 in
theorem law05_fixed (w : World) (hg : GP w) : Calls Tryd.prog 13 #[] w fun e w' => e = .returned (.bool true) ∧ Below w.heap.size w w' := by
  have HG := Asd.mk hg
  have S0 := Asd.mk (St.refl w)
  clear hg
  go_enter Tryd.func13, Tryd.ntmps13
  go_wp2_with (first
      | (go_at_call 12; replace S0 := S0; refine (row_ex _ (by exact HG.out.below (by with_reducible repeat (first | exact S0.out.bl | refine bl_alloc ?_ _ | refine bl_drewN ?_ _ | refine bl_drew ?_)))).mono ?_; rintro e w1 ⟨rfl, hb1⟩; apply St.step (w0 := w) (hb := hb1); (focus (with_reducible repeat (first | exact S0.out | apply St.lay | apply St.drew | apply St.drewN))); intro S1; (try simp only [sz_alloc, sz_drew, sz_drewN] at S1); clear hb1 S0; (try clear C0); have C1 := S1.out.facts; simp only [facts, apart, cellsAt, Nat.zero_add, Nat.reduceAdd, and_true] at C1))
  have HBf := S1.out.bl
  go_ret
  exact ⟨rfl, (by repeat (first | exact Below.refl _ _ | assumption | refine bl_alloc ?_ _ | refine bl_drewN ?_ _ | refine bl_drew ?_ | refine bl_set ?_ (by first | (simp; done) | (simp; omega) | (dsimp only; omega)) _ | refine bl_then ?_ (by assumption)))⟩
set_option maxRecDepth 100000 in
set_option maxHeartbeats 4000000 in
theorem law_SymEntries_oo (m : Nat → Int) (i j x : Int) (hi : i < 0 ∨ 2 < i) (w : World) (hg : GP w) :
    Calls Tryd.prog 3 #[.agg #[.int .i64 (m 0), .int .i64 (m 1), .int .i64 (m 2), .int .i64 (m 3), .int .i64 (m 4), .int .i64 (m 5)], .agg #[.int .i64 i, .int .i64 j], .int .i64 x] w fun e w' => e = .returned (.bool true) ∧ Below w.heap.size w w' := by
  have HG := Asd.mk hg
  have S0 := Asd.mk (St.refl w)
  clear hg
  have HI := Asd.mk hi
  have HO : Asd (outP i j) := ⟨by unfold outP; omega⟩
  rcases hi with hi | hi
  all_goals (
  go_enter Tryd.func3, Tryd.ntmps3
  go_wp2_with (first
      | (go_at_call 13; replace S3 := S3; refine (law05_fixed _ (by exact HG.out.below (by with_reducible repeat (first | exact S3.out.bl | refine bl_alloc ?_ _ | refine bl_drewN ?_ _ | refine bl_drew ?_)))).mono ?_; rintro e w4 ⟨rfl, hb4⟩; apply St.step (w0 := w) (hb := hb4); (focus (with_reducible repeat (first | exact S3.out | apply St.lay | apply St.drew | apply St.drewN))); intro S4; (try simp only [sz_alloc, sz_drew, sz_drewN] at S4); clear hb4 S3; (try clear C3); have C4 := S4.out.facts; simp only [facts, apart, cellsAt, Nat.zero_add, Nat.reduceAdd, and_true] at C4)
      | (go_at_call 12; replace S2 := S2; refine (Row_out m i HI.out _).mono ?_; rintro e w3 ⟨rfl, hb3⟩; apply St.step (w0 := w) (hb := hb3); (focus (with_reducible repeat (first | exact S2.out | apply St.lay | apply St.drew | apply St.drewN))); intro S3; (try simp only [sz_alloc, sz_drew, sz_drewN] at S3); clear hb3 S2; (try clear C2); have C3 := S3.out.facts; simp only [facts, apart, cellsAt, Nat.zero_add, Nat.reduceAdd, and_true] at C3)
      | (go_at_call 11; replace S1 := S1; refine (Put_out m i j x HO.out _).mono ?_; rintro e w2 ⟨rfl, hb2⟩; apply St.step (w0 := w) (hb := hb2); (focus (with_reducible repeat (first | exact S1.out | apply St.lay | apply St.drew | apply St.drewN))); intro S2; (try simp only [sz_alloc, sz_drew, sz_drewN] at S2); clear hb2 S1; (try clear C1); have C2 := S2.out.facts; simp only [facts, apart, cellsAt, Nat.zero_add, Nat.reduceAdd, and_true] at C2)
      | (go_at_call 10; replace S0 := S0; refine (At_out m i j HO.out _).mono ?_; rintro e w1 ⟨rfl, hb1⟩; apply St.step (w0 := w) (hb := hb1); (focus (with_reducible repeat (first | exact S0.out | apply St.lay | apply St.drew | apply St.drewN))); intro S1; (try simp only [sz_alloc, sz_drew, sz_drewN] at S1); clear hb1 S0; (try clear C0); have C1 := S1.out.facts; simp only [facts, apart, cellsAt, Nat.zero_add, Nat.reduceAdd, and_true] at C1)
      | (go_at_call 9; replace S0 := S0; refine (Place_out i j HO.out _).mono ?_; rintro e w' ⟨rfl, rfl⟩))
  have HBf := S4.out.bl
  go_ret
  exact ⟨rfl, (by repeat (first | exact Below.refl _ _ | assumption | refine bl_alloc ?_ _ | refine bl_drewN ?_ _ | refine bl_drew ?_ | refine bl_set ?_ (by first | (simp; done) | (simp; omega) | (dsimp only; omega)) _ | refine bl_then ?_ (by assumption)))⟩)
set_option maxRecDepth 100000 in
set_option maxHeartbeats 4000000 in
theorem law_SymEntries_0o (m : Nat → Int) (j x : Int) (hj : j < 0 ∨ 2 < j) (w : World) (hg : GP w) :
    Calls Tryd.prog 3 #[.agg #[.int .i64 (m 0), .int .i64 (m 1), .int .i64 (m 2), .int .i64 (m 3), .int .i64 (m 4), .int .i64 (m 5)], .agg #[.int .i64 0, .int .i64 j], .int .i64 x] w fun e w' => e = .returned (.bool true) ∧ Below w.heap.size w w' := by
  have HG := Asd.mk hg
  have S0 := Asd.mk (St.refl w)
  clear hg
  have HO : Asd (outP 0 j) := ⟨by unfold outP; omega⟩
  go_enter Tryd.func3, Tryd.ntmps3
  go_wp2_with (first
      | (go_at_call 14; replace S3 := S3; refine (sym_Main m _).mono ?_; rintro e w4 ⟨rfl, hb4⟩; apply St.step (w0 := w) (hb := hb4); (focus (with_reducible repeat (first | exact S3.out | apply St.lay | apply St.drew | apply St.drewN))); intro S4; (try simp only [sz_alloc, sz_drew, sz_drewN] at S4); clear hb4 S3; (try clear C3); have C4 := S4.out.facts; simp only [facts, apart, cellsAt, Nat.zero_add, Nat.reduceAdd, and_true] at C4)
      | (go_at_call 12; replace S2 := S2; refine (Row_0 m _ (by exact HG.out.below (by with_reducible repeat (first | exact S2.out.bl | refine bl_alloc ?_ _ | refine bl_drewN ?_ _ | refine bl_drew ?_)))).mono ?_; rintro e w3 ⟨rfl, hb3⟩; apply St.step (w0 := w) (hb := hb3); (focus (with_reducible repeat (first | exact S2.out | apply St.lay | apply St.drew | apply St.drewN))); intro S3; (try simp only [sz_alloc, sz_drew, sz_drewN] at S3); clear hb3 S2; (try clear C2); have C3 := S3.out.facts; simp only [facts, apart, cellsAt, Nat.zero_add, Nat.reduceAdd, and_true] at C3)
      | (go_at_call 11; replace S1 := S1; refine (Put_out m 0 j x HO.out _).mono ?_; rintro e w2 ⟨rfl, hb2⟩; apply St.step (w0 := w) (hb := hb2); (focus (with_reducible repeat (first | exact S1.out | apply St.lay | apply St.drew | apply St.drewN))); intro S2; (try simp only [sz_alloc, sz_drew, sz_drewN] at S2); clear hb2 S1; (try clear C1); have C2 := S2.out.facts; simp only [facts, apart, cellsAt, Nat.zero_add, Nat.reduceAdd, and_true] at C2)
      | (go_at_call 10; replace S0 := S0; refine (At_out m 0 j HO.out _).mono ?_; rintro e w1 ⟨rfl, hb1⟩; apply St.step (w0 := w) (hb := hb1); (focus (with_reducible repeat (first | exact S0.out | apply St.lay | apply St.drew | apply St.drewN))); intro S1; (try simp only [sz_alloc, sz_drew, sz_drewN] at S1); clear hb1 S0; (try clear C0); have C1 := S1.out.facts; simp only [facts, apart, cellsAt, Nat.zero_add, Nat.reduceAdd, and_true] at C1)
      | (go_at_call 9; replace S0 := S0; refine (Place_out 0 j HO.out _).mono ?_; rintro e w' ⟨rfl, rfl⟩))
  go_loopw [107] (fun v107 wr => ∃ k : Int, (k = 0 ∨ k = 1 ∨ k = 2 ∨ k = 3) ∧ v107 = .int .i64 k ∧ Asd (St w wr [(w4.heap.size, [.int .i64 (m 0), .int .i64 (m 3), .int .i64 (m 5)]), (w3.heap.size, [.int .i64 (m 0), .int .i64 (m 1), .int .i64 (m 2)]), (w2.heap.size, [.int .i64 0, .int .i64 0, .int .i64 0, .int .i64 0, .int .i64 0, .int .i64 0]), (w.heap.size + 1, [.int .i64 0, .int .i64 j]), (w.heap.size, [.int .i64 (m 0), .int .i64 (m 1), .int .i64 (m 2), .int .i64 (m 3), .int .i64 (m 4), .int .i64 (m 5)])] [])) (fun v107 _ => 3 - (intOf v107).toNat)
  case atStart => exact ⟨0, .inl rfl, rfl, ⟨St.layAt rfl S4.out⟩⟩
  case round =>
    obtain ⟨k, hk, rfl, S5⟩ := hrel
    have C5 := S5.out.facts
    simp only [facts, apart, cellsAt, Nat.zero_add, Nat.reduceAdd, and_true] at C5
    rcases hk with rfl | rfl | rfl | rfl
    · go_wp2
      go_quiet ((go_at_call 9; first | (with_reducible exact quiet_left (Place_00 _)) | (with_reducible exact quiet_left (Place_00 _))))
      go_wp2
      go_roundw
      case rel => exact ⟨1, by decide, rfl, ⟨S5.out.drewN _⟩⟩
      case measure => simp [intOf]
    · go_wp2
      go_quiet ((go_at_call 9; first | (with_reducible exact quiet_left (Place_01 _)) | (with_reducible exact quiet_left (Place_11 _))))
      go_wp2
      go_roundw
      case rel => exact ⟨2, by decide, rfl, ⟨S5.out.drewN _⟩⟩
      case measure => simp [intOf]
    · go_wp2
      go_quiet ((go_at_call 9; first | (with_reducible exact quiet_left (Place_02 _)) | (with_reducible exact quiet_left (Place_22 _))))
      go_wp2
      go_roundw
      case rel => exact ⟨3, by decide, rfl, ⟨S5.out.drewN _⟩⟩
      case measure => simp [intOf]
    · go_wp2_with (first
      | (go_at_call 13; replace S5 := S5; refine (law05_fixed _ (by exact HG.out.below (by with_reducible repeat (first | exact S5.out.bl | refine bl_alloc ?_ _ | refine bl_drewN ?_ _ | refine bl_drew ?_)))).mono ?_; rintro e w6 ⟨rfl, hb6⟩; apply St.step (w0 := w) (hb := hb6); (focus (with_reducible repeat (first | exact S5.out | apply St.lay | apply St.drew | apply St.drewN))); intro S6; (try simp only [sz_alloc, sz_drew, sz_drewN] at S6); clear hb6 S5; (try clear C5); have C6 := S6.out.facts; simp only [facts, apart, cellsAt, Nat.zero_add, Nat.reduceAdd, and_true] at C6))
      have HBf := S6.out.bl
      go_ret
      exact ⟨rfl, (by repeat (first | exact Below.refl _ _ | assumption | refine bl_alloc ?_ _ | refine bl_drewN ?_ _ | refine bl_drew ?_ | refine bl_set ?_ (by first | (simp; done) | (simp; omega) | (dsimp only; omega)) _ | refine bl_then ?_ (by assumption)))⟩
set_option maxRecDepth 100000 in
set_option maxHeartbeats 4000000 in
theorem law_SymEntries_1o (m : Nat → Int) (j x : Int) (hj : j < 0 ∨ 2 < j) (w : World) (hg : GP w) :
    Calls Tryd.prog 3 #[.agg #[.int .i64 (m 0), .int .i64 (m 1), .int .i64 (m 2), .int .i64 (m 3), .int .i64 (m 4), .int .i64 (m 5)], .agg #[.int .i64 1, .int .i64 j], .int .i64 x] w fun e w' => e = .returned (.bool true) ∧ Below w.heap.size w w' := by
  have HG := Asd.mk hg
  have S0 := Asd.mk (St.refl w)
  clear hg
  have HO : Asd (outP 1 j) := ⟨by unfold outP; omega⟩
  go_enter Tryd.func3, Tryd.ntmps3
  go_wp2_with (first
      | (go_at_call 14; replace S3 := S3; refine (sym_Main m _).mono ?_; rintro e w4 ⟨rfl, hb4⟩; apply St.step (w0 := w) (hb := hb4); (focus (with_reducible repeat (first | exact S3.out | apply St.lay | apply St.drew | apply St.drewN))); intro S4; (try simp only [sz_alloc, sz_drew, sz_drewN] at S4); clear hb4 S3; (try clear C3); have C4 := S4.out.facts; simp only [facts, apart, cellsAt, Nat.zero_add, Nat.reduceAdd, and_true] at C4)
      | (go_at_call 12; replace S2 := S2; refine (Row_1 m _ (by exact HG.out.below (by with_reducible repeat (first | exact S2.out.bl | refine bl_alloc ?_ _ | refine bl_drewN ?_ _ | refine bl_drew ?_)))).mono ?_; rintro e w3 ⟨rfl, hb3⟩; apply St.step (w0 := w) (hb := hb3); (focus (with_reducible repeat (first | exact S2.out | apply St.lay | apply St.drew | apply St.drewN))); intro S3; (try simp only [sz_alloc, sz_drew, sz_drewN] at S3); clear hb3 S2; (try clear C2); have C3 := S3.out.facts; simp only [facts, apart, cellsAt, Nat.zero_add, Nat.reduceAdd, and_true] at C3)
      | (go_at_call 11; replace S1 := S1; refine (Put_out m 1 j x HO.out _).mono ?_; rintro e w2 ⟨rfl, hb2⟩; apply St.step (w0 := w) (hb := hb2); (focus (with_reducible repeat (first | exact S1.out | apply St.lay | apply St.drew | apply St.drewN))); intro S2; (try simp only [sz_alloc, sz_drew, sz_drewN] at S2); clear hb2 S1; (try clear C1); have C2 := S2.out.facts; simp only [facts, apart, cellsAt, Nat.zero_add, Nat.reduceAdd, and_true] at C2)
      | (go_at_call 10; replace S0 := S0; refine (At_out m 1 j HO.out _).mono ?_; rintro e w1 ⟨rfl, hb1⟩; apply St.step (w0 := w) (hb := hb1); (focus (with_reducible repeat (first | exact S0.out | apply St.lay | apply St.drew | apply St.drewN))); intro S1; (try simp only [sz_alloc, sz_drew, sz_drewN] at S1); clear hb1 S0; (try clear C0); have C1 := S1.out.facts; simp only [facts, apart, cellsAt, Nat.zero_add, Nat.reduceAdd, and_true] at C1)
      | (go_at_call 9; replace S0 := S0; refine (Place_out 1 j HO.out _).mono ?_; rintro e w' ⟨rfl, rfl⟩))
  go_loopw [107] (fun v107 wr => ∃ k : Int, (k = 0 ∨ k = 1 ∨ k = 2 ∨ k = 3) ∧ v107 = .int .i64 k ∧ Asd (St w wr [(w4.heap.size, [.int .i64 (m 0), .int .i64 (m 3), .int .i64 (m 5)]), (w3.heap.size, [.int .i64 (m 1), .int .i64 (m 3), .int .i64 (m 4)]), (w2.heap.size, [.int .i64 0, .int .i64 0, .int .i64 0, .int .i64 0, .int .i64 0, .int .i64 0]), (w.heap.size + 1, [.int .i64 1, .int .i64 j]), (w.heap.size, [.int .i64 (m 0), .int .i64 (m 1), .int .i64 (m 2), .int .i64 (m 3), .int .i64 (m 4), .int .i64 (m 5)])] [])) (fun v107 _ => 3 - (intOf v107).toNat)
  case atStart => exact ⟨0, .inl rfl, rfl, ⟨St.layAt rfl S4.out⟩⟩
  case round =>
    obtain ⟨k, hk, rfl, S5⟩ := hrel
    have C5 := S5.out.facts
    simp only [facts, apart, cellsAt, Nat.zero_add, Nat.reduceAdd, and_true] at C5
    rcases hk with rfl | rfl | rfl | rfl
    · go_wp2
      go_quiet ((go_at_call 9; first | (with_reducible exact quiet_left (Place_10 _)) | (with_reducible exact quiet_left (Place_00 _))))
      go_wp2
      go_roundw
      case rel => exact ⟨1, by decide, rfl, ⟨S5.out.drewN _⟩⟩
      case measure => simp [intOf]
    · go_wp2
      go_quiet ((go_at_call 9; first | (with_reducible exact quiet_left (Place_11 _)) | (with_reducible exact quiet_left (Place_11 _))))
      go_wp2
      go_roundw
      case rel => exact ⟨2, by decide, rfl, ⟨S5.out.drewN _⟩⟩
      case measure => simp [intOf]
    · go_wp2
      go_quiet ((go_at_call 9; first | (with_reducible exact quiet_left (Place_12 _)) | (with_reducible exact quiet_left (Place_22 _))))
      go_wp2
      go_roundw
      case rel => exact ⟨3, by decide, rfl, ⟨S5.out.drewN _⟩⟩
      case measure => simp [intOf]
    · go_wp2_with (first
      | (go_at_call 13; replace S5 := S5; refine (law05_fixed _ (by exact HG.out.below (by with_reducible repeat (first | exact S5.out.bl | refine bl_alloc ?_ _ | refine bl_drewN ?_ _ | refine bl_drew ?_)))).mono ?_; rintro e w6 ⟨rfl, hb6⟩; apply St.step (w0 := w) (hb := hb6); (focus (with_reducible repeat (first | exact S5.out | apply St.lay | apply St.drew | apply St.drewN))); intro S6; (try simp only [sz_alloc, sz_drew, sz_drewN] at S6); clear hb6 S5; (try clear C5); have C6 := S6.out.facts; simp only [facts, apart, cellsAt, Nat.zero_add, Nat.reduceAdd, and_true] at C6))
      have HBf := S6.out.bl
      go_ret
      exact ⟨rfl, (by repeat (first | exact Below.refl _ _ | assumption | refine bl_alloc ?_ _ | refine bl_drewN ?_ _ | refine bl_drew ?_ | refine bl_set ?_ (by first | (simp; done) | (simp; omega) | (dsimp only; omega)) _ | refine bl_then ?_ (by assumption)))⟩
set_option maxRecDepth 100000 in
set_option maxHeartbeats 4000000 in
theorem law_SymEntries_2o (m : Nat → Int) (j x : Int) (hj : j < 0 ∨ 2 < j) (w : World) (hg : GP w) :
    Calls Tryd.prog 3 #[.agg #[.int .i64 (m 0), .int .i64 (m 1), .int .i64 (m 2), .int .i64 (m 3), .int .i64 (m 4), .int .i64 (m 5)], .agg #[.int .i64 2, .int .i64 j], .int .i64 x] w fun e w' => e = .returned (.bool true) ∧ Below w.heap.size w w' := by
  have HG := Asd.mk hg
  have S0 := Asd.mk (St.refl w)
  clear hg
  have HO : Asd (outP 2 j) := ⟨by unfold outP; omega⟩
  go_enter Tryd.func3, Tryd.ntmps3
  go_wp2_with (first
      | (go_at_call 14; replace S3 := S3; refine (sym_Main m _).mono ?_; rintro e w4 ⟨rfl, hb4⟩; apply St.step (w0 := w) (hb := hb4); (focus (with_reducible repeat (first | exact S3.out | apply St.lay | apply St.drew | apply St.drewN))); intro S4; (try simp only [sz_alloc, sz_drew, sz_drewN] at S4); clear hb4 S3; (try clear C3); have C4 := S4.out.facts; simp only [facts, apart, cellsAt, Nat.zero_add, Nat.reduceAdd, and_true] at C4)
      | (go_at_call 12; replace S2 := S2; refine (Row_2 m _ (by exact HG.out.below (by with_reducible repeat (first | exact S2.out.bl | refine bl_alloc ?_ _ | refine bl_drewN ?_ _ | refine bl_drew ?_)))).mono ?_; rintro e w3 ⟨rfl, hb3⟩; apply St.step (w0 := w) (hb := hb3); (focus (with_reducible repeat (first | exact S2.out | apply St.lay | apply St.drew | apply St.drewN))); intro S3; (try simp only [sz_alloc, sz_drew, sz_drewN] at S3); clear hb3 S2; (try clear C2); have C3 := S3.out.facts; simp only [facts, apart, cellsAt, Nat.zero_add, Nat.reduceAdd, and_true] at C3)
      | (go_at_call 11; replace S1 := S1; refine (Put_out m 2 j x HO.out _).mono ?_; rintro e w2 ⟨rfl, hb2⟩; apply St.step (w0 := w) (hb := hb2); (focus (with_reducible repeat (first | exact S1.out | apply St.lay | apply St.drew | apply St.drewN))); intro S2; (try simp only [sz_alloc, sz_drew, sz_drewN] at S2); clear hb2 S1; (try clear C1); have C2 := S2.out.facts; simp only [facts, apart, cellsAt, Nat.zero_add, Nat.reduceAdd, and_true] at C2)
      | (go_at_call 10; replace S0 := S0; refine (At_out m 2 j HO.out _).mono ?_; rintro e w1 ⟨rfl, hb1⟩; apply St.step (w0 := w) (hb := hb1); (focus (with_reducible repeat (first | exact S0.out | apply St.lay | apply St.drew | apply St.drewN))); intro S1; (try simp only [sz_alloc, sz_drew, sz_drewN] at S1); clear hb1 S0; (try clear C0); have C1 := S1.out.facts; simp only [facts, apart, cellsAt, Nat.zero_add, Nat.reduceAdd, and_true] at C1)
      | (go_at_call 9; replace S0 := S0; refine (Place_out 2 j HO.out _).mono ?_; rintro e w' ⟨rfl, rfl⟩))
  go_loopw [107] (fun v107 wr => ∃ k : Int, (k = 0 ∨ k = 1 ∨ k = 2 ∨ k = 3) ∧ v107 = .int .i64 k ∧ Asd (St w wr [(w4.heap.size, [.int .i64 (m 0), .int .i64 (m 3), .int .i64 (m 5)]), (w3.heap.size, [.int .i64 (m 2), .int .i64 (m 4), .int .i64 (m 5)]), (w2.heap.size, [.int .i64 0, .int .i64 0, .int .i64 0, .int .i64 0, .int .i64 0, .int .i64 0]), (w.heap.size + 1, [.int .i64 2, .int .i64 j]), (w.heap.size, [.int .i64 (m 0), .int .i64 (m 1), .int .i64 (m 2), .int .i64 (m 3), .int .i64 (m 4), .int .i64 (m 5)])] [])) (fun v107 _ => 3 - (intOf v107).toNat)
  case atStart => exact ⟨0, .inl rfl, rfl, ⟨St.layAt rfl S4.out⟩⟩
  case round =>
    obtain ⟨k, hk, rfl, S5⟩ := hrel
    have C5 := S5.out.facts
    simp only [facts, apart, cellsAt, Nat.zero_add, Nat.reduceAdd, and_true] at C5
    rcases hk with rfl | rfl | rfl | rfl
    · go_wp2
      go_quiet ((go_at_call 9; first | (with_reducible exact quiet_left (Place_20 _)) | (with_reducible exact quiet_left (Place_00 _))))
      go_wp2
      go_roundw
      case rel => exact ⟨1, by decide, rfl, ⟨S5.out.drewN _⟩⟩
      case measure => simp [intOf]
    · go_wp2
      go_quiet ((go_at_call 9; first | (with_reducible exact quiet_left (Place_21 _)) | (with_reducible exact quiet_left (Place_11 _))))
      go_wp2
      go_roundw
      case rel => exact ⟨2, by decide, rfl, ⟨S5.out.drewN _⟩⟩
      case measure => simp [intOf]
    · go_wp2
      go_quiet ((go_at_call 9; first | (with_reducible exact quiet_left (Place_22 _)) | (with_reducible exact quiet_left (Place_22 _))))
      go_wp2
      go_roundw
      case rel => exact ⟨3, by decide, rfl, ⟨S5.out.drewN _⟩⟩
      case measure => simp [intOf]
    · go_wp2_with (first
      | (go_at_call 13; replace S5 := S5; refine (law05_fixed _ (by exact HG.out.below (by with_reducible repeat (first | exact S5.out.bl | refine bl_alloc ?_ _ | refine bl_drewN ?_ _ | refine bl_drew ?_)))).mono ?_; rintro e w6 ⟨rfl, hb6⟩; apply St.step (w0 := w) (hb := hb6); (focus (with_reducible repeat (first | exact S5.out | apply St.lay | apply St.drew | apply St.drewN))); intro S6; (try simp only [sz_alloc, sz_drew, sz_drewN] at S6); clear hb6 S5; (try clear C5); have C6 := S6.out.facts; simp only [facts, apart, cellsAt, Nat.zero_add, Nat.reduceAdd, and_true] at C6))
      have HBf := S6.out.bl
      go_ret
      exact ⟨rfl, (by repeat (first | exact Below.refl _ _ | assumption | refine bl_alloc ?_ _ | refine bl_drewN ?_ _ | refine bl_drew ?_ | refine bl_set ?_ (by first | (simp; done) | (simp; omega) | (dsimp only; omega)) _ | refine bl_then ?_ (by assumption)))⟩
set_option maxRecDepth 100000 in
set_option maxHeartbeats 4000000 in
theorem law_SymEntries_00 (m : Nat → Int) ( x : Int)  (w : World) (hg : GP w) :
    Calls Tryd.prog 3 #[.agg #[.int .i64 (m 0), .int .i64 (m 1), .int .i64 (m 2), .int .i64 (m 3), .int .i64 (m 4), .int .i64 (m 5)], .agg #[.int .i64 0, .int .i64 0], .int .i64 x] w fun e w' => e = .returned (.bool true) ∧ Below w.heap.size w w' := by
  have HG := Asd.mk hg
  have S0 := Asd.mk (St.refl w)
  clear hg
  go_enter Tryd.func3, Tryd.ntmps3
  go_wp2_with (first
      | (go_at_call 14; replace S3 := S3; refine (sym_Main m _).mono ?_; rintro e w4 ⟨rfl, hb4⟩; apply St.step (w0 := w) (hb := hb4); (focus (with_reducible repeat (first | exact S3.out | apply St.lay | apply St.drew | apply St.drewN))); intro S4; (try simp only [sz_alloc, sz_drew, sz_drewN] at S4); clear hb4 S3; (try clear C3); have C4 := S4.out.facts; simp only [facts, apart, cellsAt, Nat.zero_add, Nat.reduceAdd, and_true] at C4)
      | (go_at_call 12; replace S2 := S2; refine (Row_0 m _ (by exact HG.out.below (by with_reducible repeat (first | exact S2.out.bl | refine bl_alloc ?_ _ | refine bl_drewN ?_ _ | refine bl_drew ?_)))).mono ?_; rintro e w3 ⟨rfl, hb3⟩; apply St.step (w0 := w) (hb := hb3); (focus (with_reducible repeat (first | exact S2.out | apply St.lay | apply St.drew | apply St.drewN))); intro S3; (try simp only [sz_alloc, sz_drew, sz_drewN] at S3); clear hb3 S2; (try clear C2); have C3 := S3.out.facts; simp only [facts, apart, cellsAt, Nat.zero_add, Nat.reduceAdd, and_true] at C3)
      | (go_at_call 11; replace S1 := S1; refine (Put_00 m x _ (by exact HG.out.below (by with_reducible repeat (first | exact S1.out.bl | refine bl_alloc ?_ _ | refine bl_drewN ?_ _ | refine bl_drew ?_)))).mono ?_; rintro e w2 ⟨rfl, hb2⟩; apply St.step (w0 := w) (hb := hb2); (focus (with_reducible repeat (first | exact S1.out | apply St.lay | apply St.drew | apply St.drewN))); intro S2; (try simp only [sz_alloc, sz_drew, sz_drewN] at S2); clear hb2 S1; (try clear C1); have C2 := S2.out.facts; simp only [facts, apart, cellsAt, Nat.zero_add, Nat.reduceAdd, and_true] at C2)
      | (go_at_call 10; replace S0 := S0; refine (At_00 m _ (by exact HG.out.below (by with_reducible repeat (first | exact S0.out.bl | refine bl_alloc ?_ _ | refine bl_drewN ?_ _ | refine bl_drew ?_)))).mono ?_; rintro e w1 ⟨rfl, hb1⟩; apply St.step (w0 := w) (hb := hb1); (focus (with_reducible repeat (first | exact S0.out | apply St.lay | apply St.drew | apply St.drewN))); intro S1; (try simp only [sz_alloc, sz_drew, sz_drewN] at S1); clear hb1 S0; (try clear C0); have C1 := S1.out.facts; simp only [facts, apart, cellsAt, Nat.zero_add, Nat.reduceAdd, and_true] at C1)
      | (go_at_call 9; replace S0 := S0; refine (Place_00 _).mono ?_; rintro e w' ⟨rfl, rfl⟩))
  go_loopw [107] (fun v107 wr => ∃ k : Int, (k = 0 ∨ k = 1 ∨ k = 2 ∨ k = 3) ∧ v107 = .int .i64 k ∧ Asd (St w wr [(w4.heap.size, [.int .i64 (m 0), .int .i64 (m 3), .int .i64 (m 5)]), (w3.heap.size + 1, [.int .i64 x, .int .i64 (m 1), .int .i64 (m 2), .int .i64 (m 3), .int .i64 (m 4), .int .i64 (m 5)]), (w3.heap.size, [.int .i64 (m 0), .int .i64 (m 1), .int .i64 (m 2)]), (w2.heap.size, [.int .i64 x, .int .i64 (m 1), .int .i64 (m 2), .int .i64 (m 3), .int .i64 (m 4), .int .i64 (m 5)]), (w.heap.size + 1, [.int .i64 0, .int .i64 0]), (w.heap.size, [.int .i64 (m 0), .int .i64 (m 1), .int .i64 (m 2), .int .i64 (m 3), .int .i64 (m 4), .int .i64 (m 5)])] [])) (fun v107 _ => 3 - (intOf v107).toNat)
  case atStart => exact ⟨0, .inl rfl, rfl, ⟨St.layAt rfl S4.out⟩⟩
  case round =>
    obtain ⟨k, hk, rfl, S5⟩ := hrel
    have C5 := S5.out.facts
    simp only [facts, apart, cellsAt, Nat.zero_add, Nat.reduceAdd, and_true] at C5
    rcases hk with rfl | rfl | rfl | rfl
    · go_wp2
      go_quiet ((go_at_call 9; first | (with_reducible exact quiet_left (Place_00 _)) | (with_reducible exact quiet_left (Place_00 _))))
      go_wp2
      go_roundw
      case rel => exact ⟨1, by decide, rfl, ⟨S5.out.drewN _⟩⟩
      case measure => simp [intOf]
    · go_wp2
      go_quiet ((go_at_call 9; first | (with_reducible exact quiet_left (Place_01 _)) | (with_reducible exact quiet_left (Place_11 _))))
      go_wp2
      go_roundw
      case rel => exact ⟨2, by decide, rfl, ⟨S5.out.drewN _⟩⟩
      case measure => simp [intOf]
    · go_wp2
      go_quiet ((go_at_call 9; first | (with_reducible exact quiet_left (Place_02 _)) | (with_reducible exact quiet_left (Place_22 _))))
      go_wp2
      go_roundw
      case rel => exact ⟨3, by decide, rfl, ⟨S5.out.drewN _⟩⟩
      case measure => simp [intOf]
    · go_wp2_with (first
      | (go_at_call 13; replace S5 := S5; refine (law05_fixed _ (by exact HG.out.below (by with_reducible repeat (first | exact S5.out.bl | refine bl_alloc ?_ _ | refine bl_drewN ?_ _ | refine bl_drew ?_)))).mono ?_; rintro e w6 ⟨rfl, hb6⟩; apply St.step (w0 := w) (hb := hb6); (focus (with_reducible repeat (first | exact S5.out | apply St.lay | apply St.drew | apply St.drewN))); intro S6; (try simp only [sz_alloc, sz_drew, sz_drewN] at S6); clear hb6 S5; (try clear C5); have C6 := S6.out.facts; simp only [facts, apart, cellsAt, Nat.zero_add, Nat.reduceAdd, and_true] at C6))
      have HBf := S6.out.bl
      go_ret
      exact ⟨rfl, (by repeat (first | exact Below.refl _ _ | assumption | refine bl_alloc ?_ _ | refine bl_drewN ?_ _ | refine bl_drew ?_ | refine bl_set ?_ (by first | (simp; done) | (simp; omega) | (dsimp only; omega)) _ | refine bl_then ?_ (by assumption)))⟩
set_option maxRecDepth 100000 in
set_option maxHeartbeats 4000000 in
theorem law_SymEntries_01 (m : Nat → Int) ( x : Int)  (w : World) (hg : GP w) :
    Calls Tryd.prog 3 #[.agg #[.int .i64 (m 0), .int .i64 (m 1), .int .i64 (m 2), .int .i64 (m 3), .int .i64 (m 4), .int .i64 (m 5)], .agg #[.int .i64 0, .int .i64 1], .int .i64 x] w fun e w' => e = .returned (.bool true) ∧ Below w.heap.size w w' := by
  have HG := Asd.mk hg
  have S0 := Asd.mk (St.refl w)
  clear hg
  go_enter Tryd.func3, Tryd.ntmps3
  go_wp2_with (first
      | (go_at_call 14; replace S3 := S3; refine (sym_Main m _).mono ?_; rintro e w4 ⟨rfl, hb4⟩; apply St.step (w0 := w) (hb := hb4); (focus (with_reducible repeat (first | exact S3.out | apply St.lay | apply St.drew | apply St.drewN))); intro S4; (try simp only [sz_alloc, sz_drew, sz_drewN] at S4); clear hb4 S3; (try clear C3); have C4 := S4.out.facts; simp only [facts, apart, cellsAt, Nat.zero_add, Nat.reduceAdd, and_true] at C4)
      | (go_at_call 12; replace S2 := S2; refine (Row_0 m _ (by exact HG.out.below (by with_reducible repeat (first | exact S2.out.bl | refine bl_alloc ?_ _ | refine bl_drewN ?_ _ | refine bl_drew ?_)))).mono ?_; rintro e w3 ⟨rfl, hb3⟩; apply St.step (w0 := w) (hb := hb3); (focus (with_reducible repeat (first | exact S2.out | apply St.lay | apply St.drew | apply St.drewN))); intro S3; (try simp only [sz_alloc, sz_drew, sz_drewN] at S3); clear hb3 S2; (try clear C2); have C3 := S3.out.facts; simp only [facts, apart, cellsAt, Nat.zero_add, Nat.reduceAdd, and_true] at C3)
      | (go_at_call 11; replace S1 := S1; refine (Put_01 m x _ (by exact HG.out.below (by with_reducible repeat (first | exact S1.out.bl | refine bl_alloc ?_ _ | refine bl_drewN ?_ _ | refine bl_drew ?_)))).mono ?_; rintro e w2 ⟨rfl, hb2⟩; apply St.step (w0 := w) (hb := hb2); (focus (with_reducible repeat (first | exact S1.out | apply St.lay | apply St.drew | apply St.drewN))); intro S2; (try simp only [sz_alloc, sz_drew, sz_drewN] at S2); clear hb2 S1; (try clear C1); have C2 := S2.out.facts; simp only [facts, apart, cellsAt, Nat.zero_add, Nat.reduceAdd, and_true] at C2)
      | (go_at_call 10; replace S0 := S0; refine (At_01 m _ (by exact HG.out.below (by with_reducible repeat (first | exact S0.out.bl | refine bl_alloc ?_ _ | refine bl_drewN ?_ _ | refine bl_drew ?_)))).mono ?_; rintro e w1 ⟨rfl, hb1⟩; apply St.step (w0 := w) (hb := hb1); (focus (with_reducible repeat (first | exact S0.out | apply St.lay | apply St.drew | apply St.drewN))); intro S1; (try simp only [sz_alloc, sz_drew, sz_drewN] at S1); clear hb1 S0; (try clear C0); have C1 := S1.out.facts; simp only [facts, apart, cellsAt, Nat.zero_add, Nat.reduceAdd, and_true] at C1)
      | (go_at_call 9; replace S0 := S0; refine (Place_01 _).mono ?_; rintro e w' ⟨rfl, rfl⟩))
  go_loopw [107] (fun v107 wr => ∃ k : Int, (k = 0 ∨ k = 1 ∨ k = 2 ∨ k = 3) ∧ v107 = .int .i64 k ∧ Asd (St w wr [(w4.heap.size, [.int .i64 (m 0), .int .i64 (m 3), .int .i64 (m 5)]), (w3.heap.size + 1, [.int .i64 (m 0), .int .i64 x, .int .i64 (m 2), .int .i64 (m 3), .int .i64 (m 4), .int .i64 (m 5)]), (w3.heap.size, [.int .i64 (m 0), .int .i64 (m 1), .int .i64 (m 2)]), (w2.heap.size, [.int .i64 (m 0), .int .i64 x, .int .i64 (m 2), .int .i64 (m 3), .int .i64 (m 4), .int .i64 (m 5)]), (w.heap.size + 1, [.int .i64 0, .int .i64 1]), (w.heap.size, [.int .i64 (m 0), .int .i64 (m 1), .int .i64 (m 2), .int .i64 (m 3), .int .i64 (m 4), .int .i64 (m 5)])] [])) (fun v107 _ => 3 - (intOf v107).toNat)
  case atStart => exact ⟨0, .inl rfl, rfl, ⟨St.layAt rfl S4.out⟩⟩
  case round =>
    obtain ⟨k, hk, rfl, S5⟩ := hrel
    have C5 := S5.out.facts
    simp only [facts, apart, cellsAt, Nat.zero_add, Nat.reduceAdd, and_true] at C5
    rcases hk with rfl | rfl | rfl | rfl
    · go_wp2
      go_quiet ((go_at_call 9; first | (with_reducible exact quiet_left (Place_00 _)) | (with_reducible exact quiet_left (Place_00 _))))
      go_wp2
      go_roundw
      case rel => exact ⟨1, by decide, rfl, ⟨S5.out.drewN _⟩⟩
      case measure => simp [intOf]
    · go_wp2
      go_quiet ((go_at_call 9; first | (with_reducible exact quiet_left (Place_01 _)) | (with_reducible exact quiet_left (Place_11 _))))
      go_wp2
      go_roundw
      case rel => exact ⟨2, by decide, rfl, ⟨S5.out.drewN _⟩⟩
      case measure => simp [intOf]
    · go_wp2
      go_quiet ((go_at_call 9; first | (with_reducible exact quiet_left (Place_02 _)) | (with_reducible exact quiet_left (Place_22 _))))
      go_wp2
      go_roundw
      case rel => exact ⟨3, by decide, rfl, ⟨S5.out.drewN _⟩⟩
      case measure => simp [intOf]
    · go_wp2_with (first
      | (go_at_call 13; replace S5 := S5; refine (law05_fixed _ (by exact HG.out.below (by with_reducible repeat (first | exact S5.out.bl | refine bl_alloc ?_ _ | refine bl_drewN ?_ _ | refine bl_drew ?_)))).mono ?_; rintro e w6 ⟨rfl, hb6⟩; apply St.step (w0 := w) (hb := hb6); (focus (with_reducible repeat (first | exact S5.out | apply St.lay | apply St.drew | apply St.drewN))); intro S6; (try simp only [sz_alloc, sz_drew, sz_drewN] at S6); clear hb6 S5; (try clear C5); have C6 := S6.out.facts; simp only [facts, apart, cellsAt, Nat.zero_add, Nat.reduceAdd, and_true] at C6))
      have HBf := S6.out.bl
      go_ret
      exact ⟨rfl, (by repeat (first | exact Below.refl _ _ | assumption | refine bl_alloc ?_ _ | refine bl_drewN ?_ _ | refine bl_drew ?_ | refine bl_set ?_ (by first | (simp; done) | (simp; omega) | (dsimp only; omega)) _ | refine bl_then ?_ (by assumption)))⟩
set_option maxRecDepth 100000 in
set_option maxHeartbeats 4000000 in
theorem law_SymEntries_02 (m : Nat → Int) ( x : Int)  (w : World) (hg : GP w) :
    Calls Tryd.prog 3 #[.agg #[.int .i64 (m 0), .int .i64 (m 1), .int .i64 (m 2), .int .i64 (m 3), .int .i64 (m 4), .int .i64 (m 5)], .agg #[.int .i64 0, .int .i64 2], .int .i64 x] w fun e w' => e = .returned (.bool true) ∧ Below w.heap.size w w' := by
  have HG := Asd.mk hg
  have S0 := Asd.mk (St.refl w)
  clear hg
  go_enter Tryd.func3, Tryd.ntmps3
  go_wp2_with (first
      | (go_at_call 14; replace S3 := S3; refine (sym_Main m _).mono ?_; rintro e w4 ⟨rfl, hb4⟩; apply St.step (w0 := w) (hb := hb4); (focus (with_reducible repeat (first | exact S3.out | apply St.lay | apply St.drew | apply St.drewN))); intro S4; (try simp only [sz_alloc, sz_drew, sz_drewN] at S4); clear hb4 S3; (try clear C3); have C4 := S4.out.facts; simp only [facts, apart, cellsAt, Nat.zero_add, Nat.reduceAdd, and_true] at C4)
      | (go_at_call 12; replace S2 := S2; refine (Row_0 m _ (by exact HG.out.below (by with_reducible repeat (first | exact S2.out.bl | refine bl_alloc ?_ _ | refine bl_drewN ?_ _ | refine bl_drew ?_)))).mono ?_; rintro e w3 ⟨rfl, hb3⟩; apply St.step (w0 := w) (hb := hb3); (focus (with_reducible repeat (first | exact S2.out | apply St.lay | apply St.drew | apply St.drewN))); intro S3; (try simp only [sz_alloc, sz_drew, sz_drewN] at S3); clear hb3 S2; (try clear C2); have C3 := S3.out.facts; simp only [facts, apart, cellsAt, Nat.zero_add, Nat.reduceAdd, and_true] at C3)
      | (go_at_call 11; replace S1 := S1; refine (Put_02 m x _ (by exact HG.out.below (by with_reducible repeat (first | exact S1.out.bl | refine bl_alloc ?_ _ | refine bl_drewN ?_ _ | refine bl_drew ?_)))).mono ?_; rintro e w2 ⟨rfl, hb2⟩; apply St.step (w0 := w) (hb := hb2); (focus (with_reducible repeat (first | exact S1.out | apply St.lay | apply St.drew | apply St.drewN))); intro S2; (try simp only [sz_alloc, sz_drew, sz_drewN] at S2); clear hb2 S1; (try clear C1); have C2 := S2.out.facts; simp only [facts, apart, cellsAt, Nat.zero_add, Nat.reduceAdd, and_true] at C2)
      | (go_at_call 10; replace S0 := S0; refine (At_02 m _ (by exact HG.out.below (by with_reducible repeat (first | exact S0.out.bl | refine bl_alloc ?_ _ | refine bl_drewN ?_ _ | refine bl_drew ?_)))).mono ?_; rintro e w1 ⟨rfl, hb1⟩; apply St.step (w0 := w) (hb := hb1); (focus (with_reducible repeat (first | exact S0.out | apply St.lay | apply St.drew | apply St.drewN))); intro S1; (try simp only [sz_alloc, sz_drew, sz_drewN] at S1); clear hb1 S0; (try clear C0); have C1 := S1.out.facts; simp only [facts, apart, cellsAt, Nat.zero_add, Nat.reduceAdd, and_true] at C1)
      | (go_at_call 9; replace S0 := S0; refine (Place_02 _).mono ?_; rintro e w' ⟨rfl, rfl⟩))
  go_loopw [107] (fun v107 wr => ∃ k : Int, (k = 0 ∨ k = 1 ∨ k = 2 ∨ k = 3) ∧ v107 = .int .i64 k ∧ Asd (St w wr [(w4.heap.size, [.int .i64 (m 0), .int .i64 (m 3), .int .i64 (m 5)]), (w3.heap.size + 1, [.int .i64 (m 0), .int .i64 (m 1), .int .i64 x, .int .i64 (m 3), .int .i64 (m 4), .int .i64 (m 5)]), (w3.heap.size, [.int .i64 (m 0), .int .i64 (m 1), .int .i64 (m 2)]), (w2.heap.size, [.int .i64 (m 0), .int .i64 (m 1), .int .i64 x, .int .i64 (m 3), .int .i64 (m 4), .int .i64 (m 5)]), (w.heap.size + 1, [.int .i64 0, .int .i64 2]), (w.heap.size, [.int .i64 (m 0), .int .i64 (m 1), .int .i64 (m 2), .int .i64 (m 3), .int .i64 (m 4), .int .i64 (m 5)])] [])) (fun v107 _ => 3 - (intOf v107).toNat)
  case atStart => exact ⟨0, .inl rfl, rfl, ⟨St.layAt rfl S4.out⟩⟩
  case round =>
    obtain ⟨k, hk, rfl, S5⟩ := hrel
    have C5 := S5.out.facts
    simp only [facts, apart, cellsAt, Nat.zero_add, Nat.reduceAdd, and_true] at C5
    rcases hk with rfl | rfl | rfl | rfl
    · go_wp2
      go_quiet ((go_at_call 9; first | (with_reducible exact quiet_left (Place_00 _)) | (with_reducible exact quiet_left (Place_00 _))))
      go_wp2
      go_roundw
      case rel => exact ⟨1, by decide, rfl, ⟨S5.out.drewN _⟩⟩
      case measure => simp [intOf]
    · go_wp2
      go_quiet ((go_at_call 9; first | (with_reducible exact quiet_left (Place_01 _)) | (with_reducible exact quiet_left (Place_11 _))))
      go_wp2
      go_roundw
      case rel => exact ⟨2, by decide, rfl, ⟨S5.out.drewN _⟩⟩
      case measure => simp [intOf]
    · go_wp2
      go_quiet ((go_at_call 9; first | (with_reducible exact quiet_left (Place_02 _)) | (with_reducible exact quiet_left (Place_22 _))))
      go_wp2
      go_roundw
      case rel => exact ⟨3, by decide, rfl, ⟨S5.out.drewN _⟩⟩
      case measure => simp [intOf]
    · go_wp2_with (first
      | (go_at_call 13; replace S5 := S5; refine (law05_fixed _ (by exact HG.out.below (by with_reducible repeat (first | exact S5.out.bl | refine bl_alloc ?_ _ | refine bl_drewN ?_ _ | refine bl_drew ?_)))).mono ?_; rintro e w6 ⟨rfl, hb6⟩; apply St.step (w0 := w) (hb := hb6); (focus (with_reducible repeat (first | exact S5.out | apply St.lay | apply St.drew | apply St.drewN))); intro S6; (try simp only [sz_alloc, sz_drew, sz_drewN] at S6); clear hb6 S5; (try clear C5); have C6 := S6.out.facts; simp only [facts, apart, cellsAt, Nat.zero_add, Nat.reduceAdd, and_true] at C6))
      have HBf := S6.out.bl
      go_ret
      exact ⟨rfl, (by repeat (first | exact Below.refl _ _ | assumption | refine bl_alloc ?_ _ | refine bl_drewN ?_ _ | refine bl_drew ?_ | refine bl_set ?_ (by first | (simp; done) | (simp; omega) | (dsimp only; omega)) _ | refine bl_then ?_ (by assumption)))⟩
set_option maxRecDepth 100000 in
set_option maxHeartbeats 4000000 in
theorem law_SymEntries_10 (m : Nat → Int) ( x : Int)  (w : World) (hg : GP w) :
    Calls Tryd.prog 3 #[.agg #[.int .i64 (m 0), .int .i64 (m 1), .int .i64 (m 2), .int .i64 (m 3), .int .i64 (m 4), .int .i64 (m 5)], .agg #[.int .i64 1, .int .i64 0], .int .i64 x] w fun e w' => e = .returned (.bool true) ∧ Below w.heap.size w w' := by
  have HG := Asd.mk hg
  have S0 := Asd.mk (St.refl w)
  clear hg
  go_enter Tryd.func3, Tryd.ntmps3
  go_wp2_with (first
      | (go_at_call 14; replace S3 := S3; refine (sym_Main m _).mono ?_; rintro e w4 ⟨rfl, hb4⟩; apply St.step (w0 := w) (hb := hb4); (focus (with_reducible repeat (first | exact S3.out | apply St.lay | apply St.drew | apply St.drewN))); intro S4; (try simp only [sz_alloc, sz_drew, sz_drewN] at S4); clear hb4 S3; (try clear C3); have C4 := S4.out.facts; simp only [facts, apart, cellsAt, Nat.zero_add, Nat.reduceAdd, and_true] at C4)
      | (go_at_call 12; replace S2 := S2; refine (Row_1 m _ (by exact HG.out.below (by with_reducible repeat (first | exact S2.out.bl | refine bl_alloc ?_ _ | refine bl_drewN ?_ _ | refine bl_drew ?_)))).mono ?_; rintro e w3 ⟨rfl, hb3⟩; apply St.step (w0 := w) (hb := hb3); (focus (with_reducible repeat (first | exact S2.out | apply St.lay | apply St.drew | apply St.drewN))); intro S3; (try simp only [sz_alloc, sz_drew, sz_drewN] at S3); clear hb3 S2; (try clear C2); have C3 := S3.out.facts; simp only [facts, apart, cellsAt, Nat.zero_add, Nat.reduceAdd, and_true] at C3)
      | (go_at_call 11; replace S1 := S1; refine (Put_10 m x _ (by exact HG.out.below (by with_reducible repeat (first | exact S1.out.bl | refine bl_alloc ?_ _ | refine bl_drewN ?_ _ | refine bl_drew ?_)))).mono ?_; rintro e w2 ⟨rfl, hb2⟩; apply St.step (w0 := w) (hb := hb2); (focus (with_reducible repeat (first | exact S1.out | apply St.lay | apply St.drew | apply St.drewN))); intro S2; (try simp only [sz_alloc, sz_drew, sz_drewN] at S2); clear hb2 S1; (try clear C1); have C2 := S2.out.facts; simp only [facts, apart, cellsAt, Nat.zero_add, Nat.reduceAdd, and_true] at C2)
      | (go_at_call 10; replace S0 := S0; refine (At_10 m _ (by exact HG.out.below (by with_reducible repeat (first | exact S0.out.bl | refine bl_alloc ?_ _ | refine bl_drewN ?_ _ | refine bl_drew ?_)))).mono ?_; rintro e w1 ⟨rfl, hb1⟩; apply St.step (w0 := w) (hb := hb1); (focus (with_reducible repeat (first | exact S0.out | apply St.lay | apply St.drew | apply St.drewN))); intro S1; (try simp only [sz_alloc, sz_drew, sz_drewN] at S1); clear hb1 S0; (try clear C0); have C1 := S1.out.facts; simp only [facts, apart, cellsAt, Nat.zero_add, Nat.reduceAdd, and_true] at C1)
      | (go_at_call 9; replace S0 := S0; refine (Place_10 _).mono ?_; rintro e w' ⟨rfl, rfl⟩))
  go_loopw [107] (fun v107 wr => ∃ k : Int, (k = 0 ∨ k = 1 ∨ k = 2 ∨ k = 3) ∧ v107 = .int .i64 k ∧ Asd (St w wr [(w4.heap.size, [.int .i64 (m 0), .int .i64 (m 3), .int .i64 (m 5)]), (w3.heap.size + 1, [.int .i64 (m 0), .int .i64 x, .int .i64 (m 2), .int .i64 (m 3), .int .i64 (m 4), .int .i64 (m 5)]), (w3.heap.size, [.int .i64 (m 1), .int .i64 (m 3), .int .i64 (m 4)]), (w2.heap.size, [.int .i64 (m 0), .int .i64 x, .int .i64 (m 2), .int .i64 (m 3), .int .i64 (m 4), .int .i64 (m 5)]), (w.heap.size + 1, [.int .i64 1, .int .i64 0]), (w.heap.size, [.int .i64 (m 0), .int .i64 (m 1), .int .i64 (m 2), .int .i64 (m 3), .int .i64 (m 4), .int .i64 (m 5)])] [])) (fun v107 _ => 3 - (intOf v107).toNat)
  case atStart => exact ⟨0, .inl rfl, rfl, ⟨St.layAt rfl S4.out⟩⟩
  case round =>
    obtain ⟨k, hk, rfl, S5⟩ := hrel
    have C5 := S5.out.facts
    simp only [facts, apart, cellsAt, Nat.zero_add, Nat.reduceAdd, and_true] at C5
    rcases hk with rfl | rfl | rfl | rfl
    · go_wp2
      go_quiet ((go_at_call 9; first | (with_reducible exact quiet_left (Place_10 _)) | (with_reducible exact quiet_left (Place_00 _))))
      go_wp2
      go_roundw
      case rel => exact ⟨1, by decide, rfl, ⟨S5.out.drewN _⟩⟩
      case measure => simp [intOf]
    · go_wp2
      go_quiet ((go_at_call 9; first | (with_reducible exact quiet_left (Place_11 _)) | (with_reducible exact quiet_left (Place_11 _))))
      go_wp2
      go_roundw
      case rel => exact ⟨2, by decide, rfl, ⟨S5.out.drewN _⟩⟩
      case measure => simp [intOf]
    · go_wp2
      go_quiet ((go_at_call 9; first | (with_reducible exact quiet_left (Place_12 _)) | (with_reducible exact quiet_left (Place_22 _))))
      go_wp2
      go_roundw
      case rel => exact ⟨3, by decide, rfl, ⟨S5.out.drewN _⟩⟩
      case measure => simp [intOf]
    · go_wp2_with (first
      | (go_at_call 13; replace S5 := S5; refine (law05_fixed _ (by exact HG.out.below (by with_reducible repeat (first | exact S5.out.bl | refine bl_alloc ?_ _ | refine bl_drewN ?_ _ | refine bl_drew ?_)))).mono ?_; rintro e w6 ⟨rfl, hb6⟩; apply St.step (w0 := w) (hb := hb6); (focus (with_reducible repeat (first | exact S5.out | apply St.lay | apply St.drew | apply St.drewN))); intro S6; (try simp only [sz_alloc, sz_drew, sz_drewN] at S6); clear hb6 S5; (try clear C5); have C6 := S6.out.facts; simp only [facts, apart, cellsAt, Nat.zero_add, Nat.reduceAdd, and_true] at C6))
      have HBf := S6.out.bl
      go_ret
      exact ⟨rfl, (by repeat (first | exact Below.refl _ _ | assumption | refine bl_alloc ?_ _ | refine bl_drewN ?_ _ | refine bl_drew ?_ | refine bl_set ?_ (by first | (simp; done) | (simp; omega) | (dsimp only; omega)) _ | refine bl_then ?_ (by assumption)))⟩
set_option maxRecDepth 100000 in
set_option maxHeartbeats 4000000 in
theorem law_SymEntries_11 (m : Nat → Int) ( x : Int)  (w : World) (hg : GP w) :
    Calls Tryd.prog 3 #[.agg #[.int .i64 (m 0), .int .i64 (m 1), .int .i64 (m 2), .int .i64 (m 3), .int .i64 (m 4), .int .i64 (m 5)], .agg #[.int .i64 1, .int .i64 1], .int .i64 x] w fun e w' => e = .returned (.bool true) ∧ Below w.heap.size w w' := by
  have HG := Asd.mk hg
  have S0 := Asd.mk (St.refl w)
  clear hg
  go_enter Tryd.func3, Tryd.ntmps3
  go_wp2_with (first
      | (go_at_call 14; replace S3 := S3; refine (sym_Main m _).mono ?_; rintro e w4 ⟨rfl, hb4⟩; apply St.step (w0 := w) (hb := hb4); (focus (with_reducible repeat (first | exact S3.out | apply St.lay | apply St.drew | apply St.drewN))); intro S4; (try simp only [sz_alloc, sz_drew, sz_drewN] at S4); clear hb4 S3; (try clear C3); have C4 := S4.out.facts; simp only [facts, apart, cellsAt, Nat.zero_add, Nat.reduceAdd, and_true] at C4)
      | (go_at_call 12; replace S2 := S2; refine (Row_1 m _ (by exact HG.out.below (by with_reducible repeat (first | exact S2.out.bl | refine bl_alloc ?_ _ | refine bl_drewN ?_ _ | refine bl_drew ?_)))).mono ?_; rintro e w3 ⟨rfl, hb3⟩; apply St.step (w0 := w) (hb := hb3); (focus (with_reducible repeat (first | exact S2.out | apply St.lay | apply St.drew | apply St.drewN))); intro S3; (try simp only [sz_alloc, sz_drew, sz_drewN] at S3); clear hb3 S2; (try clear C2); have C3 := S3.out.facts; simp only [facts, apart, cellsAt, Nat.zero_add, Nat.reduceAdd, and_true] at C3)
      | (go_at_call 11; replace S1 := S1; refine (Put_11 m x _ (by exact HG.out.below (by with_reducible repeat (first | exact S1.out.bl | refine bl_alloc ?_ _ | refine bl_drewN ?_ _ | refine bl_drew ?_)))).mono ?_; rintro e w2 ⟨rfl, hb2⟩; apply St.step (w0 := w) (hb := hb2); (focus (with_reducible repeat (first | exact S1.out | apply St.lay | apply St.drew | apply St.drewN))); intro S2; (try simp only [sz_alloc, sz_drew, sz_drewN] at S2); clear hb2 S1; (try clear C1); have C2 := S2.out.facts; simp only [facts, apart, cellsAt, Nat.zero_add, Nat.reduceAdd, and_true] at C2)
      | (go_at_call 10; replace S0 := S0; refine (At_11 m _ (by exact HG.out.below (by with_reducible repeat (first | exact S0.out.bl | refine bl_alloc ?_ _ | refine bl_drewN ?_ _ | refine bl_drew ?_)))).mono ?_; rintro e w1 ⟨rfl, hb1⟩; apply St.step (w0 := w) (hb := hb1); (focus (with_reducible repeat (first | exact S0.out | apply St.lay | apply St.drew | apply St.drewN))); intro S1; (try simp only [sz_alloc, sz_drew, sz_drewN] at S1); clear hb1 S0; (try clear C0); have C1 := S1.out.facts; simp only [facts, apart, cellsAt, Nat.zero_add, Nat.reduceAdd, and_true] at C1)
      | (go_at_call 9; replace S0 := S0; refine (Place_11 _).mono ?_; rintro e w' ⟨rfl, rfl⟩))
  go_loopw [107] (fun v107 wr => ∃ k : Int, (k = 0 ∨ k = 1 ∨ k = 2 ∨ k = 3) ∧ v107 = .int .i64 k ∧ Asd (St w wr [(w4.heap.size, [.int .i64 (m 0), .int .i64 (m 3), .int .i64 (m 5)]), (w3.heap.size + 1, [.int .i64 (m 0), .int .i64 (m 1), .int .i64 (m 2), .int .i64 x, .int .i64 (m 4), .int .i64 (m 5)]), (w3.heap.size, [.int .i64 (m 1), .int .i64 (m 3), .int .i64 (m 4)]), (w2.heap.size, [.int .i64 (m 0), .int .i64 (m 1), .int .i64 (m 2), .int .i64 x, .int .i64 (m 4), .int .i64 (m 5)]), (w.heap.size + 1, [.int .i64 1, .int .i64 1]), (w.heap.size, [.int .i64 (m 0), .int .i64 (m 1), .int .i64 (m 2), .int .i64 (m 3), .int .i64 (m 4), .int .i64 (m 5)])] [])) (fun v107 _ => 3 - (intOf v107).toNat)
  case atStart => exact ⟨0, .inl rfl, rfl, ⟨St.layAt rfl S4.out⟩⟩
  case round =>
    obtain ⟨k, hk, rfl, S5⟩ := hrel
    have C5 := S5.out.facts
    simp only [facts, apart, cellsAt, Nat.zero_add, Nat.reduceAdd, and_true] at C5
    rcases hk with rfl | rfl | rfl | rfl
    · go_wp2
      go_quiet ((go_at_call 9; first | (with_reducible exact quiet_left (Place_10 _)) | (with_reducible exact quiet_left (Place_00 _))))
      go_wp2
      go_roundw
      case rel => exact ⟨1, by decide, rfl, ⟨S5.out.drewN _⟩⟩
      case measure => simp [intOf]
    · go_wp2
      go_quiet ((go_at_call 9; first | (with_reducible exact quiet_left (Place_11 _)) | (with_reducible exact quiet_left (Place_11 _))))
      go_wp2
      go_roundw
      case rel => exact ⟨2, by decide, rfl, ⟨S5.out.drewN _⟩⟩
      case measure => simp [intOf]
    · go_wp2
      go_quiet ((go_at_call 9; first | (with_reducible exact quiet_left (Place_12 _)) | (with_reducible exact quiet_left (Place_22 _))))
      go_wp2
      go_roundw
      case rel => exact ⟨3, by decide, rfl, ⟨S5.out.drewN _⟩⟩
      case measure => simp [intOf]
    · go_wp2_with (first
      | (go_at_call 13; replace S5 := S5; refine (law05_fixed _ (by exact HG.out.below (by with_reducible repeat (first | exact S5.out.bl | refine bl_alloc ?_ _ | refine bl_drewN ?_ _ | refine bl_drew ?_)))).mono ?_; rintro e w6 ⟨rfl, hb6⟩; apply St.step (w0 := w) (hb := hb6); (focus (with_reducible repeat (first | exact S5.out | apply St.lay | apply St.drew | apply St.drewN))); intro S6; (try simp only [sz_alloc, sz_drew, sz_drewN] at S6); clear hb6 S5; (try clear C5); have C6 := S6.out.facts; simp only [facts, apart, cellsAt, Nat.zero_add, Nat.reduceAdd, and_true] at C6))
      have HBf := S6.out.bl
      go_ret
      exact ⟨rfl, (by repeat (first | exact Below.refl _ _ | assumption | refine bl_alloc ?_ _ | refine bl_drewN ?_ _ | refine bl_drew ?_ | refine bl_set ?_ (by first | (simp; done) | (simp; omega) | (dsimp only; omega)) _ | refine bl_then ?_ (by assumption)))⟩
set_option maxRecDepth 100000 in
set_option maxHeartbeats 4000000 in
theorem law_SymEntries_12 (m : Nat → Int) ( x : Int)  (w : World) (hg : GP w) :
    Calls Tryd.prog 3 #[.agg #[.int .i64 (m 0), .int .i64 (m 1), .int .i64 (m 2), .int .i64 (m 3), .int .i64 (m 4), .int .i64 (m 5)], .agg #[.int .i64 1, .int .i64 2], .int .i64 x] w fun e w' => e = .returned (.bool true) ∧ Below w.heap.size w w' := by
  have HG := Asd.mk hg
  have S0 := Asd.mk (St.refl w)
  clear hg
  go_enter Tryd.func3, Tryd.ntmps3
  go_wp2_with (first
      | (go_at_call 14; replace S3 := S3; refine (sym_Main m _).mono ?_; rintro e w4 ⟨rfl, hb4⟩; apply St.step (w0 := w) (hb := hb4); (focus (with_reducible repeat (first | exact S3.out | apply St.lay | apply St.drew | apply St.drewN))); intro S4; (try simp only [sz_alloc, sz_drew, sz_drewN] at S4); clear hb4 S3; (try clear C3); have C4 := S4.out.facts; simp only [facts, apart, cellsAt, Nat.zero_add, Nat.reduceAdd, and_true] at C4)
      | (go_at_call 12; replace S2 := S2; refine (Row_1 m _ (by exact HG.out.below (by with_reducible repeat (first | exact S2.out.bl | refine bl_alloc ?_ _ | refine bl_drewN ?_ _ | refine bl_drew ?_)))).mono ?_; rintro e w3 ⟨rfl, hb3⟩; apply St.step (w0 := w) (hb := hb3); (focus (with_reducible repeat (first | exact S2.out | apply St.lay | apply St.drew | apply St.drewN))); intro S3; (try simp only [sz_alloc, sz_drew, sz_drewN] at S3); clear hb3 S2; (try clear C2); have C3 := S3.out.facts; simp only [facts, apart, cellsAt, Nat.zero_add, Nat.reduceAdd, and_true] at C3)
      | (go_at_call 11; replace S1 := S1; refine (Put_12 m x _ (by exact HG.out.below (by with_reducible repeat (first | exact S1.out.bl | refine bl_alloc ?_ _ | refine bl_drewN ?_ _ | refine bl_drew ?_)))).mono ?_; rintro e w2 ⟨rfl, hb2⟩; apply St.step (w0 := w) (hb := hb2); (focus (with_reducible repeat (first | exact S1.out | apply St.lay | apply St.drew | apply St.drewN))); intro S2; (try simp only [sz_alloc, sz_drew, sz_drewN] at S2); clear hb2 S1; (try clear C1); have C2 := S2.out.facts; simp only [facts, apart, cellsAt, Nat.zero_add, Nat.reduceAdd, and_true] at C2)
      | (go_at_call 10; replace S0 := S0; refine (At_12 m _ (by exact HG.out.below (by with_reducible repeat (first | exact S0.out.bl | refine bl_alloc ?_ _ | refine bl_drewN ?_ _ | refine bl_drew ?_)))).mono ?_; rintro e w1 ⟨rfl, hb1⟩; apply St.step (w0 := w) (hb := hb1); (focus (with_reducible repeat (first | exact S0.out | apply St.lay | apply St.drew | apply St.drewN))); intro S1; (try simp only [sz_alloc, sz_drew, sz_drewN] at S1); clear hb1 S0; (try clear C0); have C1 := S1.out.facts; simp only [facts, apart, cellsAt, Nat.zero_add, Nat.reduceAdd, and_true] at C1)
      | (go_at_call 9; replace S0 := S0; refine (Place_12 _).mono ?_; rintro e w' ⟨rfl, rfl⟩))
  go_loopw [107] (fun v107 wr => ∃ k : Int, (k = 0 ∨ k = 1 ∨ k = 2 ∨ k = 3) ∧ v107 = .int .i64 k ∧ Asd (St w wr [(w4.heap.size, [.int .i64 (m 0), .int .i64 (m 3), .int .i64 (m 5)]), (w3.heap.size + 1, [.int .i64 (m 0), .int .i64 (m 1), .int .i64 (m 2), .int .i64 (m 3), .int .i64 x, .int .i64 (m 5)]), (w3.heap.size, [.int .i64 (m 1), .int .i64 (m 3), .int .i64 (m 4)]), (w2.heap.size, [.int .i64 (m 0), .int .i64 (m 1), .int .i64 (m 2), .int .i64 (m 3), .int .i64 x, .int .i64 (m 5)]), (w.heap.size + 1, [.int .i64 1, .int .i64 2]), (w.heap.size, [.int .i64 (m 0), .int .i64 (m 1), .int .i64 (m 2), .int .i64 (m 3), .int .i64 (m 4), .int .i64 (m 5)])] [])) (fun v107 _ => 3 - (intOf v107).toNat)
  case atStart => exact ⟨0, .inl rfl, rfl, ⟨St.layAt rfl S4.out⟩⟩
  case round =>
    obtain ⟨k, hk, rfl, S5⟩ := hrel
    have C5 := S5.out.facts
    simp only [facts, apart, cellsAt, Nat.zero_add, Nat.reduceAdd, and_true] at C5
    rcases hk with rfl | rfl | rfl | rfl
    · go_wp2
      go_quiet ((go_at_call 9; first | (with_reducible exact quiet_left (Place_10 _)) | (with_reducible exact quiet_left (Place_00 _))))
      go_wp2
      go_roundw
      case rel => exact ⟨1, by decide, rfl, ⟨S5.out.drewN _⟩⟩
      case measure => simp [intOf]
    · go_wp2
      go_quiet ((go_at_call 9; first | (with_reducible exact quiet_left (Place_11 _)) | (with_reducible exact quiet_left (Place_11 _))))
      go_wp2
      go_roundw
      case rel => exact ⟨2, by decide, rfl, ⟨S5.out.drewN _⟩⟩
      case measure => simp [intOf]
    · go_wp2
      go_quiet ((go_at_call 9; first | (with_reducible exact quiet_left (Place_12 _)) | (with_reducible exact quiet_left (Place_22 _))))
      go_wp2
      go_roundw
      case rel => exact ⟨3, by decide, rfl, ⟨S5.out.drewN _⟩⟩
      case measure => simp [intOf]
    · go_wp2_with (first
      | (go_at_call 13; replace S5 := S5; refine (law05_fixed _ (by exact HG.out.below (by with_reducible repeat (first | exact S5.out.bl | refine bl_alloc ?_ _ | refine bl_drewN ?_ _ | refine bl_drew ?_)))).mono ?_; rintro e w6 ⟨rfl, hb6⟩; apply St.step (w0 := w) (hb := hb6); (focus (with_reducible repeat (first | exact S5.out | apply St.lay | apply St.drew | apply St.drewN))); intro S6; (try simp only [sz_alloc, sz_drew, sz_drewN] at S6); clear hb6 S5; (try clear C5); have C6 := S6.out.facts; simp only [facts, apart, cellsAt, Nat.zero_add, Nat.reduceAdd, and_true] at C6))
      have HBf := S6.out.bl
      go_ret
      exact ⟨rfl, (by repeat (first | exact Below.refl _ _ | assumption | refine bl_alloc ?_ _ | refine bl_drewN ?_ _ | refine bl_drew ?_ | refine bl_set ?_ (by first | (simp; done) | (simp; omega) | (dsimp only; omega)) _ | refine bl_then ?_ (by assumption)))⟩
set_option maxRecDepth 100000 in
set_option maxHeartbeats 4000000 in
theorem law_SymEntries_20 (m : Nat → Int) ( x : Int)  (w : World) (hg : GP w) :
    Calls Tryd.prog 3 #[.agg #[.int .i64 (m 0), .int .i64 (m 1), .int .i64 (m 2), .int .i64 (m 3), .int .i64 (m 4), .int .i64 (m 5)], .agg #[.int .i64 2, .int .i64 0], .int .i64 x] w fun e w' => e = .returned (.bool true) ∧ Below w.heap.size w w' := by
  have HG := Asd.mk hg
  have S0 := Asd.mk (St.refl w)
  clear hg
  go_enter Tryd.func3, Tryd.ntmps3
  go_wp2_with (first
      | (go_at_call 14; replace S3 := S3; refine (sym_Main m _).mono ?_; rintro e w4 ⟨rfl, hb4⟩; apply St.step (w0 := w) (hb := hb4); (focus (with_reducible repeat (first | exact S3.out | apply St.lay | apply St.drew | apply St.drewN))); intro S4; (try simp only [sz_alloc, sz_drew, sz_drewN] at S4); clear hb4 S3; (try clear C3); have C4 := S4.out.facts; simp only [facts, apart, cellsAt, Nat.zero_add, Nat.reduceAdd, and_true] at C4)
      | (go_at_call 12; replace S2 := S2; refine (Row_2 m _ (by exact HG.out.below (by with_reducible repeat (first | exact S2.out.bl | refine bl_alloc ?_ _ | refine bl_drewN ?_ _ | refine bl_drew ?_)))).mono ?_; rintro e w3 ⟨rfl, hb3⟩; apply St.step (w0 := w) (hb := hb3); (focus (with_reducible repeat (first | exact S2.out | apply St.lay | apply St.drew | apply St.drewN))); intro S3; (try simp only [sz_alloc, sz_drew, sz_drewN] at S3); clear hb3 S2; (try clear C2); have C3 := S3.out.facts; simp only [facts, apart, cellsAt, Nat.zero_add, Nat.reduceAdd, and_true] at C3)
      | (go_at_call 11; replace S1 := S1; refine (Put_20 m x _ (by exact HG.out.below (by with_reducible repeat (first | exact S1.out.bl | refine bl_alloc ?_ _ | refine bl_drewN ?_ _ | refine bl_drew ?_)))).mono ?_; rintro e w2 ⟨rfl, hb2⟩; apply St.step (w0 := w) (hb := hb2); (focus (with_reducible repeat (first | exact S1.out | apply St.lay | apply St.drew | apply St.drewN))); intro S2; (try simp only [sz_alloc, sz_drew, sz_drewN] at S2); clear hb2 S1; (try clear C1); have C2 := S2.out.facts; simp only [facts, apart, cellsAt, Nat.zero_add, Nat.reduceAdd, and_true] at C2)
      | (go_at_call 10; replace S0 := S0; refine (At_20 m _ (by exact HG.out.below (by with_reducible repeat (first | exact S0.out.bl | refine bl_alloc ?_ _ | refine bl_drewN ?_ _ | refine bl_drew ?_)))).mono ?_; rintro e w1 ⟨rfl, hb1⟩; apply St.step (w0 := w) (hb := hb1); (focus (with_reducible repeat (first | exact S0.out | apply St.lay | apply St.drew | apply St.drewN))); intro S1; (try simp only [sz_alloc, sz_drew, sz_drewN] at S1); clear hb1 S0; (try clear C0); have C1 := S1.out.facts; simp only [facts, apart, cellsAt, Nat.zero_add, Nat.reduceAdd, and_true] at C1)
      | (go_at_call 9; replace S0 := S0; refine (Place_20 _).mono ?_; rintro e w' ⟨rfl, rfl⟩))
  go_loopw [107] (fun v107 wr => ∃ k : Int, (k = 0 ∨ k = 1 ∨ k = 2 ∨ k = 3) ∧ v107 = .int .i64 k ∧ Asd (St w wr [(w4.heap.size, [.int .i64 (m 0), .int .i64 (m 3), .int .i64 (m 5)]), (w3.heap.size + 1, [.int .i64 (m 0), .int .i64 (m 1), .int .i64 x, .int .i64 (m 3), .int .i64 (m 4), .int .i64 (m 5)]), (w3.heap.size, [.int .i64 (m 2), .int .i64 (m 4), .int .i64 (m 5)]), (w2.heap.size, [.int .i64 (m 0), .int .i64 (m 1), .int .i64 x, .int .i64 (m 3), .int .i64 (m 4), .int .i64 (m 5)]), (w.heap.size + 1, [.int .i64 2, .int .i64 0]), (w.heap.size, [.int .i64 (m 0), .int .i64 (m 1), .int .i64 (m 2), .int .i64 (m 3), .int .i64 (m 4), .int .i64 (m 5)])] [])) (fun v107 _ => 3 - (intOf v107).toNat)
  case atStart => exact ⟨0, .inl rfl, rfl, ⟨St.layAt rfl S4.out⟩⟩
  case round =>
    obtain ⟨k, hk, rfl, S5⟩ := hrel
    have C5 := S5.out.facts
    simp only [facts, apart, cellsAt, Nat.zero_add, Nat.reduceAdd, and_true] at C5
    rcases hk with rfl | rfl | rfl | rfl
    · go_wp2
      go_quiet ((go_at_call 9; first | (with_reducible exact quiet_left (Place_20 _)) | (with_reducible exact quiet_left (Place_00 _))))
      go_wp2
      go_roundw
      case rel => exact ⟨1, by decide, rfl, ⟨S5.out.drewN _⟩⟩
      case measure => simp [intOf]
    · go_wp2
      go_quiet ((go_at_call 9; first | (with_reducible exact quiet_left (Place_21 _)) | (with_reducible exact quiet_left (Place_11 _))))
      go_wp2
      go_roundw
      case rel => exact ⟨2, by decide, rfl, ⟨S5.out.drewN _⟩⟩
      case measure => simp [intOf]
    · go_wp2
      go_quiet ((go_at_call 9; first | (with_reducible exact quiet_left (Place_22 _)) | (with_reducible exact quiet_left (Place_22 _))))
      go_wp2
      go_roundw
      case rel => exact ⟨3, by decide, rfl, ⟨S5.out.drewN _⟩⟩
      case measure => simp [intOf]
    · go_wp2_with (first
      | (go_at_call 13; replace S5 := S5; refine (law05_fixed _ (by exact HG.out.below (by with_reducible repeat (first | exact S5.out.bl | refine bl_alloc ?_ _ | refine bl_drewN ?_ _ | refine bl_drew ?_)))).mono ?_; rintro e w6 ⟨rfl, hb6⟩; apply St.step (w0 := w) (hb := hb6); (focus (with_reducible repeat (first | exact S5.out | apply St.lay | apply St.drew | apply St.drewN))); intro S6; (try simp only [sz_alloc, sz_drew, sz_drewN] at S6); clear hb6 S5; (try clear C5); have C6 := S6.out.facts; simp only [facts, apart, cellsAt, Nat.zero_add, Nat.reduceAdd, and_true] at C6))
      have HBf := S6.out.bl
      go_ret
      exact ⟨rfl, (by repeat (first | exact Below.refl _ _ | assumption | refine bl_alloc ?_ _ | refine bl_drewN ?_ _ | refine bl_drew ?_ | refine bl_set ?_ (by first | (simp; done) | (simp; omega) | (dsimp only; omega)) _ | refine bl_then ?_ (by assumption)))⟩
set_option maxRecDepth 100000 in
set_option maxHeartbeats 4000000 in
theorem law_SymEntries_21 (m : Nat → Int) ( x : Int)  (w : World) (hg : GP w) :
    Calls Tryd.prog 3 #[.agg #[.int .i64 (m 0), .int .i64 (m 1), .int .i64 (m 2), .int .i64 (m 3), .int .i64 (m 4), .int .i64 (m 5)], .agg #[.int .i64 2, .int .i64 1], .int .i64 x] w fun e w' => e = .returned (.bool true) ∧ Below w.heap.size w w' := by
  have HG := Asd.mk hg
  have S0 := Asd.mk (St.refl w)
  clear hg
  go_enter Tryd.func3, Tryd.ntmps3
  go_wp2_with (first
      | (go_at_call 14; replace S3 := S3; refine (sym_Main m _).mono ?_; rintro e w4 ⟨rfl, hb4⟩; apply St.step (w0 := w) (hb := hb4); (focus (with_reducible repeat (first | exact S3.out | apply St.lay | apply St.drew | apply St.drewN))); intro S4; (try simp only [sz_alloc, sz_drew, sz_drewN] at S4); clear hb4 S3; (try clear C3); have C4 := S4.out.facts; simp only [facts, apart, cellsAt, Nat.zero_add, Nat.reduceAdd, and_true] at C4)
      | (go_at_call 12; replace S2 := S2; refine (Row_2 m _ (by exact HG.out.below (by with_reducible repeat (first | exact S2.out.bl | refine bl_alloc ?_ _ | refine bl_drewN ?_ _ | refine bl_drew ?_)))).mono ?_; rintro e w3 ⟨rfl, hb3⟩; apply St.step (w0 := w) (hb := hb3); (focus (with_reducible repeat (first | exact S2.out | apply St.lay | apply St.drew | apply St.drewN))); intro S3; (try simp only [sz_alloc, sz_drew, sz_drewN] at S3); clear hb3 S2; (try clear C2); have C3 := S3.out.facts; simp only [facts, apart, cellsAt, Nat.zero_add, Nat.reduceAdd, and_true] at C3)
      | (go_at_call 11; replace S1 := S1; refine (Put_21 m x _ (by exact HG.out.below (by with_reducible repeat (first | exact S1.out.bl | refine bl_alloc ?_ _ | refine bl_drewN ?_ _ | refine bl_drew ?_)))).mono ?_; rintro e w2 ⟨rfl, hb2⟩; apply St.step (w0 := w) (hb := hb2); (focus (with_reducible repeat (first | exact S1.out | apply St.lay | apply St.drew | apply St.drewN))); intro S2; (try simp only [sz_alloc, sz_drew, sz_drewN] at S2); clear hb2 S1; (try clear C1); have C2 := S2.out.facts; simp only [facts, apart, cellsAt, Nat.zero_add, Nat.reduceAdd, and_true] at C2)
      | (go_at_call 10; replace S0 := S0; refine (At_21 m _ (by exact HG.out.below (by with_reducible repeat (first | exact S0.out.bl | refine bl_alloc ?_ _ | refine bl_drewN ?_ _ | refine bl_drew ?_)))).mono ?_; rintro e w1 ⟨rfl, hb1⟩; apply St.step (w0 := w) (hb := hb1); (focus (with_reducible repeat (first | exact S0.out | apply St.lay | apply St.drew | apply St.drewN))); intro S1; (try simp only [sz_alloc, sz_drew, sz_drewN] at S1); clear hb1 S0; (try clear C0); have C1 := S1.out.facts; simp only [facts, apart, cellsAt, Nat.zero_add, Nat.reduceAdd, and_true] at C1)
      | (go_at_call 9; replace S0 := S0; refine (Place_21 _).mono ?_; rintro e w' ⟨rfl, rfl⟩))
  go_loopw [107] (fun v107 wr => ∃ k : Int, (k = 0 ∨ k = 1 ∨ k = 2 ∨ k = 3) ∧ v107 = .int .i64 k ∧ Asd (St w wr [(w4.heap.size, [.int .i64 (m 0), .int .i64 (m 3), .int .i64 (m 5)]), (w3.heap.size + 1, [.int .i64 (m 0), .int .i64 (m 1), .int .i64 (m 2), .int .i64 (m 3), .int .i64 x, .int .i64 (m 5)]), (w3.heap.size, [.int .i64 (m 2), .int .i64 (m 4), .int .i64 (m 5)]), (w2.heap.size, [.int .i64 (m 0), .int .i64 (m 1), .int .i64 (m 2), .int .i64 (m 3), .int .i64 x, .int .i64 (m 5)]), (w.heap.size + 1, [.int .i64 2, .int .i64 1]), (w.heap.size, [.int .i64 (m 0), .int .i64 (m 1), .int .i64 (m 2), .int .i64 (m 3), .int .i64 (m 4), .int .i64 (m 5)])] [])) (fun v107 _ => 3 - (intOf v107).toNat)
  case atStart => exact ⟨0, .inl rfl, rfl, ⟨St.layAt rfl S4.out⟩⟩
  case round =>
    obtain ⟨k, hk, rfl, S5⟩ := hrel
    have C5 := S5.out.facts
    simp only [facts, apart, cellsAt, Nat.zero_add, Nat.reduceAdd, and_true] at C5
    rcases hk with rfl | rfl | rfl | rfl
    · go_wp2
      go_quiet ((go_at_call 9; first | (with_reducible exact quiet_left (Place_20 _)) | (with_reducible exact quiet_left (Place_00 _))))
      go_wp2
      go_roundw
      case rel => exact ⟨1, by decide, rfl, ⟨S5.out.drewN _⟩⟩
      case measure => simp [intOf]
    · go_wp2
      go_quiet ((go_at_call 9; first | (with_reducible exact quiet_left (Place_21 _)) | (with_reducible exact quiet_left (Place_11 _))))
      go_wp2
      go_roundw
      case rel => exact ⟨2, by decide, rfl, ⟨S5.out.drewN _⟩⟩
      case measure => simp [intOf]
    · go_wp2
      go_quiet ((go_at_call 9; first | (with_reducible exact quiet_left (Place_22 _)) | (with_reducible exact quiet_left (Place_22 _))))
      go_wp2
      go_roundw
      case rel => exact ⟨3, by decide, rfl, ⟨S5.out.drewN _⟩⟩
      case measure => simp [intOf]
    · go_wp2_with (first
      | (go_at_call 13; replace S5 := S5; refine (law05_fixed _ (by exact HG.out.below (by with_reducible repeat (first | exact S5.out.bl | refine bl_alloc ?_ _ | refine bl_drewN ?_ _ | refine bl_drew ?_)))).mono ?_; rintro e w6 ⟨rfl, hb6⟩; apply St.step (w0 := w) (hb := hb6); (focus (with_reducible repeat (first | exact S5.out | apply St.lay | apply St.drew | apply St.drewN))); intro S6; (try simp only [sz_alloc, sz_drew, sz_drewN] at S6); clear hb6 S5; (try clear C5); have C6 := S6.out.facts; simp only [facts, apart, cellsAt, Nat.zero_add, Nat.reduceAdd, and_true] at C6))
      have HBf := S6.out.bl
      go_ret
      exact ⟨rfl, (by repeat (first | exact Below.refl _ _ | assumption | refine bl_alloc ?_ _ | refine bl_drewN ?_ _ | refine bl_drew ?_ | refine bl_set ?_ (by first | (simp; done) | (simp; omega) | (dsimp only; omega)) _ | refine bl_then ?_ (by assumption)))⟩
set_option maxRecDepth 100000 in
set_option maxHeartbeats 4000000 in
theorem law_SymEntries_22 (m : Nat → Int) ( x : Int)  (w : World) (hg : GP w) :
    Calls Tryd.prog 3 #[.agg #[.int .i64 (m 0), .int .i64 (m 1), .int .i64 (m 2), .int .i64 (m 3), .int .i64 (m 4), .int .i64 (m 5)], .agg #[.int .i64 2, .int .i64 2], .int .i64 x] w fun e w' => e = .returned (.bool true) ∧ Below w.heap.size w w' := by
  have HG := Asd.mk hg
  have S0 := Asd.mk (St.refl w)
  clear hg
  go_enter Tryd.func3, Tryd.ntmps3
  go_wp2_with (first
      | (go_at_call 14; replace S3 := S3; refine (sym_Main m _).mono ?_; rintro e w4 ⟨rfl, hb4⟩; apply St.step (w0 := w) (hb := hb4); (focus (with_reducible repeat (first | exact S3.out | apply St.lay | apply St.drew | apply St.drewN))); intro S4; (try simp only [sz_alloc, sz_drew, sz_drewN] at S4); clear hb4 S3; (try clear C3); have C4 := S4.out.facts; simp only [facts, apart, cellsAt, Nat.zero_add, Nat.reduceAdd, and_true] at C4)
      | (go_at_call 12; replace S2 := S2; refine (Row_2 m _ (by exact HG.out.below (by with_reducible repeat (first | exact S2.out.bl | refine bl_alloc ?_ _ | refine bl_drewN ?_ _ | refine bl_drew ?_)))).mono ?_; rintro e w3 ⟨rfl, hb3⟩; apply St.step (w0 := w) (hb := hb3); (focus (with_reducible repeat (first | exact S2.out | apply St.lay | apply St.drew | apply St.drewN))); intro S3; (try simp only [sz_alloc, sz_drew, sz_drewN] at S3); clear hb3 S2; (try clear C2); have C3 := S3.out.facts; simp only [facts, apart, cellsAt, Nat.zero_add, Nat.reduceAdd, and_true] at C3)
      | (go_at_call 11; replace S1 := S1; refine (Put_22 m x _ (by exact HG.out.below (by with_reducible repeat (first | exact S1.out.bl | refine bl_alloc ?_ _ | refine bl_drewN ?_ _ | refine bl_drew ?_)))).mono ?_; rintro e w2 ⟨rfl, hb2⟩; apply St.step (w0 := w) (hb := hb2); (focus (with_reducible repeat (first | exact S1.out | apply St.lay | apply St.drew | apply St.drewN))); intro S2; (try simp only [sz_alloc, sz_drew, sz_drewN] at S2); clear hb2 S1; (try clear C1); have C2 := S2.out.facts; simp only [facts, apart, cellsAt, Nat.zero_add, Nat.reduceAdd, and_true] at C2)
      | (go_at_call 10; replace S0 := S0; refine (At_22 m _ (by exact HG.out.below (by with_reducible repeat (first | exact S0.out.bl | refine bl_alloc ?_ _ | refine bl_drewN ?_ _ | refine bl_drew ?_)))).mono ?_; rintro e w1 ⟨rfl, hb1⟩; apply St.step (w0 := w) (hb := hb1); (focus (with_reducible repeat (first | exact S0.out | apply St.lay | apply St.drew | apply St.drewN))); intro S1; (try simp only [sz_alloc, sz_drew, sz_drewN] at S1); clear hb1 S0; (try clear C0); have C1 := S1.out.facts; simp only [facts, apart, cellsAt, Nat.zero_add, Nat.reduceAdd, and_true] at C1)
      | (go_at_call 9; replace S0 := S0; refine (Place_22 _).mono ?_; rintro e w' ⟨rfl, rfl⟩))
  go_loopw [107] (fun v107 wr => ∃ k : Int, (k = 0 ∨ k = 1 ∨ k = 2 ∨ k = 3) ∧ v107 = .int .i64 k ∧ Asd (St w wr [(w4.heap.size, [.int .i64 (m 0), .int .i64 (m 3), .int .i64 (m 5)]), (w3.heap.size + 1, [.int .i64 (m 0), .int .i64 (m 1), .int .i64 (m 2), .int .i64 (m 3), .int .i64 (m 4), .int .i64 x]), (w3.heap.size, [.int .i64 (m 2), .int .i64 (m 4), .int .i64 (m 5)]), (w2.heap.size, [.int .i64 (m 0), .int .i64 (m 1), .int .i64 (m 2), .int .i64 (m 3), .int .i64 (m 4), .int .i64 x]), (w.heap.size + 1, [.int .i64 2, .int .i64 2]), (w.heap.size, [.int .i64 (m 0), .int .i64 (m 1), .int .i64 (m 2), .int .i64 (m 3), .int .i64 (m 4), .int .i64 (m 5)])] [])) (fun v107 _ => 3 - (intOf v107).toNat)
  case atStart => exact ⟨0, .inl rfl, rfl, ⟨St.layAt rfl S4.out⟩⟩
  case round =>
    obtain ⟨k, hk, rfl, S5⟩ := hrel
    have C5 := S5.out.facts
    simp only [facts, apart, cellsAt, Nat.zero_add, Nat.reduceAdd, and_true] at C5
    rcases hk with rfl | rfl | rfl | rfl
    · go_wp2
      go_quiet ((go_at_call 9; first | (with_reducible exact quiet_left (Place_20 _)) | (with_reducible exact quiet_left (Place_00 _))))
      go_wp2
      go_roundw
      case rel => exact ⟨1, by decide, rfl, ⟨S5.out.drewN _⟩⟩
      case measure => simp [intOf]
    · go_wp2
      go_quiet ((go_at_call 9; first | (with_reducible exact quiet_left (Place_21 _)) | (with_reducible exact quiet_left (Place_11 _))))
      go_wp2
      go_roundw
      case rel => exact ⟨2, by decide, rfl, ⟨S5.out.drewN _⟩⟩
      case measure => simp [intOf]
    · go_wp2
      go_quiet ((go_at_call 9; first | (with_reducible exact quiet_left (Place_22 _)) | (with_reducible exact quiet_left (Place_22 _))))
      go_wp2
      go_roundw
      case rel => exact ⟨3, by decide, rfl, ⟨S5.out.drewN _⟩⟩
      case measure => simp [intOf]
    · go_wp2_with (first
      | (go_at_call 13; replace S5 := S5; refine (law05_fixed _ (by exact HG.out.below (by with_reducible repeat (first | exact S5.out.bl | refine bl_alloc ?_ _ | refine bl_drewN ?_ _ | refine bl_drew ?_)))).mono ?_; rintro e w6 ⟨rfl, hb6⟩; apply St.step (w0 := w) (hb := hb6); (focus (with_reducible repeat (first | exact S5.out | apply St.lay | apply St.drew | apply St.drewN))); intro S6; (try simp only [sz_alloc, sz_drew, sz_drewN] at S6); clear hb6 S5; (try clear C5); have C6 := S6.out.facts; simp only [facts, apart, cellsAt, Nat.zero_add, Nat.reduceAdd, and_true] at C6))
      have HBf := S6.out.bl
      go_ret
      exact ⟨rfl, (by repeat (first | exact Below.refl _ _ | assumption | refine bl_alloc ?_ _ | refine bl_drewN ?_ _ | refine bl_drew ?_ | refine bl_set ?_ (by first | (simp; done) | (simp; omega) | (dsimp only; omega)) _ | refine bl_then ?_ (by assumption)))⟩
end Go.Proofs.YtpgkchbgjciinaaDoor
