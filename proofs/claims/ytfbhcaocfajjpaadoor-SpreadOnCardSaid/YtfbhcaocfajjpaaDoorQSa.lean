/- Walks of layer 5 (sym): where entries stand; entries, rows, the diagonal. -/
import Derived.Test.YtfbhcaocfajjpaaDoorRows
import Derived.Test.YtfbhcaocfajjpaaDoorQWa
import Derived.Test.YtfbhcaocfajjpaaDoorQWk
import Derived.WalkKit
import Derived.WalkSpells
import Derived.WalkMore
import Derived.Lib.Hide
import Derived.Test.YtfbhcaocfajjpaaDoorQSu
namespace Go.Proofs.YtfbhcaocfajjpaaDoor
open Go.RowKit
set_option linter.unusedSimpArgs false
set_option linter.unusedVariables false
attribute [local go_sem] nlt2 nlt3 nlt4 nlt5 nlt6 nlt7 nlt8 nlt9 nlt10 nlt11 nlt12

/-- The table of places holds what its initialiser lays. -/
def GP (w : World) : Prop := w.cell? ⟨0, 0, none⟩ = some (.int .i64 0) ∧ w.cell? ⟨0, 1, none⟩ = some (.int .i64 1) ∧ w.cell? ⟨0, 2, none⟩ = some (.int .i64 2) ∧ w.cell? ⟨0, 3, none⟩ = some (.int .i64 1) ∧ w.cell? ⟨0, 4, none⟩ = some (.int .i64 3) ∧ w.cell? ⟨0, 5, none⟩ = some (.int .i64 4) ∧ w.cell? ⟨0, 6, none⟩ = some (.int .i64 2) ∧ w.cell? ⟨0, 7, none⟩ = some (.int .i64 4) ∧ w.cell? ⟨0, 8, none⟩ = some (.int .i64 5)
theorem GP.below {w w' : World} (h : GP w) (hb : Below w.heap.size w w') : GP w' := by
  have hlt := World.block_lt_of_cell? w _ h.1
  obtain ⟨h0, h1, h2, h3, h4, h5, h6, h7, h8⟩ := h
  exact ⟨((bcell hb).1 _ _ hlt).trans h0, ((bcell hb).1 _ _ hlt).trans h1, ((bcell hb).1 _ _ hlt).trans h2, ((bcell hb).1 _ _ hlt).trans h3, ((bcell hb).1 _ _ hlt).trans h4, ((bcell hb).1 _ _ hlt).trans h5, ((bcell hb).1 _ _ hlt).trans h6, ((bcell hb).1 _ _ hlt).trans h7, ((bcell hb).1 _ _ hlt).trans h8⟩
set_option maxHeartbeats 400000 in
theorem place_00 (w : World) (hg : GP w) : Calls Tryd.prog 106 #[.int .i64 0, .int .i64 0] w fun e w' => e = .returned (.tuple #[.int .i64 0, .int .i64 0]) ∧ w = w' := by
  unfold GP at hg
  go_enter Tryd.func106, Tryd.ntmps106
  go_wp2
  go_ret2
  exact ⟨rfl, rfl⟩
set_option maxHeartbeats 400000 in
theorem place_01 (w : World) (hg : GP w) : Calls Tryd.prog 106 #[.int .i64 0, .int .i64 1] w fun e w' => e = .returned (.tuple #[.int .i64 1, .int .i64 0]) ∧ w = w' := by
  unfold GP at hg
  go_enter Tryd.func106, Tryd.ntmps106
  go_wp2
  go_ret2
  exact ⟨rfl, rfl⟩
set_option maxHeartbeats 400000 in
theorem place_02 (w : World) (hg : GP w) : Calls Tryd.prog 106 #[.int .i64 0, .int .i64 2] w fun e w' => e = .returned (.tuple #[.int .i64 2, .int .i64 0]) ∧ w = w' := by
  unfold GP at hg
  go_enter Tryd.func106, Tryd.ntmps106
  go_wp2
  go_ret2
  exact ⟨rfl, rfl⟩
set_option maxHeartbeats 400000 in
theorem place_10 (w : World) (hg : GP w) : Calls Tryd.prog 106 #[.int .i64 1, .int .i64 0] w fun e w' => e = .returned (.tuple #[.int .i64 1, .int .i64 0]) ∧ w = w' := by
  unfold GP at hg
  go_enter Tryd.func106, Tryd.ntmps106
  go_wp2
  go_ret2
  exact ⟨rfl, rfl⟩
set_option maxHeartbeats 400000 in
theorem place_11 (w : World) (hg : GP w) : Calls Tryd.prog 106 #[.int .i64 1, .int .i64 1] w fun e w' => e = .returned (.tuple #[.int .i64 3, .int .i64 0]) ∧ w = w' := by
  unfold GP at hg
  go_enter Tryd.func106, Tryd.ntmps106
  go_wp2
  go_ret2
  exact ⟨rfl, rfl⟩
set_option maxHeartbeats 400000 in
theorem place_12 (w : World) (hg : GP w) : Calls Tryd.prog 106 #[.int .i64 1, .int .i64 2] w fun e w' => e = .returned (.tuple #[.int .i64 4, .int .i64 0]) ∧ w = w' := by
  unfold GP at hg
  go_enter Tryd.func106, Tryd.ntmps106
  go_wp2
  go_ret2
  exact ⟨rfl, rfl⟩
set_option maxHeartbeats 400000 in
theorem place_20 (w : World) (hg : GP w) : Calls Tryd.prog 106 #[.int .i64 2, .int .i64 0] w fun e w' => e = .returned (.tuple #[.int .i64 2, .int .i64 0]) ∧ w = w' := by
  unfold GP at hg
  go_enter Tryd.func106, Tryd.ntmps106
  go_wp2
  go_ret2
  exact ⟨rfl, rfl⟩
set_option maxHeartbeats 400000 in
theorem place_21 (w : World) (hg : GP w) : Calls Tryd.prog 106 #[.int .i64 2, .int .i64 1] w fun e w' => e = .returned (.tuple #[.int .i64 4, .int .i64 0]) ∧ w = w' := by
  unfold GP at hg
  go_enter Tryd.func106, Tryd.ntmps106
  go_wp2
  go_ret2
  exact ⟨rfl, rfl⟩
set_option maxHeartbeats 400000 in
theorem place_22 (w : World) (hg : GP w) : Calls Tryd.prog 106 #[.int .i64 2, .int .i64 2] w fun e w' => e = .returned (.tuple #[.int .i64 5, .int .i64 0]) ∧ w = w' := by
  unfold GP at hg
  go_enter Tryd.func106, Tryd.ntmps106
  go_wp2
  go_ret2
  exact ⟨rfl, rfl⟩
set_option maxHeartbeats 400000 in
theorem At_00 (m : Nat → Int) (w : World) (hg : GP w) : Calls Tryd.prog 66 #[.agg #[.int .i64 (m 0), .int .i64 (m 1), .int .i64 (m 2), .int .i64 (m 3), .int .i64 (m 4), .int .i64 (m 5)], .int .i64 0, .int .i64 0] w fun e w' => e = .returned (.tuple #[.int .i64 (m 0), .int .i64 0]) ∧ Below w.heap.size w w' := by
  have HG := Asd.mk hg
  clear hg
  go_enter Tryd.func66, Tryd.ntmps66
  go_wp2_with (go_at_call 106; refine (place_00 _ (by exact HG.out.below (by repeat (first | exact Below.refl _ _ | assumption | refine bl_alloc ?_ _ | refine bl_drewN ?_ _ | refine bl_drew ?_ | refine bl_set ?_ (by first | (simp; done) | (simp; omega) | (dsimp only; omega)) _ | refine bl_then ?_ (by assumption))))).mono ?_; rintro e w' ⟨rfl, rfl⟩)
  go_ret2
  exact ⟨rfl, (by repeat (first | exact Below.refl _ _ | assumption | refine bl_alloc ?_ _ | refine bl_drewN ?_ _ | refine bl_drew ?_ | refine bl_set ?_ (by first | (simp; done) | (simp; omega) | (dsimp only; omega)) _ | refine bl_then ?_ (by assumption)))⟩
set_option maxHeartbeats 400000 in
theorem At_01 (m : Nat → Int) (w : World) (hg : GP w) : Calls Tryd.prog 66 #[.agg #[.int .i64 (m 0), .int .i64 (m 1), .int .i64 (m 2), .int .i64 (m 3), .int .i64 (m 4), .int .i64 (m 5)], .int .i64 0, .int .i64 1] w fun e w' => e = .returned (.tuple #[.int .i64 (m 1), .int .i64 0]) ∧ Below w.heap.size w w' := by
  have HG := Asd.mk hg
  clear hg
  go_enter Tryd.func66, Tryd.ntmps66
  go_wp2_with (go_at_call 106; refine (place_01 _ (by exact HG.out.below (by repeat (first | exact Below.refl _ _ | assumption | refine bl_alloc ?_ _ | refine bl_drewN ?_ _ | refine bl_drew ?_ | refine bl_set ?_ (by first | (simp; done) | (simp; omega) | (dsimp only; omega)) _ | refine bl_then ?_ (by assumption))))).mono ?_; rintro e w' ⟨rfl, rfl⟩)
  go_ret2
  exact ⟨rfl, (by repeat (first | exact Below.refl _ _ | assumption | refine bl_alloc ?_ _ | refine bl_drewN ?_ _ | refine bl_drew ?_ | refine bl_set ?_ (by first | (simp; done) | (simp; omega) | (dsimp only; omega)) _ | refine bl_then ?_ (by assumption)))⟩
set_option maxHeartbeats 400000 in
theorem At_02 (m : Nat → Int) (w : World) (hg : GP w) : Calls Tryd.prog 66 #[.agg #[.int .i64 (m 0), .int .i64 (m 1), .int .i64 (m 2), .int .i64 (m 3), .int .i64 (m 4), .int .i64 (m 5)], .int .i64 0, .int .i64 2] w fun e w' => e = .returned (.tuple #[.int .i64 (m 2), .int .i64 0]) ∧ Below w.heap.size w w' := by
  have HG := Asd.mk hg
  clear hg
  go_enter Tryd.func66, Tryd.ntmps66
  go_wp2_with (go_at_call 106; refine (place_02 _ (by exact HG.out.below (by repeat (first | exact Below.refl _ _ | assumption | refine bl_alloc ?_ _ | refine bl_drewN ?_ _ | refine bl_drew ?_ | refine bl_set ?_ (by first | (simp; done) | (simp; omega) | (dsimp only; omega)) _ | refine bl_then ?_ (by assumption))))).mono ?_; rintro e w' ⟨rfl, rfl⟩)
  go_ret2
  exact ⟨rfl, (by repeat (first | exact Below.refl _ _ | assumption | refine bl_alloc ?_ _ | refine bl_drewN ?_ _ | refine bl_drew ?_ | refine bl_set ?_ (by first | (simp; done) | (simp; omega) | (dsimp only; omega)) _ | refine bl_then ?_ (by assumption)))⟩
set_option maxHeartbeats 400000 in
theorem At_10 (m : Nat → Int) (w : World) (hg : GP w) : Calls Tryd.prog 66 #[.agg #[.int .i64 (m 0), .int .i64 (m 1), .int .i64 (m 2), .int .i64 (m 3), .int .i64 (m 4), .int .i64 (m 5)], .int .i64 1, .int .i64 0] w fun e w' => e = .returned (.tuple #[.int .i64 (m 1), .int .i64 0]) ∧ Below w.heap.size w w' := by
  have HG := Asd.mk hg
  clear hg
  go_enter Tryd.func66, Tryd.ntmps66
  go_wp2_with (go_at_call 106; refine (place_10 _ (by exact HG.out.below (by repeat (first | exact Below.refl _ _ | assumption | refine bl_alloc ?_ _ | refine bl_drewN ?_ _ | refine bl_drew ?_ | refine bl_set ?_ (by first | (simp; done) | (simp; omega) | (dsimp only; omega)) _ | refine bl_then ?_ (by assumption))))).mono ?_; rintro e w' ⟨rfl, rfl⟩)
  go_ret2
  exact ⟨rfl, (by repeat (first | exact Below.refl _ _ | assumption | refine bl_alloc ?_ _ | refine bl_drewN ?_ _ | refine bl_drew ?_ | refine bl_set ?_ (by first | (simp; done) | (simp; omega) | (dsimp only; omega)) _ | refine bl_then ?_ (by assumption)))⟩
set_option maxHeartbeats 400000 in
theorem At_11 (m : Nat → Int) (w : World) (hg : GP w) : Calls Tryd.prog 66 #[.agg #[.int .i64 (m 0), .int .i64 (m 1), .int .i64 (m 2), .int .i64 (m 3), .int .i64 (m 4), .int .i64 (m 5)], .int .i64 1, .int .i64 1] w fun e w' => e = .returned (.tuple #[.int .i64 (m 3), .int .i64 0]) ∧ Below w.heap.size w w' := by
  have HG := Asd.mk hg
  clear hg
  go_enter Tryd.func66, Tryd.ntmps66
  go_wp2_with (go_at_call 106; refine (place_11 _ (by exact HG.out.below (by repeat (first | exact Below.refl _ _ | assumption | refine bl_alloc ?_ _ | refine bl_drewN ?_ _ | refine bl_drew ?_ | refine bl_set ?_ (by first | (simp; done) | (simp; omega) | (dsimp only; omega)) _ | refine bl_then ?_ (by assumption))))).mono ?_; rintro e w' ⟨rfl, rfl⟩)
  go_ret2
  exact ⟨rfl, (by repeat (first | exact Below.refl _ _ | assumption | refine bl_alloc ?_ _ | refine bl_drewN ?_ _ | refine bl_drew ?_ | refine bl_set ?_ (by first | (simp; done) | (simp; omega) | (dsimp only; omega)) _ | refine bl_then ?_ (by assumption)))⟩
set_option maxHeartbeats 400000 in
theorem At_12 (m : Nat → Int) (w : World) (hg : GP w) : Calls Tryd.prog 66 #[.agg #[.int .i64 (m 0), .int .i64 (m 1), .int .i64 (m 2), .int .i64 (m 3), .int .i64 (m 4), .int .i64 (m 5)], .int .i64 1, .int .i64 2] w fun e w' => e = .returned (.tuple #[.int .i64 (m 4), .int .i64 0]) ∧ Below w.heap.size w w' := by
  have HG := Asd.mk hg
  clear hg
  go_enter Tryd.func66, Tryd.ntmps66
  go_wp2_with (go_at_call 106; refine (place_12 _ (by exact HG.out.below (by repeat (first | exact Below.refl _ _ | assumption | refine bl_alloc ?_ _ | refine bl_drewN ?_ _ | refine bl_drew ?_ | refine bl_set ?_ (by first | (simp; done) | (simp; omega) | (dsimp only; omega)) _ | refine bl_then ?_ (by assumption))))).mono ?_; rintro e w' ⟨rfl, rfl⟩)
  go_ret2
  exact ⟨rfl, (by repeat (first | exact Below.refl _ _ | assumption | refine bl_alloc ?_ _ | refine bl_drewN ?_ _ | refine bl_drew ?_ | refine bl_set ?_ (by first | (simp; done) | (simp; omega) | (dsimp only; omega)) _ | refine bl_then ?_ (by assumption)))⟩
set_option maxHeartbeats 400000 in
theorem At_20 (m : Nat → Int) (w : World) (hg : GP w) : Calls Tryd.prog 66 #[.agg #[.int .i64 (m 0), .int .i64 (m 1), .int .i64 (m 2), .int .i64 (m 3), .int .i64 (m 4), .int .i64 (m 5)], .int .i64 2, .int .i64 0] w fun e w' => e = .returned (.tuple #[.int .i64 (m 2), .int .i64 0]) ∧ Below w.heap.size w w' := by
  have HG := Asd.mk hg
  clear hg
  go_enter Tryd.func66, Tryd.ntmps66
  go_wp2_with (go_at_call 106; refine (place_20 _ (by exact HG.out.below (by repeat (first | exact Below.refl _ _ | assumption | refine bl_alloc ?_ _ | refine bl_drewN ?_ _ | refine bl_drew ?_ | refine bl_set ?_ (by first | (simp; done) | (simp; omega) | (dsimp only; omega)) _ | refine bl_then ?_ (by assumption))))).mono ?_; rintro e w' ⟨rfl, rfl⟩)
  go_ret2
  exact ⟨rfl, (by repeat (first | exact Below.refl _ _ | assumption | refine bl_alloc ?_ _ | refine bl_drewN ?_ _ | refine bl_drew ?_ | refine bl_set ?_ (by first | (simp; done) | (simp; omega) | (dsimp only; omega)) _ | refine bl_then ?_ (by assumption)))⟩
set_option maxHeartbeats 400000 in
theorem At_21 (m : Nat → Int) (w : World) (hg : GP w) : Calls Tryd.prog 66 #[.agg #[.int .i64 (m 0), .int .i64 (m 1), .int .i64 (m 2), .int .i64 (m 3), .int .i64 (m 4), .int .i64 (m 5)], .int .i64 2, .int .i64 1] w fun e w' => e = .returned (.tuple #[.int .i64 (m 4), .int .i64 0]) ∧ Below w.heap.size w w' := by
  have HG := Asd.mk hg
  clear hg
  go_enter Tryd.func66, Tryd.ntmps66
  go_wp2_with (go_at_call 106; refine (place_21 _ (by exact HG.out.below (by repeat (first | exact Below.refl _ _ | assumption | refine bl_alloc ?_ _ | refine bl_drewN ?_ _ | refine bl_drew ?_ | refine bl_set ?_ (by first | (simp; done) | (simp; omega) | (dsimp only; omega)) _ | refine bl_then ?_ (by assumption))))).mono ?_; rintro e w' ⟨rfl, rfl⟩)
  go_ret2
  exact ⟨rfl, (by repeat (first | exact Below.refl _ _ | assumption | refine bl_alloc ?_ _ | refine bl_drewN ?_ _ | refine bl_drew ?_ | refine bl_set ?_ (by first | (simp; done) | (simp; omega) | (dsimp only; omega)) _ | refine bl_then ?_ (by assumption)))⟩
set_option maxHeartbeats 400000 in
theorem At_22 (m : Nat → Int) (w : World) (hg : GP w) : Calls Tryd.prog 66 #[.agg #[.int .i64 (m 0), .int .i64 (m 1), .int .i64 (m 2), .int .i64 (m 3), .int .i64 (m 4), .int .i64 (m 5)], .int .i64 2, .int .i64 2] w fun e w' => e = .returned (.tuple #[.int .i64 (m 5), .int .i64 0]) ∧ Below w.heap.size w w' := by
  have HG := Asd.mk hg
  clear hg
  go_enter Tryd.func66, Tryd.ntmps66
  go_wp2_with (go_at_call 106; refine (place_22 _ (by exact HG.out.below (by repeat (first | exact Below.refl _ _ | assumption | refine bl_alloc ?_ _ | refine bl_drewN ?_ _ | refine bl_drew ?_ | refine bl_set ?_ (by first | (simp; done) | (simp; omega) | (dsimp only; omega)) _ | refine bl_then ?_ (by assumption))))).mono ?_; rintro e w' ⟨rfl, rfl⟩)
  go_ret2
  exact ⟨rfl, (by repeat (first | exact Below.refl _ _ | assumption | refine bl_alloc ?_ _ | refine bl_drewN ?_ _ | refine bl_drew ?_ | refine bl_set ?_ (by first | (simp; done) | (simp; omega) | (dsimp only; omega)) _ | refine bl_then ?_ (by assumption)))⟩
set_option maxHeartbeats 400000 in
theorem sym_Diag (v : Nat → Int) (w : World) : Calls Tryd.prog 13 #[.agg #[.int .i64 (v 0), .int .i64 (v 1), .int .i64 (v 2)]] w fun e w' => e = .returned (.agg #[.int .i64 (v 0), .int .i64 0, .int .i64 0, .int .i64 (v 1), .int .i64 0, .int .i64 (v 2)]) ∧ Below w.heap.size w w' := by
  go_enter Tryd.func13, Tryd.ntmps13
  go_wp2
  refine bodyPost_ret (v := .agg #[.int .i64 (v 0), .int .i64 0, .int .i64 0, .int .i64 (v 1), .int .i64 0, .int .i64 (v 2)]) (by simp (maxDischargeDepth := 9) [results, Tryd.results13, go_sem, *]) rfl ⟨rfl, (by repeat (first | exact Below.refl _ _ | assumption | refine bl_alloc ?_ _ | refine bl_drewN ?_ _ | refine bl_drew ?_ | refine bl_set ?_ (by first | (simp; done) | (simp; omega) | (dsimp only; omega)) _ | refine bl_then ?_ (by assumption)))⟩
end Go.Proofs.YtfbhcaocfajjpaaDoor
