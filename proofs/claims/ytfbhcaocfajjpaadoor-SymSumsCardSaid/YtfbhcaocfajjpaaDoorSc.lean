/- SymEntries is proved: any entry of any matrix, a matrix with another one, its rows and its diagonal, are the document's; its condition: the table of places holds what its initialiser lays. -/
import Derived.Test.YtfbhcaocfajjpaaDoorSb
import Derived.Test.YtfbhcaocfajjpaaDoorSv
import Derived.Test.YtfbhcaocfajjpaaDoorSe
import Derived.Test.YtfbhcaocfajjpaaDoorFf
import Derived.Deep.QuietTactic
import Derived.BigQuiet
namespace Go.Proofs.YtfbhcaocfajjpaaDoor
open Go.RowKit
set_option linter.unusedSimpArgs false
set_option linter.unusedVariables false
attribute [local go_sem] nlt2 nlt3 nlt4 nlt5 nlt6 nlt7 nlt8 nlt9 nlt10 nlt11 nlt12
attribute [local go_sem] eqVec eqSym

theorem row_ex (w : World) (hg : GP w) : Calls Tryd.prog 35 #[.agg #[.int .i64 1, .int .i64 2, .int .i64 3, .int .i64 4, .int .i64 5, .int .i64 6], .int .i64 1] w fun e w' => e = .returned (.tuple #[.agg #[.int .i64 2, .int .i64 4, .int .i64 5], .int .i64 0]) ∧ Below w.heap.size w w' :=
  Row_1 (fun i => match i with | 0 => 1 | 1 => 2 | 2 => 3 | 3 => 4 | 4 => 5 | _ => 6) w hg
set_option maxHeartbeats 800000 in
theorem law05_fixed (w : World) (hg : GP w) : Calls Tryd.prog 14 #[] w fun e w' => e = .returned (.bool true) ∧ Below w.heap.size w w' := by
  have HG := Asd.mk hg
  have S0 := Asd.mk (St.refl w)
  clear hg
  go_enter Tryd.func14, Tryd.ntmps14
  go_wp2_with (first
      | (go_at_call 35; replace S0 := S0; refine (row_ex _ (by exact HG.out.below (by with_reducible repeat (first | exact S0.out.bl | refine bl_alloc ?_ _ | refine bl_drewN ?_ _ | refine bl_drew ?_)))).mono ?_; rintro e w1 ⟨rfl, hb1⟩; apply St.step (w0 := w) (hb := hb1); (focus (with_reducible repeat (first | exact S0.out | apply St.lay | apply St.drew | apply St.drewN))); intro S1; (try simp only [sz_alloc, sz_drew, sz_drewN] at S1); clear hb1 S0; (try clear C0); have C1 := S1.out.facts; simp only [facts, apart, cellsAt, Nat.zero_add, Nat.reduceAdd, and_true] at C1))
  have HBf := S1.out.bl
  go_ret
  exact ⟨rfl, (by repeat (first | exact Below.refl _ _ | assumption | refine bl_alloc ?_ _ | refine bl_drewN ?_ _ | refine bl_drew ?_ | refine bl_set ?_ (by first | (simp; done) | (simp; omega) | (dsimp only; omega)) _ | refine bl_then ?_ (by assumption)))⟩
end Go.Proofs.YtfbhcaocfajjpaaDoor
