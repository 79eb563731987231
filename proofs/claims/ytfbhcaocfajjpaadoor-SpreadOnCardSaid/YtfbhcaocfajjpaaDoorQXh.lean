/- What the listed variable rows of the package spread gives the walks. -/
import Derived.Test.YtfbhcaocfajjpaaDoorQSd
import Derived.Test.YtfbhcaocfajjpaaDoorQXa
namespace Go.Proofs.YtfbhcaocfajjpaaDoor
open Go.RowKit Go.WideShapes Go.ChangeShapes Go.WideElems
set_option maxRecDepth 100000
theorem laid_GR {w : World} {L : List (String × DataW Unit)} (hL : laidMet Tryd.prog L w) (hm : ("aneroid/spread.rows", Rows.laid_aneroid_spread_rows) ∈ L) : GR w := by
  obtain ⟨g', t', cs, fuel, p, h1, h2, h3, h4⟩ := laid_at hL hm
  have hg : Tryd.prog.globalNamed "aneroid/spread.rows" = some 2 := by kernel_rfl
  obtain rfl := Option.some.inj (hg.symm.trans h1)
  obtain rfl := Option.some.inj ((show (Tryd.prog.globals[2]?).map (·.type) = some 150 by kernel_rfl).symm.trans h2)
  obtain ⟨xs, m, _, hx, hl, hn, hel⟩ := DataW.trod_array Tryd.underlying150 h4
  have c9 : Tryd.prog.cellsOf 150 = 9 := by kernel_rfl
  have c3 : Tryd.prog.cellsOf 24 = 3 := by kernel_rfl
  rw [c9] at hl
  rw [c3] at hel
  match xs, hn with
  | [y0, y1, y2], _ =>
    have e0 := hel 0 (by omega)
    have e1 := hel 1 (by omega)
    have e2 := hel 2 (by omega)
    have hd : y0.1 = Lib.tabData .i64 [32768, 256, -1] ∧ y1.1 = Lib.tabData .i64 [0, 32768, -256] ∧ y2.1 = Lib.tabData .i64 [0, 0, 32768] := by
      have := (Prod.mk.inj hx).1
      simp only [Rows.laid_aneroid_spread_rows, List.map_cons, List.map_nil, DataW.agg.injEq, List.cons.injEq, and_true] at this
      exact ⟨this.1.symm, this.2.1.symm, this.2.2.symm⟩
    obtain ⟨d0, p0⟩ := y0
    obtain ⟨d1, p1⟩ := y1
    obtain ⟨d2, p2⟩ := y2
    simp only at hd
    obtain ⟨rfl, rfl, rfl⟩ := hd
    have k0 := Lib.cells_of_tab Tryd.underlying24 Tryd.underlying2 (by kernel_rfl) c3 e0
    have k1 := Lib.cells_of_tab Tryd.underlying24 Tryd.underlying2 (by kernel_rfl) c3 e1
    have k2 := Lib.cells_of_tab Tryd.underlying24 Tryd.underlying2 (by kernel_rfl) c3 e2
    have hcs : cs.toList = [.int .i64 32768, .int .i64 256, .int .i64 (-1), .int .i64 0, .int .i64 32768, .int .i64 (-256), .int .i64 0, .int .i64 0, .int .i64 32768] := by
      have e : cs.toList = (cs.toList.drop 0).take 3 ++ ((cs.toList.drop 3).take 3 ++ (cs.toList.drop 6).take 3) := by
        rw [List.drop_zero]
        have a1 : cs.toList.drop 3 = (cs.toList.drop 3).take 3 ++ (cs.toList.drop 6) := by
          rw [show cs.toList.drop 6 = (cs.toList.drop 3).drop 3 by rw [List.drop_drop]]; exact (List.take_append_drop 3 _).symm
        have a2 : (cs.toList.drop 6).take 3 = cs.toList.drop 6 := List.take_of_length_le (by simp at hl ⊢; omega)
        rw [a2, ← a1]; exact (List.take_append_drop 3 _).symm
      rw [e]
      simp only [Nat.zero_mul, Nat.one_mul] at k0 k1 k2
      rw [k0, k1, k2]; rfl
    have hcell := World.var?_cell hg h3
    have hget : ∀ i, cs[i]? = cs.toList[i]? := fun i => (Array.getElem?_toList ..).symm
    unfold GR
    simp only [hcell, hget, hcs]
    simp

end Go.Proofs.YtfbhcaocfajjpaaDoor
