/- Opening of rows and matrices; the table of places as it is laid. -/
/- What the listed package-level variables give the walks, beside the table of places. -/
import Derived.Deep.DeepHandedRow
import Derived.LaidMore
import Derived.LaidLaws
import Derived.Stop.Joined
import Derived.Lib.LaidTab
import Derived.Test.YtfbhcaocfajjpaaDoorQSb
import Derived.Test.YtfbhcaocfajjpaaDoorQLa
import Derived.Test.YtfbhcaocfajjpaaDoorCards
import Derived.Test.YtfbhcaocfajjpaaDoorTie
import Derived.Test.YtfbhcaocfajjpaaDoorQWc
namespace Go.Proofs.YtfbhcaocfajjpaaDoor
open Go.RowKit Go.WideShapes Go.ChangeShapes Go.WideElems
set_option maxRecDepth 100000

theorem own : ownKnob Tryd.prog.godebug = none := by kernel_rfl
theorem laid_at {P : Program} {w : World} {n : String} {d : DataW Unit} : ∀ {l : List (String × DataW Unit)}, laidMet P l w → (n, d) ∈ l →
    ∃ g t cs fuel p, P.globalNamed n = some g ∧ (P.globals[g]?).map (·.type) = some t ∧ w.var? P n = some cs ∧ DataW.trod (fun _ => ()) P w 0 (fun _ => true) false fuel t cs.toList = some (d, p) := by
  intro l h hm
  obtain ⟨ps, hv, -⟩ := h
  revert ps
  induction l with
  | nil => cases hm
  | cons x r ih =>
    intro ps hv
    obtain ⟨m, e⟩ := x
    obtain ⟨g, t, cs, fuel, p, q, h1, h2, h3, h4, h5, _⟩ := hv
    rcases List.mem_cons.1 hm with he | hm
    · cases he; exact ⟨g, t, cs, fuel, p, h1, h2, h3, h4⟩
    · exact ih hm q h5
section
variable {H : Type} {enc : TypeId × Value → H} {w : World} {base : Nat} {spare : Nat → Bool} {held : Bool} {r : Reach} {b0 : Nat} {v : Value} {d : DataW H} {p : List MemPlace}
theorem open_symf (hv : Value.okWide Tryd.prog w r b0 23 v) (h : DataW.Trod enc Tryd.prog w base spare held 23 v d p) : ∃ m : Nat → Int, (∀ i, I64 (m i)) ∧ v = .agg #[.int .i64 (m 0), .int .i64 (m 1), .int .i64 (m 2), .int .i64 (m 3), .int .i64 (m 4), .int .i64 (m 5)] := by
  obtain ⟨l, hl, hx, rfl⟩ := open_sym hv h
  match l, hl, hx with
  | [a, b, c, d, e, f], _, hx =>
    refine ⟨fun i => [a, b, c, d, e, f].getD i 0, fun i => ?_, rfl⟩
    by_cases hi : i < 6
    · show I64 ([a, b, c, d, e, f].getD i 0)
      rw [List.getD_eq_getElem?_getD, List.getElem?_eq_getElem (by simpa using hi)]; exact hx _ (List.getElem_mem _)
    · show I64 ([a, b, c, d, e, f].getD i 0)
      rw [List.getD_eq_getElem?_getD, List.getElem?_eq_none (by simp; omega)]; decide
theorem open_vecf (hv : Value.okWide Tryd.prog w r b0 25 v) (h : DataW.Trod enc Tryd.prog w base spare held 25 v d p) : ∃ m : Nat → Int, (∀ i, I64 (m i)) ∧ v = .agg #[.int .i64 (m 0), .int .i64 (m 1), .int .i64 (m 2)] := by
  obtain ⟨a, b, c, ha, hb, hc, rfl⟩ := open_vec hv h
  refine ⟨fun i => match i with | 0 => a | 1 => b | _ => c, fun i => ?_, rfl⟩
  match i with
  | 0 => exact ha
  | 1 => exact hb
  | _ + 2 => exact hc
end
theorem laid_GP {w : World} {L : List (String × DataW Unit)} (hL : laidMet Tryd.prog L w) (hm : ("aneroid/sym.places", Rows.laid_aneroid_sym_places) ∈ L) : GP w := by
  obtain ⟨g', t', cs, fuel, p, h1, h2, h3, h4⟩ := laid_at hL hm
  have hg : Tryd.prog.globalNamed "aneroid/sym.places" = some 0 := by kernel_rfl
  obtain rfl := Option.some.inj (hg.symm.trans h1)
  obtain rfl := Option.some.inj ((show (Tryd.prog.globals[0]?).map (·.type) = some 72 by kernel_rfl).symm.trans h2)
  obtain ⟨xs, m, _, hx, hl, hn, hel⟩ := DataW.trod_array Tryd.underlying72 h4
  have c9 : Tryd.prog.cellsOf 72 = 9 := by kernel_rfl
  have c3 : Tryd.prog.cellsOf 71 = 3 := by kernel_rfl
  rw [c9] at hl
  rw [c3] at hel
  match xs, hn with
  | [y0, y1, y2], _ =>
    have e0 := hel 0 (by omega)
    have e1 := hel 1 (by omega)
    have e2 := hel 2 (by omega)
    have hd : y0.1 = Lib.tabData .i64 [0, 1, 2] ∧ y1.1 = Lib.tabData .i64 [1, 3, 4] ∧ y2.1 = Lib.tabData .i64 [2, 4, 5] := by
      have := (Prod.mk.inj hx).1
      simp only [Rows.laid_aneroid_sym_places, List.map_cons, List.map_nil, DataW.agg.injEq, List.cons.injEq, and_true] at this
      exact ⟨this.1.symm, this.2.1.symm, this.2.2.symm⟩
    obtain ⟨d0, p0⟩ := y0
    obtain ⟨d1, p1⟩ := y1
    obtain ⟨d2, p2⟩ := y2
    simp only at hd
    obtain ⟨rfl, rfl, rfl⟩ := hd
    have k0 := Lib.cells_of_tab Tryd.underlying71 Tryd.underlying3 (by kernel_rfl) c3 e0
    have k1 := Lib.cells_of_tab Tryd.underlying71 Tryd.underlying3 (by kernel_rfl) c3 e1
    have k2 := Lib.cells_of_tab Tryd.underlying71 Tryd.underlying3 (by kernel_rfl) c3 e2
    have hcs : cs.toList = [.int .i64 0, .int .i64 1, .int .i64 2, .int .i64 1, .int .i64 3, .int .i64 4, .int .i64 2, .int .i64 4, .int .i64 5] := by
      have e : cs.toList = (cs.toList.drop 0).take 3 ++ ((cs.toList.drop 3).take 3 ++ (cs.toList.drop 6).take 3) := by
        rw [List.drop_zero]
        have a1 : cs.toList.drop 3 = (cs.toList.drop 3).take 3 ++ (cs.toList.drop 6) := by
          rw [show cs.toList.drop 6 = (cs.toList.drop 3).drop 3 by rw [List.drop_drop]]; exact (List.take_append_drop 3 _).symm
        have a2 : (cs.toList.drop 6).take 3 = cs.toList.drop 6 := List.take_of_length_le (by simp at hl ⊢; omega)
        rw [a2, ← a1]; exact (List.take_append_drop 3 _).symm
      rw [e]
      simp only [Nat.zero_mul, Nat.one_mul] at k0 k1 k2
      rw [k0, k1, k2]; rfl
    have hcell := World.var?_cell hg h3
    have hget : ∀ i, cs[i]? = cs.toList[i]? := fun i => (Array.getElem?_toList ..).symm
    unfold GP
    simp only [hcell, hget, hcs]
    simp
end Go.Proofs.YtfbhcaocfajjpaaDoor

namespace Go.Proofs.YtfbhcaocfajjpaaDoor
open Go.RowKit Go.WideShapes Go.ChangeShapes Go.WideElems
set_option maxRecDepth 100000
theorem laid_wide {w : World} {n : String} {g : Nat} {h l : Int} {L : List (String × DataW Unit)} (hg : Tryd.prog.globalNamed n = some g) (hty : (Tryd.prog.globals[g]?).map (·.type) = some 39)
    (hL : laidMet Tryd.prog L w) (hm : (n, DataW.agg [.lit (.int .i64 h), .lit (.int .u64 l)]) ∈ L) : w.cell? ⟨g, 0, none⟩ = some (.int .i64 h) ∧ w.cell? ⟨g, 1, none⟩ = some (.int .u64 l) := by
  obtain ⟨g', t', cs, fuel, p, h1, h2, h3, h4⟩ := laid_at hL hm
  obtain rfl := Option.some.inj (hg.symm.trans h1)
  obtain rfl := Option.some.inj (hty.symm.trans h2)
  obtain ⟨y0, y1, m, hx, hl, k0, k1⟩ := trod_struct2 Tryd.underlying39 h4
  obtain ⟨x, ex, rfl, _⟩ := DataW.trod_int Tryd.underlying2 k0
  obtain ⟨y, ey, rfl, _⟩ := DataW.trod_int Tryd.underlying37 k1
  simp only [Prod.mk.injEq, DataW.agg.injEq, List.cons.injEq, DataW.lit.injEq, Lit.int.injEq, and_true, true_and] at hx
  obtain ⟨⟨rfl, rfl⟩, _⟩ := hx
  have hc2 : Tryd.prog.cellsOf 39 = 2 := by kernel_rfl
  have e0 : Tryd.prog.cellsOf 2 = 1 := by kernel_rfl
  have e1 : Tryd.prog.cellsOf 37 = 1 := by kernel_rfl
  rw [hc2] at hl
  obtain ⟨c0, c1, rfl⟩ := Joins.array2 (by simpa using hl)
  simp [e0] at ex
  simp [e1] at ey
  subst ex
  subst ey
  exact ⟨World.var?_cell hg h3 0, World.var?_cell hg h3 1⟩
theorem laid_GN {w : World} {L : List (String × DataW Unit)} (hL : laidMet Tryd.prog L w) (hm : ("aneroid/wide.none", Rows.laid_aneroid_wide_none) ∈ L) : GN w := laid_wide (by kernel_rfl) (by kernel_rfl) hL hm
end Go.Proofs.YtfbhcaocfajjpaaDoor
