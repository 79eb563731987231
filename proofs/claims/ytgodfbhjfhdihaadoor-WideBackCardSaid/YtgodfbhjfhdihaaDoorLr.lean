/- What the listed package-level variables give the walks; a start for the witness. -/
import Derived.Test.YtgodfbhjfhdihaaDoorLa
import Derived.Test.YtgodfbhjfhdihaaDoorCards
import Derived.Test.YtgodfbhjfhdihaaDoorTie
import Derived.Test.YtgodfbhjfhdihaaDoorWi
import Derived.Deep.DeepHandedRow
import Derived.LaidMore
import Derived.LaidLaws
import Derived.Stop.Joined
namespace Go.Proofs.YtgodfbhjfhdihaaDoor
open Go.RowKit Go.WideShapes Go.ChangeShapes Go.WideElems

theorem own : ownKnob Tryd.prog.godebug = none := by kernel_rfl
/-- A listed variable: its cells, and how they read. -/
theorem laid_at {P : Program} {w : World} {n : String} {d : DataW Unit} : ∀ {l : List (String × DataW Unit)}, laidMet P l w → (n, d) ∈ l →
    ∃ g t cs fuel p, P.globalNamed n = some g ∧ (P.globals[g]?).map (·.type) = some t ∧ w.var? P n = some cs ∧ DataW.trod (fun _ => ()) P w 0 (fun _ => true) false fuel t cs.toList = some (d, p) := by
  intro l h hm
  obtain ⟨ps, hv, -⟩ := h
  revert ps
  induction l with
  | nil => cases hm
  | cons x r ih =>
    intro ps hv
    obtain ⟨m, e⟩ := x
    obtain ⟨g, t, cs, fuel, p, q, h1, h2, h3, h4, h5, _⟩ := hv
    rcases List.mem_cons.1 hm with he | hm
    · cases he; exact ⟨g, t, cs, fuel, p, h1, h2, h3, h4⟩
    · exact ih hm q h5
theorem laid_wide {w : World} {n : String} {g : Nat} {h l : Int} {L : List (String × DataW Unit)} (hg : Tryd.prog.globalNamed n = some g) (hty : (Tryd.prog.globals[g]?).map (·.type) = some 24)
    (hL : laidMet Tryd.prog L w) (hm : (n, DataW.agg [.lit (.int .i64 h), .lit (.int .u64 l)]) ∈ L) : w.cell? ⟨g, 0, none⟩ = some (.int .i64 h) ∧ w.cell? ⟨g, 1, none⟩ = some (.int .u64 l) := by
  obtain ⟨g', t', cs, fuel, p, h1, h2, h3, h4⟩ := laid_at hL hm
  obtain rfl := Option.some.inj (hg.symm.trans h1)
  obtain rfl := Option.some.inj (hty.symm.trans h2)
  obtain ⟨y0, y1, m, hx, hl, k0, k1⟩ := trod_struct2 Tryd.underlying24 h4
  obtain ⟨x, ex, rfl, _⟩ := DataW.trod_int Tryd.underlying2 k0
  obtain ⟨y, ey, rfl, _⟩ := DataW.trod_int Tryd.underlying22 k1
  simp only [Prod.mk.injEq, DataW.agg.injEq, List.cons.injEq, DataW.lit.injEq, Lit.int.injEq, and_true, true_and] at hx
  obtain ⟨⟨rfl, rfl⟩, _⟩ := hx
  have hc2 : Tryd.prog.cellsOf 24 = 2 := by kernel_rfl
  have e0 : Tryd.prog.cellsOf 2 = 1 := by kernel_rfl
  have e1 : Tryd.prog.cellsOf 22 = 1 := by kernel_rfl
  rw [hc2] at hl
  obtain ⟨c0, c1, rfl⟩ := Joins.array2 (by simpa using hl)
  simp [e0] at ex
  simp [e1] at ey
  subst ex
  subst ey
  exact ⟨World.var?_cell hg h3 0, World.var?_cell hg h3 1⟩
theorem laid_GN {w : World} {L : List (String × DataW Unit)} (hL : laidMet Tryd.prog L w) (hm : ("aneroid/wide.none", Rows.laid_aneroid_wide_none) ∈ L) : GN w := laid_wide (by kernel_rfl) (by kernel_rfl) hL hm
theorem laid_GL {w : World} {L : List (String × DataW Unit)} (hL : laidMet Tryd.prog L w) (hm : ("aneroid/wide.least", Rows.laid_aneroid_wide_least) ∈ L) : GL w := laid_wide (by kernel_rfl) (by kernel_rfl) hL hm
end Go.Proofs.YtgodfbhjfhdihaaDoor
