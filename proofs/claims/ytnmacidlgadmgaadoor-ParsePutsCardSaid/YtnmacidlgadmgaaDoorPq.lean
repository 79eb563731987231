/- What the listed variables give the walks of parse. -/
import Derived.Test.YtnmacidlgadmgaaDoorPp
import Derived.Test.YtnmacidlgadmgaaDoorLr
import Derived.Shelf.Vars
import Derived.LaidLaws
namespace Go.Proofs.YtnmacidlgadmgaaDoor
open Go.RowKit Go.WideShapes Go.ChangeShapes
set_option maxRecDepth 100000
theorem laid_at {P : Program} {w : World} {n : String} {d : DataW Unit} : ∀ {l : List (String × DataW Unit)}, laidMet P l w → (n, d) ∈ l →
    ∃ g t cs fuel p, P.globalNamed n = some g ∧ (P.globals[g]?).map (·.type) = some t ∧ w.var? P n = some cs ∧ DataW.trod (fun _ => ()) P w 0 (fun _ => true) false fuel t cs.toList = some (d, p) := by
  intro l h hm
  obtain ⟨ps, hv, -⟩ := h
  revert ps
  induction l with
  | nil => cases hm
  | cons x r ih =>
    intro ps hv
    obtain ⟨m, e⟩ := x
    obtain ⟨g, t, cs, fuel, p, q, h1, h2, h3, h4, h5, _⟩ := hv
    rcases List.mem_cons.1 hm with he | hm
    · cases he; exact ⟨g, t, cs, fuel, p, h1, h2, h3, h4⟩
    · exact ih hm q h5
theorem laid_PW {w : World} {L : List (String × DataW Unit)} (hL : laidMet Tryd.prog L w) (hm : ("internal/strconv.uint64pow10", Rows.laid_internal_strconv_uint64pow10) ∈ L) :
    0 < w.heap.size ∧ Lib.TabIs Tryd.prog w "internal/strconv.uint64pow10" .u64 Lib.pow10Tab := by
  obtain ⟨g', t', cs, fuel, p, h1, h2, h3, h4⟩ := laid_at hL hm
  have hg : Tryd.prog.globalNamed "internal/strconv.uint64pow10" = some 0 := by kernel_rfl
  obtain rfl := Option.some.inj (hg.symm.trans h1)
  obtain rfl := Option.some.inj ((show (Tryd.prog.globals[0]?).map (·.type) = some 96 by kernel_rfl).symm.trans h2)
  have e : (Rows.laid_internal_strconv_uint64pow10 : DataW Unit) = Lib.tabData .u64 Lib.pow10Tab := rfl
  rw [e] at h4
  have k := Lib.cells_of_tab Tryd.underlying96 Tryd.underlying76 (by kernel_rfl) (by kernel_rfl) h4
  have hcell := World.var?_cell hg h3
  have hget : ∀ i, cs[i]? = cs.toList[i]? := fun i => (Array.getElem?_toList ..).symm
  refine ⟨World.block_lt_of_cell? w ⟨_, 0, none⟩ ((hcell 0).trans (by rw [hget, k]; rfl)), ?_⟩
  unfold Lib.TabIs
  rw [h3, ← k]
theorem laid_err {w : World} {L : List (String × DataW Unit)} {n nm : String} {g : Nat} {d : DataW Unit} (hg : Tryd.prog.globalNamed n = some g) (ht : (Tryd.prog.globals[g]?).map (·.type) = some 46) (hL : laidMet Tryd.prog L w) (hm : (n, .iface nm d) ∈ L) :
    ∃ te pe, w.cell? ⟨g, 0, none⟩ = some (.iface te pe) := by
  obtain ⟨g', t', cs, fuel, p, h1, h2, h3, h4⟩ := laid_at hL hm
  obtain rfl := Option.some.inj (hg.symm.trans h1)
  obtain rfl := Option.some.inj (ht.symm.trans h2)
  obtain ⟨_, u, v, hc, _⟩ := iface_of_trod Tryd.underlying46 h4
  have hcell := World.var?_cell hg h3
  have hget : ∀ i, cs[i]? = cs.toList[i]? := fun i => (Array.getElem?_toList ..).symm
  exact ⟨u, v, (hcell 0).trans (by rw [hget, hc]; rfl)⟩
theorem shape_ML {w : World} (h : w.ShapedOpen Tryd.prog) : ∃ m, w.cell? ⟨3, 0, none⟩ = some (.int .i64 m) :=
  cell_of_shapedOpen_int (t := 3) (zero := #[.int .i64 0]) h (by decide) (by kernel_rfl) rfl (by kernel_rfl) (by kernel_rfl) Tryd.underlying3
theorem PK_of {w : World} {L : List (String × DataW Unit)} (hL : laidMet Tryd.prog L w) (hS : w.ShapedOpen Tryd.prog) (h1 : ("internal/strconv.uint64pow10", Rows.laid_internal_strconv_uint64pow10) ∈ L)
    (h2 : ("strconv.ErrSyntax", Rows.laid_strconv_ErrSyntax) ∈ L) (h3 : ("strconv.ErrRange", Rows.laid_strconv_ErrRange) ∈ L) : PK w :=
  have a := laid_PW hL h1
  ⟨a.1, a.2, shape_ML hS, laid_err (by kernel_rfl) (by kernel_rfl) hL h2, laid_err (by kernel_rfl) (by kernel_rfl) hL h3⟩
end Go.Proofs.YtnmacidlgadmgaaDoor
