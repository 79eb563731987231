/- The second engine, eighth part: blocks chosen out of what is known; old variables that may not turn. -/
import Derived.Test.YtnmacidlgadmgaaDoorZg
import Derived.Test.YtnmacidlgadmgaaDoorSa
import Derived.Test.YtnmacidlgadmgaaDoorWc
namespace Go.Proofs.YtnmacidlgadmgaaDoor
open Go.RowKit
section
variable {B : Base} {W : World} {bs : Blks} {gs : Bigs} {rs : Rws} {os : Lps}
theorem Sx.rows (h : Sx B W bs gs rs os) {rs' : Rws} (hr : ∀ r ∈ rs', r ∈ rs) : Sx B W bs gs rs' os := ⟨h.bx, h.blk, h.nd, h.bg, fun r hx => h.rw r (hr r hx), h.ob, h.on⟩
/-- No row is told of. -/
theorem Sx.norows (h : Sx B W bs gs rs os) : Sx B W bs gs [] os := h.rows (fun _ hr => by cases hr)
/-- What is handed over is none of the old variables. -/
theorem Sx.fresh (h : Sx B W bs gs rs os) {g : Nat} (hg : g < B.w.heap.size) (hn : ¬ B.X g) {ks : List Nat} {bs0 : Blks} {os0 : Lps} (hks : bs0 = ks.filterMap fun i => bs[i]?) (hos : os0.Sublist os) : ¬ (BaseOf W bs0 os0).X g := by
  rintro (⟨x, hx, rfl⟩ | ⟨y, hy, rfl⟩)
  · rw [hks] at hx
    obtain ⟨j, _, hj⟩ := List.mem_filterMap.1 hx
    rcases (h.blk x (List.mem_of_getElem? hj)).1 with q | q
    · omega
    · exact hn q
  · rcases (h.ob y (hos.subset hy)).1 with q | q
    · omega
    · exact hn q
theorem Sx.nf {w : World} {g : Nat} : ¬ (⟨w, fun _ => False⟩ : Base).X g := fun h => h
end
section
variable {w W : World} {X : Nat → Prop} {bs : Blks} {gs : Bigs} {rs : Rws} {os : Lps}
end
end Go.Proofs.YtnmacidlgadmgaaDoor
