/- The state of a call under way, backwards: the block that was laid last, or set last, stands in the goal. -/
import Derived.Test.YtnmacidlgadmgaaDoorSu
namespace Go.Proofs.YtnmacidlgadmgaaDoor
open Go.RowKit

theorem St.layAt {w0 W : World} {bs : Blks} {gs : Bigs} {n : Nat} {vs : List Value} {t : TypeId} (hn : n = W.heap.size) (h : St w0 W bs gs) : St w0 (W.alloc (.cells vs.toArray t)) ((n, vs) :: bs) gs := by
  subst hn; exact h.lay vs t
theorem St.swap {w0 W : World} {x y : Nat × List Value} {bs : Blks} {gs : Bigs} (h : St w0 W (y :: x :: bs) gs) : St w0 W (x :: y :: bs) gs :=
  ⟨h.1, fun z hz => h.2.1 z (by simp only [List.mem_cons] at hz ⊢; rcases hz with k | k | k; exact Or.inr (Or.inl k); exact Or.inl k; exact Or.inr (Or.inr k)), by
    have := h.2.2.1
    simp only [List.map_cons, List.nodup_cons, List.mem_cons, not_or] at this ⊢
    exact ⟨⟨fun e => this.1.1 e.symm, this.2.1⟩, this.1.2, this.2.2⟩, h.2.2.2⟩
theorem St.gsub {w0 W : World} {bs : Blks} {gs gs' : Bigs} (h : St w0 W bs gs) (hg : gs' ⊆ gs) : St w0 W bs gs' := h.less (List.Sublist.refl _) hg
theorem St.two0 {w0 W : World} {bs : Blks} {gs : Bigs} {b : Nat} {v0 v1 u0 u1 : Value} (h : St w0 W ((b, [v0, v1]) :: bs) gs) (hv : digitless v0 = true) (hu : digitless u0 = true) :
    St w0 ((W.setCell ⟨b, 0, none⟩ u0).setCell ⟨b, 1, none⟩ u1) ((b, [u0, u1]) :: bs) gs := (h.set 0 0 rfl (by simp) (.inr hv) u0).set 0 1 rfl (by simp) (.inr hu) u1
theorem St.two1 {w0 W : World} {x : Nat × List Value} {bs : Blks} {gs : Bigs} {b : Nat} {v0 v1 u0 u1 : Value} (h : St w0 W (x :: (b, [v0, v1]) :: bs) gs) (hv : digitless v0 = true) (hu : digitless u0 = true) :
    St w0 ((W.setCell ⟨b, 0, none⟩ u0).setCell ⟨b, 1, none⟩ u1) (x :: (b, [u0, u1]) :: bs) gs := (h.set 1 0 rfl (by simp) (.inr hv) u0).set 1 1 rfl (by simp) (.inr hu) u1
end Go.Proofs.YtnmacidlgadmgaaDoor
