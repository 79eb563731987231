/- The state of a call under way, backwards: the block that was laid last, or set last, stands in the goal. -/
import Derived.Test.YtfbhcaocfajjpaaDoorQSu
namespace Go.Proofs.YtfbhcaocfajjpaaDoor
open Go.RowKit

theorem St.layAt {w0 W : World} {bs : Blks} {gs : Bigs} {n : Nat} {vs : List Value} {t : TypeId} (hn : n = W.heap.size) (h : St w0 W bs gs) : St w0 (W.alloc (.cells vs.toArray t)) ((n, vs) :: bs) gs := by
  subst hn; exact h.lay vs t
theorem St.swap {w0 W : World} {x y : Nat × List Value} {bs : Blks} {gs : Bigs} (h : St w0 W (y :: x :: bs) gs) : St w0 W (x :: y :: bs) gs :=
  ⟨h.1, fun z hz => h.2.1 z (by simp only [List.mem_cons] at hz ⊢; rcases hz with k | k | k; exact Or.inr (Or.inl k); exact Or.inl k; exact Or.inr (Or.inr k)), by
    have := h.2.2.1
    simp only [List.map_cons, List.nodup_cons, List.mem_cons, not_or] at this ⊢
    exact ⟨⟨fun e => this.1.1 e.symm, this.2.1⟩, this.1.2, this.2.2⟩, h.2.2.2⟩
end Go.Proofs.YtfbhcaocfajjpaaDoor
