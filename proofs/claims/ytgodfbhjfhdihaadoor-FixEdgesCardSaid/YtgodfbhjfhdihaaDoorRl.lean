/- Walks of the reference's big numbers, eleventh part: words for five variables of two cells, one behind the other. -/
import Derived.Test.YtgodfbhjfhdihaaDoorRk
namespace Go.Proofs.YtgodfbhjfhdihaaDoor
open Go.RowKit
attribute [local go_sem] nlt2 nlt3 nlt4 nlt5 nlt6 nlt7 nlt8 nlt9 nlt10 nlt11 nlt12

/-- Five blocks of two cells from b on, the call's own; what was there is as it was. -/
def V5 (w W : World) (u0 v0 u1 v1 u2 v2 u3 v3 u4 v4 : Value) : Prop :=
  Below w.heap.size w W ∧ w.heap.size + 1 + 1 + 1 + 1 < W.heap.size ∧ Bx W w.heap.size u0 v0 ∧ Bx W (w.heap.size + 1) u1 v1 ∧ Bx W (w.heap.size + 1 + 1) u2 v2 ∧ Bx W (w.heap.size + 1 + 1 + 1) u3 v3 ∧ Bx W (w.heap.size + 1 + 1 + 1 + 1) u4 v4
theorem Bx.set {W : World} {b : Nat} {u v : Value} (h : Bx W b u v) (u' v' : Value) : Bx ((W.setCell ⟨b, 0, none⟩ u').setCell ⟨b, 1, none⟩ v') b u' v' := by
  obtain ⟨h0, h1, h2, h3⟩ := h
  refine ⟨?_, ?_, ?_, ?_⟩ <;> simp (maxDischargeDepth := 9) [go_sem, *]
theorem Bx.other {W : World} {b b' : Nat} {u v : Value} (h : Bx W b u v) (hne : b ≠ b') (u' v' : Value) : Bx ((W.setCell ⟨b', 0, none⟩ u').setCell ⟨b', 1, none⟩ v') b u v := by
  obtain ⟨h0, h1, h2, h3⟩ := h
  have e : ∀ i j, (⟨b', i, none⟩ : Addr) ≠ ⟨b, j, none⟩ := fun i j k => hne (congrArg Addr.block k).symm
  refine ⟨?_, ?_, ?_, ?_⟩
  · exact Eq.trans (World.cell?_setCell_other _ _ _ _ (e 1 0)) (Eq.trans (World.cell?_setCell_other _ _ _ _ (e 0 0)) h0)
  · exact Eq.trans (World.cell?_setCell_other _ _ _ _ (e 1 1)) (Eq.trans (World.cell?_setCell_other _ _ _ _ (e 0 1)) h1)
  · exact Eq.trans (World.frozen?_setCell _ _ _ _) (Eq.trans (World.frozen?_setCell _ _ _ _) h2)
  · exact Eq.trans (World.frozen?_setCell _ _ _ _) (Eq.trans (World.frozen?_setCell _ _ _ _) h3)
theorem size_set2 (W : World) (a a' : Addr) (u v : Value) : ((W.setCell a u).setCell a' v).heap.size = W.heap.size := by simp
section
variable {w W W1 : World} {u0 v0 u1 v1 u2 v2 u3 v3 u4 v4 : Value}
theorem V5.call (h : V5 w W u0 v0 u1 v1 u2 v2 u3 v3 u4 v4) (hb : Below W.heap.size W W1) : V5 w W1 u0 v0 u1 v1 u2 v2 u3 v3 u4 v4 := by
  obtain ⟨h1, h2, k0, k1, k2, k3, k4⟩ := h
  exact ⟨h1.trans (hb.mono h1.size), Nat.lt_of_lt_of_le h2 hb.size, k0.low hb (by omega), k1.low hb (by omega), k2.low hb (by omega), k3.low hb (by omega), k4.low hb (by omega)⟩
theorem V5.set3 (h : V5 w W u0 v0 u1 v1 u2 v2 u3 v3 u4 v4) (u v : Value) : V5 w ((W.setCell ⟨w.heap.size + 1 + 1 + 1, 0, none⟩ u).setCell ⟨w.heap.size + 1 + 1 + 1, 1, none⟩ v) u0 v0 u1 v1 u2 v2 u v u4 v4 := by
  obtain ⟨h1, h2, k0, k1, k2, k3, k4⟩ := h
  exact ⟨bl_set (bl_set h1 (by simp; omega) _) (by simp; omega) _, by rw [size_set2]; exact h2, k0.other (by omega) _ _, k1.other (by omega) _ _, k2.other (by omega) _ _, k3.set _ _, k4.other (by omega) _ _⟩
theorem V5.set4 (h : V5 w W u0 v0 u1 v1 u2 v2 u3 v3 u4 v4) (u v : Value) : V5 w ((W.setCell ⟨w.heap.size + 1 + 1 + 1 + 1, 0, none⟩ u).setCell ⟨w.heap.size + 1 + 1 + 1 + 1, 1, none⟩ v) u0 v0 u1 v1 u2 v2 u3 v3 u v := by
  obtain ⟨h1, h2, k0, k1, k2, k3, k4⟩ := h
  exact ⟨bl_set (bl_set h1 (by simp; omega) _) (by simp; omega) _, by rw [size_set2]; exact h2, k0.other (by omega) _ _, k1.other (by omega) _ _, k2.other (by omega) _ _, k3.other (by omega) _ _, k4.set _ _⟩
end
end Go.Proofs.YtgodfbhjfhdihaaDoor
