/- The state of a call under way, out of its parts. -/
import Derived.Test.YtnmacidlgadmgaaDoorSt
namespace Go.Proofs.YtnmacidlgadmgaaDoor
open Go.RowKit
theorem cells_of_at {W : World} {b : Nat} : ∀ {vs : List Value} {i : Nat}, cellsAt W b i vs → ∀ j v, vs[j]? = some v → W.cell? ⟨b, i + j, none⟩ = some v
  | [], _, _, _, _, hv => by simp at hv
  | v :: vs, i, h, 0, u, hu => by obtain rfl : v = u := by simpa using hu
                                  exact h.1
  | v :: vs, i, h, j + 1, u, hu => by have := cells_of_at h.2 j u (by simpa using hu); rwa [show i + 1 + j = i + (j + 1) from by omega] at this
theorem apart_ne {b : Nat} : ∀ {bs : Blks}, apart b bs → ∀ y ∈ bs, b ≠ y.1
  | [], _, _, hy => by cases hy
  | z :: r, h, y, hy => by rcases List.mem_cons.1 hy with rfl | hy; exact h.1; exact apart_ne h.2.2 y hy
def low (n : Nat) : Blks → Prop
  | [] => True
  | x :: r => n ≤ x.1 ∧ low n r
def rbs (W : World) : Bigs → Prop
  | [] => True
  | g :: r => RB W g.1 g.2.1 g.2.2 ∧ rbs W r
/-- The state out of its parts. -/
theorem St.of {w0 W : World} {bs : Blks} {gs : Bigs} (hb : Below w0.heap.size w0 W) (hf : Go.Proofs.YtnmacidlgadmgaaDoor.facts W bs) (hl : low w0.heap.size bs) (hr : rbs W gs) : St w0 W bs gs := by
  refine ⟨hb, ?_, ?_, ?_⟩
  · clear hr
    induction bs with
    | nil => intro x hx; cases hx
    | cons y r ih =>
      intro x hx
      obtain ⟨k1, k2, k3, k4, k5⟩ := hf
      rcases List.mem_cons.1 hx with rfl | hx
      · exact ⟨hl.1, k1, k3, fun i v hv => by have := cells_of_at k4 i v hv; rwa [Nat.zero_add] at this⟩
      · exact ih k5 hl.2 x hx
  · clear hr hl
    induction bs with
    | nil => exact List.nodup_nil
    | cons y r ih =>
      obtain ⟨k1, k2, k3, k4, k5⟩ := hf
      refine List.nodup_cons.2 ⟨fun hm => ?_, ih k5⟩
      obtain ⟨z, hz, e⟩ := List.mem_map.1 hm
      exact apart_ne k2 z hz e.symm
  · clear hf hl
    induction gs with
    | nil => intro x hx; cases hx
    | cons y r ih =>
      intro x hx
      rcases List.mem_cons.1 hx with rfl | hx
      · exact hr.1
      · exact ih hr.2 x hx
theorem St.lows {w0 W : World} {bs : Blks} {gs : Bigs} (h : St w0 W bs gs) : low w0.heap.size bs := by
  have hb := h.2.1
  clear h
  induction bs with
  | nil => trivial
  | cons x r ih => exact ⟨(hb x (by simp)).1, ih fun y hy => hb y (by simp [hy])⟩
theorem RB.put {W : World} {A : Option Addr} {c : Nat} {z : Int} (h : RB W A c z) {b0 o : Nat} (hv : (W.cell? ⟨b0, 0, none⟩).any digitless = true) (u : Value) : RB (W.setCell ⟨b0, o, none⟩ u) A c z :=
  ⟨h.1, h.2.1, h.2.2.1, fun hn => by
    obtain ⟨b, e, hlt, hc⟩ := h.2.2.2 hn
    have hne : b ≠ b0 := by
      rintro rfl
      have := hc 0 hn
      rw [this] at hv
      simp [digitless] at hv
    exact ⟨b, e, by simpa [World.setCell] using hlt, fun j hj => Eq.trans (World.cell?_setCell_other _ _ _ _ (fun k => hne (congrArg Addr.block k).symm)) (hc j hj)⟩⟩
theorem RB.lay {W : World} {A : Option Addr} {c : Nat} {z : Int} (h : RB W A c z) (o : Obj) : RB (W.alloc o) A c z := RS.alloc h o
end Go.Proofs.YtnmacidlgadmgaaDoor
