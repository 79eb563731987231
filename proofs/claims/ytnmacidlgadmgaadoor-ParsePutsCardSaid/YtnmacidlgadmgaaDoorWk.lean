/- Small words for the walks: the world behind a call, step by step. -/
import Derived.WalkKit
import Derived.Deep.QuietTactic
namespace Go.Proofs.YtnmacidlgadmgaaDoor
open Go.RowKit
/-- A fact that the walk does not look into at all (no definition to unfold). -/
structure Asd (p : Prop) : Prop where mk :: (out : p)
theorem bl_alloc {w W : World} (h : Below w.heap.size w W) (o : Obj) : Below w.heap.size w (W.alloc o) := h.alloc h.size o
theorem bl_drew {B : Nat} {w W : World} (h : Below B w W) : Below B w W.drew := ⟨h.os, h.tape, h.output, h.size, h.block⟩
theorem bl_drewN {B : Nat} {w W : World} (h : Below B w W) (n : Nat) : Below B w (W.drewN n) := ⟨h.os, h.tape, h.output, h.size, h.block⟩
theorem bl_set {w W : World} (h : Below w.heap.size w W) {p : Addr} (hp : w.heap.size ≤ p.block) (u : Value) : Below w.heap.size w (W.setCell p u) := h.setCell hp u
theorem bl_then {w w1 w2 : World} (h : Below w.heap.size w w1) (k : Below w1.heap.size w1 w2) : Below w.heap.size w w2 := h.trans (k.mono h.size)
/-- Behind a call that makes memory: all old cells and marks read as before. -/
theorem bcell {W w1 : World} (hb : Below W.heap.size W w1) : (∀ b o, b < W.heap.size → w1.cell? ⟨b, o, none⟩ = W.cell? ⟨b, o, none⟩) ∧ (∀ b o, b < W.heap.size → w1.frozen? ⟨b, o, none⟩ = W.frozen? ⟨b, o, none⟩) :=
  ⟨fun b o h => hb.cell (p := ⟨b, o, none⟩) h, fun b o h => hb.frozen (p := ⟨b, o, none⟩) h⟩
theorem ret_int {k : IntKind} {a b : Int} (h : a = b) : Ending.returned (.int k a) = .returned (.int k b) := by rw [h]
theorem ret_bool {a b : Bool} (h : a = b) : Ending.returned (.bool a) = .returned (.bool b) := by rw [h]
theorem nlt2 (n : Nat) : n < n + 1 + 1 := by omega
theorem nlt3 (n : Nat) : n < n + 1 + 1 + 1 := by omega
theorem nlt4 (n : Nat) : n < n + 1 + 1 + 1 + 1 := by omega
theorem nlt5 (n : Nat) : n < n + 1 + 1 + 1 + 1 + 1 := by omega
theorem nlt6 (n : Nat) : n < n + 1 + 1 + 1 + 1 + 1 + 1 := by omega
theorem nlt7 (n : Nat) : n < n + 1 + 1 + 1 + 1 + 1 + 1 + 1 := by omega
theorem nlt8 (n : Nat) : n < n + 1 + 1 + 1 + 1 + 1 + 1 + 1 + 1 := by omega
theorem nlt9 (n : Nat) : n < n + 1 + 1 + 1 + 1 + 1 + 1 + 1 + 1 + 1 := by omega
theorem nlt10 (n : Nat) : n < n + 1 + 1 + 1 + 1 + 1 + 1 + 1 + 1 + 1 + 1 := by omega
theorem nlt11 (n : Nat) : n < n + 1 + 1 + 1 + 1 + 1 + 1 + 1 + 1 + 1 + 1 + 1 := by omega
theorem nlt12 (n : Nat) : n < n + 1 + 1 + 1 + 1 + 1 + 1 + 1 + 1 + 1 + 1 + 1 + 1 := by omega
theorem cell_new (W : World) (cs : Array Value) (t : TypeId) (n i : Nat) (hn : n = W.heap.size) : (W.alloc (.cells cs t)).cell? ⟨n, i, none⟩ = cs[i]? := World.cell?_alloc_at _ _ _ _ hn
theorem cell_new_drew (W : World) (cs : Array Value) (t : TypeId) (n i : Nat) (hn : n = W.heap.size) : (W.alloc (.cells cs t)).drew.cell? ⟨n, i, none⟩ = cs[i]? := World.cell?_alloc_at _ _ _ _ hn
/-- A block of two cells, whatever they hold. -/
def Bx (w : World) (b : Nat) (u v : Value) : Prop :=
  w.cell? ⟨b, 0, none⟩ = some u ∧ w.cell? ⟨b, 1, none⟩ = some v ∧ w.frozen? ⟨b, 0, none⟩ = false ∧ w.frozen? ⟨b, 1, none⟩ = false
theorem Bx.low {w w1 : World} {b B : Nat} {u v : Value} (hb : Below B w w1) (hlt : b < B) (k : Bx w b u v) : Bx w1 b u v :=
  ⟨(hb.cell (p := ⟨b, 0, none⟩) hlt).trans k.1, (hb.cell (p := ⟨b, 1, none⟩) hlt).trans k.2.1, (hb.frozen (p := ⟨b, 0, none⟩) hlt).trans k.2.2.1, (hb.frozen (p := ⟨b, 1, none⟩) hlt).trans k.2.2.2⟩
end Go.Proofs.YtnmacidlgadmgaaDoor
