/- Words for slices of digits in memory. -/
import Derived.Test.YtnmacidlgadmgaaDoorRows
import Derived.Test.YtnmacidlgadmgaaDoorRa
import Derived.Test.YtnmacidlgadmgaaDoorWa
import Derived.Test.YtnmacidlgadmgaaDoorWk
import Derived.WalkSpells
import Derived.WalkLawsBesides
import Derived.Lib.Hide
import Derived.BigQuiet
import Derived.IntWalk
namespace Go.Proofs.YtnmacidlgadmgaaDoor
open Go.RowKit
attribute [local go_sem] nlt2 nlt3 nlt4 nlt5 nlt6 nlt7 nlt8 nlt9 nlt10 nlt11 nlt12

/-- A digit, 0 beyond (a word of its own: the walk writes getD anew). -/
def gd (xs : List Int) (i : Nat) : Int := xs.getD i 0
theorem gd_beyond {xs : List Int} {i : Nat} (h : xs.length ≤ i) : gd xs i = 0 := by unfold gd; rw [List.getD_eq_getElem?_getD, List.getElem?_eq_none h]; rfl

/-- A slice that reads as digits: its address, its capacity. -/
def RS (w : World) (A : Option Addr) (c : Nat) (xs : List Int) : Prop :=
  xs.length ≤ c ∧ c ≤ 9223372036854775807 ∧ (A = none → c = 0) ∧ (0 < xs.length → ∃ b, A = some ⟨b, 0, none⟩ ∧ b < w.heap.size ∧ ∀ j, j < xs.length → w.cell? ⟨b, j, none⟩ = some (.int .u64 (gd xs j)))
theorem RS.at {w : World} {A : Option Addr} {c : Nat} {xs : List Int} (h : RS w A c xs) (j : Nat) (hj : j < xs.length) :
    ∃ b, A = some ⟨b, 0, none⟩ ∧ b < w.heap.size ∧ w.cell? ⟨b, j, none⟩ = some (.int .u64 (gd xs j)) := by
  obtain ⟨b, e, hlt, hc⟩ := h.2.2.2 (by omega)
  exact ⟨b, e, hlt, hc j hj⟩
theorem RS.below {w w' : World} {A : Option Addr} {c : Nat} {xs : List Int} (h : RS w A c xs) (hb : Below w.heap.size w w') : RS w' A c xs :=
  ⟨h.1, h.2.1, h.2.2.1, fun hn => by
    obtain ⟨b, e, hlt, hc⟩ := h.2.2.2 hn
    exact ⟨b, e, Nat.lt_of_lt_of_le hlt hb.size, fun j hj => ((bcell hb).1 _ _ hlt).trans (hc j hj)⟩⟩
theorem RS.alloc {w : World} {A : Option Addr} {c : Nat} {xs : List Int} (h : RS w A c xs) (o : Obj) : RS (w.alloc o) A c xs := h.below ((Below.refl _ _).alloc (Nat.le_refl _) o)
theorem RS.drew {w : World} {A : Option Addr} {c : Nat} {xs : List Int} (h : RS w A c xs) : RS w.drew A c xs := h
theorem RS.drewN {w : World} {A : Option Addr} {c : Nat} {xs : List Int} (h : RS w A c xs) (n : Nat) : RS (w.drewN n) A c xs := h
/-- A store into a block whose first cell holds no number turns no digit. -/
theorem RS.store {w : World} {A : Option Addr} {c : Nat} {xs : List Int} (h : RS w A c xs) {b0 o : Nat} {u : Value} {v : Bool} (hv : w.cell? ⟨b0, 0, none⟩ = some (.bool v)) : RS (w.setCell ⟨b0, o, none⟩ u) A c xs :=
  ⟨h.1, h.2.1, h.2.2.1, fun hn => by
    obtain ⟨b, e, hlt, hc⟩ := h.2.2.2 hn
    have hne : b ≠ b0 := by
      rintro rfl
      have := hc 0 hn
      rw [hv] at this
      cases this
    exact ⟨b, e, by simpa [World.setCell] using hlt, fun j hj => Eq.trans (World.cell?_setCell_other _ _ _ _ (fun k => hne (congrArg Addr.block k).symm)) (hc j hj)⟩⟩
theorem RS.le {w : World} {A : Option Addr} {c : Nat} {xs : List Int} (h : RS w A c xs) : xs.length ≤ 9223372036854775807 := Nat.le_trans h.1 h.2.1

/-- A big number of the reference's: its sign and its digits. -/
def RB (w : World) (A : Option Addr) (c : Nat) (z : Int) : Prop := RS w A c (dg z)
theorem RB.below {w w' : World} {A : Option Addr} {c : Nat} {z : Int} (h : RB w A c z) (hb : Below w.heap.size w w') : RB w' A c z := RS.below h hb
theorem RS.front {w : World} {A : Option Addr} {c : Nat} {xs ys : List Int} (h : RS w A c xs) (hy : ys.length ≤ xs.length) (hg : ∀ i, i < ys.length → gd ys i = gd xs i) : RS w A c ys :=
  ⟨by have := h.1; omega, h.2.1, h.2.2.1, fun hn => by
    obtain ⟨b, e, hlt, hc⟩ := h.2.2.2 (by omega)
    exact ⟨b, e, hlt, fun j hj => by rw [hg j hj]; exact hc j (by omega)⟩⟩

end Go.Proofs.YtnmacidlgadmgaaDoor
