/- Walks of the reference of layer 12 (joseph), by plans: entry, Doubt. -/
import Derived.Test.YtfbhcaocfajjpaaDoorJc
namespace Go.Proofs.YtfbhcaocfajjpaaDoor
open Go.RowKit
set_option linter.unusedSimpArgs false
set_option linter.unusedVariables false
def enV (p k : Nat → Int) (s : Int) (i j m : Nat) : Int := if jo p k s i j m then jv p k s i j m else 0
def enE (p k : Nat → Int) (s : Int) (i j m : Nat) : Int := if jo p k s i j m then 0 else 3
theorem en_no {p k : Nat → Int} {s : Int} {i j m : Nat} (h : jo p k s i j m = false) : enV p k s i j m = 0 ∧ enE p k s i j m = 3 := by unfold enV enE; rw [h]; exact ⟨rfl, rfl⟩
theorem en_yes {p k : Nat → Int} {s : Int} {i j m : Nat} (h : jo p k s i j m = true) : enV p k s i j m = jv p k s i j m ∧ enE p k s i j m = 0 := by unfold enV enE; rw [h]; exact ⟨rfl, rfl⟩
theorem evJ (a b c d : Int) : ev (a * b + c * d) (pow2 40) = crZ a b c d := by have := pow2_pos 40; unfold ev crZ; rw [if_neg (by omega)]
theorem smJ0 {x c s : Int} (h : fitB (mulZ x c) = false) : ¬ smE x c s = 0 := by unfold smE; rw [h]; simp
theorem smJ1 {x c s : Int} (h : fitB (mulZ x c) = true) (h2 : fitB (mulZ (mulZ x c) s) = false) : ¬ smE x c s = 0 := by unfold smE; rw [h, if_pos rfl, (to_not h2).2]; decide
theorem smJ2 {x c s : Int} (h : fitB (mulZ x c) = true) (h2 : fitB (mulZ (mulZ x c) s) = true) : smE x c s = 0 := by unfold smE; rw [h, if_pos rfl, (to_fit h2).2]
theorem saJ0 {e t u : Int} (h : fitB (e - t) = false) : ¬ saE e t u = 0 := by unfold saE; rw [h]; simp
theorem saJ1 {e t u : Int} (h : fitB (e - t) = true) (h2 : fitB (e - t + u) = false) : ¬ saE e t u = 0 := by unfold saE; rw [h, if_pos rfl, (to_not h2).2]; decide
theorem saJ2 {e t u : Int} (h : fitB (e - t) = true) (h2 : fitB (e - t + u) = true) : saE e t u = 0 := by unfold saE; rw [h, if_pos rfl, (to_fit h2).2]
theorem bJ_ok {a b z : Int} (ha : fitB a = true) (hb : fitB b = true) (h : bothE a b z = 0) : bothV a b z = z ∧ fitB z = true := by
  have q := jb_eq (z := z) ha hb
  rw [q.2] at h; exact ⟨q.1.trans (jt_ok h).1, (jt_ok h).2⟩
theorem bJ_err {a b z : Int} (ha : fitB a = true) (hb : fitB b = true) (h : ¬ bothE a b z = 0) : fitB z = false := by
  have q := jb_eq (z := z) ha hb
  rw [q.2] at h; exact (jt_err h).2
/-- The end of an entry. -/
theorem en_end {p k : Nat → Int} {s : Int} {i j m : Nat} (h1 : fitB (crZ (k i) (p j) (k j) (p i)) = true) (h2 : fitB (mulZ (k i) (k j)) = true) (h3 : fitB (mulZ (mulZ (k i) (k j)) s) = true) (h4 : fitB (p m - crZ (k i) (p j) (k j) (p i)) = true) :
    bothV (p m - crZ (k i) (p j) (k j) (p i)) (mulZ (mulZ (k i) (k j)) s) (p m - crZ (k i) (p j) (k j) (p i) + mulZ (mulZ (k i) (k j)) s) = enV p k s i j m ∧
    bothE (p m - crZ (k i) (p j) (k j) (p i)) (mulZ (mulZ (k i) (k j)) s) (p m - crZ (k i) (p j) (k j) (p i) + mulZ (mulZ (k i) (k j)) s) = enE p k s i j m := by
  have q := jb_eq (z := p m - crZ (k i) (p j) (k j) (p i) + mulZ (mulZ (k i) (k j)) s) h4 h3
  rw [q.1, q.2]
  cases c : fitB (p m - crZ (k i) (p j) (k j) (p i) + mulZ (mulZ (k i) (k j)) s)
  · have F := en_no (jo_no3 (p := p) (k := k) (s := s) (i := i) (j := j) (m := m) (saJ1 h4 c))
    rw [F.1, F.2]; exact to_not c
  · have F := en_yes (jo_yes (p := p) (k := k) (s := s) (i := i) (j := j) (m := m) h1 (smJ2 h2 h3) (saJ2 h4 c))
    rw [F.1, F.2]; exact to_fit c
end Go.Proofs.YtfbhcaocfajjpaaDoor
