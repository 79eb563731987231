/- Walks of the layer 'wide', second part: what reads the package's 'none'. -/
/- Walks of the layer 'wide', third part: products; a wide number made a number of 64 bits; how two stand. -/
/- Walks of the layer 'wide', fourth part. -/
/- Walks of the layer 'wide', fifth part: products with a power of 2, and quotients by one. -/
/- Walks of the layer 'wide', sixth part: quotients by a power of 2. -/
import Derived.Lib.Mul64
import Derived.Laws.Bits64b
import Derived.Deep.RegionHeld3
import Derived.Deep.QuietTactic
import Derived.BigQuiet
import Derived.IntWalk
import Derived.Test.YtnmacidlgadmgaaDoorWb
import Derived.Test.YtnmacidlgadmgaaDoorEd
import Derived.Test.YtnmacidlgadmgaaDoorWp
namespace Go.Proofs.YtnmacidlgadmgaaDoor
open Go.RowKit
set_option linter.unusedSimpArgs false
set_option linter.unusedVariables false
attribute [local go_sem] nlt2 nlt3 nlt4 nlt5 nlt6 nlt7 nlt8 nlt9 nlt10 nlt11 nlt12

/-- A global's number, less what a simp takes off both sides, is not the number of a later block. -/
theorem low_ne {g n : Nat} (h : g < n) : (∀ k, k ≤ g → ¬ (k = n)) ∧ (∀ k, k ≤ g → ¬ (n = k)) ∧ (∀ k, k ≤ g → k < n) := ⟨fun k hk e => by omega, fun k hk e => by omega, fun k hk => by omega⟩
end Go.Proofs.YtnmacidlgadmgaaDoor

namespace Go.Proofs.YtnmacidlgadmgaaDoor
open Go.RowKit
attribute [local go_sem] nlt2 nlt3 nlt4 nlt5 nlt6 nlt7 nlt8 nlt9 nlt10 nlt11 nlt12

namespace M64
theorem maskN (a : Nat) (ha : a < 18446744073709551616) : bits .and .u64 (a : Int) 4294967295 = ((a % 4294967296 : Nat) : Int) := by
  have h := bits_and_u64_nat a 4294967295 ha (by omega)
  have e : a &&& 4294967295 = a % 4294967296 := Nat.and_two_pow_sub_one_eq_mod a 32
  rw [e] at h
  exact h
theorem divN (a : Nat) : (a : Int) / 4294967296 = ((a / 4294967296 : Nat) : Int) := by omega
theorem mulN (a b : Nat) : (a : Int) * (b : Int) = ((a * b : Nat) : Int) := (Int.natCast_mul a b).symm
theorem addN (a b : Nat) : (a : Int) + (b : Int) = ((a + b : Nat) : Int) := (Int.natCast_add a b).symm
theorem wrapN (a : Nat) (ha : a < 18446744073709551616) : IntKind.u64.wrap (a : Int) = (a : Int) := by rw [IntKind.wrap_u64]; omega
theorem wrapM (a : Nat) : IntKind.u64.wrap (a : Int) = ((a % 18446744073709551616 : Nat) : Int) := by rw [IntKind.wrap_u64]; omega
end M64

end Go.Proofs.YtnmacidlgadmgaaDoor

namespace Go.Proofs.YtnmacidlgadmgaaDoor
open Go.RowKit
attribute [local go_sem] nlt2 nlt3 nlt4 nlt5 nlt6 nlt7 nlt8 nlt9 nlt10 nlt11 nlt12


def orI (x y : Int) : Int := if x = 0 then y else x
theorem cmp_wide (a b : Int) : orI (cmpI (whi a) (whi b)) (cmpI (wlo a) (wlo b)) = cmpI a b := by
  unfold orI cmpI whi wlo
  repeat' split
  all_goals omega

end Go.Proofs.YtnmacidlgadmgaaDoor

namespace Go.Proofs.YtnmacidlgadmgaaDoor
open Go.RowKit
attribute [local go_sem] nlt2 nlt3 nlt4 nlt5 nlt6 nlt7 nlt8 nlt9 nlt10 nlt11 nlt12

/-- A block of two words, a wide number's. -/
def Blk (w : World) (b : Nat) (h l : Int) : Prop :=
  w.cell? ⟨b, 0, none⟩ = some (.int .i64 h) ∧ w.cell? ⟨b, 1, none⟩ = some (.int .u64 l) ∧ w.frozen? ⟨b, 0, none⟩ = false ∧ w.frozen? ⟨b, 1, none⟩ = false

theorem Blk.below {w w1 : World} {b : Nat} {h l : Int} (hb : Below w.heap.size w w1) (hlt : b < w.heap.size) (k : Blk w b h l) : Blk w1 b h l :=
  ⟨((bcell hb).1 _ _ hlt).trans k.1, ((bcell hb).1 _ _ hlt).trans k.2.1, ((bcell hb).2 _ _ hlt).trans k.2.2.1, ((bcell hb).2 _ _ hlt).trans k.2.2.2⟩

end Go.Proofs.YtnmacidlgadmgaaDoor

namespace Go.Proofs.YtnmacidlgadmgaaDoor
open Go.RowKit
set_option linter.unusedSimpArgs false
set_option linter.unusedVariables false
theorem lo_one (z : Int) : bits .and .u64 (wlo z) 1 = z % 2 := (and_one _ (wlo_u64 _).1 (wlo_u64 _).2).trans (by unfold wlo; omega)
theorem half_up {a : Int} {k : Nat} (h1 : lastS a k = 1) (h : restS a k = 1 ∨ dn a k % 2 = 1) : evP a (pow2 k) = dn a k + 1 := by rw [half_even, if_pos ⟨h1, h⟩]
theorem half_no1 {a : Int} {k : Nat} (h : ¬ lastS a k = 1) : evP a (pow2 k) = dn a k := by rw [half_even, if_neg (fun q => h q.1)]
theorem half_no2 {a : Int} {k : Nat} (h : ¬ restS a k = 1) (h2 : ¬ dn a k % 2 = 1) : evP a (pow2 k) = dn a k := by rw [half_even, if_neg (fun q => q.2.elim h h2)]
end Go.Proofs.YtnmacidlgadmgaaDoor
