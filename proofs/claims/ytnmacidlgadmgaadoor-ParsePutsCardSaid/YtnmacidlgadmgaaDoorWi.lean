/- Walks of the layer 'wide', eighth part: quotients. -/
import Derived.Test.YtnmacidlgadmgaaDoorWh
import Derived.Deep.DeepCutAuto
namespace Go.Proofs.YtnmacidlgadmgaaDoor
open Go.RowKit
attribute [local go_sem] nlt2 nlt3 nlt4 nlt5 nlt6 nlt7 nlt8 nlt9 nlt10 nlt11 nlt12

/-- The high word of the least wide number, under a name (a great numeral stops the walk). -/
def LHi : Int := -9223372036854775808
def LW : Int := -170141183460469231731687303715884105728
theorem LW_hi : whi LW = LHi := by decide
theorem LW_lo : wlo LW = 0 := by decide
theorem LW_W128 : W128 LW := by decide
theorem least_words' {a : Int} (ha : W128 a) : (whi a == LHi && wlo a == 0) = decide (a = LW) := least_words ha

end Go.Proofs.YtnmacidlgadmgaaDoor
