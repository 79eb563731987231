/- Walks of layer 5 (sym): where entries stand; entries, rows, the diagonal. -/
import Derived.Test.YtnmacidlgadmgaaDoorRows
import Derived.Test.YtnmacidlgadmgaaDoorWa
import Derived.Test.YtnmacidlgadmgaaDoorWk
import Derived.WalkKit
import Derived.WalkSpells
import Derived.WalkMore
import Derived.Lib.Hide
import Derived.Test.YtnmacidlgadmgaaDoorSu
namespace Go.Proofs.YtnmacidlgadmgaaDoor
open Go.RowKit
set_option linter.unusedSimpArgs false
set_option linter.unusedVariables false
attribute [local go_sem] nlt2 nlt3 nlt4 nlt5 nlt6 nlt7 nlt8 nlt9 nlt10 nlt11 nlt12

def outP (i j : Int) : Prop := i < 0 ∨ 2 < i ∨ j < 0 ∨ 2 < j

end Go.Proofs.YtnmacidlgadmgaaDoor
