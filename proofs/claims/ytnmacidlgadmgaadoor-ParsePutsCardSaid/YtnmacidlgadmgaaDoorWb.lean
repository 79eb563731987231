/- Walks of the layer 'wide', first part. -/
import Derived.Test.YtnmacidlgadmgaaDoorRows
import Derived.Test.YtnmacidlgadmgaaDoorWa
import Derived.Test.YtnmacidlgadmgaaDoorWk
import Derived.WalkKit
import Derived.WalkSpells
import Derived.Lib.Hide
import Derived.WalkLawsBesides
import Derived.Laws.Externs
import Derived.Shelf.Spec.BitsCarry
namespace Go.Proofs.YtnmacidlgadmgaaDoor
open Go.RowKit

end Go.Proofs.YtnmacidlgadmgaaDoor
