/- Walks of the layer 'wide', first part. -/
import Derived.Test.YtgapefmkbmopnaaRows
import Derived.Test.YtgapefmkbmopnaaWa
import Derived.Test.YtgapefmkbmopnaaWk
import Derived.WalkKit
import Derived.WalkSpells
import Derived.Lib.Hide
import Derived.WalkLawsBesides
import Derived.Laws.Externs
import Derived.Shelf.Spec.BitsCarry
namespace Go.Proofs.Ytgapefmkbmopnaa
open Go.RowKit

end Go.Proofs.Ytgapefmkbmopnaa
