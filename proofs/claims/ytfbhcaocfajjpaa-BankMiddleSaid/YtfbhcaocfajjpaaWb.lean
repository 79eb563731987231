/- Walks of the layer 'wide', first part. -/
import Derived.Test.YtfbhcaocfajjpaaRows
import Derived.Test.YtfbhcaocfajjpaaWa
import Derived.Test.YtfbhcaocfajjpaaWk
import Derived.WalkKit
import Derived.WalkSpells
import Derived.Lib.Hide
import Derived.WalkLawsBesides
import Derived.Laws.Externs
import Derived.Shelf.Spec.BitsCarry
namespace Go.Proofs.Ytfbhcaocfajjpaa
open Go.RowKit

end Go.Proofs.Ytfbhcaocfajjpaa
