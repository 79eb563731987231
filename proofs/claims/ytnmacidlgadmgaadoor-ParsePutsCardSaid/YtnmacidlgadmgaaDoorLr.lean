/- What the listed package-level variables give the walks; a start for the witness. -/
import Derived.Test.YtnmacidlgadmgaaDoorLa
import Derived.Test.YtnmacidlgadmgaaDoorCards
import Derived.Test.YtnmacidlgadmgaaDoorTie
import Derived.Test.YtnmacidlgadmgaaDoorWi
import Derived.Deep.DeepHandedRow
import Derived.LaidMore
import Derived.LaidLaws
import Derived.Stop.Joined
namespace Go.Proofs.YtnmacidlgadmgaaDoor
open Go.RowKit Go.WideShapes Go.ChangeShapes Go.WideElems

theorem own : ownKnob Tryd.prog.godebug = none := by kernel_rfl
end Go.Proofs.YtnmacidlgadmgaaDoor
