/- What the listed package-level variables give the walks: the least wide number. -/
import Derived.Test.YtpdggnocnaaanaaDoorSd
import Derived.Test.YtpdggnocnaaanaaDoorWi
namespace Go.Proofs.YtpdggnocnaaanaaDoor
open Go.RowKit Go.WideShapes Go.ChangeShapes Go.WideElems
set_option maxRecDepth 100000
theorem laid_GL {w : World} {L : List (String × DataW Unit)} (hL : laidMet Tryd.prog L w) (hm : ("aneroid/wide.least", Rows.laid_aneroid_wide_least) ∈ L) : GL w := laid_wide (by kernel_rfl) (by kernel_rfl) hL hm
end Go.Proofs.YtpdggnocnaaanaaDoor
