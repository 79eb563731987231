/- slices.Sort at []int64: the shelf's contract, laid at this program. -/
import Derived.Shelf.SlLaysM
import Derived.Ground.SlgmProg
import Derived.Test.YtfbhcaocfajjpaaProg
namespace Go.Proofs
shelf_lay_g SlLaysM.n5 Slgm 5 at Try 8 as Try.laySort
#check @Try.laySort
end Go.Proofs
