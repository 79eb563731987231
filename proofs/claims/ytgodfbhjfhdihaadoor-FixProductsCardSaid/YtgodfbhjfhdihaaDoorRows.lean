/-
  NARROWER THAN 'FOR EVERY INPUT', by the rows' own cells (each row's printed sentence says how): RootOf: laid · RootMean: laid · RootSquares: laid · FixSums: laid · FixEdges: laid · WideDivides: laid · WideSums: laid · WideShifts: laid · WideProducts: laid · FixProducts: laid · FixOne: laid · WideBack: laid.
  DERIVED. THE GIVEN ROWS OF THIS SEAT. 12 by the template 'for every input the law returns true; each argument reads behind the call as it read before'; 0 by the template 'total and deterministic' (their statements: YtgodfbhjfhdihaaDoorTotals.lean).
  GIVEN WITH THE SEED: the statements are not yours to turn. If you find one false, say at which input.
  Laid BY PROGRAM, IN A SANDBOX (cutbox-rows.mjs): the forced cells as the released guide's own fill.sh prints them over the translation 2adc6558975f8ca5… (all of the seat's roots in one cut). By AI agents, Wed Nov 11 2026. No macro, syntax, notation, axiom, sorry.
-/
import Derived.Test.YtgodfbhjfhdihaaDoorChecked
import GoSem.Claim
import GoSem.ClaimJoined
import GoSem.ClaimMapViews
import Derived.JoinedTies
import Derived.KernelRfl
namespace Go.Proofs.YtgodfbhjfhdihaaDoor
/- THE CELL 'sum', in the pinned program and in every row, IS THE sha256 OF THE DUMP (.gsa) THAT YtgodfbhjfhdihaaDoorProg.lean LOADS. Nothing in Lean hashes anything: it is a label: what it is worth is what the hold of that sum in a sandbox is worth. -/
noncomputable def Tryd.pinned : Pinned := { name := "ytgodfbhjfhdihaadoor", sum := "2adc6558975f8ca5a3317d9f9d5713fa28eda3296be1cce1032df2c23901a5ce", checked := Tryd.checked }
namespace Rows
def none {H : Type} : Left H := { results := [], args := [] }

/- WHAT THE LISTED PACKAGE-LEVEL VARIABLES READ AS WHEN THE CALL BEGINS. Each datum BY PROGRAM (the guide's laid-datum.mjs) off the statement by which the dump's own 'gosem.cut.vars' lays the variable. In a bare row this is a premise. The card (YtgodfbhjfhdihaaDoorCards.lean) ties it to the program's text. -/
def laid_aneroid_wide_none {H : Type} : DataW H := .agg [.lit (.int .i64 0), .lit (.int .u64 0)]
def laid_aneroid_wide_least {H : Type} : DataW H := .agg [.lit (.int .i64 (-9223372036854775808)), .lit (.int .u64 0)]

/-- 'aneroidlaw03.RootOf': WHATEVER THE INPUT: true; the input reads as it did. -/
def rootOfSpec : ChangeSpec := { name := "rootOf", fn := fun _ => fun
  | [d] => { results := [.lit (.bool true)], args := [d] }
  | _ => none }
def rootOfRow : OpenClaim := { program := "ytgodfbhjfhdihaadoor", sum := "2adc6558975f8ca5a3317d9f9d5713fa28eda3296be1cce1032df2c23901a5ce", func := "aneroid/aneroidlaw03.RootOf", spec := "rootOf", inPlace := ["math/bits.Sub64"], named := ["aneroid/wide.none"], apart := false, laid := [("aneroid/wide.none", laid_aneroid_wide_none)] }
def RootOfSaid : Prop := rootOfRow.holds Tryd.pinned (OpenSpec.ofChange rootOfSpec)

/-- ITS FALSE NEIGHBOUR: 'it returns false'. Refute it at one input. -/
def rootOfWrong : ChangeSpec := { name := "rootOf", fn := fun _ => fun
  | [d] => { results := [.lit (.bool false)], args := [d] }
  | _ => none }
def RootOfWrongFalsely : Prop := rootOfRow.holds Tryd.pinned (OpenSpec.ofChange rootOfWrong)

/-- 'aneroidlaw03.RootMean': WHATEVER THE INPUT: true; the input reads as it did. -/
def rootMeanSpec : ChangeSpec := { name := "rootMean", fn := fun _ => fun
  | [d1, d2] => { results := [.lit (.bool true)], args := [d1, d2] }
  | _ => none }
def rootMeanRow : OpenClaim := { program := "ytgodfbhjfhdihaadoor", sum := "2adc6558975f8ca5a3317d9f9d5713fa28eda3296be1cce1032df2c23901a5ce", func := "aneroid/aneroidlaw03.RootMean", spec := "rootMean", inPlace := ["math/bits.Sub64"], named := ["aneroid/wide.none"], apart := false, laid := [("aneroid/wide.none", laid_aneroid_wide_none)] }
def RootMeanSaid : Prop := rootMeanRow.holds Tryd.pinned (OpenSpec.ofChange rootMeanSpec)

/-- ITS FALSE NEIGHBOUR: 'it returns false'. Refute it at one input. -/
def rootMeanWrong : ChangeSpec := { name := "rootMean", fn := fun _ => fun
  | [d1, d2] => { results := [.lit (.bool false)], args := [d1, d2] }
  | _ => none }
def RootMeanWrongFalsely : Prop := rootMeanRow.holds Tryd.pinned (OpenSpec.ofChange rootMeanWrong)

/-- 'aneroidlaw03.RootSquares': WHATEVER THE INPUT: true; the input reads as it did. -/
def rootSquaresSpec : ChangeSpec := { name := "rootSquares", fn := fun _ => fun
  | [d] => { results := [.lit (.bool true)], args := [d] }
  | _ => none }
def rootSquaresRow : OpenClaim := { program := "ytgodfbhjfhdihaadoor", sum := "2adc6558975f8ca5a3317d9f9d5713fa28eda3296be1cce1032df2c23901a5ce", func := "aneroid/aneroidlaw03.RootSquares", spec := "rootSquares", inPlace := ["math/bits.Sub64"], named := ["aneroid/wide.none"], apart := false, laid := [("aneroid/wide.none", laid_aneroid_wide_none)] }
def RootSquaresSaid : Prop := rootSquaresRow.holds Tryd.pinned (OpenSpec.ofChange rootSquaresSpec)

/-- ITS FALSE NEIGHBOUR: 'it returns false'. Refute it at one input. -/
def rootSquaresWrong : ChangeSpec := { name := "rootSquares", fn := fun _ => fun
  | [d] => { results := [.lit (.bool false)], args := [d] }
  | _ => none }
def RootSquaresWrongFalsely : Prop := rootSquaresRow.holds Tryd.pinned (OpenSpec.ofChange rootSquaresWrong)

/-- 'aneroidlaw02.FixSums': WHATEVER THE INPUT: true; the input reads as it did. -/
def fixSumsSpec : ChangeSpec := { name := "fixSums", fn := fun _ => fun
  | [d1, d2] => { results := [.lit (.bool true)], args := [d1, d2] }
  | _ => none }
def fixSumsRow : OpenClaim := { program := "ytgodfbhjfhdihaadoor", sum := "2adc6558975f8ca5a3317d9f9d5713fa28eda3296be1cce1032df2c23901a5ce", func := "aneroid/aneroidlaw02.FixSums", spec := "fixSums", inPlace := ["math/bits.Sub64", "math/bits.Add64"], unfollowed := true, recurses := true, named := ["aneroid/wide.none"], apart := false, laid := [("aneroid/wide.none", laid_aneroid_wide_none)] }
def FixSumsSaid : Prop := fixSumsRow.holds Tryd.pinned (OpenSpec.ofChange fixSumsSpec)

/-- ITS FALSE NEIGHBOUR: 'it returns false'. Refute it at one input. -/
def fixSumsWrong : ChangeSpec := { name := "fixSums", fn := fun _ => fun
  | [d1, d2] => { results := [.lit (.bool false)], args := [d1, d2] }
  | _ => none }
def FixSumsWrongFalsely : Prop := fixSumsRow.holds Tryd.pinned (OpenSpec.ofChange fixSumsWrong)

/-- 'aneroidlaw02.FixEdges': WHATEVER THE INPUT: true; the input reads as it did. -/
def fixEdgesSpec : ChangeSpec := { name := "fixEdges", fn := fun _ => fun
  | [d1, d2] => { results := [.lit (.bool true)], args := [d1, d2] }
  | _ => none }
def fixEdgesRow : OpenClaim := { program := "ytgodfbhjfhdihaadoor", sum := "2adc6558975f8ca5a3317d9f9d5713fa28eda3296be1cce1032df2c23901a5ce", func := "aneroid/aneroidlaw02.FixEdges", spec := "fixEdges", inPlace := ["math/bits.Sub64", "math/bits.Add64"], unfollowed := true, recurses := true, named := ["aneroid/wide.none"], apart := false, laid := [("aneroid/wide.none", laid_aneroid_wide_none)] }
def FixEdgesSaid : Prop := fixEdgesRow.holds Tryd.pinned (OpenSpec.ofChange fixEdgesSpec)

/-- ITS FALSE NEIGHBOUR: 'it returns false'. Refute it at one input. -/
def fixEdgesWrong : ChangeSpec := { name := "fixEdges", fn := fun _ => fun
  | [d1, d2] => { results := [.lit (.bool false)], args := [d1, d2] }
  | _ => none }
def FixEdgesWrongFalsely : Prop := fixEdgesRow.holds Tryd.pinned (OpenSpec.ofChange fixEdgesWrong)

/-- 'aneroidlaw01.WideDivides': WHATEVER THE INPUT: true; the input reads as it did. -/
def wideDividesSpec : ChangeSpec := { name := "wideDivides", fn := fun _ => fun
  | [d1, d2] => { results := [.lit (.bool true)], args := [d1, d2] }
  | _ => none }
def wideDividesRow : OpenClaim := { program := "ytgodfbhjfhdihaadoor", sum := "2adc6558975f8ca5a3317d9f9d5713fa28eda3296be1cce1032df2c23901a5ce", func := "aneroid/aneroidlaw01.WideDivides", spec := "wideDivides", inPlace := ["math/bits.Sub64", "math/bits.Add64"], named := ["aneroid/wide.none", "aneroid/wide.least"], apart := false, laid := [("aneroid/wide.none", laid_aneroid_wide_none), ("aneroid/wide.least", laid_aneroid_wide_least)] }
def WideDividesSaid : Prop := wideDividesRow.holds Tryd.pinned (OpenSpec.ofChange wideDividesSpec)

/-- ITS FALSE NEIGHBOUR: 'it returns false'. Refute it at one input. -/
def wideDividesWrong : ChangeSpec := { name := "wideDivides", fn := fun _ => fun
  | [d1, d2] => { results := [.lit (.bool false)], args := [d1, d2] }
  | _ => none }
def WideDividesWrongFalsely : Prop := wideDividesRow.holds Tryd.pinned (OpenSpec.ofChange wideDividesWrong)

/-- 'aneroidlaw01.WideSums': WHATEVER THE INPUT: true; the input reads as it did. -/
def wideSumsSpec : ChangeSpec := { name := "wideSums", fn := fun _ => fun
  | [d1, d2] => { results := [.lit (.bool true)], args := [d1, d2] }
  | _ => none }
def wideSumsRow : OpenClaim := { program := "ytgodfbhjfhdihaadoor", sum := "2adc6558975f8ca5a3317d9f9d5713fa28eda3296be1cce1032df2c23901a5ce", func := "aneroid/aneroidlaw01.WideSums", spec := "wideSums", inPlace := ["math/bits.Add64", "math/bits.Sub64"], named := ["aneroid/wide.none", "aneroid/wide.least"], apart := false, laid := [("aneroid/wide.none", laid_aneroid_wide_none), ("aneroid/wide.least", laid_aneroid_wide_least)] }
def WideSumsSaid : Prop := wideSumsRow.holds Tryd.pinned (OpenSpec.ofChange wideSumsSpec)

/-- ITS FALSE NEIGHBOUR: 'it returns false'. Refute it at one input. -/
def wideSumsWrong : ChangeSpec := { name := "wideSums", fn := fun _ => fun
  | [d1, d2] => { results := [.lit (.bool false)], args := [d1, d2] }
  | _ => none }
def WideSumsWrongFalsely : Prop := wideSumsRow.holds Tryd.pinned (OpenSpec.ofChange wideSumsWrong)

/-- 'aneroidlaw01.WideShifts': WHATEVER THE INPUT: true; the input reads as it did. -/
def wideShiftsSpec : ChangeSpec := { name := "wideShifts", fn := fun _ => fun
  | [d1, d2] => { results := [.lit (.bool true)], args := [d1, d2] }
  | _ => none }
def wideShiftsRow : OpenClaim := { program := "ytgodfbhjfhdihaadoor", sum := "2adc6558975f8ca5a3317d9f9d5713fa28eda3296be1cce1032df2c23901a5ce", func := "aneroid/aneroidlaw01.WideShifts", spec := "wideShifts", inPlace := ["math/bits.Add64", "math/bits.Sub64"], named := ["aneroid/wide.none", "aneroid/wide.least"], apart := false, laid := [("aneroid/wide.none", laid_aneroid_wide_none), ("aneroid/wide.least", laid_aneroid_wide_least)] }
def WideShiftsSaid : Prop := wideShiftsRow.holds Tryd.pinned (OpenSpec.ofChange wideShiftsSpec)

/-- ITS FALSE NEIGHBOUR: 'it returns false'. Refute it at one input. -/
def wideShiftsWrong : ChangeSpec := { name := "wideShifts", fn := fun _ => fun
  | [d1, d2] => { results := [.lit (.bool false)], args := [d1, d2] }
  | _ => none }
def WideShiftsWrongFalsely : Prop := wideShiftsRow.holds Tryd.pinned (OpenSpec.ofChange wideShiftsWrong)

/-- 'aneroidlaw01.WideProducts': WHATEVER THE INPUT: true; the input reads as it did. -/
def wideProductsSpec : ChangeSpec := { name := "wideProducts", fn := fun _ => fun
  | [d1, d2, d3] => { results := [.lit (.bool true)], args := [d1, d2, d3] }
  | _ => none }
def wideProductsRow : OpenClaim := { program := "ytgodfbhjfhdihaadoor", sum := "2adc6558975f8ca5a3317d9f9d5713fa28eda3296be1cce1032df2c23901a5ce", func := "aneroid/aneroidlaw01.WideProducts", spec := "wideProducts", inPlace := ["math/bits.Sub64", "math/bits.Add64"], named := ["aneroid/wide.none", "aneroid/wide.least"], apart := false, laid := [("aneroid/wide.none", laid_aneroid_wide_none), ("aneroid/wide.least", laid_aneroid_wide_least)] }
def WideProductsSaid : Prop := wideProductsRow.holds Tryd.pinned (OpenSpec.ofChange wideProductsSpec)

/-- ITS FALSE NEIGHBOUR: 'it returns false'. Refute it at one input. -/
def wideProductsWrong : ChangeSpec := { name := "wideProducts", fn := fun _ => fun
  | [d1, d2, d3] => { results := [.lit (.bool false)], args := [d1, d2, d3] }
  | _ => none }
def WideProductsWrongFalsely : Prop := wideProductsRow.holds Tryd.pinned (OpenSpec.ofChange wideProductsWrong)

/-- 'aneroidlaw02.FixProducts': WHATEVER THE INPUT: true; the input reads as it did. -/
def fixProductsSpec : ChangeSpec := { name := "fixProducts", fn := fun _ => fun
  | [d1, d2] => { results := [.lit (.bool true)], args := [d1, d2] }
  | _ => none }
def fixProductsRow : OpenClaim := { program := "ytgodfbhjfhdihaadoor", sum := "2adc6558975f8ca5a3317d9f9d5713fa28eda3296be1cce1032df2c23901a5ce", func := "aneroid/aneroidlaw02.FixProducts", spec := "fixProducts", inPlace := ["math/bits.Sub64", "math/bits.Add64"], unfollowed := true, recurses := true, named := ["aneroid/wide.none", "aneroid/wide.least"], apart := false, laid := [("aneroid/wide.none", laid_aneroid_wide_none), ("aneroid/wide.least", laid_aneroid_wide_least)] }
def FixProductsSaid : Prop := fixProductsRow.holds Tryd.pinned (OpenSpec.ofChange fixProductsSpec)

/-- ITS FALSE NEIGHBOUR: 'it returns false'. Refute it at one input. -/
def fixProductsWrong : ChangeSpec := { name := "fixProducts", fn := fun _ => fun
  | [d1, d2] => { results := [.lit (.bool false)], args := [d1, d2] }
  | _ => none }
def FixProductsWrongFalsely : Prop := fixProductsRow.holds Tryd.pinned (OpenSpec.ofChange fixProductsWrong)

/-- 'aneroidlaw02.FixOne': WHATEVER THE INPUT: true; the input reads as it did. -/
def fixOneSpec : ChangeSpec := { name := "fixOne", fn := fun _ => fun
  | [d1, d2, d3] => { results := [.lit (.bool true)], args := [d1, d2, d3] }
  | _ => none }
def fixOneRow : OpenClaim := { program := "ytgodfbhjfhdihaadoor", sum := "2adc6558975f8ca5a3317d9f9d5713fa28eda3296be1cce1032df2c23901a5ce", func := "aneroid/aneroidlaw02.FixOne", spec := "fixOne", inPlace := ["math/bits.Sub64", "math/bits.Add64"], unfollowed := true, recurses := true, named := ["aneroid/wide.none", "aneroid/wide.least"], apart := false, laid := [("aneroid/wide.none", laid_aneroid_wide_none), ("aneroid/wide.least", laid_aneroid_wide_least)] }
def FixOneSaid : Prop := fixOneRow.holds Tryd.pinned (OpenSpec.ofChange fixOneSpec)

/-- ITS FALSE NEIGHBOUR: 'it returns false'. Refute it at one input. -/
def fixOneWrong : ChangeSpec := { name := "fixOne", fn := fun _ => fun
  | [d1, d2, d3] => { results := [.lit (.bool false)], args := [d1, d2, d3] }
  | _ => none }
def FixOneWrongFalsely : Prop := fixOneRow.holds Tryd.pinned (OpenSpec.ofChange fixOneWrong)

/-- 'aneroidlaw01.WideBack': WHATEVER THE INPUT: true; the input reads as it did. -/
def wideBackSpec : ChangeSpec := { name := "wideBack", fn := fun _ => fun
  | [d1, d2, d3] => { results := [.lit (.bool true)], args := [d1, d2, d3] }
  | _ => none }
def wideBackRow : OpenClaim := { program := "ytgodfbhjfhdihaadoor", sum := "2adc6558975f8ca5a3317d9f9d5713fa28eda3296be1cce1032df2c23901a5ce", func := "aneroid/aneroidlaw01.WideBack", spec := "wideBack", inPlace := ["math/bits.Add64", "math/bits.Sub64"], named := ["aneroid/wide.none", "aneroid/wide.least"], apart := false, laid := [("aneroid/wide.none", laid_aneroid_wide_none), ("aneroid/wide.least", laid_aneroid_wide_least)] }
def WideBackSaid : Prop := wideBackRow.holds Tryd.pinned (OpenSpec.ofChange wideBackSpec)

/-- ITS FALSE NEIGHBOUR: 'it returns false'. Refute it at one input. -/
def wideBackWrong : ChangeSpec := { name := "wideBack", fn := fun _ => fun
  | [d1, d2, d3] => { results := [.lit (.bool false)], args := [d1, d2, d3] }
  | _ => none }
def WideBackWrongFalsely : Prop := wideBackRow.holds Tryd.pinned (OpenSpec.ofChange wideBackWrong)

/- THE SECOND FORM. 'bulk': how many values and letters a reading holds, each counted each time it is reached (what is shared counts as often as it is met; a slice's spare places count too). A statement '..UptoSaid' is the law's where the arguments, and the package variables that the reading takes, are together of bulk at most 1048576: NARROWER than '..Said'. Prove '..Said' where nothing that the law and all that it calls make is longer than what came in: it says more and counts as full. Else prove '..UptoSaid'. A law counts once. -/
mutual
def uptoBulk {H : Type} : DataW H → Nat
  | .lit (.string bytes) => bytes.length + 1
  | .lit _ => 1
  | .nil => 1
  | .ptr d => uptoBulk d + 1
  | .slice elems spare => uptoBulkAll elems + uptoBulkAll spare + 1
  | .agg parts => uptoBulkAll parts + 1
  | .iface _ d => uptoBulk d + 1
  | .map entries => uptoBulkEntries entries + 1
  | .held _ => 1
def uptoBulkAll {H : Type} : List (DataW H) → Nat
  | [] => 0
  | d :: r => uptoBulk d + uptoBulkAll r
def uptoBulkEntries {H : Type} : List (Lit × DataW H) → Nat
  | [] => 0
  | x :: r => uptoBulkEntry x + uptoBulkEntries r
def uptoBulkEntry {H : Type} : Lit × DataW H → Nat
  | (.string bytes, d) => bytes.length + uptoBulk d + 1
  | (_, d) => uptoBulk d + 1
 end
def uptoSmall : (H : Type) → List (DataW H) → Bool := fun _ ds => decide (uptoBulkAll ds ≤ 1048576)
def OpenSpec.upto (s : _root_.Go.ChangeSpec) : _root_.Go.OpenSpec := { _root_.Go.OpenSpec.ofChange s with cond := some uptoSmall }

/-- 'aneroidlaw03.RootOf', WHERE WHAT IT READS IS OF BULK AT MOST 1048576: true; the input reads as it did. -/
def rootOfUptoRow : OpenClaim := { program := "ytgodfbhjfhdihaadoor", sum := "2adc6558975f8ca5a3317d9f9d5713fa28eda3296be1cce1032df2c23901a5ce", func := "aneroid/aneroidlaw03.RootOf", spec := "rootOf", inPlace := ["math/bits.Sub64"], named := ["aneroid/wide.none"], apart := false, laid := [("aneroid/wide.none", laid_aneroid_wide_none)], narrowed := true }
def RootOfUptoSaid : Prop := rootOfUptoRow.holds Tryd.pinned (OpenSpec.upto rootOfSpec)

/-- 'aneroidlaw03.RootMean', WHERE WHAT IT READS IS OF BULK AT MOST 1048576: true; the input reads as it did. -/
def rootMeanUptoRow : OpenClaim := { program := "ytgodfbhjfhdihaadoor", sum := "2adc6558975f8ca5a3317d9f9d5713fa28eda3296be1cce1032df2c23901a5ce", func := "aneroid/aneroidlaw03.RootMean", spec := "rootMean", inPlace := ["math/bits.Sub64"], named := ["aneroid/wide.none"], apart := false, laid := [("aneroid/wide.none", laid_aneroid_wide_none)], narrowed := true }
def RootMeanUptoSaid : Prop := rootMeanUptoRow.holds Tryd.pinned (OpenSpec.upto rootMeanSpec)

/-- 'aneroidlaw03.RootSquares', WHERE WHAT IT READS IS OF BULK AT MOST 1048576: true; the input reads as it did. -/
def rootSquaresUptoRow : OpenClaim := { program := "ytgodfbhjfhdihaadoor", sum := "2adc6558975f8ca5a3317d9f9d5713fa28eda3296be1cce1032df2c23901a5ce", func := "aneroid/aneroidlaw03.RootSquares", spec := "rootSquares", inPlace := ["math/bits.Sub64"], named := ["aneroid/wide.none"], apart := false, laid := [("aneroid/wide.none", laid_aneroid_wide_none)], narrowed := true }
def RootSquaresUptoSaid : Prop := rootSquaresUptoRow.holds Tryd.pinned (OpenSpec.upto rootSquaresSpec)

/-- 'aneroidlaw02.FixSums', WHERE WHAT IT READS IS OF BULK AT MOST 1048576: true; the input reads as it did. -/
def fixSumsUptoRow : OpenClaim := { program := "ytgodfbhjfhdihaadoor", sum := "2adc6558975f8ca5a3317d9f9d5713fa28eda3296be1cce1032df2c23901a5ce", func := "aneroid/aneroidlaw02.FixSums", spec := "fixSums", inPlace := ["math/bits.Sub64", "math/bits.Add64"], unfollowed := true, recurses := true, named := ["aneroid/wide.none"], apart := false, laid := [("aneroid/wide.none", laid_aneroid_wide_none)], narrowed := true }
def FixSumsUptoSaid : Prop := fixSumsUptoRow.holds Tryd.pinned (OpenSpec.upto fixSumsSpec)

/-- 'aneroidlaw02.FixEdges', WHERE WHAT IT READS IS OF BULK AT MOST 1048576: true; the input reads as it did. -/
def fixEdgesUptoRow : OpenClaim := { program := "ytgodfbhjfhdihaadoor", sum := "2adc6558975f8ca5a3317d9f9d5713fa28eda3296be1cce1032df2c23901a5ce", func := "aneroid/aneroidlaw02.FixEdges", spec := "fixEdges", inPlace := ["math/bits.Sub64", "math/bits.Add64"], unfollowed := true, recurses := true, named := ["aneroid/wide.none"], apart := false, laid := [("aneroid/wide.none", laid_aneroid_wide_none)], narrowed := true }
def FixEdgesUptoSaid : Prop := fixEdgesUptoRow.holds Tryd.pinned (OpenSpec.upto fixEdgesSpec)

/-- 'aneroidlaw01.WideDivides', WHERE WHAT IT READS IS OF BULK AT MOST 1048576: true; the input reads as it did. -/
def wideDividesUptoRow : OpenClaim := { program := "ytgodfbhjfhdihaadoor", sum := "2adc6558975f8ca5a3317d9f9d5713fa28eda3296be1cce1032df2c23901a5ce", func := "aneroid/aneroidlaw01.WideDivides", spec := "wideDivides", inPlace := ["math/bits.Sub64", "math/bits.Add64"], named := ["aneroid/wide.none", "aneroid/wide.least"], apart := false, laid := [("aneroid/wide.none", laid_aneroid_wide_none), ("aneroid/wide.least", laid_aneroid_wide_least)], narrowed := true }
def WideDividesUptoSaid : Prop := wideDividesUptoRow.holds Tryd.pinned (OpenSpec.upto wideDividesSpec)

/-- 'aneroidlaw01.WideSums', WHERE WHAT IT READS IS OF BULK AT MOST 1048576: true; the input reads as it did. -/
def wideSumsUptoRow : OpenClaim := { program := "ytgodfbhjfhdihaadoor", sum := "2adc6558975f8ca5a3317d9f9d5713fa28eda3296be1cce1032df2c23901a5ce", func := "aneroid/aneroidlaw01.WideSums", spec := "wideSums", inPlace := ["math/bits.Add64", "math/bits.Sub64"], named := ["aneroid/wide.none", "aneroid/wide.least"], apart := false, laid := [("aneroid/wide.none", laid_aneroid_wide_none), ("aneroid/wide.least", laid_aneroid_wide_least)], narrowed := true }
def WideSumsUptoSaid : Prop := wideSumsUptoRow.holds Tryd.pinned (OpenSpec.upto wideSumsSpec)

/-- 'aneroidlaw01.WideShifts', WHERE WHAT IT READS IS OF BULK AT MOST 1048576: true; the input reads as it did. -/
def wideShiftsUptoRow : OpenClaim := { program := "ytgodfbhjfhdihaadoor", sum := "2adc6558975f8ca5a3317d9f9d5713fa28eda3296be1cce1032df2c23901a5ce", func := "aneroid/aneroidlaw01.WideShifts", spec := "wideShifts", inPlace := ["math/bits.Add64", "math/bits.Sub64"], named := ["aneroid/wide.none", "aneroid/wide.least"], apart := false, laid := [("aneroid/wide.none", laid_aneroid_wide_none), ("aneroid/wide.least", laid_aneroid_wide_least)], narrowed := true }
def WideShiftsUptoSaid : Prop := wideShiftsUptoRow.holds Tryd.pinned (OpenSpec.upto wideShiftsSpec)

/-- 'aneroidlaw01.WideProducts', WHERE WHAT IT READS IS OF BULK AT MOST 1048576: true; the input reads as it did. -/
def wideProductsUptoRow : OpenClaim := { program := "ytgodfbhjfhdihaadoor", sum := "2adc6558975f8ca5a3317d9f9d5713fa28eda3296be1cce1032df2c23901a5ce", func := "aneroid/aneroidlaw01.WideProducts", spec := "wideProducts", inPlace := ["math/bits.Sub64", "math/bits.Add64"], named := ["aneroid/wide.none", "aneroid/wide.least"], apart := false, laid := [("aneroid/wide.none", laid_aneroid_wide_none), ("aneroid/wide.least", laid_aneroid_wide_least)], narrowed := true }
def WideProductsUptoSaid : Prop := wideProductsUptoRow.holds Tryd.pinned (OpenSpec.upto wideProductsSpec)

/-- 'aneroidlaw02.FixProducts', WHERE WHAT IT READS IS OF BULK AT MOST 1048576: true; the input reads as it did. -/
def fixProductsUptoRow : OpenClaim := { program := "ytgodfbhjfhdihaadoor", sum := "2adc6558975f8ca5a3317d9f9d5713fa28eda3296be1cce1032df2c23901a5ce", func := "aneroid/aneroidlaw02.FixProducts", spec := "fixProducts", inPlace := ["math/bits.Sub64", "math/bits.Add64"], unfollowed := true, recurses := true, named := ["aneroid/wide.none", "aneroid/wide.least"], apart := false, laid := [("aneroid/wide.none", laid_aneroid_wide_none), ("aneroid/wide.least", laid_aneroid_wide_least)], narrowed := true }
def FixProductsUptoSaid : Prop := fixProductsUptoRow.holds Tryd.pinned (OpenSpec.upto fixProductsSpec)

/-- 'aneroidlaw02.FixOne', WHERE WHAT IT READS IS OF BULK AT MOST 1048576: true; the input reads as it did. -/
def fixOneUptoRow : OpenClaim := { program := "ytgodfbhjfhdihaadoor", sum := "2adc6558975f8ca5a3317d9f9d5713fa28eda3296be1cce1032df2c23901a5ce", func := "aneroid/aneroidlaw02.FixOne", spec := "fixOne", inPlace := ["math/bits.Sub64", "math/bits.Add64"], unfollowed := true, recurses := true, named := ["aneroid/wide.none", "aneroid/wide.least"], apart := false, laid := [("aneroid/wide.none", laid_aneroid_wide_none), ("aneroid/wide.least", laid_aneroid_wide_least)], narrowed := true }
def FixOneUptoSaid : Prop := fixOneUptoRow.holds Tryd.pinned (OpenSpec.upto fixOneSpec)

/-- 'aneroidlaw01.WideBack', WHERE WHAT IT READS IS OF BULK AT MOST 1048576: true; the input reads as it did. -/
def wideBackUptoRow : OpenClaim := { program := "ytgodfbhjfhdihaadoor", sum := "2adc6558975f8ca5a3317d9f9d5713fa28eda3296be1cce1032df2c23901a5ce", func := "aneroid/aneroidlaw01.WideBack", spec := "wideBack", inPlace := ["math/bits.Add64", "math/bits.Sub64"], named := ["aneroid/wide.none", "aneroid/wide.least"], apart := false, laid := [("aneroid/wide.none", laid_aneroid_wide_none), ("aneroid/wide.least", laid_aneroid_wide_least)], narrowed := true }
def WideBackUptoSaid : Prop := wideBackUptoRow.holds Tryd.pinned (OpenSpec.upto wideBackSpec)

end Rows
end Go.Proofs.YtgodfbhjfhdihaaDoor
