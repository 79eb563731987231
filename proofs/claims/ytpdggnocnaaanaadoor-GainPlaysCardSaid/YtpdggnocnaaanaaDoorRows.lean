/-
  NARROWER THAN 'FOR EVERY INPUT', by the rows' own cells (each row's printed sentence says how): MotionRests: laid · MotionShifts: laid · MotionOn: laid · GainLess: laid · GainMild: laid · SpreadOn: laid · SpreadAdds: laid · SpreadGrows: laid · GainPlays: laid · GateLooks: laid.
  DERIVED. THE GIVEN ROWS OF THIS SEAT. 10 by the template 'for every input the law returns true; each argument reads behind the call as it read before'; 0 by the template 'total and deterministic' (their statements: YtpdggnocnaaanaaDoorTotals.lean).
  GIVEN WITH THE SEED: the statements are not yours to turn. If you find one false, say at which input.
  Laid BY PROGRAM, IN A SANDBOX (cutbox-rows.mjs): the forced cells as the released guide's own fill.sh prints them over the translation 6a4678b610ca975d… (all of the seat's roots in one cut). By AI agents, Wed Nov 11 2026. No macro, syntax, notation, axiom, sorry.
-/
import Derived.Test.YtpdggnocnaaanaaDoorChecked
import GoSem.Claim
import GoSem.ClaimJoined
import GoSem.ClaimMapViews
import Derived.JoinedTies
import Derived.KernelRfl
namespace Go.Proofs.YtpdggnocnaaanaaDoor
/- THE CELL 'sum', in the pinned program and in every row, IS THE sha256 OF THE DUMP (.gsa) THAT YtpdggnocnaaanaaDoorProg.lean LOADS. Nothing in Lean hashes anything: it is a label: what it is worth is what the hold of that sum in a sandbox is worth. -/
noncomputable def Tryd.pinned : Pinned := { name := "ytpdggnocnaaanaadoor", sum := "6a4678b610ca975db60e7349e204c8ba5b1b30bc17ae626e4083489b7cf2a90e", checked := Tryd.checked }
namespace Rows
def none {H : Type} : Left H := { results := [], args := [] }

/- WHAT THE LISTED PACKAGE-LEVEL VARIABLES READ AS WHEN THE CALL BEGINS. Each datum BY PROGRAM (the guide's laid-datum.mjs) off the statement by which the dump's own 'gosem.cut.vars' lays the variable. In a bare row this is a premise. The card (YtpdggnocnaaanaaDoorCards.lean) ties it to the program's text. -/
def laid_aneroid_wide_none {H : Type} : DataW H := .agg [.lit (.int .i64 0), .lit (.int .u64 0)]
def laid_aneroid_wide_least {H : Type} : DataW H := .agg [.lit (.int .i64 (-9223372036854775808)), .lit (.int .u64 0)]
def laid_aneroid_sym_places {H : Type} : DataW H := .agg [.agg [.lit (.int .i64 0), .lit (.int .i64 1), .lit (.int .i64 2)], .agg [.lit (.int .i64 1), .lit (.int .i64 3), .lit (.int .i64 4)], .agg [.lit (.int .i64 2), .lit (.int .i64 4), .lit (.int .i64 5)]]
def laid_aneroid_spread_rows {H : Type} : DataW H := .agg [.agg [.lit (.int .i64 32768), .lit (.int .i64 256), .lit (.int .i64 (-1))], .agg [.lit (.int .i64 0), .lit (.int .i64 32768), .lit (.int .i64 (-256))], .agg [.lit (.int .i64 0), .lit (.int .i64 0), .lit (.int .i64 32768)]]

/-- 'aneroidlaw07.MotionRests': WHATEVER THE INPUT: true; the input reads as it did. -/
def motionRestsSpec : ChangeSpec := { name := "motionRests", fn := fun _ => fun
  | [d1, d2] => { results := [.lit (.bool true)], args := [d1, d2] }
  | _ => none }
def motionRestsRow : OpenClaim := { program := "ytpdggnocnaaanaadoor", sum := "6a4678b610ca975db60e7349e204c8ba5b1b30bc17ae626e4083489b7cf2a90e", func := "aneroid/aneroidlaw07.MotionRests", spec := "motionRests", inPlace := ["math/bits.Sub64", "math/bits.Add64"], unfollowed := true, recurses := true, named := ["aneroid/wide.none"], apart := false, laid := [("aneroid/wide.none", laid_aneroid_wide_none)] }
def MotionRestsSaid : Prop := motionRestsRow.holds Tryd.pinned (OpenSpec.ofChange motionRestsSpec)

/-- ITS FALSE NEIGHBOUR: 'it returns false'. Refute it at one input. -/
def motionRestsWrong : ChangeSpec := { name := "motionRests", fn := fun _ => fun
  | [d1, d2] => { results := [.lit (.bool false)], args := [d1, d2] }
  | _ => none }
def MotionRestsWrongFalsely : Prop := motionRestsRow.holds Tryd.pinned (OpenSpec.ofChange motionRestsWrong)

/-- 'aneroidlaw07.MotionShifts': WHATEVER THE INPUT: true; the input reads as it did. -/
def motionShiftsSpec : ChangeSpec := { name := "motionShifts", fn := fun _ => fun
  | [d1, d2, d3] => { results := [.lit (.bool true)], args := [d1, d2, d3] }
  | _ => none }
def motionShiftsRow : OpenClaim := { program := "ytpdggnocnaaanaadoor", sum := "6a4678b610ca975db60e7349e204c8ba5b1b30bc17ae626e4083489b7cf2a90e", func := "aneroid/aneroidlaw07.MotionShifts", spec := "motionShifts", inPlace := ["math/bits.Sub64", "math/bits.Add64"], unfollowed := true, recurses := true, named := ["aneroid/wide.none"], apart := false, laid := [("aneroid/wide.none", laid_aneroid_wide_none)] }
def MotionShiftsSaid : Prop := motionShiftsRow.holds Tryd.pinned (OpenSpec.ofChange motionShiftsSpec)

/-- ITS FALSE NEIGHBOUR: 'it returns false'. Refute it at one input. -/
def motionShiftsWrong : ChangeSpec := { name := "motionShifts", fn := fun _ => fun
  | [d1, d2, d3] => { results := [.lit (.bool false)], args := [d1, d2, d3] }
  | _ => none }
def MotionShiftsWrongFalsely : Prop := motionShiftsRow.holds Tryd.pinned (OpenSpec.ofChange motionShiftsWrong)

/-- 'aneroidlaw07.MotionOn': WHATEVER THE INPUT: true; the input reads as it did. -/
def motionOnSpec : ChangeSpec := { name := "motionOn", fn := fun _ => fun
  | [d1, d2, d3] => { results := [.lit (.bool true)], args := [d1, d2, d3] }
  | _ => none }
def motionOnRow : OpenClaim := { program := "ytpdggnocnaaanaadoor", sum := "6a4678b610ca975db60e7349e204c8ba5b1b30bc17ae626e4083489b7cf2a90e", func := "aneroid/aneroidlaw07.MotionOn", spec := "motionOn", inPlace := ["math/bits.Sub64", "math/bits.Add64"], unfollowed := true, recurses := true, named := ["aneroid/wide.none"], apart := false, laid := [("aneroid/wide.none", laid_aneroid_wide_none)] }
def MotionOnSaid : Prop := motionOnRow.holds Tryd.pinned (OpenSpec.ofChange motionOnSpec)

/-- ITS FALSE NEIGHBOUR: 'it returns false'. Refute it at one input. -/
def motionOnWrong : ChangeSpec := { name := "motionOn", fn := fun _ => fun
  | [d1, d2, d3] => { results := [.lit (.bool false)], args := [d1, d2, d3] }
  | _ => none }
def MotionOnWrongFalsely : Prop := motionOnRow.holds Tryd.pinned (OpenSpec.ofChange motionOnWrong)

/-- 'aneroidlaw11.GainLess': WHATEVER THE INPUT: true; the input reads as it did. -/
def gainLessSpec : ChangeSpec := { name := "gainLess", fn := fun _ => fun
  | [d1, d2, d3] => { results := [.lit (.bool true)], args := [d1, d2, d3] }
  | _ => none }
def gainLessRow : OpenClaim := { program := "ytpdggnocnaaanaadoor", sum := "6a4678b610ca975db60e7349e204c8ba5b1b30bc17ae626e4083489b7cf2a90e", func := "aneroid/aneroidlaw11.GainLess", spec := "gainLess", inPlace := ["math/bits.Add64", "math/bits.Sub64"], unfollowed := true, recurses := true, named := ["aneroid/wide.none", "aneroid/wide.least"], apart := false, laid := [("aneroid/wide.none", laid_aneroid_wide_none), ("aneroid/wide.least", laid_aneroid_wide_least)] }
def GainLessSaid : Prop := gainLessRow.holds Tryd.pinned (OpenSpec.ofChange gainLessSpec)

/-- ITS FALSE NEIGHBOUR: 'it returns false'. Refute it at one input. -/
def gainLessWrong : ChangeSpec := { name := "gainLess", fn := fun _ => fun
  | [d1, d2, d3] => { results := [.lit (.bool false)], args := [d1, d2, d3] }
  | _ => none }
def GainLessWrongFalsely : Prop := gainLessRow.holds Tryd.pinned (OpenSpec.ofChange gainLessWrong)

/-- 'aneroidlaw11.GainMild': WHATEVER THE INPUT: true; the input reads as it did. -/
def gainMildSpec : ChangeSpec := { name := "gainMild", fn := fun _ => fun
  | [d1, d2] => { results := [.lit (.bool true)], args := [d1, d2] }
  | _ => none }
def gainMildRow : OpenClaim := { program := "ytpdggnocnaaanaadoor", sum := "6a4678b610ca975db60e7349e204c8ba5b1b30bc17ae626e4083489b7cf2a90e", func := "aneroid/aneroidlaw11.GainMild", spec := "gainMild", inPlace := ["math/bits.Add64", "math/bits.Sub64"], unfollowed := true, recurses := true, named := ["aneroid/wide.none", "aneroid/wide.least"], apart := false, laid := [("aneroid/wide.none", laid_aneroid_wide_none), ("aneroid/wide.least", laid_aneroid_wide_least)] }
def GainMildSaid : Prop := gainMildRow.holds Tryd.pinned (OpenSpec.ofChange gainMildSpec)

/-- ITS FALSE NEIGHBOUR: 'it returns false'. Refute it at one input. -/
def gainMildWrong : ChangeSpec := { name := "gainMild", fn := fun _ => fun
  | [d1, d2] => { results := [.lit (.bool false)], args := [d1, d2] }
  | _ => none }
def GainMildWrongFalsely : Prop := gainMildRow.holds Tryd.pinned (OpenSpec.ofChange gainMildWrong)

/-- 'aneroidlaw08.SpreadOn': WHATEVER THE INPUT: true; the input reads as it did. -/
def spreadOnSpec : ChangeSpec := { name := "spreadOn", fn := fun _ => fun
  | [d1, d2] => { results := [.lit (.bool true)], args := [d1, d2] }
  | _ => none }
def spreadOnRow : OpenClaim := { program := "ytpdggnocnaaanaadoor", sum := "6a4678b610ca975db60e7349e204c8ba5b1b30bc17ae626e4083489b7cf2a90e", func := "aneroid/aneroidlaw08.SpreadOn", spec := "spreadOn", inPlace := ["math/bits.Sub64", "math/bits.Add64"], unfollowed := true, recurses := true, named := ["aneroid/spread.rows", "aneroid/sym.places", "aneroid/wide.none"], apart := false, laid := [("aneroid/wide.none", laid_aneroid_wide_none), ("aneroid/sym.places", laid_aneroid_sym_places), ("aneroid/spread.rows", laid_aneroid_spread_rows)] }
def SpreadOnSaid : Prop := spreadOnRow.holds Tryd.pinned (OpenSpec.ofChange spreadOnSpec)

/-- ITS FALSE NEIGHBOUR: 'it returns false'. Refute it at one input. -/
def spreadOnWrong : ChangeSpec := { name := "spreadOn", fn := fun _ => fun
  | [d1, d2] => { results := [.lit (.bool false)], args := [d1, d2] }
  | _ => none }
def SpreadOnWrongFalsely : Prop := spreadOnRow.holds Tryd.pinned (OpenSpec.ofChange spreadOnWrong)

/-- 'aneroidlaw08.SpreadAdds': WHATEVER THE INPUT: true; the input reads as it did. -/
def spreadAddsSpec : ChangeSpec := { name := "spreadAdds", fn := fun _ => fun
  | [d1, d2, d3] => { results := [.lit (.bool true)], args := [d1, d2, d3] }
  | _ => none }
def spreadAddsRow : OpenClaim := { program := "ytpdggnocnaaanaadoor", sum := "6a4678b610ca975db60e7349e204c8ba5b1b30bc17ae626e4083489b7cf2a90e", func := "aneroid/aneroidlaw08.SpreadAdds", spec := "spreadAdds", inPlace := ["math/bits.Sub64", "math/bits.Add64"], unfollowed := true, recurses := true, named := ["aneroid/spread.rows", "aneroid/sym.places", "aneroid/wide.none"], apart := false, laid := [("aneroid/wide.none", laid_aneroid_wide_none), ("aneroid/sym.places", laid_aneroid_sym_places), ("aneroid/spread.rows", laid_aneroid_spread_rows)] }
def SpreadAddsSaid : Prop := spreadAddsRow.holds Tryd.pinned (OpenSpec.ofChange spreadAddsSpec)

/-- ITS FALSE NEIGHBOUR: 'it returns false'. Refute it at one input. -/
def spreadAddsWrong : ChangeSpec := { name := "spreadAdds", fn := fun _ => fun
  | [d1, d2, d3] => { results := [.lit (.bool false)], args := [d1, d2, d3] }
  | _ => none }
def SpreadAddsWrongFalsely : Prop := spreadAddsRow.holds Tryd.pinned (OpenSpec.ofChange spreadAddsWrong)

/-- 'aneroidlaw08.SpreadGrows': WHATEVER THE INPUT: true; the input reads as it did. -/
def spreadGrowsSpec : ChangeSpec := { name := "spreadGrows", fn := fun _ => fun
  | [d1, d2] => { results := [.lit (.bool true)], args := [d1, d2] }
  | _ => none }
def spreadGrowsRow : OpenClaim := { program := "ytpdggnocnaaanaadoor", sum := "6a4678b610ca975db60e7349e204c8ba5b1b30bc17ae626e4083489b7cf2a90e", func := "aneroid/aneroidlaw08.SpreadGrows", spec := "spreadGrows", inPlace := ["math/bits.Sub64", "math/bits.Add64"], unfollowed := true, recurses := true, named := ["aneroid/spread.rows", "aneroid/sym.places", "aneroid/wide.none"], apart := false, laid := [("aneroid/wide.none", laid_aneroid_wide_none), ("aneroid/sym.places", laid_aneroid_sym_places), ("aneroid/spread.rows", laid_aneroid_spread_rows)] }
def SpreadGrowsSaid : Prop := spreadGrowsRow.holds Tryd.pinned (OpenSpec.ofChange spreadGrowsSpec)

/-- ITS FALSE NEIGHBOUR: 'it returns false'. Refute it at one input. -/
def spreadGrowsWrong : ChangeSpec := { name := "spreadGrows", fn := fun _ => fun
  | [d1, d2] => { results := [.lit (.bool false)], args := [d1, d2] }
  | _ => none }
def SpreadGrowsWrongFalsely : Prop := spreadGrowsRow.holds Tryd.pinned (OpenSpec.ofChange spreadGrowsWrong)

/-- 'aneroidlaw11.GainPlays': WHATEVER THE INPUT: true; the input reads as it did. -/
def gainPlaysSpec : ChangeSpec := { name := "gainPlays", fn := fun _ => fun
  | [d] => { results := [.lit (.bool true)], args := [d] }
  | _ => none }
def gainPlaysRow : OpenClaim := { program := "ytpdggnocnaaanaadoor", sum := "6a4678b610ca975db60e7349e204c8ba5b1b30bc17ae626e4083489b7cf2a90e", func := "aneroid/aneroidlaw11.GainPlays", spec := "gainPlays", inPlace := ["math/bits.Add64", "math/bits.Sub64"], unfollowed := true, recurses := true, named := ["aneroid/wide.none", "aneroid/wide.least"], apart := false, laid := [("aneroid/wide.none", laid_aneroid_wide_none), ("aneroid/wide.least", laid_aneroid_wide_least)] }
def GainPlaysSaid : Prop := gainPlaysRow.holds Tryd.pinned (OpenSpec.ofChange gainPlaysSpec)

/-- ITS FALSE NEIGHBOUR: 'it returns false'. Refute it at one input. -/
def gainPlaysWrong : ChangeSpec := { name := "gainPlays", fn := fun _ => fun
  | [d] => { results := [.lit (.bool false)], args := [d] }
  | _ => none }
def GainPlaysWrongFalsely : Prop := gainPlaysRow.holds Tryd.pinned (OpenSpec.ofChange gainPlaysWrong)

/-- 'aneroidlaw10.GateLooks': WHATEVER THE INPUT: true; the input reads as it did. -/
def gateLooksSpec : ChangeSpec := { name := "gateLooks", fn := fun _ => fun
  | [d1, d2, d3] => { results := [.lit (.bool true)], args := [d1, d2, d3] }
  | _ => none }
def gateLooksRow : OpenClaim := { program := "ytpdggnocnaaanaadoor", sum := "6a4678b610ca975db60e7349e204c8ba5b1b30bc17ae626e4083489b7cf2a90e", func := "aneroid/aneroidlaw10.GateLooks", spec := "gateLooks", inPlace := ["math/bits.Sub64", "math/bits.Add64"], unfollowed := true, recurses := true, named := ["aneroid/wide.none"], apart := false, laid := [("aneroid/wide.none", laid_aneroid_wide_none)] }
def GateLooksSaid : Prop := gateLooksRow.holds Tryd.pinned (OpenSpec.ofChange gateLooksSpec)

/-- ITS FALSE NEIGHBOUR: 'it returns false'. Refute it at one input. -/
def gateLooksWrong : ChangeSpec := { name := "gateLooks", fn := fun _ => fun
  | [d1, d2, d3] => { results := [.lit (.bool false)], args := [d1, d2, d3] }
  | _ => none }
def GateLooksWrongFalsely : Prop := gateLooksRow.holds Tryd.pinned (OpenSpec.ofChange gateLooksWrong)

/- THE SECOND FORM. 'bulk': how many values and letters a reading holds, each counted each time it is reached (what is shared counts as often as it is met; a slice's spare places count too). A statement '..UptoSaid' is the law's where the arguments, and the package variables that the reading takes, are together of bulk at most 1048576: NARROWER than '..Said'. Prove '..Said' where nothing that the law and all that it calls make is longer than what came in: it says more and counts as full. Else prove '..UptoSaid'. A law counts once. -/
mutual
def uptoBulk {H : Type} : DataW H → Nat
  | .lit (.string bytes) => bytes.length + 1
  | .lit _ => 1
  | .nil => 1
  | .ptr d => uptoBulk d + 1
  | .slice elems spare => uptoBulkAll elems + uptoBulkAll spare + 1
  | .agg parts => uptoBulkAll parts + 1
  | .iface _ d => uptoBulk d + 1
  | .map entries => uptoBulkEntries entries + 1
  | .held _ => 1
def uptoBulkAll {H : Type} : List (DataW H) → Nat
  | [] => 0
  | d :: r => uptoBulk d + uptoBulkAll r
def uptoBulkEntries {H : Type} : List (Lit × DataW H) → Nat
  | [] => 0
  | x :: r => uptoBulkEntry x + uptoBulkEntries r
def uptoBulkEntry {H : Type} : Lit × DataW H → Nat
  | (.string bytes, d) => bytes.length + uptoBulk d + 1
  | (_, d) => uptoBulk d + 1
 end
def uptoSmall : (H : Type) → List (DataW H) → Bool := fun _ ds => decide (uptoBulkAll ds ≤ 1048576)
def OpenSpec.upto (s : _root_.Go.ChangeSpec) : _root_.Go.OpenSpec := { _root_.Go.OpenSpec.ofChange s with cond := some uptoSmall }

/-- 'aneroidlaw07.MotionRests', WHERE WHAT IT READS IS OF BULK AT MOST 1048576: true; the input reads as it did. -/
def motionRestsUptoRow : OpenClaim := { program := "ytpdggnocnaaanaadoor", sum := "6a4678b610ca975db60e7349e204c8ba5b1b30bc17ae626e4083489b7cf2a90e", func := "aneroid/aneroidlaw07.MotionRests", spec := "motionRests", inPlace := ["math/bits.Sub64", "math/bits.Add64"], unfollowed := true, recurses := true, named := ["aneroid/wide.none"], apart := false, laid := [("aneroid/wide.none", laid_aneroid_wide_none)], narrowed := true }
def MotionRestsUptoSaid : Prop := motionRestsUptoRow.holds Tryd.pinned (OpenSpec.upto motionRestsSpec)

/-- 'aneroidlaw07.MotionShifts', WHERE WHAT IT READS IS OF BULK AT MOST 1048576: true; the input reads as it did. -/
def motionShiftsUptoRow : OpenClaim := { program := "ytpdggnocnaaanaadoor", sum := "6a4678b610ca975db60e7349e204c8ba5b1b30bc17ae626e4083489b7cf2a90e", func := "aneroid/aneroidlaw07.MotionShifts", spec := "motionShifts", inPlace := ["math/bits.Sub64", "math/bits.Add64"], unfollowed := true, recurses := true, named := ["aneroid/wide.none"], apart := false, laid := [("aneroid/wide.none", laid_aneroid_wide_none)], narrowed := true }
def MotionShiftsUptoSaid : Prop := motionShiftsUptoRow.holds Tryd.pinned (OpenSpec.upto motionShiftsSpec)

/-- 'aneroidlaw07.MotionOn', WHERE WHAT IT READS IS OF BULK AT MOST 1048576: true; the input reads as it did. -/
def motionOnUptoRow : OpenClaim := { program := "ytpdggnocnaaanaadoor", sum := "6a4678b610ca975db60e7349e204c8ba5b1b30bc17ae626e4083489b7cf2a90e", func := "aneroid/aneroidlaw07.MotionOn", spec := "motionOn", inPlace := ["math/bits.Sub64", "math/bits.Add64"], unfollowed := true, recurses := true, named := ["aneroid/wide.none"], apart := false, laid := [("aneroid/wide.none", laid_aneroid_wide_none)], narrowed := true }
def MotionOnUptoSaid : Prop := motionOnUptoRow.holds Tryd.pinned (OpenSpec.upto motionOnSpec)

/-- 'aneroidlaw11.GainLess', WHERE WHAT IT READS IS OF BULK AT MOST 1048576: true; the input reads as it did. -/
def gainLessUptoRow : OpenClaim := { program := "ytpdggnocnaaanaadoor", sum := "6a4678b610ca975db60e7349e204c8ba5b1b30bc17ae626e4083489b7cf2a90e", func := "aneroid/aneroidlaw11.GainLess", spec := "gainLess", inPlace := ["math/bits.Add64", "math/bits.Sub64"], unfollowed := true, recurses := true, named := ["aneroid/wide.none", "aneroid/wide.least"], apart := false, laid := [("aneroid/wide.none", laid_aneroid_wide_none), ("aneroid/wide.least", laid_aneroid_wide_least)], narrowed := true }
def GainLessUptoSaid : Prop := gainLessUptoRow.holds Tryd.pinned (OpenSpec.upto gainLessSpec)

/-- 'aneroidlaw11.GainMild', WHERE WHAT IT READS IS OF BULK AT MOST 1048576: true; the input reads as it did. -/
def gainMildUptoRow : OpenClaim := { program := "ytpdggnocnaaanaadoor", sum := "6a4678b610ca975db60e7349e204c8ba5b1b30bc17ae626e4083489b7cf2a90e", func := "aneroid/aneroidlaw11.GainMild", spec := "gainMild", inPlace := ["math/bits.Add64", "math/bits.Sub64"], unfollowed := true, recurses := true, named := ["aneroid/wide.none", "aneroid/wide.least"], apart := false, laid := [("aneroid/wide.none", laid_aneroid_wide_none), ("aneroid/wide.least", laid_aneroid_wide_least)], narrowed := true }
def GainMildUptoSaid : Prop := gainMildUptoRow.holds Tryd.pinned (OpenSpec.upto gainMildSpec)

/-- 'aneroidlaw08.SpreadOn', WHERE WHAT IT READS IS OF BULK AT MOST 1048576: true; the input reads as it did. -/
def spreadOnUptoRow : OpenClaim := { program := "ytpdggnocnaaanaadoor", sum := "6a4678b610ca975db60e7349e204c8ba5b1b30bc17ae626e4083489b7cf2a90e", func := "aneroid/aneroidlaw08.SpreadOn", spec := "spreadOn", inPlace := ["math/bits.Sub64", "math/bits.Add64"], unfollowed := true, recurses := true, named := ["aneroid/spread.rows", "aneroid/sym.places", "aneroid/wide.none"], apart := false, laid := [("aneroid/wide.none", laid_aneroid_wide_none), ("aneroid/sym.places", laid_aneroid_sym_places), ("aneroid/spread.rows", laid_aneroid_spread_rows)], narrowed := true }
def SpreadOnUptoSaid : Prop := spreadOnUptoRow.holds Tryd.pinned (OpenSpec.upto spreadOnSpec)

/-- 'aneroidlaw08.SpreadAdds', WHERE WHAT IT READS IS OF BULK AT MOST 1048576: true; the input reads as it did. -/
def spreadAddsUptoRow : OpenClaim := { program := "ytpdggnocnaaanaadoor", sum := "6a4678b610ca975db60e7349e204c8ba5b1b30bc17ae626e4083489b7cf2a90e", func := "aneroid/aneroidlaw08.SpreadAdds", spec := "spreadAdds", inPlace := ["math/bits.Sub64", "math/bits.Add64"], unfollowed := true, recurses := true, named := ["aneroid/spread.rows", "aneroid/sym.places", "aneroid/wide.none"], apart := false, laid := [("aneroid/wide.none", laid_aneroid_wide_none), ("aneroid/sym.places", laid_aneroid_sym_places), ("aneroid/spread.rows", laid_aneroid_spread_rows)], narrowed := true }
def SpreadAddsUptoSaid : Prop := spreadAddsUptoRow.holds Tryd.pinned (OpenSpec.upto spreadAddsSpec)

/-- 'aneroidlaw08.SpreadGrows', WHERE WHAT IT READS IS OF BULK AT MOST 1048576: true; the input reads as it did. -/
def spreadGrowsUptoRow : OpenClaim := { program := "ytpdggnocnaaanaadoor", sum := "6a4678b610ca975db60e7349e204c8ba5b1b30bc17ae626e4083489b7cf2a90e", func := "aneroid/aneroidlaw08.SpreadGrows", spec := "spreadGrows", inPlace := ["math/bits.Sub64", "math/bits.Add64"], unfollowed := true, recurses := true, named := ["aneroid/spread.rows", "aneroid/sym.places", "aneroid/wide.none"], apart := false, laid := [("aneroid/wide.none", laid_aneroid_wide_none), ("aneroid/sym.places", laid_aneroid_sym_places), ("aneroid/spread.rows", laid_aneroid_spread_rows)], narrowed := true }
def SpreadGrowsUptoSaid : Prop := spreadGrowsUptoRow.holds Tryd.pinned (OpenSpec.upto spreadGrowsSpec)

/-- 'aneroidlaw11.GainPlays', WHERE WHAT IT READS IS OF BULK AT MOST 1048576: true; the input reads as it did. -/
def gainPlaysUptoRow : OpenClaim := { program := "ytpdggnocnaaanaadoor", sum := "6a4678b610ca975db60e7349e204c8ba5b1b30bc17ae626e4083489b7cf2a90e", func := "aneroid/aneroidlaw11.GainPlays", spec := "gainPlays", inPlace := ["math/bits.Add64", "math/bits.Sub64"], unfollowed := true, recurses := true, named := ["aneroid/wide.none", "aneroid/wide.least"], apart := false, laid := [("aneroid/wide.none", laid_aneroid_wide_none), ("aneroid/wide.least", laid_aneroid_wide_least)], narrowed := true }
def GainPlaysUptoSaid : Prop := gainPlaysUptoRow.holds Tryd.pinned (OpenSpec.upto gainPlaysSpec)

/-- 'aneroidlaw10.GateLooks', WHERE WHAT IT READS IS OF BULK AT MOST 1048576: true; the input reads as it did. -/
def gateLooksUptoRow : OpenClaim := { program := "ytpdggnocnaaanaadoor", sum := "6a4678b610ca975db60e7349e204c8ba5b1b30bc17ae626e4083489b7cf2a90e", func := "aneroid/aneroidlaw10.GateLooks", spec := "gateLooks", inPlace := ["math/bits.Sub64", "math/bits.Add64"], unfollowed := true, recurses := true, named := ["aneroid/wide.none"], apart := false, laid := [("aneroid/wide.none", laid_aneroid_wide_none)], narrowed := true }
def GateLooksUptoSaid : Prop := gateLooksUptoRow.holds Tryd.pinned (OpenSpec.upto gateLooksSpec)

end Rows
end Go.Proofs.YtpdggnocnaaanaaDoor
