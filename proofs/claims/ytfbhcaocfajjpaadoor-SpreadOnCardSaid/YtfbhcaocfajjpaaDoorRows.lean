/-
  NARROWER THAN 'FOR EVERY INPUT', by the rows' own cells (each row's printed sentence says how): SymSums: laid · SpreadOn: laid · SpreadAdds: laid · SpreadGrows: laid · JosephPart: laid · JosephNothing: laid · ParsePuts: laid · ParseGets: laid.
  DERIVED. THE GIVEN ROWS OF THIS SEAT. 8 by the template 'for every input the law returns true; each argument reads behind the call as it read before'; 0 by the template 'total and deterministic' (their statements: YtfbhcaocfajjpaaDoorTotals.lean).
  GIVEN WITH THE SEED: the statements are not yours to turn. If you find one false, say at which input.
  Laid BY PROGRAM, IN A SANDBOX (cutbox-rows.mjs): the forced cells as the released guide's own fill.sh prints them over the translation 6d2b1c7b440915f6… (all of the seat's roots in one cut). By AI agents, Wed Nov 11 2026. No macro, syntax, notation, axiom, sorry.
-/
import Derived.Test.YtfbhcaocfajjpaaDoorChecked
import GoSem.PinnedTables
import GoSem.Claim
import GoSem.ClaimJoined
import GoSem.ClaimMapViews
import Derived.JoinedTies
import Derived.KernelRfl
namespace Go.Proofs.YtfbhcaocfajjpaaDoor
/- THE CELL 'sum', in the pinned program and in every row, IS THE sha256 OF THE DUMP (.gsa) THAT YtfbhcaocfajjpaaDoorProg.lean LOADS. Nothing in Lean hashes anything: it is a label: what it is worth is what the hold of that sum in a sandbox is worth. -/
noncomputable def Tryd.pinned : Pinned := { name := "ytfbhcaocfajjpaadoor", sum := "6d2b1c7b440915f642eca8434d2c249098732dbe052a8e754894edd0b559c90b", checked := Tryd.checked }
namespace Rows
def none {H : Type} : Left H := { results := [], args := [] }

/- WHAT THE LISTED PACKAGE-LEVEL VARIABLES READ AS WHEN THE CALL BEGINS. Each datum BY PROGRAM (the guide's laid-datum.mjs) off the statement by which the dump's own 'gosem.cut.vars' lays the variable. In a bare row this is a premise. The card (YtfbhcaocfajjpaaDoorCards.lean) ties it to the program's text. -/
def laid_aneroid_sym_places {H : Type} : DataW H := .agg [.agg [.lit (.int .i64 0), .lit (.int .i64 1), .lit (.int .i64 2)], .agg [.lit (.int .i64 1), .lit (.int .i64 3), .lit (.int .i64 4)], .agg [.lit (.int .i64 2), .lit (.int .i64 4), .lit (.int .i64 5)]]
def laid_aneroid_wide_none {H : Type} : DataW H := .agg [.lit (.int .i64 0), .lit (.int .u64 0)]
def laid_aneroid_spread_rows {H : Type} : DataW H := .agg [.agg [.lit (.int .i64 32768), .lit (.int .i64 256), .lit (.int .i64 (-1))], .agg [.lit (.int .i64 0), .lit (.int .i64 32768), .lit (.int .i64 (-256))], .agg [.lit (.int .i64 0), .lit (.int .i64 0), .lit (.int .i64 32768)]]
def laid_math_bits_deBruijn32tab {H : Type} : DataW H := .agg [.lit (.int .u8 0), .lit (.int .u8 1), .lit (.int .u8 28), .lit (.int .u8 2), .lit (.int .u8 29), .lit (.int .u8 14), .lit (.int .u8 24), .lit (.int .u8 3), .lit (.int .u8 30), .lit (.int .u8 22), .lit (.int .u8 20), .lit (.int .u8 15), .lit (.int .u8 25), .lit (.int .u8 17), .lit (.int .u8 4), .lit (.int .u8 8), .lit (.int .u8 31), .lit (.int .u8 27), .lit (.int .u8 13), .lit (.int .u8 23), .lit (.int .u8 21), .lit (.int .u8 19), .lit (.int .u8 16), .lit (.int .u8 7), .lit (.int .u8 26), .lit (.int .u8 12), .lit (.int .u8 18), .lit (.int .u8 6), .lit (.int .u8 11), .lit (.int .u8 5), .lit (.int .u8 10), .lit (.int .u8 9)]
def laid_math_bits_deBruijn64tab {H : Type} : DataW H := .agg [.lit (.int .u8 0), .lit (.int .u8 1), .lit (.int .u8 56), .lit (.int .u8 2), .lit (.int .u8 57), .lit (.int .u8 49), .lit (.int .u8 28), .lit (.int .u8 3), .lit (.int .u8 61), .lit (.int .u8 58), .lit (.int .u8 42), .lit (.int .u8 50), .lit (.int .u8 38), .lit (.int .u8 29), .lit (.int .u8 17), .lit (.int .u8 4), .lit (.int .u8 62), .lit (.int .u8 47), .lit (.int .u8 59), .lit (.int .u8 36), .lit (.int .u8 45), .lit (.int .u8 43), .lit (.int .u8 51), .lit (.int .u8 22), .lit (.int .u8 53), .lit (.int .u8 39), .lit (.int .u8 33), .lit (.int .u8 30), .lit (.int .u8 24), .lit (.int .u8 18), .lit (.int .u8 12), .lit (.int .u8 5), .lit (.int .u8 63), .lit (.int .u8 55), .lit (.int .u8 48), .lit (.int .u8 27), .lit (.int .u8 60), .lit (.int .u8 41), .lit (.int .u8 37), .lit (.int .u8 16), .lit (.int .u8 46), .lit (.int .u8 35), .lit (.int .u8 44), .lit (.int .u8 21), .lit (.int .u8 52), .lit (.int .u8 32), .lit (.int .u8 23), .lit (.int .u8 11), .lit (.int .u8 54), .lit (.int .u8 26), .lit (.int .u8 40), .lit (.int .u8 15), .lit (.int .u8 34), .lit (.int .u8 20), .lit (.int .u8 31), .lit (.int .u8 10), .lit (.int .u8 25), .lit (.int .u8 14), .lit (.int .u8 19), .lit (.int .u8 9), .lit (.int .u8 13), .lit (.int .u8 8), .lit (.int .u8 7), .lit (.int .u8 6)]
def laid_internal_strconv_uint64pow10 {H : Type} : DataW H := .agg [.lit (.int .u64 1), .lit (.int .u64 10), .lit (.int .u64 100), .lit (.int .u64 1000), .lit (.int .u64 10000), .lit (.int .u64 100000), .lit (.int .u64 1000000), .lit (.int .u64 10000000), .lit (.int .u64 100000000), .lit (.int .u64 1000000000), .lit (.int .u64 10000000000), .lit (.int .u64 100000000000), .lit (.int .u64 1000000000000), .lit (.int .u64 10000000000000), .lit (.int .u64 100000000000000), .lit (.int .u64 1000000000000000), .lit (.int .u64 10000000000000000), .lit (.int .u64 100000000000000000), .lit (.int .u64 1000000000000000000), .lit (.int .u64 10000000000000000000)]
def laid_unicode_utf8_acceptRanges {H : Type} : DataW H := .agg [.agg [.lit (.int .u8 128), .lit (.int .u8 191)], .agg [.lit (.int .u8 160), .lit (.int .u8 191)], .agg [.lit (.int .u8 128), .lit (.int .u8 159)], .agg [.lit (.int .u8 144), .lit (.int .u8 191)], .agg [.lit (.int .u8 128), .lit (.int .u8 143)], .agg [.lit (.int .u8 0), .lit (.int .u8 0)], .agg [.lit (.int .u8 0), .lit (.int .u8 0)], .agg [.lit (.int .u8 0), .lit (.int .u8 0)], .agg [.lit (.int .u8 0), .lit (.int .u8 0)], .agg [.lit (.int .u8 0), .lit (.int .u8 0)], .agg [.lit (.int .u8 0), .lit (.int .u8 0)], .agg [.lit (.int .u8 0), .lit (.int .u8 0)], .agg [.lit (.int .u8 0), .lit (.int .u8 0)], .agg [.lit (.int .u8 0), .lit (.int .u8 0)], .agg [.lit (.int .u8 0), .lit (.int .u8 0)], .agg [.lit (.int .u8 0), .lit (.int .u8 0)]]
def laid_strconv_ErrRange {H : Type} : DataW H := .iface "*errors.errorString" (.ptr (.agg [.lit (.string [118, 97, 108, 117, 101, 32, 111, 117, 116, 32, 111, 102, 32, 114, 97, 110, 103, 101])]))
def laid_strconv_ErrSyntax {H : Type} : DataW H := .iface "*errors.errorString" (.ptr (.agg [.lit (.string [105, 110, 118, 97, 108, 105, 100, 32, 115, 121, 110, 116, 97, 120])]))
/-- One of Go's own tables, pinned by name: the form's constant. -/
def laid_unicode_utf8_first : DataW Unit := Go.Pinned.utf8First

/-- 'aneroidlaw05.SymSums': WHATEVER THE INPUT: true; the input reads as it did. -/
def symSumsSpec : ChangeSpec := { name := "symSums", fn := fun _ => fun
  | [d1, d2, d3] => { results := [.lit (.bool true)], args := [d1, d2, d3] }
  | _ => none }
def symSumsRow : OpenClaim := { program := "ytfbhcaocfajjpaadoor", sum := "6d2b1c7b440915f642eca8434d2c249098732dbe052a8e754894edd0b559c90b", func := "aneroid/aneroidlaw05.SymSums", spec := "symSums", named := ["aneroid/sym.places"], apart := false, laid := [("aneroid/sym.places", laid_aneroid_sym_places)] }
def SymSumsSaid : Prop := symSumsRow.holds Tryd.pinned (OpenSpec.ofChange symSumsSpec)

/-- ITS FALSE NEIGHBOUR: 'it returns false'. Refute it at one input. -/
def symSumsWrong : ChangeSpec := { name := "symSums", fn := fun _ => fun
  | [d1, d2, d3] => { results := [.lit (.bool false)], args := [d1, d2, d3] }
  | _ => none }
def SymSumsWrongFalsely : Prop := symSumsRow.holds Tryd.pinned (OpenSpec.ofChange symSumsWrong)

/-- 'aneroidlaw08.SpreadOn': WHATEVER THE INPUT: true; the input reads as it did. -/
def spreadOnSpec : ChangeSpec := { name := "spreadOn", fn := fun _ => fun
  | [d1, d2] => { results := [.lit (.bool true)], args := [d1, d2] }
  | _ => none }
def spreadOnRow : OpenClaim := { program := "ytfbhcaocfajjpaadoor", sum := "6d2b1c7b440915f642eca8434d2c249098732dbe052a8e754894edd0b559c90b", func := "aneroid/aneroidlaw08.SpreadOn", spec := "spreadOn", inPlace := ["math/bits.Sub64", "math/bits.Add64"], unfollowed := true, recurses := true, named := ["aneroid/spread.rows", "aneroid/sym.places", "aneroid/wide.none"], apart := false, laid := [("aneroid/wide.none", laid_aneroid_wide_none), ("aneroid/sym.places", laid_aneroid_sym_places), ("aneroid/spread.rows", laid_aneroid_spread_rows)] }
def SpreadOnSaid : Prop := spreadOnRow.holds Tryd.pinned (OpenSpec.ofChange spreadOnSpec)

/-- ITS FALSE NEIGHBOUR: 'it returns false'. Refute it at one input. -/
def spreadOnWrong : ChangeSpec := { name := "spreadOn", fn := fun _ => fun
  | [d1, d2] => { results := [.lit (.bool false)], args := [d1, d2] }
  | _ => none }
def SpreadOnWrongFalsely : Prop := spreadOnRow.holds Tryd.pinned (OpenSpec.ofChange spreadOnWrong)

/-- 'aneroidlaw08.SpreadAdds': WHATEVER THE INPUT: true; the input reads as it did. -/
def spreadAddsSpec : ChangeSpec := { name := "spreadAdds", fn := fun _ => fun
  | [d1, d2, d3] => { results := [.lit (.bool true)], args := [d1, d2, d3] }
  | _ => none }
def spreadAddsRow : OpenClaim := { program := "ytfbhcaocfajjpaadoor", sum := "6d2b1c7b440915f642eca8434d2c249098732dbe052a8e754894edd0b559c90b", func := "aneroid/aneroidlaw08.SpreadAdds", spec := "spreadAdds", inPlace := ["math/bits.Sub64", "math/bits.Add64"], unfollowed := true, recurses := true, named := ["aneroid/spread.rows", "aneroid/sym.places", "aneroid/wide.none"], apart := false, laid := [("aneroid/wide.none", laid_aneroid_wide_none), ("aneroid/sym.places", laid_aneroid_sym_places), ("aneroid/spread.rows", laid_aneroid_spread_rows)] }
def SpreadAddsSaid : Prop := spreadAddsRow.holds Tryd.pinned (OpenSpec.ofChange spreadAddsSpec)

/-- ITS FALSE NEIGHBOUR: 'it returns false'. Refute it at one input. -/
def spreadAddsWrong : ChangeSpec := { name := "spreadAdds", fn := fun _ => fun
  | [d1, d2, d3] => { results := [.lit (.bool false)], args := [d1, d2, d3] }
  | _ => none }
def SpreadAddsWrongFalsely : Prop := spreadAddsRow.holds Tryd.pinned (OpenSpec.ofChange spreadAddsWrong)

/-- 'aneroidlaw08.SpreadGrows': WHATEVER THE INPUT: true; the input reads as it did. -/
def spreadGrowsSpec : ChangeSpec := { name := "spreadGrows", fn := fun _ => fun
  | [d1, d2] => { results := [.lit (.bool true)], args := [d1, d2] }
  | _ => none }
def spreadGrowsRow : OpenClaim := { program := "ytfbhcaocfajjpaadoor", sum := "6d2b1c7b440915f642eca8434d2c249098732dbe052a8e754894edd0b559c90b", func := "aneroid/aneroidlaw08.SpreadGrows", spec := "spreadGrows", inPlace := ["math/bits.Sub64", "math/bits.Add64"], unfollowed := true, recurses := true, named := ["aneroid/spread.rows", "aneroid/sym.places", "aneroid/wide.none"], apart := false, laid := [("aneroid/wide.none", laid_aneroid_wide_none), ("aneroid/sym.places", laid_aneroid_sym_places), ("aneroid/spread.rows", laid_aneroid_spread_rows)] }
def SpreadGrowsSaid : Prop := spreadGrowsRow.holds Tryd.pinned (OpenSpec.ofChange spreadGrowsSpec)

/-- ITS FALSE NEIGHBOUR: 'it returns false'. Refute it at one input. -/
def spreadGrowsWrong : ChangeSpec := { name := "spreadGrows", fn := fun _ => fun
  | [d1, d2] => { results := [.lit (.bool false)], args := [d1, d2] }
  | _ => none }
def SpreadGrowsWrongFalsely : Prop := spreadGrowsRow.holds Tryd.pinned (OpenSpec.ofChange spreadGrowsWrong)

/-- 'aneroidlaw12.JosephPart': WHATEVER THE INPUT: true; the input reads as it did. -/
def josephPartSpec : ChangeSpec := { name := "josephPart", fn := fun _ => fun
  | [d1, d2, d3] => { results := [.lit (.bool true)], args := [d1, d2, d3] }
  | _ => none }
def josephPartRow : OpenClaim := { program := "ytfbhcaocfajjpaadoor", sum := "6d2b1c7b440915f642eca8434d2c249098732dbe052a8e754894edd0b559c90b", func := "aneroid/aneroidlaw12.JosephPart", spec := "josephPart", inPlace := ["math/bits.Sub64", "math/bits.Add64"], unfollowed := true, recurses := true, named := ["aneroid/wide.none", "aneroid/sym.places"], apart := false, laid := [("aneroid/wide.none", laid_aneroid_wide_none), ("aneroid/sym.places", laid_aneroid_sym_places)] }
def JosephPartSaid : Prop := josephPartRow.holds Tryd.pinned (OpenSpec.ofChange josephPartSpec)

/-- ITS FALSE NEIGHBOUR: 'it returns false'. Refute it at one input. -/
def josephPartWrong : ChangeSpec := { name := "josephPart", fn := fun _ => fun
  | [d1, d2, d3] => { results := [.lit (.bool false)], args := [d1, d2, d3] }
  | _ => none }
def JosephPartWrongFalsely : Prop := josephPartRow.holds Tryd.pinned (OpenSpec.ofChange josephPartWrong)

/-- 'aneroidlaw12.JosephNothing': WHATEVER THE INPUT: true; the input reads as it did. -/
def josephNothingSpec : ChangeSpec := { name := "josephNothing", fn := fun _ => fun
  | [d1, d2, d3] => { results := [.lit (.bool true)], args := [d1, d2, d3] }
  | _ => none }
def josephNothingRow : OpenClaim := { program := "ytfbhcaocfajjpaadoor", sum := "6d2b1c7b440915f642eca8434d2c249098732dbe052a8e754894edd0b559c90b", func := "aneroid/aneroidlaw12.JosephNothing", spec := "josephNothing", inPlace := ["math/bits.Sub64", "math/bits.Add64"], unfollowed := true, recurses := true, named := ["aneroid/wide.none", "aneroid/sym.places"], apart := false, laid := [("aneroid/wide.none", laid_aneroid_wide_none), ("aneroid/sym.places", laid_aneroid_sym_places)] }
def JosephNothingSaid : Prop := josephNothingRow.holds Tryd.pinned (OpenSpec.ofChange josephNothingSpec)

/-- ITS FALSE NEIGHBOUR: 'it returns false'. Refute it at one input. -/
def josephNothingWrong : ChangeSpec := { name := "josephNothing", fn := fun _ => fun
  | [d1, d2, d3] => { results := [.lit (.bool false)], args := [d1, d2, d3] }
  | _ => none }
def JosephNothingWrongFalsely : Prop := josephNothingRow.holds Tryd.pinned (OpenSpec.ofChange josephNothingWrong)

/-- 'aneroidlaw14.ParsePuts': WHATEVER THE INPUT: true; the input reads as it did. -/
def parsePutsSpec : ChangeSpec := { name := "parsePuts", fn := fun _ => fun
  | [d] => { results := [.lit (.bool true)], args := [d] }
  | _ => none }
def parsePutsRow : OpenClaim := { program := "ytfbhcaocfajjpaadoor", sum := "6d2b1c7b440915f642eca8434d2c249098732dbe052a8e754894edd0b559c90b", func := "aneroid/aneroidlaw14.ParsePuts", spec := "parsePuts", inPlace := ["internal/abi.NoEscape", "internal/bytealg.CountString", "internal/bytealg.IndexByteString", "internal/bytealg.IndexString"], unfollowed := true, recurses := true, named := ["internal/strconv.uint64pow10", "math/bits.deBruijn32tab", "math/bits.deBruijn64tab", "unicode/utf8.first", "unicode/utf8.acceptRanges", "internal/bytealg.MaxLen", "strconv.ErrSyntax", "strconv.ErrRange"], apart := false, laid := [("math/bits.deBruijn32tab", laid_math_bits_deBruijn32tab), ("math/bits.deBruijn64tab", laid_math_bits_deBruijn64tab), ("internal/strconv.uint64pow10", laid_internal_strconv_uint64pow10), ("unicode/utf8.acceptRanges", laid_unicode_utf8_acceptRanges), ("strconv.ErrRange", laid_strconv_ErrRange), ("strconv.ErrSyntax", laid_strconv_ErrSyntax), ("unicode/utf8.first", laid_unicode_utf8_first)] }
def ParsePutsSaid : Prop := parsePutsRow.holds Tryd.pinned (OpenSpec.ofChange parsePutsSpec)

/-- ITS FALSE NEIGHBOUR: 'it returns false'. Refute it at one input. -/
def parsePutsWrong : ChangeSpec := { name := "parsePuts", fn := fun _ => fun
  | [d] => { results := [.lit (.bool false)], args := [d] }
  | _ => none }
def ParsePutsWrongFalsely : Prop := parsePutsRow.holds Tryd.pinned (OpenSpec.ofChange parsePutsWrong)

/-- 'aneroidlaw14.ParseGets': WHATEVER THE INPUT: true; the input reads as it did. -/
def parseGetsSpec : ChangeSpec := { name := "parseGets", fn := fun _ => fun
  | [d] => { results := [.lit (.bool true)], args := [d] }
  | _ => none }
def parseGetsRow : OpenClaim := { program := "ytfbhcaocfajjpaadoor", sum := "6d2b1c7b440915f642eca8434d2c249098732dbe052a8e754894edd0b559c90b", func := "aneroid/aneroidlaw14.ParseGets", spec := "parseGets", inPlace := ["internal/abi.NoEscape", "internal/bytealg.CountString", "internal/bytealg.IndexByteString", "internal/bytealg.IndexString"], unfollowed := true, recurses := true, named := ["internal/strconv.uint64pow10", "math/bits.deBruijn32tab", "math/bits.deBruijn64tab", "unicode/utf8.first", "unicode/utf8.acceptRanges", "internal/bytealg.MaxLen", "strconv.ErrSyntax", "strconv.ErrRange"], apart := false, laid := [("math/bits.deBruijn32tab", laid_math_bits_deBruijn32tab), ("math/bits.deBruijn64tab", laid_math_bits_deBruijn64tab), ("internal/strconv.uint64pow10", laid_internal_strconv_uint64pow10), ("unicode/utf8.acceptRanges", laid_unicode_utf8_acceptRanges), ("strconv.ErrRange", laid_strconv_ErrRange), ("strconv.ErrSyntax", laid_strconv_ErrSyntax), ("unicode/utf8.first", laid_unicode_utf8_first)] }
def ParseGetsSaid : Prop := parseGetsRow.holds Tryd.pinned (OpenSpec.ofChange parseGetsSpec)

/-- ITS FALSE NEIGHBOUR: 'it returns false'. Refute it at one input. -/
def parseGetsWrong : ChangeSpec := { name := "parseGets", fn := fun _ => fun
  | [d] => { results := [.lit (.bool false)], args := [d] }
  | _ => none }
def ParseGetsWrongFalsely : Prop := parseGetsRow.holds Tryd.pinned (OpenSpec.ofChange parseGetsWrong)

/- THE SECOND FORM. 'bulk': how many values and letters a reading holds, each counted each time it is reached (what is shared counts as often as it is met; a slice's spare places count too). A statement '..UptoSaid' is the law's where the arguments, and the package variables that the reading takes, are together of bulk at most 1048576: NARROWER than '..Said'. Prove '..Said' where nothing that the law and all that it calls make is longer than what came in: it says more and counts as full. Else prove '..UptoSaid'. A law counts once. -/
mutual
def uptoBulk {H : Type} : DataW H → Nat
  | .lit (.string bytes) => bytes.length + 1
  | .lit _ => 1
  | .nil => 1
  | .ptr d => uptoBulk d + 1
  | .slice elems spare => uptoBulkAll elems + uptoBulkAll spare + 1
  | .agg parts => uptoBulkAll parts + 1
  | .iface _ d => uptoBulk d + 1
  | .map entries => uptoBulkEntries entries + 1
  | .held _ => 1
def uptoBulkAll {H : Type} : List (DataW H) → Nat
  | [] => 0
  | d :: r => uptoBulk d + uptoBulkAll r
def uptoBulkEntries {H : Type} : List (Lit × DataW H) → Nat
  | [] => 0
  | x :: r => uptoBulkEntry x + uptoBulkEntries r
def uptoBulkEntry {H : Type} : Lit × DataW H → Nat
  | (.string bytes, d) => bytes.length + uptoBulk d + 1
  | (_, d) => uptoBulk d + 1
 end
def uptoSmall : (H : Type) → List (DataW H) → Bool := fun _ ds => decide (uptoBulkAll ds ≤ 1048576)
def OpenSpec.upto (s : _root_.Go.ChangeSpec) : _root_.Go.OpenSpec := { _root_.Go.OpenSpec.ofChange s with cond := some uptoSmall }

/-- 'aneroidlaw05.SymSums', WHERE WHAT IT READS IS OF BULK AT MOST 1048576: true; the input reads as it did. -/
def symSumsUptoRow : OpenClaim := { program := "ytfbhcaocfajjpaadoor", sum := "6d2b1c7b440915f642eca8434d2c249098732dbe052a8e754894edd0b559c90b", func := "aneroid/aneroidlaw05.SymSums", spec := "symSums", named := ["aneroid/sym.places"], apart := false, laid := [("aneroid/sym.places", laid_aneroid_sym_places)], narrowed := true }
def SymSumsUptoSaid : Prop := symSumsUptoRow.holds Tryd.pinned (OpenSpec.upto symSumsSpec)

/-- 'aneroidlaw08.SpreadOn', WHERE WHAT IT READS IS OF BULK AT MOST 1048576: true; the input reads as it did. -/
def spreadOnUptoRow : OpenClaim := { program := "ytfbhcaocfajjpaadoor", sum := "6d2b1c7b440915f642eca8434d2c249098732dbe052a8e754894edd0b559c90b", func := "aneroid/aneroidlaw08.SpreadOn", spec := "spreadOn", inPlace := ["math/bits.Sub64", "math/bits.Add64"], unfollowed := true, recurses := true, named := ["aneroid/spread.rows", "aneroid/sym.places", "aneroid/wide.none"], apart := false, laid := [("aneroid/wide.none", laid_aneroid_wide_none), ("aneroid/sym.places", laid_aneroid_sym_places), ("aneroid/spread.rows", laid_aneroid_spread_rows)], narrowed := true }
def SpreadOnUptoSaid : Prop := spreadOnUptoRow.holds Tryd.pinned (OpenSpec.upto spreadOnSpec)

/-- 'aneroidlaw08.SpreadAdds', WHERE WHAT IT READS IS OF BULK AT MOST 1048576: true; the input reads as it did. -/
def spreadAddsUptoRow : OpenClaim := { program := "ytfbhcaocfajjpaadoor", sum := "6d2b1c7b440915f642eca8434d2c249098732dbe052a8e754894edd0b559c90b", func := "aneroid/aneroidlaw08.SpreadAdds", spec := "spreadAdds", inPlace := ["math/bits.Sub64", "math/bits.Add64"], unfollowed := true, recurses := true, named := ["aneroid/spread.rows", "aneroid/sym.places", "aneroid/wide.none"], apart := false, laid := [("aneroid/wide.none", laid_aneroid_wide_none), ("aneroid/sym.places", laid_aneroid_sym_places), ("aneroid/spread.rows", laid_aneroid_spread_rows)], narrowed := true }
def SpreadAddsUptoSaid : Prop := spreadAddsUptoRow.holds Tryd.pinned (OpenSpec.upto spreadAddsSpec)

/-- 'aneroidlaw08.SpreadGrows', WHERE WHAT IT READS IS OF BULK AT MOST 1048576: true; the input reads as it did. -/
def spreadGrowsUptoRow : OpenClaim := { program := "ytfbhcaocfajjpaadoor", sum := "6d2b1c7b440915f642eca8434d2c249098732dbe052a8e754894edd0b559c90b", func := "aneroid/aneroidlaw08.SpreadGrows", spec := "spreadGrows", inPlace := ["math/bits.Sub64", "math/bits.Add64"], unfollowed := true, recurses := true, named := ["aneroid/spread.rows", "aneroid/sym.places", "aneroid/wide.none"], apart := false, laid := [("aneroid/wide.none", laid_aneroid_wide_none), ("aneroid/sym.places", laid_aneroid_sym_places), ("aneroid/spread.rows", laid_aneroid_spread_rows)], narrowed := true }
def SpreadGrowsUptoSaid : Prop := spreadGrowsUptoRow.holds Tryd.pinned (OpenSpec.upto spreadGrowsSpec)

/-- 'aneroidlaw12.JosephPart', WHERE WHAT IT READS IS OF BULK AT MOST 1048576: true; the input reads as it did. -/
def josephPartUptoRow : OpenClaim := { program := "ytfbhcaocfajjpaadoor", sum := "6d2b1c7b440915f642eca8434d2c249098732dbe052a8e754894edd0b559c90b", func := "aneroid/aneroidlaw12.JosephPart", spec := "josephPart", inPlace := ["math/bits.Sub64", "math/bits.Add64"], unfollowed := true, recurses := true, named := ["aneroid/wide.none", "aneroid/sym.places"], apart := false, laid := [("aneroid/wide.none", laid_aneroid_wide_none), ("aneroid/sym.places", laid_aneroid_sym_places)], narrowed := true }
def JosephPartUptoSaid : Prop := josephPartUptoRow.holds Tryd.pinned (OpenSpec.upto josephPartSpec)

/-- 'aneroidlaw12.JosephNothing', WHERE WHAT IT READS IS OF BULK AT MOST 1048576: true; the input reads as it did. -/
def josephNothingUptoRow : OpenClaim := { program := "ytfbhcaocfajjpaadoor", sum := "6d2b1c7b440915f642eca8434d2c249098732dbe052a8e754894edd0b559c90b", func := "aneroid/aneroidlaw12.JosephNothing", spec := "josephNothing", inPlace := ["math/bits.Sub64", "math/bits.Add64"], unfollowed := true, recurses := true, named := ["aneroid/wide.none", "aneroid/sym.places"], apart := false, laid := [("aneroid/wide.none", laid_aneroid_wide_none), ("aneroid/sym.places", laid_aneroid_sym_places)], narrowed := true }
def JosephNothingUptoSaid : Prop := josephNothingUptoRow.holds Tryd.pinned (OpenSpec.upto josephNothingSpec)

/-- 'aneroidlaw14.ParsePuts', WHERE WHAT IT READS IS OF BULK AT MOST 1048576: true; the input reads as it did. -/
def parsePutsUptoRow : OpenClaim := { program := "ytfbhcaocfajjpaadoor", sum := "6d2b1c7b440915f642eca8434d2c249098732dbe052a8e754894edd0b559c90b", func := "aneroid/aneroidlaw14.ParsePuts", spec := "parsePuts", inPlace := ["internal/abi.NoEscape", "internal/bytealg.CountString", "internal/bytealg.IndexByteString", "internal/bytealg.IndexString"], unfollowed := true, recurses := true, named := ["internal/strconv.uint64pow10", "math/bits.deBruijn32tab", "math/bits.deBruijn64tab", "unicode/utf8.first", "unicode/utf8.acceptRanges", "internal/bytealg.MaxLen", "strconv.ErrSyntax", "strconv.ErrRange"], apart := false, laid := [("math/bits.deBruijn32tab", laid_math_bits_deBruijn32tab), ("math/bits.deBruijn64tab", laid_math_bits_deBruijn64tab), ("internal/strconv.uint64pow10", laid_internal_strconv_uint64pow10), ("unicode/utf8.acceptRanges", laid_unicode_utf8_acceptRanges), ("strconv.ErrRange", laid_strconv_ErrRange), ("strconv.ErrSyntax", laid_strconv_ErrSyntax), ("unicode/utf8.first", laid_unicode_utf8_first)], narrowed := true }
def ParsePutsUptoSaid : Prop := parsePutsUptoRow.holds Tryd.pinned (OpenSpec.upto parsePutsSpec)

/-- 'aneroidlaw14.ParseGets', WHERE WHAT IT READS IS OF BULK AT MOST 1048576: true; the input reads as it did. -/
def parseGetsUptoRow : OpenClaim := { program := "ytfbhcaocfajjpaadoor", sum := "6d2b1c7b440915f642eca8434d2c249098732dbe052a8e754894edd0b559c90b", func := "aneroid/aneroidlaw14.ParseGets", spec := "parseGets", inPlace := ["internal/abi.NoEscape", "internal/bytealg.CountString", "internal/bytealg.IndexByteString", "internal/bytealg.IndexString"], unfollowed := true, recurses := true, named := ["internal/strconv.uint64pow10", "math/bits.deBruijn32tab", "math/bits.deBruijn64tab", "unicode/utf8.first", "unicode/utf8.acceptRanges", "internal/bytealg.MaxLen", "strconv.ErrSyntax", "strconv.ErrRange"], apart := false, laid := [("math/bits.deBruijn32tab", laid_math_bits_deBruijn32tab), ("math/bits.deBruijn64tab", laid_math_bits_deBruijn64tab), ("internal/strconv.uint64pow10", laid_internal_strconv_uint64pow10), ("unicode/utf8.acceptRanges", laid_unicode_utf8_acceptRanges), ("strconv.ErrRange", laid_strconv_ErrRange), ("strconv.ErrSyntax", laid_strconv_ErrSyntax), ("unicode/utf8.first", laid_unicode_utf8_first)], narrowed := true }
def ParseGetsUptoSaid : Prop := parseGetsUptoRow.holds Tryd.pinned (OpenSpec.upto parseGetsSpec)

end Rows
end Go.Proofs.YtfbhcaocfajjpaaDoor
