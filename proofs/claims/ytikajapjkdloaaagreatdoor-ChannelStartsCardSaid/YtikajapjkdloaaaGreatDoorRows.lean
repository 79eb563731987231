/-
  NARROWER THAN 'FOR EVERY INPUT', by the rows' own cells (each row's printed sentence says how): ChannelStarts: laid · ChannelRests: laid · ChannelTame: laid · ChannelCopies: laid · ChannelNone: laid · ChannelHeld: laid · ChannelLost: laid · ChannelPlays: laid.
  DERIVED. THE GIVEN ROWS OF THIS SEAT. 8 by the template 'for every input the law returns true; each argument reads behind the call as it read before'; 0 by the template 'total and deterministic' (their statements: YtikajapjkdloaaaGreatDoorTotals.lean).
  GIVEN WITH THE SEED: the statements are not yours to turn. If you find one false, say at which input.
  Laid BY PROGRAM, IN A SANDBOX (cutbox-rows.mjs): the forced cells as the released guide's own fill.sh prints them over the translation 49d68b2a0b0f918f… (all of the seat's roots in one cut). By AI agents, Wed Nov 11 2026. No macro, syntax, notation, axiom, sorry.
-/
import Derived.Test.YtikajapjkdloaaaGreatDoorChecked
import GoSem.Claim
import GoSem.ClaimJoined
import GoSem.ClaimMapViews
import Derived.JoinedTies
import Derived.KernelRfl
namespace Go.Proofs.YtikajapjkdloaaaGreatDoor
/- THE CELL 'sum', in the pinned program and in every row, IS THE sha256 OF THE DUMP (.gsa) THAT YtikajapjkdloaaaGreatDoorProg.lean LOADS. Nothing in Lean hashes anything: it is a label: what it is worth is what the hold of that sum in a sandbox is worth. -/
noncomputable def Tryz.pinned : Pinned := { name := "ytikajapjkdloaaagreatdoor", sum := "49d68b2a0b0f918f4f270cbc33d5044bf485b836c0096d62836b6bc745f3680f", checked := Tryz.checked }
namespace Rows
def none {H : Type} : Left H := { results := [], args := [] }

/- WHAT THE LISTED PACKAGE-LEVEL VARIABLES READ AS WHEN THE CALL BEGINS. Each datum BY PROGRAM (the guide's laid-datum.mjs) off the statement by which the dump's own 'gosem.cut.vars' lays the variable. In a bare row this is a premise. The card (YtikajapjkdloaaaGreatDoorCards.lean) ties it to the program's text. -/
def laid_aneroid_wide_none {H : Type} : DataW H := .agg [.lit (.int .i64 0), .lit (.int .u64 0)]
def laid_aneroid_wide_least {H : Type} : DataW H := .agg [.lit (.int .i64 (-9223372036854775808)), .lit (.int .u64 0)]
def laid_aneroid_sym_places {H : Type} : DataW H := .agg [.agg [.lit (.int .i64 0), .lit (.int .i64 1), .lit (.int .i64 2)], .agg [.lit (.int .i64 1), .lit (.int .i64 3), .lit (.int .i64 4)], .agg [.lit (.int .i64 2), .lit (.int .i64 4), .lit (.int .i64 5)]]
def laid_aneroid_atmos_table {H : Type} : DataW H := .agg [.lit (.int .i64 430515), .lit (.int .i64 417754), .lit (.int .i64 405300), .lit (.int .i64 393149), .lit (.int .i64 381294), .lit (.int .i64 369731), .lit (.int .i64 358453), .lit (.int .i64 347455), .lit (.int .i64 336732), .lit (.int .i64 326279), .lit (.int .i64 316090), .lit (.int .i64 306161), .lit (.int .i64 296485), .lit (.int .i64 287058), .lit (.int .i64 277876), .lit (.int .i64 268933), .lit (.int .i64 260224), .lit (.int .i64 251746), .lit (.int .i64 243492), .lit (.int .i64 235459), .lit (.int .i64 227641), .lit (.int .i64 220036), .lit (.int .i64 212637), .lit (.int .i64 205441), .lit (.int .i64 198444), .lit (.int .i64 191640), .lit (.int .i64 185027), .lit (.int .i64 178600), .lit (.int .i64 172355), .lit (.int .i64 166288), .lit (.int .i64 160395), .lit (.int .i64 154672), .lit (.int .i64 149116), .lit (.int .i64 143723), .lit (.int .i64 138488), .lit (.int .i64 133409), .lit (.int .i64 128482), .lit (.int .i64 123703), .lit (.int .i64 119069), .lit (.int .i64 114577), .lit (.int .i64 110223), .lit (.int .i64 106004), .lit (.int .i64 101917), .lit (.int .i64 97958), .lit (.int .i64 94125), .lit (.int .i64 90414), .lit (.int .i64 86822)]
def laid_aneroid_spread_rows {H : Type} : DataW H := .agg [.agg [.lit (.int .i64 32768), .lit (.int .i64 256), .lit (.int .i64 (-1))], .agg [.lit (.int .i64 0), .lit (.int .i64 32768), .lit (.int .i64 (-256))], .agg [.lit (.int .i64 0), .lit (.int .i64 0), .lit (.int .i64 32768)]]

/-- 'aneroidlaw20.ChannelStarts': WHATEVER THE INPUT: true; the input reads as it did. -/
def channelStartsSpec : ChangeSpec := { name := "channelStarts", fn := fun _ => fun
  | [d1, d2, d3] => { results := [.lit (.bool true)], args := [d1, d2, d3] }
  | _ => none }
def channelStartsRow : OpenClaim := { program := "ytikajapjkdloaaagreatdoor", sum := "49d68b2a0b0f918f4f270cbc33d5044bf485b836c0096d62836b6bc745f3680f", func := "aneroid/aneroidlaw20.ChannelStarts", spec := "channelStarts", inPlace := ["math/bits.Sub64", "math/bits.Add64"], unfollowed := true, recurses := true, named := ["aneroid/atmos.table", "aneroid/wide.none", "aneroid/spread.rows", "aneroid/sym.places", "aneroid/wide.least"], apart := false, laid := [("aneroid/wide.none", laid_aneroid_wide_none), ("aneroid/wide.least", laid_aneroid_wide_least), ("aneroid/sym.places", laid_aneroid_sym_places), ("aneroid/atmos.table", laid_aneroid_atmos_table), ("aneroid/spread.rows", laid_aneroid_spread_rows)] }
def ChannelStartsSaid : Prop := channelStartsRow.holds Tryz.pinned (OpenSpec.ofChange channelStartsSpec)

/-- ITS FALSE NEIGHBOUR: 'it returns false'. Refute it at one input. -/
def channelStartsWrong : ChangeSpec := { name := "channelStarts", fn := fun _ => fun
  | [d1, d2, d3] => { results := [.lit (.bool false)], args := [d1, d2, d3] }
  | _ => none }
def ChannelStartsWrongFalsely : Prop := channelStartsRow.holds Tryz.pinned (OpenSpec.ofChange channelStartsWrong)

/-- 'aneroidlaw20.ChannelRests': WHATEVER THE INPUT: true; the input reads as it did. -/
def channelRestsSpec : ChangeSpec := { name := "channelRests", fn := fun _ => fun
  | [d1, d2, d3] => { results := [.lit (.bool true)], args := [d1, d2, d3] }
  | _ => none }
def channelRestsRow : OpenClaim := { program := "ytikajapjkdloaaagreatdoor", sum := "49d68b2a0b0f918f4f270cbc33d5044bf485b836c0096d62836b6bc745f3680f", func := "aneroid/aneroidlaw20.ChannelRests", spec := "channelRests", inPlace := ["math/bits.Sub64", "math/bits.Add64"], unfollowed := true, recurses := true, named := ["aneroid/atmos.table", "aneroid/wide.none", "aneroid/spread.rows", "aneroid/sym.places", "aneroid/wide.least"], apart := false, laid := [("aneroid/wide.none", laid_aneroid_wide_none), ("aneroid/wide.least", laid_aneroid_wide_least), ("aneroid/sym.places", laid_aneroid_sym_places), ("aneroid/atmos.table", laid_aneroid_atmos_table), ("aneroid/spread.rows", laid_aneroid_spread_rows)] }
def ChannelRestsSaid : Prop := channelRestsRow.holds Tryz.pinned (OpenSpec.ofChange channelRestsSpec)

/-- ITS FALSE NEIGHBOUR: 'it returns false'. Refute it at one input. -/
def channelRestsWrong : ChangeSpec := { name := "channelRests", fn := fun _ => fun
  | [d1, d2, d3] => { results := [.lit (.bool false)], args := [d1, d2, d3] }
  | _ => none }
def ChannelRestsWrongFalsely : Prop := channelRestsRow.holds Tryz.pinned (OpenSpec.ofChange channelRestsWrong)

/-- 'aneroidlaw20.ChannelTame': WHATEVER THE INPUT: true; the input reads as it did. -/
def channelTameSpec : ChangeSpec := { name := "channelTame", fn := fun _ => fun
  | [d1, d2] => { results := [.lit (.bool true)], args := [d1, d2] }
  | _ => none }
def channelTameRow : OpenClaim := { program := "ytikajapjkdloaaagreatdoor", sum := "49d68b2a0b0f918f4f270cbc33d5044bf485b836c0096d62836b6bc745f3680f", func := "aneroid/aneroidlaw20.ChannelTame", spec := "channelTame", inPlace := ["math/bits.Sub64", "math/bits.Add64"], unfollowed := true, recurses := true, named := ["aneroid/atmos.table", "aneroid/wide.none", "aneroid/spread.rows", "aneroid/sym.places", "aneroid/wide.least"], apart := false, laid := [("aneroid/wide.none", laid_aneroid_wide_none), ("aneroid/wide.least", laid_aneroid_wide_least), ("aneroid/sym.places", laid_aneroid_sym_places), ("aneroid/atmos.table", laid_aneroid_atmos_table), ("aneroid/spread.rows", laid_aneroid_spread_rows)] }
def ChannelTameSaid : Prop := channelTameRow.holds Tryz.pinned (OpenSpec.ofChange channelTameSpec)

/-- ITS FALSE NEIGHBOUR: 'it returns false'. Refute it at one input. -/
def channelTameWrong : ChangeSpec := { name := "channelTame", fn := fun _ => fun
  | [d1, d2] => { results := [.lit (.bool false)], args := [d1, d2] }
  | _ => none }
def ChannelTameWrongFalsely : Prop := channelTameRow.holds Tryz.pinned (OpenSpec.ofChange channelTameWrong)

/-- 'aneroidlaw20.ChannelCopies': WHATEVER THE INPUT: true; the input reads as it did. -/
def channelCopiesSpec : ChangeSpec := { name := "channelCopies", fn := fun _ => fun
  | [d1, d2, d3] => { results := [.lit (.bool true)], args := [d1, d2, d3] }
  | _ => none }
def channelCopiesRow : OpenClaim := { program := "ytikajapjkdloaaagreatdoor", sum := "49d68b2a0b0f918f4f270cbc33d5044bf485b836c0096d62836b6bc745f3680f", func := "aneroid/aneroidlaw20.ChannelCopies", spec := "channelCopies", inPlace := ["math/bits.Sub64", "math/bits.Add64"], unfollowed := true, recurses := true, named := ["aneroid/atmos.table", "aneroid/wide.none", "aneroid/spread.rows", "aneroid/sym.places", "aneroid/wide.least"], apart := false, laid := [("aneroid/wide.none", laid_aneroid_wide_none), ("aneroid/wide.least", laid_aneroid_wide_least), ("aneroid/sym.places", laid_aneroid_sym_places), ("aneroid/atmos.table", laid_aneroid_atmos_table), ("aneroid/spread.rows", laid_aneroid_spread_rows)] }
def ChannelCopiesSaid : Prop := channelCopiesRow.holds Tryz.pinned (OpenSpec.ofChange channelCopiesSpec)

/-- ITS FALSE NEIGHBOUR: 'it returns false'. Refute it at one input. -/
def channelCopiesWrong : ChangeSpec := { name := "channelCopies", fn := fun _ => fun
  | [d1, d2, d3] => { results := [.lit (.bool false)], args := [d1, d2, d3] }
  | _ => none }
def ChannelCopiesWrongFalsely : Prop := channelCopiesRow.holds Tryz.pinned (OpenSpec.ofChange channelCopiesWrong)

/-- 'aneroidlaw20.ChannelNone': WHATEVER THE INPUT: true; the input reads as it did. -/
def channelNoneSpec : ChangeSpec := { name := "channelNone", fn := fun _ => fun
  | [d1, d2] => { results := [.lit (.bool true)], args := [d1, d2] }
  | _ => none }
def channelNoneRow : OpenClaim := { program := "ytikajapjkdloaaagreatdoor", sum := "49d68b2a0b0f918f4f270cbc33d5044bf485b836c0096d62836b6bc745f3680f", func := "aneroid/aneroidlaw20.ChannelNone", spec := "channelNone", inPlace := ["math/bits.Sub64", "math/bits.Add64"], unfollowed := true, recurses := true, named := ["aneroid/atmos.table", "aneroid/wide.none", "aneroid/spread.rows", "aneroid/sym.places", "aneroid/wide.least"], apart := false, laid := [("aneroid/wide.none", laid_aneroid_wide_none), ("aneroid/wide.least", laid_aneroid_wide_least), ("aneroid/sym.places", laid_aneroid_sym_places), ("aneroid/atmos.table", laid_aneroid_atmos_table), ("aneroid/spread.rows", laid_aneroid_spread_rows)] }
def ChannelNoneSaid : Prop := channelNoneRow.holds Tryz.pinned (OpenSpec.ofChange channelNoneSpec)

/-- ITS FALSE NEIGHBOUR: 'it returns false'. Refute it at one input. -/
def channelNoneWrong : ChangeSpec := { name := "channelNone", fn := fun _ => fun
  | [d1, d2] => { results := [.lit (.bool false)], args := [d1, d2] }
  | _ => none }
def ChannelNoneWrongFalsely : Prop := channelNoneRow.holds Tryz.pinned (OpenSpec.ofChange channelNoneWrong)

/-- 'aneroidlaw20.ChannelHeld': WHATEVER THE INPUT: true; the input reads as it did. -/
def channelHeldSpec : ChangeSpec := { name := "channelHeld", fn := fun _ => fun
  | [d1, d2] => { results := [.lit (.bool true)], args := [d1, d2] }
  | _ => none }
def channelHeldRow : OpenClaim := { program := "ytikajapjkdloaaagreatdoor", sum := "49d68b2a0b0f918f4f270cbc33d5044bf485b836c0096d62836b6bc745f3680f", func := "aneroid/aneroidlaw20.ChannelHeld", spec := "channelHeld", inPlace := ["math/bits.Sub64", "math/bits.Add64"], unfollowed := true, recurses := true, named := ["aneroid/atmos.table", "aneroid/wide.none", "aneroid/spread.rows", "aneroid/sym.places", "aneroid/wide.least"], apart := false, laid := [("aneroid/wide.none", laid_aneroid_wide_none), ("aneroid/wide.least", laid_aneroid_wide_least), ("aneroid/sym.places", laid_aneroid_sym_places), ("aneroid/atmos.table", laid_aneroid_atmos_table), ("aneroid/spread.rows", laid_aneroid_spread_rows)] }
def ChannelHeldSaid : Prop := channelHeldRow.holds Tryz.pinned (OpenSpec.ofChange channelHeldSpec)

/-- ITS FALSE NEIGHBOUR: 'it returns false'. Refute it at one input. -/
def channelHeldWrong : ChangeSpec := { name := "channelHeld", fn := fun _ => fun
  | [d1, d2] => { results := [.lit (.bool false)], args := [d1, d2] }
  | _ => none }
def ChannelHeldWrongFalsely : Prop := channelHeldRow.holds Tryz.pinned (OpenSpec.ofChange channelHeldWrong)

/-- 'aneroidlaw20.ChannelLost': WHATEVER THE INPUT: true; the input reads as it did. -/
def channelLostSpec : ChangeSpec := { name := "channelLost", fn := fun _ => fun
  | [d1, d2] => { results := [.lit (.bool true)], args := [d1, d2] }
  | _ => none }
def channelLostRow : OpenClaim := { program := "ytikajapjkdloaaagreatdoor", sum := "49d68b2a0b0f918f4f270cbc33d5044bf485b836c0096d62836b6bc745f3680f", func := "aneroid/aneroidlaw20.ChannelLost", spec := "channelLost", inPlace := ["math/bits.Sub64", "math/bits.Add64"], unfollowed := true, recurses := true, named := ["aneroid/atmos.table", "aneroid/wide.none", "aneroid/spread.rows", "aneroid/sym.places", "aneroid/wide.least"], apart := false, laid := [("aneroid/wide.none", laid_aneroid_wide_none), ("aneroid/wide.least", laid_aneroid_wide_least), ("aneroid/sym.places", laid_aneroid_sym_places), ("aneroid/atmos.table", laid_aneroid_atmos_table), ("aneroid/spread.rows", laid_aneroid_spread_rows)] }
def ChannelLostSaid : Prop := channelLostRow.holds Tryz.pinned (OpenSpec.ofChange channelLostSpec)

/-- ITS FALSE NEIGHBOUR: 'it returns false'. Refute it at one input. -/
def channelLostWrong : ChangeSpec := { name := "channelLost", fn := fun _ => fun
  | [d1, d2] => { results := [.lit (.bool false)], args := [d1, d2] }
  | _ => none }
def ChannelLostWrongFalsely : Prop := channelLostRow.holds Tryz.pinned (OpenSpec.ofChange channelLostWrong)

/-- 'aneroidlaw20.ChannelPlays': WHATEVER THE INPUT: true; the input reads as it did. -/
def channelPlaysSpec : ChangeSpec := { name := "channelPlays", fn := fun _ => fun
  | [d1, d2] => { results := [.lit (.bool true)], args := [d1, d2] }
  | _ => none }
def channelPlaysRow : OpenClaim := { program := "ytikajapjkdloaaagreatdoor", sum := "49d68b2a0b0f918f4f270cbc33d5044bf485b836c0096d62836b6bc745f3680f", func := "aneroid/aneroidlaw20.ChannelPlays", spec := "channelPlays", inPlace := ["math/bits.Sub64", "math/bits.Add64"], unfollowed := true, recurses := true, named := ["aneroid/atmos.table", "aneroid/wide.none", "aneroid/spread.rows", "aneroid/sym.places", "aneroid/wide.least"], apart := false, laid := [("aneroid/wide.none", laid_aneroid_wide_none), ("aneroid/wide.least", laid_aneroid_wide_least), ("aneroid/sym.places", laid_aneroid_sym_places), ("aneroid/atmos.table", laid_aneroid_atmos_table), ("aneroid/spread.rows", laid_aneroid_spread_rows)] }
def ChannelPlaysSaid : Prop := channelPlaysRow.holds Tryz.pinned (OpenSpec.ofChange channelPlaysSpec)

/-- ITS FALSE NEIGHBOUR: 'it returns false'. Refute it at one input. -/
def channelPlaysWrong : ChangeSpec := { name := "channelPlays", fn := fun _ => fun
  | [d1, d2] => { results := [.lit (.bool false)], args := [d1, d2] }
  | _ => none }
def ChannelPlaysWrongFalsely : Prop := channelPlaysRow.holds Tryz.pinned (OpenSpec.ofChange channelPlaysWrong)

/- THE SECOND FORM. 'bulk': how many values and letters a reading holds, each counted each time it is reached (what is shared counts as often as it is met; a slice's spare places count too). A statement '..UptoSaid' is the law's where the arguments, and the package variables that the reading takes, are together of bulk at most 1048576: NARROWER than '..Said'. Prove '..Said' where nothing that the law and all that it calls make is longer than what came in: it says more and counts as full. Else prove '..UptoSaid'. A law counts once. -/
mutual
def uptoBulk {H : Type} : DataW H → Nat
  | .lit (.string bytes) => bytes.length + 1
  | .lit _ => 1
  | .nil => 1
  | .ptr d => uptoBulk d + 1
  | .slice elems spare => uptoBulkAll elems + uptoBulkAll spare + 1
  | .agg parts => uptoBulkAll parts + 1
  | .iface _ d => uptoBulk d + 1
  | .map entries => uptoBulkEntries entries + 1
  | .held _ => 1
def uptoBulkAll {H : Type} : List (DataW H) → Nat
  | [] => 0
  | d :: r => uptoBulk d + uptoBulkAll r
def uptoBulkEntries {H : Type} : List (Lit × DataW H) → Nat
  | [] => 0
  | x :: r => uptoBulkEntry x + uptoBulkEntries r
def uptoBulkEntry {H : Type} : Lit × DataW H → Nat
  | (.string bytes, d) => bytes.length + uptoBulk d + 1
  | (_, d) => uptoBulk d + 1
 end
def uptoSmall : (H : Type) → List (DataW H) → Bool := fun _ ds => decide (uptoBulkAll ds ≤ 1048576)
def OpenSpec.upto (s : _root_.Go.ChangeSpec) : _root_.Go.OpenSpec := { _root_.Go.OpenSpec.ofChange s with cond := some uptoSmall }

/-- 'aneroidlaw20.ChannelStarts', WHERE WHAT IT READS IS OF BULK AT MOST 1048576: true; the input reads as it did. -/
def channelStartsUptoRow : OpenClaim := { program := "ytikajapjkdloaaagreatdoor", sum := "49d68b2a0b0f918f4f270cbc33d5044bf485b836c0096d62836b6bc745f3680f", func := "aneroid/aneroidlaw20.ChannelStarts", spec := "channelStarts", inPlace := ["math/bits.Sub64", "math/bits.Add64"], unfollowed := true, recurses := true, named := ["aneroid/atmos.table", "aneroid/wide.none", "aneroid/spread.rows", "aneroid/sym.places", "aneroid/wide.least"], apart := false, laid := [("aneroid/wide.none", laid_aneroid_wide_none), ("aneroid/wide.least", laid_aneroid_wide_least), ("aneroid/sym.places", laid_aneroid_sym_places), ("aneroid/atmos.table", laid_aneroid_atmos_table), ("aneroid/spread.rows", laid_aneroid_spread_rows)], narrowed := true }
def ChannelStartsUptoSaid : Prop := channelStartsUptoRow.holds Tryz.pinned (OpenSpec.upto channelStartsSpec)

/-- 'aneroidlaw20.ChannelRests', WHERE WHAT IT READS IS OF BULK AT MOST 1048576: true; the input reads as it did. -/
def channelRestsUptoRow : OpenClaim := { program := "ytikajapjkdloaaagreatdoor", sum := "49d68b2a0b0f918f4f270cbc33d5044bf485b836c0096d62836b6bc745f3680f", func := "aneroid/aneroidlaw20.ChannelRests", spec := "channelRests", inPlace := ["math/bits.Sub64", "math/bits.Add64"], unfollowed := true, recurses := true, named := ["aneroid/atmos.table", "aneroid/wide.none", "aneroid/spread.rows", "aneroid/sym.places", "aneroid/wide.least"], apart := false, laid := [("aneroid/wide.none", laid_aneroid_wide_none), ("aneroid/wide.least", laid_aneroid_wide_least), ("aneroid/sym.places", laid_aneroid_sym_places), ("aneroid/atmos.table", laid_aneroid_atmos_table), ("aneroid/spread.rows", laid_aneroid_spread_rows)], narrowed := true }
def ChannelRestsUptoSaid : Prop := channelRestsUptoRow.holds Tryz.pinned (OpenSpec.upto channelRestsSpec)

/-- 'aneroidlaw20.ChannelTame', WHERE WHAT IT READS IS OF BULK AT MOST 1048576: true; the input reads as it did. -/
def channelTameUptoRow : OpenClaim := { program := "ytikajapjkdloaaagreatdoor", sum := "49d68b2a0b0f918f4f270cbc33d5044bf485b836c0096d62836b6bc745f3680f", func := "aneroid/aneroidlaw20.ChannelTame", spec := "channelTame", inPlace := ["math/bits.Sub64", "math/bits.Add64"], unfollowed := true, recurses := true, named := ["aneroid/atmos.table", "aneroid/wide.none", "aneroid/spread.rows", "aneroid/sym.places", "aneroid/wide.least"], apart := false, laid := [("aneroid/wide.none", laid_aneroid_wide_none), ("aneroid/wide.least", laid_aneroid_wide_least), ("aneroid/sym.places", laid_aneroid_sym_places), ("aneroid/atmos.table", laid_aneroid_atmos_table), ("aneroid/spread.rows", laid_aneroid_spread_rows)], narrowed := true }
def ChannelTameUptoSaid : Prop := channelTameUptoRow.holds Tryz.pinned (OpenSpec.upto channelTameSpec)

/-- 'aneroidlaw20.ChannelCopies', WHERE WHAT IT READS IS OF BULK AT MOST 1048576: true; the input reads as it did. -/
def channelCopiesUptoRow : OpenClaim := { program := "ytikajapjkdloaaagreatdoor", sum := "49d68b2a0b0f918f4f270cbc33d5044bf485b836c0096d62836b6bc745f3680f", func := "aneroid/aneroidlaw20.ChannelCopies", spec := "channelCopies", inPlace := ["math/bits.Sub64", "math/bits.Add64"], unfollowed := true, recurses := true, named := ["aneroid/atmos.table", "aneroid/wide.none", "aneroid/spread.rows", "aneroid/sym.places", "aneroid/wide.least"], apart := false, laid := [("aneroid/wide.none", laid_aneroid_wide_none), ("aneroid/wide.least", laid_aneroid_wide_least), ("aneroid/sym.places", laid_aneroid_sym_places), ("aneroid/atmos.table", laid_aneroid_atmos_table), ("aneroid/spread.rows", laid_aneroid_spread_rows)], narrowed := true }
def ChannelCopiesUptoSaid : Prop := channelCopiesUptoRow.holds Tryz.pinned (OpenSpec.upto channelCopiesSpec)

/-- 'aneroidlaw20.ChannelNone', WHERE WHAT IT READS IS OF BULK AT MOST 1048576: true; the input reads as it did. -/
def channelNoneUptoRow : OpenClaim := { program := "ytikajapjkdloaaagreatdoor", sum := "49d68b2a0b0f918f4f270cbc33d5044bf485b836c0096d62836b6bc745f3680f", func := "aneroid/aneroidlaw20.ChannelNone", spec := "channelNone", inPlace := ["math/bits.Sub64", "math/bits.Add64"], unfollowed := true, recurses := true, named := ["aneroid/atmos.table", "aneroid/wide.none", "aneroid/spread.rows", "aneroid/sym.places", "aneroid/wide.least"], apart := false, laid := [("aneroid/wide.none", laid_aneroid_wide_none), ("aneroid/wide.least", laid_aneroid_wide_least), ("aneroid/sym.places", laid_aneroid_sym_places), ("aneroid/atmos.table", laid_aneroid_atmos_table), ("aneroid/spread.rows", laid_aneroid_spread_rows)], narrowed := true }
def ChannelNoneUptoSaid : Prop := channelNoneUptoRow.holds Tryz.pinned (OpenSpec.upto channelNoneSpec)

/-- 'aneroidlaw20.ChannelHeld', WHERE WHAT IT READS IS OF BULK AT MOST 1048576: true; the input reads as it did. -/
def channelHeldUptoRow : OpenClaim := { program := "ytikajapjkdloaaagreatdoor", sum := "49d68b2a0b0f918f4f270cbc33d5044bf485b836c0096d62836b6bc745f3680f", func := "aneroid/aneroidlaw20.ChannelHeld", spec := "channelHeld", inPlace := ["math/bits.Sub64", "math/bits.Add64"], unfollowed := true, recurses := true, named := ["aneroid/atmos.table", "aneroid/wide.none", "aneroid/spread.rows", "aneroid/sym.places", "aneroid/wide.least"], apart := false, laid := [("aneroid/wide.none", laid_aneroid_wide_none), ("aneroid/wide.least", laid_aneroid_wide_least), ("aneroid/sym.places", laid_aneroid_sym_places), ("aneroid/atmos.table", laid_aneroid_atmos_table), ("aneroid/spread.rows", laid_aneroid_spread_rows)], narrowed := true }
def ChannelHeldUptoSaid : Prop := channelHeldUptoRow.holds Tryz.pinned (OpenSpec.upto channelHeldSpec)

/-- 'aneroidlaw20.ChannelLost', WHERE WHAT IT READS IS OF BULK AT MOST 1048576: true; the input reads as it did. -/
def channelLostUptoRow : OpenClaim := { program := "ytikajapjkdloaaagreatdoor", sum := "49d68b2a0b0f918f4f270cbc33d5044bf485b836c0096d62836b6bc745f3680f", func := "aneroid/aneroidlaw20.ChannelLost", spec := "channelLost", inPlace := ["math/bits.Sub64", "math/bits.Add64"], unfollowed := true, recurses := true, named := ["aneroid/atmos.table", "aneroid/wide.none", "aneroid/spread.rows", "aneroid/sym.places", "aneroid/wide.least"], apart := false, laid := [("aneroid/wide.none", laid_aneroid_wide_none), ("aneroid/wide.least", laid_aneroid_wide_least), ("aneroid/sym.places", laid_aneroid_sym_places), ("aneroid/atmos.table", laid_aneroid_atmos_table), ("aneroid/spread.rows", laid_aneroid_spread_rows)], narrowed := true }
def ChannelLostUptoSaid : Prop := channelLostUptoRow.holds Tryz.pinned (OpenSpec.upto channelLostSpec)

/-- 'aneroidlaw20.ChannelPlays', WHERE WHAT IT READS IS OF BULK AT MOST 1048576: true; the input reads as it did. -/
def channelPlaysUptoRow : OpenClaim := { program := "ytikajapjkdloaaagreatdoor", sum := "49d68b2a0b0f918f4f270cbc33d5044bf485b836c0096d62836b6bc745f3680f", func := "aneroid/aneroidlaw20.ChannelPlays", spec := "channelPlays", inPlace := ["math/bits.Sub64", "math/bits.Add64"], unfollowed := true, recurses := true, named := ["aneroid/atmos.table", "aneroid/wide.none", "aneroid/spread.rows", "aneroid/sym.places", "aneroid/wide.least"], apart := false, laid := [("aneroid/wide.none", laid_aneroid_wide_none), ("aneroid/wide.least", laid_aneroid_wide_least), ("aneroid/sym.places", laid_aneroid_sym_places), ("aneroid/atmos.table", laid_aneroid_atmos_table), ("aneroid/spread.rows", laid_aneroid_spread_rows)], narrowed := true }
def ChannelPlaysUptoSaid : Prop := channelPlaysUptoRow.holds Tryz.pinned (OpenSpec.upto channelPlaysSpec)

end Rows
end Go.Proofs.YtikajapjkdloaaaGreatDoor
