/-
  NARROWER THAN 'FOR EVERY INPUT', by the rows' own cells (each row's printed sentence says how): JosephDoubt: laid · JosephPart: laid · JosephState: laid · JosephNothing: laid.
  DERIVED. THE GIVEN ROWS OF THIS SEAT. 4 by the template 'for every input the law returns true; each argument reads behind the call as it read before'; 0 by the template 'total and deterministic' (their statements: YticcjmcmicchjaaDoorTotals.lean).
  GIVEN WITH THE SEED: the statements are not yours to turn. If you find one false, say at which input.
  Laid BY PROGRAM, IN A SANDBOX (cutbox-rows.mjs): the forced cells as the released guide's own fill.sh prints them over the translation b3f805173afd3426… (all of the seat's roots in one cut). By AI agents, Wed Nov 11 2026. No macro, syntax, notation, axiom, sorry.
-/
import Derived.Test.YticcjmcmicchjaaDoorChecked
import GoSem.Claim
import GoSem.ClaimJoined
import GoSem.ClaimMapViews
import Derived.JoinedTies
import Derived.KernelRfl
namespace Go.Proofs.YticcjmcmicchjaaDoor
/- THE CELL 'sum', in the pinned program and in every row, IS THE sha256 OF THE DUMP (.gsa) THAT YticcjmcmicchjaaDoorProg.lean LOADS. Nothing in Lean hashes anything: it is a label: what it is worth is what the hold of that sum in a sandbox is worth. -/
noncomputable def Tryd.pinned : Pinned := { name := "yticcjmcmicchjaadoor", sum := "b3f805173afd3426d07a395ce15560ed6a7281158110cffa13e82eeeb195ab98", checked := Tryd.checked }
namespace Rows
def none {H : Type} : Left H := { results := [], args := [] }

/- WHAT THE LISTED PACKAGE-LEVEL VARIABLES READ AS WHEN THE CALL BEGINS. Each datum BY PROGRAM (the guide's laid-datum.mjs) off the statement by which the dump's own 'gosem.cut.vars' lays the variable. In a bare row this is a premise. The card (YticcjmcmicchjaaDoorCards.lean) ties it to the program's text. -/
def laid_aneroid_wide_none {H : Type} : DataW H := .agg [.lit (.int .i64 0), .lit (.int .u64 0)]
def laid_aneroid_sym_places {H : Type} : DataW H := .agg [.agg [.lit (.int .i64 0), .lit (.int .i64 1), .lit (.int .i64 2)], .agg [.lit (.int .i64 1), .lit (.int .i64 3), .lit (.int .i64 4)], .agg [.lit (.int .i64 2), .lit (.int .i64 4), .lit (.int .i64 5)]]

/-- 'aneroidlaw12.JosephDoubt': WHATEVER THE INPUT: true; the input reads as it did. -/
def josephDoubtSpec : ChangeSpec := { name := "josephDoubt", fn := fun _ => fun
  | [d1, d2, d3] => { results := [.lit (.bool true)], args := [d1, d2, d3] }
  | _ => none }
def josephDoubtRow : OpenClaim := { program := "yticcjmcmicchjaadoor", sum := "b3f805173afd3426d07a395ce15560ed6a7281158110cffa13e82eeeb195ab98", func := "aneroid/aneroidlaw12.JosephDoubt", spec := "josephDoubt", inPlace := ["math/bits.Sub64", "math/bits.Add64"], unfollowed := true, recurses := true, named := ["aneroid/wide.none", "aneroid/sym.places"], apart := false, laid := [("aneroid/wide.none", laid_aneroid_wide_none), ("aneroid/sym.places", laid_aneroid_sym_places)] }
def JosephDoubtSaid : Prop := josephDoubtRow.holds Tryd.pinned (OpenSpec.ofChange josephDoubtSpec)

/-- ITS FALSE NEIGHBOUR: 'it returns false'. Refute it at one input. -/
def josephDoubtWrong : ChangeSpec := { name := "josephDoubt", fn := fun _ => fun
  | [d1, d2, d3] => { results := [.lit (.bool false)], args := [d1, d2, d3] }
  | _ => none }
def JosephDoubtWrongFalsely : Prop := josephDoubtRow.holds Tryd.pinned (OpenSpec.ofChange josephDoubtWrong)

/-- 'aneroidlaw12.JosephPart': WHATEVER THE INPUT: true; the input reads as it did. -/
def josephPartSpec : ChangeSpec := { name := "josephPart", fn := fun _ => fun
  | [d1, d2, d3] => { results := [.lit (.bool true)], args := [d1, d2, d3] }
  | _ => none }
def josephPartRow : OpenClaim := { program := "yticcjmcmicchjaadoor", sum := "b3f805173afd3426d07a395ce15560ed6a7281158110cffa13e82eeeb195ab98", func := "aneroid/aneroidlaw12.JosephPart", spec := "josephPart", inPlace := ["math/bits.Sub64", "math/bits.Add64"], unfollowed := true, recurses := true, named := ["aneroid/wide.none", "aneroid/sym.places"], apart := false, laid := [("aneroid/wide.none", laid_aneroid_wide_none), ("aneroid/sym.places", laid_aneroid_sym_places)] }
def JosephPartSaid : Prop := josephPartRow.holds Tryd.pinned (OpenSpec.ofChange josephPartSpec)

/-- ITS FALSE NEIGHBOUR: 'it returns false'. Refute it at one input. -/
def josephPartWrong : ChangeSpec := { name := "josephPart", fn := fun _ => fun
  | [d1, d2, d3] => { results := [.lit (.bool false)], args := [d1, d2, d3] }
  | _ => none }
def JosephPartWrongFalsely : Prop := josephPartRow.holds Tryd.pinned (OpenSpec.ofChange josephPartWrong)

/-- 'aneroidlaw12.JosephState': WHATEVER THE INPUT: true; the input reads as it did. -/
def josephStateSpec : ChangeSpec := { name := "josephState", fn := fun _ => fun
  | [d1, d2, d3] => { results := [.lit (.bool true)], args := [d1, d2, d3] }
  | _ => none }
def josephStateRow : OpenClaim := { program := "yticcjmcmicchjaadoor", sum := "b3f805173afd3426d07a395ce15560ed6a7281158110cffa13e82eeeb195ab98", func := "aneroid/aneroidlaw12.JosephState", spec := "josephState", inPlace := ["math/bits.Sub64", "math/bits.Add64"], unfollowed := true, recurses := true, named := ["aneroid/wide.none", "aneroid/sym.places"], apart := false, laid := [("aneroid/wide.none", laid_aneroid_wide_none), ("aneroid/sym.places", laid_aneroid_sym_places)] }
def JosephStateSaid : Prop := josephStateRow.holds Tryd.pinned (OpenSpec.ofChange josephStateSpec)

/-- ITS FALSE NEIGHBOUR: 'it returns false'. Refute it at one input. -/
def josephStateWrong : ChangeSpec := { name := "josephState", fn := fun _ => fun
  | [d1, d2, d3] => { results := [.lit (.bool false)], args := [d1, d2, d3] }
  | _ => none }
def JosephStateWrongFalsely : Prop := josephStateRow.holds Tryd.pinned (OpenSpec.ofChange josephStateWrong)

/-- 'aneroidlaw12.JosephNothing': WHATEVER THE INPUT: true; the input reads as it did. -/
def josephNothingSpec : ChangeSpec := { name := "josephNothing", fn := fun _ => fun
  | [d1, d2, d3] => { results := [.lit (.bool true)], args := [d1, d2, d3] }
  | _ => none }
def josephNothingRow : OpenClaim := { program := "yticcjmcmicchjaadoor", sum := "b3f805173afd3426d07a395ce15560ed6a7281158110cffa13e82eeeb195ab98", func := "aneroid/aneroidlaw12.JosephNothing", spec := "josephNothing", inPlace := ["math/bits.Sub64", "math/bits.Add64"], unfollowed := true, recurses := true, named := ["aneroid/wide.none", "aneroid/sym.places"], apart := false, laid := [("aneroid/wide.none", laid_aneroid_wide_none), ("aneroid/sym.places", laid_aneroid_sym_places)] }
def JosephNothingSaid : Prop := josephNothingRow.holds Tryd.pinned (OpenSpec.ofChange josephNothingSpec)

/-- ITS FALSE NEIGHBOUR: 'it returns false'. Refute it at one input. -/
def josephNothingWrong : ChangeSpec := { name := "josephNothing", fn := fun _ => fun
  | [d1, d2, d3] => { results := [.lit (.bool false)], args := [d1, d2, d3] }
  | _ => none }
def JosephNothingWrongFalsely : Prop := josephNothingRow.holds Tryd.pinned (OpenSpec.ofChange josephNothingWrong)

/- THE SECOND FORM. 'bulk': how many values and letters a reading holds, each counted each time it is reached (what is shared counts as often as it is met; a slice's spare places count too). A statement '..UptoSaid' is the law's where the arguments, and the package variables that the reading takes, are together of bulk at most 1048576: NARROWER than '..Said'. Prove '..Said' where nothing that the law and all that it calls make is longer than what came in: it says more and counts as full. Else prove '..UptoSaid'. A law counts once. -/
mutual
def uptoBulk {H : Type} : DataW H → Nat
  | .lit (.string bytes) => bytes.length + 1
  | .lit _ => 1
  | .nil => 1
  | .ptr d => uptoBulk d + 1
  | .slice elems spare => uptoBulkAll elems + uptoBulkAll spare + 1
  | .agg parts => uptoBulkAll parts + 1
  | .iface _ d => uptoBulk d + 1
  | .map entries => uptoBulkEntries entries + 1
  | .held _ => 1
def uptoBulkAll {H : Type} : List (DataW H) → Nat
  | [] => 0
  | d :: r => uptoBulk d + uptoBulkAll r
def uptoBulkEntries {H : Type} : List (Lit × DataW H) → Nat
  | [] => 0
  | x :: r => uptoBulkEntry x + uptoBulkEntries r
def uptoBulkEntry {H : Type} : Lit × DataW H → Nat
  | (.string bytes, d) => bytes.length + uptoBulk d + 1
  | (_, d) => uptoBulk d + 1
 end
def uptoSmall : (H : Type) → List (DataW H) → Bool := fun _ ds => decide (uptoBulkAll ds ≤ 1048576)
def OpenSpec.upto (s : _root_.Go.ChangeSpec) : _root_.Go.OpenSpec := { _root_.Go.OpenSpec.ofChange s with cond := some uptoSmall }

/-- 'aneroidlaw12.JosephDoubt', WHERE WHAT IT READS IS OF BULK AT MOST 1048576: true; the input reads as it did. -/
def josephDoubtUptoRow : OpenClaim := { program := "yticcjmcmicchjaadoor", sum := "b3f805173afd3426d07a395ce15560ed6a7281158110cffa13e82eeeb195ab98", func := "aneroid/aneroidlaw12.JosephDoubt", spec := "josephDoubt", inPlace := ["math/bits.Sub64", "math/bits.Add64"], unfollowed := true, recurses := true, named := ["aneroid/wide.none", "aneroid/sym.places"], apart := false, laid := [("aneroid/wide.none", laid_aneroid_wide_none), ("aneroid/sym.places", laid_aneroid_sym_places)], narrowed := true }
def JosephDoubtUptoSaid : Prop := josephDoubtUptoRow.holds Tryd.pinned (OpenSpec.upto josephDoubtSpec)

/-- 'aneroidlaw12.JosephPart', WHERE WHAT IT READS IS OF BULK AT MOST 1048576: true; the input reads as it did. -/
def josephPartUptoRow : OpenClaim := { program := "yticcjmcmicchjaadoor", sum := "b3f805173afd3426d07a395ce15560ed6a7281158110cffa13e82eeeb195ab98", func := "aneroid/aneroidlaw12.JosephPart", spec := "josephPart", inPlace := ["math/bits.Sub64", "math/bits.Add64"], unfollowed := true, recurses := true, named := ["aneroid/wide.none", "aneroid/sym.places"], apart := false, laid := [("aneroid/wide.none", laid_aneroid_wide_none), ("aneroid/sym.places", laid_aneroid_sym_places)], narrowed := true }
def JosephPartUptoSaid : Prop := josephPartUptoRow.holds Tryd.pinned (OpenSpec.upto josephPartSpec)

/-- 'aneroidlaw12.JosephState', WHERE WHAT IT READS IS OF BULK AT MOST 1048576: true; the input reads as it did. -/
def josephStateUptoRow : OpenClaim := { program := "yticcjmcmicchjaadoor", sum := "b3f805173afd3426d07a395ce15560ed6a7281158110cffa13e82eeeb195ab98", func := "aneroid/aneroidlaw12.JosephState", spec := "josephState", inPlace := ["math/bits.Sub64", "math/bits.Add64"], unfollowed := true, recurses := true, named := ["aneroid/wide.none", "aneroid/sym.places"], apart := false, laid := [("aneroid/wide.none", laid_aneroid_wide_none), ("aneroid/sym.places", laid_aneroid_sym_places)], narrowed := true }
def JosephStateUptoSaid : Prop := josephStateUptoRow.holds Tryd.pinned (OpenSpec.upto josephStateSpec)

/-- 'aneroidlaw12.JosephNothing', WHERE WHAT IT READS IS OF BULK AT MOST 1048576: true; the input reads as it did. -/
def josephNothingUptoRow : OpenClaim := { program := "yticcjmcmicchjaadoor", sum := "b3f805173afd3426d07a395ce15560ed6a7281158110cffa13e82eeeb195ab98", func := "aneroid/aneroidlaw12.JosephNothing", spec := "josephNothing", inPlace := ["math/bits.Sub64", "math/bits.Add64"], unfollowed := true, recurses := true, named := ["aneroid/wide.none", "aneroid/sym.places"], apart := false, laid := [("aneroid/wide.none", laid_aneroid_wide_none), ("aneroid/sym.places", laid_aneroid_sym_places)], narrowed := true }
def JosephNothingUptoSaid : Prop := josephNothingUptoRow.holds Tryd.pinned (OpenSpec.upto josephNothingSpec)

end Rows
end Go.Proofs.YticcjmcmicchjaaDoor
