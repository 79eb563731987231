/-
  NARROWER THAN 'FOR EVERY INPUT', by the rows' own cells (each row's printed sentence says how): SymSums: laid · SymSound: laid · TamePlays: laid · GatePasses: laid · GateWider: laid · VecProducts: laid · VecOrder: laid · TameSound: laid · TameStays: laid · VecSums: laid.
  DERIVED. THE GIVEN ROWS OF THIS SEAT. 10 by the template 'for every input the law returns true; each argument reads behind the call as it read before'; 0 by the template 'total and deterministic' (their statements: YtlinfennhfphiaaDoorTotals.lean).
  GIVEN WITH THE SEED: the statements are not yours to turn. If you find one false, say at which input.
  Laid BY PROGRAM, IN A SANDBOX (cutbox-rows.mjs): the forced cells as the released guide's own fill.sh prints them over the translation 3df4423d483a9ba1… (all of the seat's roots in one cut). By AI agents, Wed Nov 11 2026. No macro, syntax, notation, axiom, sorry.
-/
import Derived.Test.YtlinfennhfphiaaDoorChecked
import GoSem.Claim
import GoSem.ClaimJoined
import GoSem.ClaimMapViews
import Derived.JoinedTies
import Derived.KernelRfl
namespace Go.Proofs.YtlinfennhfphiaaDoor
/- THE CELL 'sum', in the pinned program and in every row, IS THE sha256 OF THE DUMP (.gsa) THAT YtlinfennhfphiaaDoorProg.lean LOADS. Nothing in Lean hashes anything: it is a label: what it is worth is what the hold of that sum in a sandbox is worth. -/
noncomputable def Tryd.pinned : Pinned := { name := "ytlinfennhfphiaadoor", sum := "3df4423d483a9ba1442fa11c75cff3c3de214f99d0d7cd79eee2bc4d9567f355", checked := Tryd.checked }
namespace Rows
def none {H : Type} : Left H := { results := [], args := [] }

/- WHAT THE LISTED PACKAGE-LEVEL VARIABLES READ AS WHEN THE CALL BEGINS. Each datum BY PROGRAM (the guide's laid-datum.mjs) off the statement by which the dump's own 'gosem.cut.vars' lays the variable. In a bare row this is a premise. The card (YtlinfennhfphiaaDoorCards.lean) ties it to the program's text. -/
def laid_aneroid_sym_places {H : Type} : DataW H := .agg [.agg [.lit (.int .i64 0), .lit (.int .i64 1), .lit (.int .i64 2)], .agg [.lit (.int .i64 1), .lit (.int .i64 3), .lit (.int .i64 4)], .agg [.lit (.int .i64 2), .lit (.int .i64 4), .lit (.int .i64 5)]]
def laid_aneroid_wide_none {H : Type} : DataW H := .agg [.lit (.int .i64 0), .lit (.int .u64 0)]

/-- 'aneroidlaw05.SymSums': WHATEVER THE INPUT: true; the input reads as it did. -/
def symSumsSpec : ChangeSpec := { name := "symSums", fn := fun _ => fun
  | [d1, d2, d3] => { results := [.lit (.bool true)], args := [d1, d2, d3] }
  | _ => none }
def symSumsRow : OpenClaim := { program := "ytlinfennhfphiaadoor", sum := "3df4423d483a9ba1442fa11c75cff3c3de214f99d0d7cd79eee2bc4d9567f355", func := "aneroid/aneroidlaw05.SymSums", spec := "symSums", named := ["aneroid/sym.places"], apart := false, laid := [("aneroid/sym.places", laid_aneroid_sym_places)] }
def SymSumsSaid : Prop := symSumsRow.holds Tryd.pinned (OpenSpec.ofChange symSumsSpec)

/-- ITS FALSE NEIGHBOUR: 'it returns false'. Refute it at one input. -/
def symSumsWrong : ChangeSpec := { name := "symSums", fn := fun _ => fun
  | [d1, d2, d3] => { results := [.lit (.bool false)], args := [d1, d2, d3] }
  | _ => none }
def SymSumsWrongFalsely : Prop := symSumsRow.holds Tryd.pinned (OpenSpec.ofChange symSumsWrong)

/-- 'aneroidlaw05.SymSound': WHATEVER THE INPUT: true; the input reads as it did. -/
def symSoundSpec : ChangeSpec := { name := "symSound", fn := fun _ => fun
  | [d1, d2, d3] => { results := [.lit (.bool true)], args := [d1, d2, d3] }
  | _ => none }
def symSoundRow : OpenClaim := { program := "ytlinfennhfphiaadoor", sum := "3df4423d483a9ba1442fa11c75cff3c3de214f99d0d7cd79eee2bc4d9567f355", func := "aneroid/aneroidlaw05.SymSound", spec := "symSound", named := ["aneroid/sym.places"], apart := false, laid := [("aneroid/sym.places", laid_aneroid_sym_places)] }
def SymSoundSaid : Prop := symSoundRow.holds Tryd.pinned (OpenSpec.ofChange symSoundSpec)

/-- ITS FALSE NEIGHBOUR: 'it returns false'. Refute it at one input. -/
def symSoundWrong : ChangeSpec := { name := "symSound", fn := fun _ => fun
  | [d1, d2, d3] => { results := [.lit (.bool false)], args := [d1, d2, d3] }
  | _ => none }
def SymSoundWrongFalsely : Prop := symSoundRow.holds Tryd.pinned (OpenSpec.ofChange symSoundWrong)

/-- 'aneroidlaw09.TamePlays': WHATEVER THE INPUT: true; the input reads as it did. -/
def tamePlaysSpec : ChangeSpec := { name := "tamePlays", fn := fun _ => fun
  | [d1, d2, d3] => { results := [.lit (.bool true)], args := [d1, d2, d3] }
  | _ => none }
def tamePlaysRow : OpenClaim := { program := "ytlinfennhfphiaadoor", sum := "3df4423d483a9ba1442fa11c75cff3c3de214f99d0d7cd79eee2bc4d9567f355", func := "aneroid/aneroidlaw09.TamePlays", spec := "tamePlays", inPlace := ["math/bits.Sub64"], named := ["aneroid/sym.places", "aneroid/wide.none"], apart := false, laid := [("aneroid/wide.none", laid_aneroid_wide_none), ("aneroid/sym.places", laid_aneroid_sym_places)] }
def TamePlaysSaid : Prop := tamePlaysRow.holds Tryd.pinned (OpenSpec.ofChange tamePlaysSpec)

/-- ITS FALSE NEIGHBOUR: 'it returns false'. Refute it at one input. -/
def tamePlaysWrong : ChangeSpec := { name := "tamePlays", fn := fun _ => fun
  | [d1, d2, d3] => { results := [.lit (.bool false)], args := [d1, d2, d3] }
  | _ => none }
def TamePlaysWrongFalsely : Prop := tamePlaysRow.holds Tryd.pinned (OpenSpec.ofChange tamePlaysWrong)

/-- 'aneroidlaw10.GatePasses': WHATEVER THE INPUT: true; the input reads as it did. -/
def gatePassesSpec : ChangeSpec := { name := "gatePasses", fn := fun _ => fun
  | [d1, d2, d3] => { results := [.lit (.bool true)], args := [d1, d2, d3] }
  | _ => none }
def gatePassesRow : OpenClaim := { program := "ytlinfennhfphiaadoor", sum := "3df4423d483a9ba1442fa11c75cff3c3de214f99d0d7cd79eee2bc4d9567f355", func := "aneroid/aneroidlaw10.GatePasses", spec := "gatePasses", inPlace := ["math/bits.Sub64", "math/bits.Add64"], unfollowed := true, recurses := true, named := ["aneroid/wide.none"], apart := false, laid := [("aneroid/wide.none", laid_aneroid_wide_none)] }
def GatePassesSaid : Prop := gatePassesRow.holds Tryd.pinned (OpenSpec.ofChange gatePassesSpec)

/-- ITS FALSE NEIGHBOUR: 'it returns false'. Refute it at one input. -/
def gatePassesWrong : ChangeSpec := { name := "gatePasses", fn := fun _ => fun
  | [d1, d2, d3] => { results := [.lit (.bool false)], args := [d1, d2, d3] }
  | _ => none }
def GatePassesWrongFalsely : Prop := gatePassesRow.holds Tryd.pinned (OpenSpec.ofChange gatePassesWrong)

/-- 'aneroidlaw10.GateWider': WHATEVER THE INPUT: true; the input reads as it did. -/
def gateWiderSpec : ChangeSpec := { name := "gateWider", fn := fun _ => fun
  | [d1, d2, d3] => { results := [.lit (.bool true)], args := [d1, d2, d3] }
  | _ => none }
def gateWiderRow : OpenClaim := { program := "ytlinfennhfphiaadoor", sum := "3df4423d483a9ba1442fa11c75cff3c3de214f99d0d7cd79eee2bc4d9567f355", func := "aneroid/aneroidlaw10.GateWider", spec := "gateWider", inPlace := ["math/bits.Sub64", "math/bits.Add64"], unfollowed := true, recurses := true, named := ["aneroid/wide.none"], apart := false, laid := [("aneroid/wide.none", laid_aneroid_wide_none)] }
def GateWiderSaid : Prop := gateWiderRow.holds Tryd.pinned (OpenSpec.ofChange gateWiderSpec)

/-- ITS FALSE NEIGHBOUR: 'it returns false'. Refute it at one input. -/
def gateWiderWrong : ChangeSpec := { name := "gateWider", fn := fun _ => fun
  | [d1, d2, d3] => { results := [.lit (.bool false)], args := [d1, d2, d3] }
  | _ => none }
def GateWiderWrongFalsely : Prop := gateWiderRow.holds Tryd.pinned (OpenSpec.ofChange gateWiderWrong)

/-- 'aneroidlaw04.VecProducts': WHATEVER THE INPUT: true; the input reads as it did. -/
def vecProductsSpec : ChangeSpec := { name := "vecProducts", fn := fun _ => fun
  | [d1, d2, d3] => { results := [.lit (.bool true)], args := [d1, d2, d3] }
  | _ => none }
def vecProductsRow : OpenClaim := { program := "ytlinfennhfphiaadoor", sum := "3df4423d483a9ba1442fa11c75cff3c3de214f99d0d7cd79eee2bc4d9567f355", func := "aneroid/aneroidlaw04.VecProducts", spec := "vecProducts", inPlace := ["math/bits.Sub64", "math/bits.Add64"], unfollowed := true, recurses := true, named := ["aneroid/wide.none"], apart := false, laid := [("aneroid/wide.none", laid_aneroid_wide_none)] }
def VecProductsSaid : Prop := vecProductsRow.holds Tryd.pinned (OpenSpec.ofChange vecProductsSpec)

/-- ITS FALSE NEIGHBOUR: 'it returns false'. Refute it at one input. -/
def vecProductsWrong : ChangeSpec := { name := "vecProducts", fn := fun _ => fun
  | [d1, d2, d3] => { results := [.lit (.bool false)], args := [d1, d2, d3] }
  | _ => none }
def VecProductsWrongFalsely : Prop := vecProductsRow.holds Tryd.pinned (OpenSpec.ofChange vecProductsWrong)

/-- 'aneroidlaw04.VecOrder': WHATEVER THE INPUT: true; the input reads as it did. -/
def vecOrderSpec : ChangeSpec := { name := "vecOrder", fn := fun _ => fun
  | [d1, d2, d3] => { results := [.lit (.bool true)], args := [d1, d2, d3] }
  | _ => none }
def vecOrderRow : OpenClaim := { program := "ytlinfennhfphiaadoor", sum := "3df4423d483a9ba1442fa11c75cff3c3de214f99d0d7cd79eee2bc4d9567f355", func := "aneroid/aneroidlaw04.VecOrder", spec := "vecOrder", inPlace := ["math/bits.Sub64", "math/bits.Add64"], unfollowed := true, recurses := true, named := ["aneroid/wide.none"], apart := false, laid := [("aneroid/wide.none", laid_aneroid_wide_none)] }
def VecOrderSaid : Prop := vecOrderRow.holds Tryd.pinned (OpenSpec.ofChange vecOrderSpec)

/-- ITS FALSE NEIGHBOUR: 'it returns false'. Refute it at one input. -/
def vecOrderWrong : ChangeSpec := { name := "vecOrder", fn := fun _ => fun
  | [d1, d2, d3] => { results := [.lit (.bool false)], args := [d1, d2, d3] }
  | _ => none }
def VecOrderWrongFalsely : Prop := vecOrderRow.holds Tryd.pinned (OpenSpec.ofChange vecOrderWrong)

/-- 'aneroidlaw09.TameSound': WHATEVER THE INPUT: true; the input reads as it did. -/
def tameSoundSpec : ChangeSpec := { name := "tameSound", fn := fun _ => fun
  | [d1, d2, d3] => { results := [.lit (.bool true)], args := [d1, d2, d3] }
  | _ => none }
def tameSoundRow : OpenClaim := { program := "ytlinfennhfphiaadoor", sum := "3df4423d483a9ba1442fa11c75cff3c3de214f99d0d7cd79eee2bc4d9567f355", func := "aneroid/aneroidlaw09.TameSound", spec := "tameSound", inPlace := ["math/bits.Sub64"], named := ["aneroid/sym.places", "aneroid/wide.none"], apart := false, laid := [("aneroid/wide.none", laid_aneroid_wide_none), ("aneroid/sym.places", laid_aneroid_sym_places)] }
def TameSoundSaid : Prop := tameSoundRow.holds Tryd.pinned (OpenSpec.ofChange tameSoundSpec)

/-- ITS FALSE NEIGHBOUR: 'it returns false'. Refute it at one input. -/
def tameSoundWrong : ChangeSpec := { name := "tameSound", fn := fun _ => fun
  | [d1, d2, d3] => { results := [.lit (.bool false)], args := [d1, d2, d3] }
  | _ => none }
def TameSoundWrongFalsely : Prop := tameSoundRow.holds Tryd.pinned (OpenSpec.ofChange tameSoundWrong)

/-- 'aneroidlaw09.TameStays': WHATEVER THE INPUT: true; the input reads as it did. -/
def tameStaysSpec : ChangeSpec := { name := "tameStays", fn := fun _ => fun
  | [d1, d2, d3] => { results := [.lit (.bool true)], args := [d1, d2, d3] }
  | _ => none }
def tameStaysRow : OpenClaim := { program := "ytlinfennhfphiaadoor", sum := "3df4423d483a9ba1442fa11c75cff3c3de214f99d0d7cd79eee2bc4d9567f355", func := "aneroid/aneroidlaw09.TameStays", spec := "tameStays", inPlace := ["math/bits.Sub64"], named := ["aneroid/sym.places", "aneroid/wide.none"], apart := false, laid := [("aneroid/wide.none", laid_aneroid_wide_none), ("aneroid/sym.places", laid_aneroid_sym_places)] }
def TameStaysSaid : Prop := tameStaysRow.holds Tryd.pinned (OpenSpec.ofChange tameStaysSpec)

/-- ITS FALSE NEIGHBOUR: 'it returns false'. Refute it at one input. -/
def tameStaysWrong : ChangeSpec := { name := "tameStays", fn := fun _ => fun
  | [d1, d2, d3] => { results := [.lit (.bool false)], args := [d1, d2, d3] }
  | _ => none }
def TameStaysWrongFalsely : Prop := tameStaysRow.holds Tryd.pinned (OpenSpec.ofChange tameStaysWrong)

/-- 'aneroidlaw04.VecSums': WHATEVER THE INPUT: true; the input reads as it did. -/
def vecSumsSpec : ChangeSpec := { name := "vecSums", fn := fun _ => fun
  | [d1, d2] => { results := [.lit (.bool true)], args := [d1, d2] }
  | _ => none }
def vecSumsRow : OpenClaim := { program := "ytlinfennhfphiaadoor", sum := "3df4423d483a9ba1442fa11c75cff3c3de214f99d0d7cd79eee2bc4d9567f355", func := "aneroid/aneroidlaw04.VecSums", spec := "vecSums", inPlace := ["math/bits.Sub64", "math/bits.Add64"], unfollowed := true, recurses := true, named := ["aneroid/wide.none"], apart := false, laid := [("aneroid/wide.none", laid_aneroid_wide_none)] }
def VecSumsSaid : Prop := vecSumsRow.holds Tryd.pinned (OpenSpec.ofChange vecSumsSpec)

/-- ITS FALSE NEIGHBOUR: 'it returns false'. Refute it at one input. -/
def vecSumsWrong : ChangeSpec := { name := "vecSums", fn := fun _ => fun
  | [d1, d2] => { results := [.lit (.bool false)], args := [d1, d2] }
  | _ => none }
def VecSumsWrongFalsely : Prop := vecSumsRow.holds Tryd.pinned (OpenSpec.ofChange vecSumsWrong)

/- THE SECOND FORM. 'bulk': how many values and letters a reading holds, each counted each time it is reached (what is shared counts as often as it is met; a slice's spare places count too). A statement '..UptoSaid' is the law's where the arguments, and the package variables that the reading takes, are together of bulk at most 1048576: NARROWER than '..Said'. Prove '..Said' where nothing that the law and all that it calls make is longer than what came in: it says more and counts as full. Else prove '..UptoSaid'. A law counts once. -/
mutual
def uptoBulk {H : Type} : DataW H → Nat
  | .lit (.string bytes) => bytes.length + 1
  | .lit _ => 1
  | .nil => 1
  | .ptr d => uptoBulk d + 1
  | .slice elems spare => uptoBulkAll elems + uptoBulkAll spare + 1
  | .agg parts => uptoBulkAll parts + 1
  | .iface _ d => uptoBulk d + 1
  | .map entries => uptoBulkEntries entries + 1
  | .held _ => 1
def uptoBulkAll {H : Type} : List (DataW H) → Nat
  | [] => 0
  | d :: r => uptoBulk d + uptoBulkAll r
def uptoBulkEntries {H : Type} : List (Lit × DataW H) → Nat
  | [] => 0
  | x :: r => uptoBulkEntry x + uptoBulkEntries r
def uptoBulkEntry {H : Type} : Lit × DataW H → Nat
  | (.string bytes, d) => bytes.length + uptoBulk d + 1
  | (_, d) => uptoBulk d + 1
 end
def uptoSmall : (H : Type) → List (DataW H) → Bool := fun _ ds => decide (uptoBulkAll ds ≤ 1048576)
def OpenSpec.upto (s : _root_.Go.ChangeSpec) : _root_.Go.OpenSpec := { _root_.Go.OpenSpec.ofChange s with cond := some uptoSmall }

/-- 'aneroidlaw05.SymSums', WHERE WHAT IT READS IS OF BULK AT MOST 1048576: true; the input reads as it did. -/
def symSumsUptoRow : OpenClaim := { program := "ytlinfennhfphiaadoor", sum := "3df4423d483a9ba1442fa11c75cff3c3de214f99d0d7cd79eee2bc4d9567f355", func := "aneroid/aneroidlaw05.SymSums", spec := "symSums", named := ["aneroid/sym.places"], apart := false, laid := [("aneroid/sym.places", laid_aneroid_sym_places)], narrowed := true }
def SymSumsUptoSaid : Prop := symSumsUptoRow.holds Tryd.pinned (OpenSpec.upto symSumsSpec)

/-- 'aneroidlaw05.SymSound', WHERE WHAT IT READS IS OF BULK AT MOST 1048576: true; the input reads as it did. -/
def symSoundUptoRow : OpenClaim := { program := "ytlinfennhfphiaadoor", sum := "3df4423d483a9ba1442fa11c75cff3c3de214f99d0d7cd79eee2bc4d9567f355", func := "aneroid/aneroidlaw05.SymSound", spec := "symSound", named := ["aneroid/sym.places"], apart := false, laid := [("aneroid/sym.places", laid_aneroid_sym_places)], narrowed := true }
def SymSoundUptoSaid : Prop := symSoundUptoRow.holds Tryd.pinned (OpenSpec.upto symSoundSpec)

/-- 'aneroidlaw09.TamePlays', WHERE WHAT IT READS IS OF BULK AT MOST 1048576: true; the input reads as it did. -/
def tamePlaysUptoRow : OpenClaim := { program := "ytlinfennhfphiaadoor", sum := "3df4423d483a9ba1442fa11c75cff3c3de214f99d0d7cd79eee2bc4d9567f355", func := "aneroid/aneroidlaw09.TamePlays", spec := "tamePlays", inPlace := ["math/bits.Sub64"], named := ["aneroid/sym.places", "aneroid/wide.none"], apart := false, laid := [("aneroid/wide.none", laid_aneroid_wide_none), ("aneroid/sym.places", laid_aneroid_sym_places)], narrowed := true }
def TamePlaysUptoSaid : Prop := tamePlaysUptoRow.holds Tryd.pinned (OpenSpec.upto tamePlaysSpec)

/-- 'aneroidlaw10.GatePasses', WHERE WHAT IT READS IS OF BULK AT MOST 1048576: true; the input reads as it did. -/
def gatePassesUptoRow : OpenClaim := { program := "ytlinfennhfphiaadoor", sum := "3df4423d483a9ba1442fa11c75cff3c3de214f99d0d7cd79eee2bc4d9567f355", func := "aneroid/aneroidlaw10.GatePasses", spec := "gatePasses", inPlace := ["math/bits.Sub64", "math/bits.Add64"], unfollowed := true, recurses := true, named := ["aneroid/wide.none"], apart := false, laid := [("aneroid/wide.none", laid_aneroid_wide_none)], narrowed := true }
def GatePassesUptoSaid : Prop := gatePassesUptoRow.holds Tryd.pinned (OpenSpec.upto gatePassesSpec)

/-- 'aneroidlaw10.GateWider', WHERE WHAT IT READS IS OF BULK AT MOST 1048576: true; the input reads as it did. -/
def gateWiderUptoRow : OpenClaim := { program := "ytlinfennhfphiaadoor", sum := "3df4423d483a9ba1442fa11c75cff3c3de214f99d0d7cd79eee2bc4d9567f355", func := "aneroid/aneroidlaw10.GateWider", spec := "gateWider", inPlace := ["math/bits.Sub64", "math/bits.Add64"], unfollowed := true, recurses := true, named := ["aneroid/wide.none"], apart := false, laid := [("aneroid/wide.none", laid_aneroid_wide_none)], narrowed := true }
def GateWiderUptoSaid : Prop := gateWiderUptoRow.holds Tryd.pinned (OpenSpec.upto gateWiderSpec)

/-- 'aneroidlaw04.VecProducts', WHERE WHAT IT READS IS OF BULK AT MOST 1048576: true; the input reads as it did. -/
def vecProductsUptoRow : OpenClaim := { program := "ytlinfennhfphiaadoor", sum := "3df4423d483a9ba1442fa11c75cff3c3de214f99d0d7cd79eee2bc4d9567f355", func := "aneroid/aneroidlaw04.VecProducts", spec := "vecProducts", inPlace := ["math/bits.Sub64", "math/bits.Add64"], unfollowed := true, recurses := true, named := ["aneroid/wide.none"], apart := false, laid := [("aneroid/wide.none", laid_aneroid_wide_none)], narrowed := true }
def VecProductsUptoSaid : Prop := vecProductsUptoRow.holds Tryd.pinned (OpenSpec.upto vecProductsSpec)

/-- 'aneroidlaw04.VecOrder', WHERE WHAT IT READS IS OF BULK AT MOST 1048576: true; the input reads as it did. -/
def vecOrderUptoRow : OpenClaim := { program := "ytlinfennhfphiaadoor", sum := "3df4423d483a9ba1442fa11c75cff3c3de214f99d0d7cd79eee2bc4d9567f355", func := "aneroid/aneroidlaw04.VecOrder", spec := "vecOrder", inPlace := ["math/bits.Sub64", "math/bits.Add64"], unfollowed := true, recurses := true, named := ["aneroid/wide.none"], apart := false, laid := [("aneroid/wide.none", laid_aneroid_wide_none)], narrowed := true }
def VecOrderUptoSaid : Prop := vecOrderUptoRow.holds Tryd.pinned (OpenSpec.upto vecOrderSpec)

/-- 'aneroidlaw09.TameSound', WHERE WHAT IT READS IS OF BULK AT MOST 1048576: true; the input reads as it did. -/
def tameSoundUptoRow : OpenClaim := { program := "ytlinfennhfphiaadoor", sum := "3df4423d483a9ba1442fa11c75cff3c3de214f99d0d7cd79eee2bc4d9567f355", func := "aneroid/aneroidlaw09.TameSound", spec := "tameSound", inPlace := ["math/bits.Sub64"], named := ["aneroid/sym.places", "aneroid/wide.none"], apart := false, laid := [("aneroid/wide.none", laid_aneroid_wide_none), ("aneroid/sym.places", laid_aneroid_sym_places)], narrowed := true }
def TameSoundUptoSaid : Prop := tameSoundUptoRow.holds Tryd.pinned (OpenSpec.upto tameSoundSpec)

/-- 'aneroidlaw09.TameStays', WHERE WHAT IT READS IS OF BULK AT MOST 1048576: true; the input reads as it did. -/
def tameStaysUptoRow : OpenClaim := { program := "ytlinfennhfphiaadoor", sum := "3df4423d483a9ba1442fa11c75cff3c3de214f99d0d7cd79eee2bc4d9567f355", func := "aneroid/aneroidlaw09.TameStays", spec := "tameStays", inPlace := ["math/bits.Sub64"], named := ["aneroid/sym.places", "aneroid/wide.none"], apart := false, laid := [("aneroid/wide.none", laid_aneroid_wide_none), ("aneroid/sym.places", laid_aneroid_sym_places)], narrowed := true }
def TameStaysUptoSaid : Prop := tameStaysUptoRow.holds Tryd.pinned (OpenSpec.upto tameStaysSpec)

/-- 'aneroidlaw04.VecSums', WHERE WHAT IT READS IS OF BULK AT MOST 1048576: true; the input reads as it did. -/
def vecSumsUptoRow : OpenClaim := { program := "ytlinfennhfphiaadoor", sum := "3df4423d483a9ba1442fa11c75cff3c3de214f99d0d7cd79eee2bc4d9567f355", func := "aneroid/aneroidlaw04.VecSums", spec := "vecSums", inPlace := ["math/bits.Sub64", "math/bits.Add64"], unfollowed := true, recurses := true, named := ["aneroid/wide.none"], apart := false, laid := [("aneroid/wide.none", laid_aneroid_wide_none)], narrowed := true }
def VecSumsUptoSaid : Prop := vecSumsUptoRow.holds Tryd.pinned (OpenSpec.upto vecSumsSpec)

end Rows
end Go.Proofs.YtlinfennhfphiaaDoor
