/-
  No cell of these rows narrows 'for every input' (looked for: loops, veiled, ifaces, maps, wideKeys, modest, calm, conditions, laid).
  DERIVED. THE GIVEN ROWS OF THIS SEAT. 5 by the template 'for every input the law returns true; each argument reads behind the call as it read before'; 0 by the template 'total and deterministic' (their statements: YtpgkchbgjciinaaTotals.lean).
  GIVEN WITH THE SEED: the statements are not yours to turn. If you find one false, say at which input.
  Laid BY PROGRAM, IN A SANDBOX (cutbox-rows.mjs): the forced cells as the released guide's own fill.sh prints them over the translation e2636055291b1053… (all of the seat's roots in one cut). By AI agents, Wed Nov 11 2026. No macro, syntax, notation, axiom, sorry.
-/
import Derived.Test.YtpgkchbgjciinaaChecked
import GoSem.Claim
import GoSem.ClaimJoined
import GoSem.ClaimMapViews
import Derived.JoinedTies
import Derived.KernelRfl
namespace Go.Proofs.Ytpgkchbgjciinaa
/- THE CELL 'sum', in the pinned program and in every row, IS THE sha256 OF THE DUMP (.gsa) THAT YtpgkchbgjciinaaProg.lean LOADS. Nothing in Lean hashes anything: it is a label: what it is worth is what the hold of that sum in a sandbox is worth. -/
noncomputable def Try.pinned : Pinned := { name := "ytpgkchbgjciinaa", sum := "e2636055291b1053c9107faa56e49d59d9e333aeef320b3692ffefe02f812f3b", checked := Try.checked }
namespace Rows
def none {H : Type} : Left H := { results := [], args := [] }

/-- 'aneroidlaw13.ConfUsual': WHATEVER THE INPUT: true; the input reads as it did. -/
def confUsualSpec : ChangeSpec := { name := "confUsual", fn := fun _ => fun
  | [] => { results := [.lit (.bool true)], args := [] }
  | _ => none }
def confUsualRow : OpenClaim := { program := "ytpgkchbgjciinaa", sum := "e2636055291b1053c9107faa56e49d59d9e333aeef320b3692ffefe02f812f3b", func := "aneroid/aneroidlaw13.ConfUsual", spec := "confUsual", unfollowed := true, recurses := true, apart := false }
def ConfUsualSaid : Prop := confUsualRow.holds Try.pinned (OpenSpec.ofChange confUsualSpec)

/-- ITS FALSE NEIGHBOUR: 'it returns false'. Refute it at one input. -/
def confUsualWrong : ChangeSpec := { name := "confUsual", fn := fun _ => fun
  | [] => { results := [.lit (.bool false)], args := [] }
  | _ => none }
def ConfUsualWrongFalsely : Prop := confUsualRow.holds Try.pinned (OpenSpec.ofChange confUsualWrong)

/-- 'aneroidlaw13.ConfChecks': WHATEVER THE INPUT: true; the input reads as it did. -/
def confChecksSpec : ChangeSpec := { name := "confChecks", fn := fun _ => fun
  | [d1, d2] => { results := [.lit (.bool true)], args := [d1, d2] }
  | _ => none }
def confChecksRow : OpenClaim := { program := "ytpgkchbgjciinaa", sum := "e2636055291b1053c9107faa56e49d59d9e333aeef320b3692ffefe02f812f3b", func := "aneroid/aneroidlaw13.ConfChecks", spec := "confChecks", unfollowed := true, recurses := true, apart := false }
def ConfChecksSaid : Prop := confChecksRow.holds Try.pinned (OpenSpec.ofChange confChecksSpec)

/-- ITS FALSE NEIGHBOUR: 'it returns false'. Refute it at one input. -/
def confChecksWrong : ChangeSpec := { name := "confChecks", fn := fun _ => fun
  | [d1, d2] => { results := [.lit (.bool false)], args := [d1, d2] }
  | _ => none }
def ConfChecksWrongFalsely : Prop := confChecksRow.holds Try.pinned (OpenSpec.ofChange confChecksWrong)

/-- 'aneroidlaw13.ConfThrusts': WHATEVER THE INPUT: true; the input reads as it did. -/
def confThrustsSpec : ChangeSpec := { name := "confThrusts", fn := fun _ => fun
  | [d1, d2, d3] => { results := [.lit (.bool true)], args := [d1, d2, d3] }
  | _ => none }
def confThrustsRow : OpenClaim := { program := "ytpgkchbgjciinaa", sum := "e2636055291b1053c9107faa56e49d59d9e333aeef320b3692ffefe02f812f3b", func := "aneroid/aneroidlaw13.ConfThrusts", spec := "confThrusts", unfollowed := true, recurses := true, apart := false }
def ConfThrustsSaid : Prop := confThrustsRow.holds Try.pinned (OpenSpec.ofChange confThrustsSpec)

/-- ITS FALSE NEIGHBOUR: 'it returns false'. Refute it at one input. -/
def confThrustsWrong : ChangeSpec := { name := "confThrusts", fn := fun _ => fun
  | [d1, d2, d3] => { results := [.lit (.bool false)], args := [d1, d2, d3] }
  | _ => none }
def ConfThrustsWrongFalsely : Prop := confThrustsRow.holds Try.pinned (OpenSpec.ofChange confThrustsWrong)

/-- 'aneroidlaw15.AccelHeld': WHATEVER THE INPUT: true; the input reads as it did. -/
def accelHeldSpec : ChangeSpec := { name := "accelHeld", fn := fun _ => fun
  | [d1, d2, d3] => { results := [.lit (.bool true)], args := [d1, d2, d3] }
  | _ => none }
def accelHeldRow : OpenClaim := { program := "ytpgkchbgjciinaa", sum := "e2636055291b1053c9107faa56e49d59d9e333aeef320b3692ffefe02f812f3b", func := "aneroid/aneroidlaw15.AccelHeld", spec := "accelHeld", unfollowed := true, recurses := true, apart := false }
def AccelHeldSaid : Prop := accelHeldRow.holds Try.pinned (OpenSpec.ofChange accelHeldSpec)

/-- ITS FALSE NEIGHBOUR: 'it returns false'. Refute it at one input. -/
def accelHeldWrong : ChangeSpec := { name := "accelHeld", fn := fun _ => fun
  | [d1, d2, d3] => { results := [.lit (.bool false)], args := [d1, d2, d3] }
  | _ => none }
def AccelHeldWrongFalsely : Prop := accelHeldRow.holds Try.pinned (OpenSpec.ofChange accelHeldWrong)

/-- 'aneroidlaw15.AccelPlays': WHATEVER THE INPUT: true; the input reads as it did. -/
def accelPlaysSpec : ChangeSpec := { name := "accelPlays", fn := fun _ => fun
  | [d1, d2, d3] => { results := [.lit (.bool true)], args := [d1, d2, d3] }
  | _ => none }
def accelPlaysRow : OpenClaim := { program := "ytpgkchbgjciinaa", sum := "e2636055291b1053c9107faa56e49d59d9e333aeef320b3692ffefe02f812f3b", func := "aneroid/aneroidlaw15.AccelPlays", spec := "accelPlays", unfollowed := true, recurses := true, apart := false }
def AccelPlaysSaid : Prop := accelPlaysRow.holds Try.pinned (OpenSpec.ofChange accelPlaysSpec)

/-- ITS FALSE NEIGHBOUR: 'it returns false'. Refute it at one input. -/
def accelPlaysWrong : ChangeSpec := { name := "accelPlays", fn := fun _ => fun
  | [d1, d2, d3] => { results := [.lit (.bool false)], args := [d1, d2, d3] }
  | _ => none }
def AccelPlaysWrongFalsely : Prop := accelPlaysRow.holds Try.pinned (OpenSpec.ofChange accelPlaysWrong)

/- THE SECOND FORM. 'bulk': how many values and letters a reading holds, each counted each time it is reached (what is shared counts as often as it is met; a slice's spare places count too). A statement '..UptoSaid' is the law's where the arguments, and the package variables that the reading takes, are together of bulk at most 1048576: NARROWER than '..Said'. Prove '..Said' where nothing that the law and all that it calls make is longer than what came in: it says more and counts as full. Else prove '..UptoSaid'. A law counts once. -/
mutual
def uptoBulk {H : Type} : DataW H → Nat
  | .lit (.string bytes) => bytes.length + 1
  | .lit _ => 1
  | .nil => 1
  | .ptr d => uptoBulk d + 1
  | .slice elems spare => uptoBulkAll elems + uptoBulkAll spare + 1
  | .agg parts => uptoBulkAll parts + 1
  | .iface _ d => uptoBulk d + 1
  | .map entries => uptoBulkEntries entries + 1
  | .held _ => 1
def uptoBulkAll {H : Type} : List (DataW H) → Nat
  | [] => 0
  | d :: r => uptoBulk d + uptoBulkAll r
def uptoBulkEntries {H : Type} : List (Lit × DataW H) → Nat
  | [] => 0
  | x :: r => uptoBulkEntry x + uptoBulkEntries r
def uptoBulkEntry {H : Type} : Lit × DataW H → Nat
  | (.string bytes, d) => bytes.length + uptoBulk d + 1
  | (_, d) => uptoBulk d + 1
 end
def uptoSmall : (H : Type) → List (DataW H) → Bool := fun _ ds => decide (uptoBulkAll ds ≤ 1048576)
def OpenSpec.upto (s : _root_.Go.ChangeSpec) : _root_.Go.OpenSpec := { _root_.Go.OpenSpec.ofChange s with cond := some uptoSmall }

/-- 'aneroidlaw13.ConfUsual', WHERE WHAT IT READS IS OF BULK AT MOST 1048576: true; the input reads as it did. -/
def confUsualUptoRow : OpenClaim := { program := "ytpgkchbgjciinaa", sum := "e2636055291b1053c9107faa56e49d59d9e333aeef320b3692ffefe02f812f3b", func := "aneroid/aneroidlaw13.ConfUsual", spec := "confUsual", unfollowed := true, recurses := true, apart := false, narrowed := true }
def ConfUsualUptoSaid : Prop := confUsualUptoRow.holds Try.pinned (OpenSpec.upto confUsualSpec)

/-- 'aneroidlaw13.ConfChecks', WHERE WHAT IT READS IS OF BULK AT MOST 1048576: true; the input reads as it did. -/
def confChecksUptoRow : OpenClaim := { program := "ytpgkchbgjciinaa", sum := "e2636055291b1053c9107faa56e49d59d9e333aeef320b3692ffefe02f812f3b", func := "aneroid/aneroidlaw13.ConfChecks", spec := "confChecks", unfollowed := true, recurses := true, apart := false, narrowed := true }
def ConfChecksUptoSaid : Prop := confChecksUptoRow.holds Try.pinned (OpenSpec.upto confChecksSpec)

/-- 'aneroidlaw13.ConfThrusts', WHERE WHAT IT READS IS OF BULK AT MOST 1048576: true; the input reads as it did. -/
def confThrustsUptoRow : OpenClaim := { program := "ytpgkchbgjciinaa", sum := "e2636055291b1053c9107faa56e49d59d9e333aeef320b3692ffefe02f812f3b", func := "aneroid/aneroidlaw13.ConfThrusts", spec := "confThrusts", unfollowed := true, recurses := true, apart := false, narrowed := true }
def ConfThrustsUptoSaid : Prop := confThrustsUptoRow.holds Try.pinned (OpenSpec.upto confThrustsSpec)

/-- 'aneroidlaw15.AccelHeld', WHERE WHAT IT READS IS OF BULK AT MOST 1048576: true; the input reads as it did. -/
def accelHeldUptoRow : OpenClaim := { program := "ytpgkchbgjciinaa", sum := "e2636055291b1053c9107faa56e49d59d9e333aeef320b3692ffefe02f812f3b", func := "aneroid/aneroidlaw15.AccelHeld", spec := "accelHeld", unfollowed := true, recurses := true, apart := false, narrowed := true }
def AccelHeldUptoSaid : Prop := accelHeldUptoRow.holds Try.pinned (OpenSpec.upto accelHeldSpec)

/-- 'aneroidlaw15.AccelPlays', WHERE WHAT IT READS IS OF BULK AT MOST 1048576: true; the input reads as it did. -/
def accelPlaysUptoRow : OpenClaim := { program := "ytpgkchbgjciinaa", sum := "e2636055291b1053c9107faa56e49d59d9e333aeef320b3692ffefe02f812f3b", func := "aneroid/aneroidlaw15.AccelPlays", spec := "accelPlays", unfollowed := true, recurses := true, apart := false, narrowed := true }
def AccelPlaysUptoSaid : Prop := accelPlaysUptoRow.holds Try.pinned (OpenSpec.upto accelPlaysSpec)

end Rows
end Go.Proofs.Ytpgkchbgjciinaa
