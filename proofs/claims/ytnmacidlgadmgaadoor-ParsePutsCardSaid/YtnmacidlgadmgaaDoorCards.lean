/-
  DERIVED. GIVEN WITH THE SEED: THE CARDS: each row of YtnmacidlgadmgaaDoorRows.lean that lists a variable, with what it lists TIED to the program's text (the seventh form; the later family's looks); each row that meets fmt, with fmt's text TOLD by the authors' own Lean function (tested against real Go, not proved from fmt's source: count such statements apart). THE CARD IS WHAT COUNTS. Prove the row's statement (the work); the ties are given (YtnmacidlgadmgaaDoorTie.lean); close each card by the builder's one call (the guide's Derived/Test/ToyasCard.lean, 'card_holds'). Laid BY PROGRAM, IN A SANDBOX (cutbox-door.mjs). By AI agents, Wed Nov 11 2026. No macro, syntax, notation, axiom, sorry.
-/
import Derived.Test.YtnmacidlgadmgaaDoorRows
import GoSem.ClaimSeven
namespace Go.Proofs.YtnmacidlgadmgaaDoor
namespace Rows

/-- THE TIED CARD OF 'aneroidlaw14.ParsePuts'. -/
def parsePutsCard : Claim7 := { stood := { row := parsePutsRow, standIns := [], harness := (true, "bedfff0da1dfeabeb721b8b9a8b4edb49544fec24017c3f8be3fc347ef5bf4b3"), looks := true }, kinds := [], alts := [], laidByText := true, laidKinds := [.data, .data, .data, .data, .sentinel, .sentinel, .pinned], laidTests := true, laidLooks := .later }
def ParsePutsCardSaid : Prop := Claim7.holds Tryd.pinned (.plain (OpenSpec.ofChange parsePutsSpec)) parsePutsCard

/-- THE TIED CARD OF 'aneroidlaw14.ParseGets'. -/
def parseGetsCard : Claim7 := { stood := { row := parseGetsRow, standIns := [], harness := (true, "bedfff0da1dfeabeb721b8b9a8b4edb49544fec24017c3f8be3fc347ef5bf4b3"), looks := true }, kinds := [], alts := [], laidByText := true, laidKinds := [.data, .data, .data, .data, .sentinel, .sentinel, .pinned], laidTests := true, laidLooks := .later }
def ParseGetsCardSaid : Prop := Claim7.holds Tryd.pinned (.plain (OpenSpec.ofChange parseGetsSpec)) parseGetsCard

/-- THE SECOND FORM's CARD OF 'aneroidlaw14.ParsePuts'. -/
def parsePutsUptoCard : Claim7 := { stood := { row := parsePutsUptoRow, standIns := [], harness := (true, "bedfff0da1dfeabeb721b8b9a8b4edb49544fec24017c3f8be3fc347ef5bf4b3"), looks := true }, kinds := [], alts := [], laidByText := true, laidKinds := [.data, .data, .data, .data, .sentinel, .sentinel, .pinned], laidTests := true, laidLooks := .later }
def ParsePutsUptoCardSaid : Prop := Claim7.holds Tryd.pinned (.plain (OpenSpec.upto parsePutsSpec)) parsePutsUptoCard

/-- THE SECOND FORM's CARD OF 'aneroidlaw14.ParseGets'. -/
def parseGetsUptoCard : Claim7 := { stood := { row := parseGetsUptoRow, standIns := [], harness := (true, "bedfff0da1dfeabeb721b8b9a8b4edb49544fec24017c3f8be3fc347ef5bf4b3"), looks := true }, kinds := [], alts := [], laidByText := true, laidKinds := [.data, .data, .data, .data, .sentinel, .sentinel, .pinned], laidTests := true, laidLooks := .later }
def ParseGetsUptoCardSaid : Prop := Claim7.holds Tryd.pinned (.plain (OpenSpec.upto parseGetsSpec)) parseGetsUptoCard
end Rows
end Go.Proofs.YtnmacidlgadmgaaDoor
