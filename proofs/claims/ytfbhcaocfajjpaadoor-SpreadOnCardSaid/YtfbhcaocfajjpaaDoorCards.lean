/-
  DERIVED. GIVEN WITH THE SEED: THE CARDS: each row of YtfbhcaocfajjpaaDoorRows.lean that lists a variable, with what it lists TIED to the program's text (the seventh form; the later family's looks); each row that meets fmt, with fmt's text TOLD by the authors' own Lean function (tested against real Go, not proved from fmt's source: count such statements apart). THE CARD IS WHAT COUNTS. Prove the row's statement (the work); the ties are given (YtfbhcaocfajjpaaDoorTie.lean); close each card by the builder's one call (the guide's Derived/Test/ToyasCard.lean, 'card_holds'). Laid BY PROGRAM, IN A SANDBOX (cutbox-door.mjs). By AI agents, Wed Nov 11 2026. No macro, syntax, notation, axiom, sorry.
-/
import Derived.Test.YtfbhcaocfajjpaaDoorRows
import GoSem.ClaimSeven
namespace Go.Proofs.YtfbhcaocfajjpaaDoor
namespace Rows

/-- THE TIED CARD OF 'aneroidlaw05.SymSums'. -/
def symSumsCard : Claim7 := { stood := { row := symSumsRow, standIns := [], harness := (true, "0d86b8d552f487a4671cc400df376966d629bd0301b16f8f002113d9fb52d26d"), looks := true }, kinds := [], alts := [], laidByText := true, laidKinds := [.data], laidTests := true, laidLooks := .later }
def SymSumsCardSaid : Prop := Claim7.holds Tryd.pinned (.plain (OpenSpec.ofChange symSumsSpec)) symSumsCard

/-- THE TIED CARD OF 'aneroidlaw08.SpreadOn'. -/
def spreadOnCard : Claim7 := { stood := { row := spreadOnRow, standIns := [], harness := (true, "0d86b8d552f487a4671cc400df376966d629bd0301b16f8f002113d9fb52d26d"), looks := true }, kinds := [], alts := [], laidByText := true, laidKinds := [.data, .data, .data], laidTests := true, laidLooks := .later }
def SpreadOnCardSaid : Prop := Claim7.holds Tryd.pinned (.plain (OpenSpec.ofChange spreadOnSpec)) spreadOnCard

/-- THE TIED CARD OF 'aneroidlaw08.SpreadAdds'. -/
def spreadAddsCard : Claim7 := { stood := { row := spreadAddsRow, standIns := [], harness := (true, "0d86b8d552f487a4671cc400df376966d629bd0301b16f8f002113d9fb52d26d"), looks := true }, kinds := [], alts := [], laidByText := true, laidKinds := [.data, .data, .data], laidTests := true, laidLooks := .later }
def SpreadAddsCardSaid : Prop := Claim7.holds Tryd.pinned (.plain (OpenSpec.ofChange spreadAddsSpec)) spreadAddsCard

/-- THE TIED CARD OF 'aneroidlaw08.SpreadGrows'. -/
def spreadGrowsCard : Claim7 := { stood := { row := spreadGrowsRow, standIns := [], harness := (true, "0d86b8d552f487a4671cc400df376966d629bd0301b16f8f002113d9fb52d26d"), looks := true }, kinds := [], alts := [], laidByText := true, laidKinds := [.data, .data, .data], laidTests := true, laidLooks := .later }
def SpreadGrowsCardSaid : Prop := Claim7.holds Tryd.pinned (.plain (OpenSpec.ofChange spreadGrowsSpec)) spreadGrowsCard

/-- THE TIED CARD OF 'aneroidlaw12.JosephPart'. -/
def josephPartCard : Claim7 := { stood := { row := josephPartRow, standIns := [], harness := (true, "0d86b8d552f487a4671cc400df376966d629bd0301b16f8f002113d9fb52d26d"), looks := true }, kinds := [], alts := [], laidByText := true, laidKinds := [.data, .data], laidTests := true, laidLooks := .later }
def JosephPartCardSaid : Prop := Claim7.holds Tryd.pinned (.plain (OpenSpec.ofChange josephPartSpec)) josephPartCard

/-- THE TIED CARD OF 'aneroidlaw12.JosephNothing'. -/
def josephNothingCard : Claim7 := { stood := { row := josephNothingRow, standIns := [], harness := (true, "0d86b8d552f487a4671cc400df376966d629bd0301b16f8f002113d9fb52d26d"), looks := true }, kinds := [], alts := [], laidByText := true, laidKinds := [.data, .data], laidTests := true, laidLooks := .later }
def JosephNothingCardSaid : Prop := Claim7.holds Tryd.pinned (.plain (OpenSpec.ofChange josephNothingSpec)) josephNothingCard

/-- THE TIED CARD OF 'aneroidlaw14.ParsePuts'. -/
def parsePutsCard : Claim7 := { stood := { row := parsePutsRow, standIns := [], harness := (true, "0d86b8d552f487a4671cc400df376966d629bd0301b16f8f002113d9fb52d26d"), looks := true }, kinds := [], alts := [], laidByText := true, laidKinds := [.data, .data, .data, .data, .sentinel, .sentinel, .pinned], laidTests := true, laidLooks := .later }
def ParsePutsCardSaid : Prop := Claim7.holds Tryd.pinned (.plain (OpenSpec.ofChange parsePutsSpec)) parsePutsCard

/-- THE TIED CARD OF 'aneroidlaw14.ParseGets'. -/
def parseGetsCard : Claim7 := { stood := { row := parseGetsRow, standIns := [], harness := (true, "0d86b8d552f487a4671cc400df376966d629bd0301b16f8f002113d9fb52d26d"), looks := true }, kinds := [], alts := [], laidByText := true, laidKinds := [.data, .data, .data, .data, .sentinel, .sentinel, .pinned], laidTests := true, laidLooks := .later }
def ParseGetsCardSaid : Prop := Claim7.holds Tryd.pinned (.plain (OpenSpec.ofChange parseGetsSpec)) parseGetsCard

/-- THE SECOND FORM's CARD OF 'aneroidlaw05.SymSums'. -/
def symSumsUptoCard : Claim7 := { stood := { row := symSumsUptoRow, standIns := [], harness := (true, "0d86b8d552f487a4671cc400df376966d629bd0301b16f8f002113d9fb52d26d"), looks := true }, kinds := [], alts := [], laidByText := true, laidKinds := [.data], laidTests := true, laidLooks := .later }
def SymSumsUptoCardSaid : Prop := Claim7.holds Tryd.pinned (.plain (OpenSpec.upto symSumsSpec)) symSumsUptoCard

/-- THE SECOND FORM's CARD OF 'aneroidlaw08.SpreadOn'. -/
def spreadOnUptoCard : Claim7 := { stood := { row := spreadOnUptoRow, standIns := [], harness := (true, "0d86b8d552f487a4671cc400df376966d629bd0301b16f8f002113d9fb52d26d"), looks := true }, kinds := [], alts := [], laidByText := true, laidKinds := [.data, .data, .data], laidTests := true, laidLooks := .later }
def SpreadOnUptoCardSaid : Prop := Claim7.holds Tryd.pinned (.plain (OpenSpec.upto spreadOnSpec)) spreadOnUptoCard

/-- THE SECOND FORM's CARD OF 'aneroidlaw08.SpreadAdds'. -/
def spreadAddsUptoCard : Claim7 := { stood := { row := spreadAddsUptoRow, standIns := [], harness := (true, "0d86b8d552f487a4671cc400df376966d629bd0301b16f8f002113d9fb52d26d"), looks := true }, kinds := [], alts := [], laidByText := true, laidKinds := [.data, .data, .data], laidTests := true, laidLooks := .later }
def SpreadAddsUptoCardSaid : Prop := Claim7.holds Tryd.pinned (.plain (OpenSpec.upto spreadAddsSpec)) spreadAddsUptoCard

/-- THE SECOND FORM's CARD OF 'aneroidlaw08.SpreadGrows'. -/
def spreadGrowsUptoCard : Claim7 := { stood := { row := spreadGrowsUptoRow, standIns := [], harness := (true, "0d86b8d552f487a4671cc400df376966d629bd0301b16f8f002113d9fb52d26d"), looks := true }, kinds := [], alts := [], laidByText := true, laidKinds := [.data, .data, .data], laidTests := true, laidLooks := .later }
def SpreadGrowsUptoCardSaid : Prop := Claim7.holds Tryd.pinned (.plain (OpenSpec.upto spreadGrowsSpec)) spreadGrowsUptoCard

/-- THE SECOND FORM's CARD OF 'aneroidlaw12.JosephPart'. -/
def josephPartUptoCard : Claim7 := { stood := { row := josephPartUptoRow, standIns := [], harness := (true, "0d86b8d552f487a4671cc400df376966d629bd0301b16f8f002113d9fb52d26d"), looks := true }, kinds := [], alts := [], laidByText := true, laidKinds := [.data, .data], laidTests := true, laidLooks := .later }
def JosephPartUptoCardSaid : Prop := Claim7.holds Tryd.pinned (.plain (OpenSpec.upto josephPartSpec)) josephPartUptoCard

/-- THE SECOND FORM's CARD OF 'aneroidlaw12.JosephNothing'. -/
def josephNothingUptoCard : Claim7 := { stood := { row := josephNothingUptoRow, standIns := [], harness := (true, "0d86b8d552f487a4671cc400df376966d629bd0301b16f8f002113d9fb52d26d"), looks := true }, kinds := [], alts := [], laidByText := true, laidKinds := [.data, .data], laidTests := true, laidLooks := .later }
def JosephNothingUptoCardSaid : Prop := Claim7.holds Tryd.pinned (.plain (OpenSpec.upto josephNothingSpec)) josephNothingUptoCard

/-- THE SECOND FORM's CARD OF 'aneroidlaw14.ParsePuts'. -/
def parsePutsUptoCard : Claim7 := { stood := { row := parsePutsUptoRow, standIns := [], harness := (true, "0d86b8d552f487a4671cc400df376966d629bd0301b16f8f002113d9fb52d26d"), looks := true }, kinds := [], alts := [], laidByText := true, laidKinds := [.data, .data, .data, .data, .sentinel, .sentinel, .pinned], laidTests := true, laidLooks := .later }
def ParsePutsUptoCardSaid : Prop := Claim7.holds Tryd.pinned (.plain (OpenSpec.upto parsePutsSpec)) parsePutsUptoCard

/-- THE SECOND FORM's CARD OF 'aneroidlaw14.ParseGets'. -/
def parseGetsUptoCard : Claim7 := { stood := { row := parseGetsUptoRow, standIns := [], harness := (true, "0d86b8d552f487a4671cc400df376966d629bd0301b16f8f002113d9fb52d26d"), looks := true }, kinds := [], alts := [], laidByText := true, laidKinds := [.data, .data, .data, .data, .sentinel, .sentinel, .pinned], laidTests := true, laidLooks := .later }
def ParseGetsUptoCardSaid : Prop := Claim7.holds Tryd.pinned (.plain (OpenSpec.upto parseGetsSpec)) parseGetsUptoCard
end Rows
end Go.Proofs.YtfbhcaocfajjpaaDoor
