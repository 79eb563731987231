/-
  DERIVED. GIVEN WITH THE SEED: THE CARDS: each row of YtpgkchbgjciinaaDoorRows.lean that lists a variable, with what it lists TIED to the program's text (the seventh form; the later family's looks); each row that meets fmt, with fmt's text TOLD by the authors' own Lean function (tested against real Go, not proved from fmt's source: count such statements apart). THE CARD IS WHAT COUNTS. Prove the row's statement (the work); the ties are given (YtpgkchbgjciinaaDoorTie.lean); close each card by the builder's one call (the guide's Derived/Test/ToyasCard.lean, 'card_holds'). Laid BY PROGRAM, IN A SANDBOX (cutbox-door.mjs). By AI agents, Wed Nov 11 2026. No macro, syntax, notation, axiom, sorry.
-/
import Derived.Test.YtpgkchbgjciinaaDoorRows
import GoSem.ClaimSeven
namespace Go.Proofs.YtpgkchbgjciinaaDoor
namespace Rows

/-- THE TIED CARD OF 'aneroidlaw05.SymEntries'. -/
def symEntriesCard : Claim7 := { stood := { row := symEntriesRow, standIns := [], harness := (true, "5f7d9bc48433f9aa088981cdada61c72e3dbe1e3da0ba4ec06605c5ccc6a4b55"), looks := false }, kinds := [], alts := [], laidByText := true, laidKinds := [.data], laidTests := true, laidLooks := .later }
def SymEntriesCardSaid : Prop := Claim7.holds Tryd.pinned (.plain (OpenSpec.ofChange symEntriesSpec)) symEntriesCard

/-- THE TIED CARD OF 'aneroidlaw05.SymSums'. -/
def symSumsCard : Claim7 := { stood := { row := symSumsRow, standIns := [], harness := (true, "5f7d9bc48433f9aa088981cdada61c72e3dbe1e3da0ba4ec06605c5ccc6a4b55"), looks := false }, kinds := [], alts := [], laidByText := true, laidKinds := [.data], laidTests := true, laidLooks := .later }
def SymSumsCardSaid : Prop := Claim7.holds Tryd.pinned (.plain (OpenSpec.ofChange symSumsSpec)) symSumsCard

/-- THE TIED CARD OF 'aneroidlaw05.SymSound'. -/
def symSoundCard : Claim7 := { stood := { row := symSoundRow, standIns := [], harness := (true, "5f7d9bc48433f9aa088981cdada61c72e3dbe1e3da0ba4ec06605c5ccc6a4b55"), looks := false }, kinds := [], alts := [], laidByText := true, laidKinds := [.data], laidTests := true, laidLooks := .later }
def SymSoundCardSaid : Prop := Claim7.holds Tryd.pinned (.plain (OpenSpec.ofChange symSoundSpec)) symSoundCard

/-- THE TIED CARD OF 'aneroidlaw09.TamePlays'. -/
def tamePlaysCard : Claim7 := { stood := { row := tamePlaysRow, standIns := [], harness := (true, "5f7d9bc48433f9aa088981cdada61c72e3dbe1e3da0ba4ec06605c5ccc6a4b55"), looks := false }, kinds := [], alts := [], laidByText := true, laidKinds := [.data, .data], laidTests := true, laidLooks := .later }
def TamePlaysCardSaid : Prop := Claim7.holds Tryd.pinned (.plain (OpenSpec.ofChange tamePlaysSpec)) tamePlaysCard

/-- THE TIED CARD OF 'aneroidlaw09.TameSound'. -/
def tameSoundCard : Claim7 := { stood := { row := tameSoundRow, standIns := [], harness := (true, "5f7d9bc48433f9aa088981cdada61c72e3dbe1e3da0ba4ec06605c5ccc6a4b55"), looks := false }, kinds := [], alts := [], laidByText := true, laidKinds := [.data, .data], laidTests := true, laidLooks := .later }
def TameSoundCardSaid : Prop := Claim7.holds Tryd.pinned (.plain (OpenSpec.ofChange tameSoundSpec)) tameSoundCard

/-- THE TIED CARD OF 'aneroidlaw09.TameStays'. -/
def tameStaysCard : Claim7 := { stood := { row := tameStaysRow, standIns := [], harness := (true, "5f7d9bc48433f9aa088981cdada61c72e3dbe1e3da0ba4ec06605c5ccc6a4b55"), looks := false }, kinds := [], alts := [], laidByText := true, laidKinds := [.data, .data], laidTests := true, laidLooks := .later }
def TameStaysCardSaid : Prop := Claim7.holds Tryd.pinned (.plain (OpenSpec.ofChange tameStaysSpec)) tameStaysCard

/-- THE SECOND FORM's CARD OF 'aneroidlaw05.SymEntries'. -/
def symEntriesUptoCard : Claim7 := { stood := { row := symEntriesUptoRow, standIns := [], harness := (true, "5f7d9bc48433f9aa088981cdada61c72e3dbe1e3da0ba4ec06605c5ccc6a4b55"), looks := false }, kinds := [], alts := [], laidByText := true, laidKinds := [.data], laidTests := true, laidLooks := .later }
def SymEntriesUptoCardSaid : Prop := Claim7.holds Tryd.pinned (.plain (OpenSpec.upto symEntriesSpec)) symEntriesUptoCard

/-- THE SECOND FORM's CARD OF 'aneroidlaw05.SymSums'. -/
def symSumsUptoCard : Claim7 := { stood := { row := symSumsUptoRow, standIns := [], harness := (true, "5f7d9bc48433f9aa088981cdada61c72e3dbe1e3da0ba4ec06605c5ccc6a4b55"), looks := false }, kinds := [], alts := [], laidByText := true, laidKinds := [.data], laidTests := true, laidLooks := .later }
def SymSumsUptoCardSaid : Prop := Claim7.holds Tryd.pinned (.plain (OpenSpec.upto symSumsSpec)) symSumsUptoCard

/-- THE SECOND FORM's CARD OF 'aneroidlaw05.SymSound'. -/
def symSoundUptoCard : Claim7 := { stood := { row := symSoundUptoRow, standIns := [], harness := (true, "5f7d9bc48433f9aa088981cdada61c72e3dbe1e3da0ba4ec06605c5ccc6a4b55"), looks := false }, kinds := [], alts := [], laidByText := true, laidKinds := [.data], laidTests := true, laidLooks := .later }
def SymSoundUptoCardSaid : Prop := Claim7.holds Tryd.pinned (.plain (OpenSpec.upto symSoundSpec)) symSoundUptoCard

/-- THE SECOND FORM's CARD OF 'aneroidlaw09.TamePlays'. -/
def tamePlaysUptoCard : Claim7 := { stood := { row := tamePlaysUptoRow, standIns := [], harness := (true, "5f7d9bc48433f9aa088981cdada61c72e3dbe1e3da0ba4ec06605c5ccc6a4b55"), looks := false }, kinds := [], alts := [], laidByText := true, laidKinds := [.data, .data], laidTests := true, laidLooks := .later }
def TamePlaysUptoCardSaid : Prop := Claim7.holds Tryd.pinned (.plain (OpenSpec.upto tamePlaysSpec)) tamePlaysUptoCard

/-- THE SECOND FORM's CARD OF 'aneroidlaw09.TameSound'. -/
def tameSoundUptoCard : Claim7 := { stood := { row := tameSoundUptoRow, standIns := [], harness := (true, "5f7d9bc48433f9aa088981cdada61c72e3dbe1e3da0ba4ec06605c5ccc6a4b55"), looks := false }, kinds := [], alts := [], laidByText := true, laidKinds := [.data, .data], laidTests := true, laidLooks := .later }
def TameSoundUptoCardSaid : Prop := Claim7.holds Tryd.pinned (.plain (OpenSpec.upto tameSoundSpec)) tameSoundUptoCard

/-- THE SECOND FORM's CARD OF 'aneroidlaw09.TameStays'. -/
def tameStaysUptoCard : Claim7 := { stood := { row := tameStaysUptoRow, standIns := [], harness := (true, "5f7d9bc48433f9aa088981cdada61c72e3dbe1e3da0ba4ec06605c5ccc6a4b55"), looks := false }, kinds := [], alts := [], laidByText := true, laidKinds := [.data, .data], laidTests := true, laidLooks := .later }
def TameStaysUptoCardSaid : Prop := Claim7.holds Tryd.pinned (.plain (OpenSpec.upto tameStaysSpec)) tameStaysUptoCard
end Rows
end Go.Proofs.YtpgkchbgjciinaaDoor
