/-
  DERIVED. GIVEN WITH THE SEED: THE CARDS: each row of YtlinfennhfphiaaDoorRows.lean that lists a variable, with what it lists TIED to the program's text (the seventh form; the later family's looks); each row that meets fmt, with fmt's text TOLD by the authors' own Lean function (tested against real Go, not proved from fmt's source: count such statements apart). THE CARD IS WHAT COUNTS. Prove the row's statement (the work); the ties are given (YtlinfennhfphiaaDoorTie.lean); close each card by the builder's one call (the guide's Derived/Test/ToyasCard.lean, 'card_holds'). Laid BY PROGRAM, IN A SANDBOX (cutbox-door.mjs). By AI agents, Wed Nov 11 2026. No macro, syntax, notation, axiom, sorry.
-/
import Derived.Test.YtlinfennhfphiaaDoorRows
import GoSem.ClaimSeven
namespace Go.Proofs.YtlinfennhfphiaaDoor
namespace Rows

/-- THE TIED CARD OF 'aneroidlaw05.SymSums'. -/
def symSumsCard : Claim7 := { stood := { row := symSumsRow, standIns := [], harness := (true, "09aba66ce5da61a4ed310a47146edcc645d045f9138de47a9dfbc6c019e48c25"), looks := false }, kinds := [], alts := [], laidByText := true, laidKinds := [.data], laidTests := true, laidLooks := .later }
def SymSumsCardSaid : Prop := Claim7.holds Tryd.pinned (.plain (OpenSpec.ofChange symSumsSpec)) symSumsCard

/-- THE TIED CARD OF 'aneroidlaw05.SymSound'. -/
def symSoundCard : Claim7 := { stood := { row := symSoundRow, standIns := [], harness := (true, "09aba66ce5da61a4ed310a47146edcc645d045f9138de47a9dfbc6c019e48c25"), looks := false }, kinds := [], alts := [], laidByText := true, laidKinds := [.data], laidTests := true, laidLooks := .later }
def SymSoundCardSaid : Prop := Claim7.holds Tryd.pinned (.plain (OpenSpec.ofChange symSoundSpec)) symSoundCard

/-- THE TIED CARD OF 'aneroidlaw09.TamePlays'. -/
def tamePlaysCard : Claim7 := { stood := { row := tamePlaysRow, standIns := [], harness := (true, "09aba66ce5da61a4ed310a47146edcc645d045f9138de47a9dfbc6c019e48c25"), looks := false }, kinds := [], alts := [], laidByText := true, laidKinds := [.data, .data], laidTests := true, laidLooks := .later }
def TamePlaysCardSaid : Prop := Claim7.holds Tryd.pinned (.plain (OpenSpec.ofChange tamePlaysSpec)) tamePlaysCard

/-- THE TIED CARD OF 'aneroidlaw10.GatePasses'. -/
def gatePassesCard : Claim7 := { stood := { row := gatePassesRow, standIns := [], harness := (true, "09aba66ce5da61a4ed310a47146edcc645d045f9138de47a9dfbc6c019e48c25"), looks := false }, kinds := [], alts := [], laidByText := true, laidKinds := [.data], laidTests := true, laidLooks := .later }
def GatePassesCardSaid : Prop := Claim7.holds Tryd.pinned (.plain (OpenSpec.ofChange gatePassesSpec)) gatePassesCard

/-- THE TIED CARD OF 'aneroidlaw10.GateWider'. -/
def gateWiderCard : Claim7 := { stood := { row := gateWiderRow, standIns := [], harness := (true, "09aba66ce5da61a4ed310a47146edcc645d045f9138de47a9dfbc6c019e48c25"), looks := false }, kinds := [], alts := [], laidByText := true, laidKinds := [.data], laidTests := true, laidLooks := .later }
def GateWiderCardSaid : Prop := Claim7.holds Tryd.pinned (.plain (OpenSpec.ofChange gateWiderSpec)) gateWiderCard

/-- THE TIED CARD OF 'aneroidlaw04.VecProducts'. -/
def vecProductsCard : Claim7 := { stood := { row := vecProductsRow, standIns := [], harness := (true, "09aba66ce5da61a4ed310a47146edcc645d045f9138de47a9dfbc6c019e48c25"), looks := false }, kinds := [], alts := [], laidByText := true, laidKinds := [.data], laidTests := true, laidLooks := .later }
def VecProductsCardSaid : Prop := Claim7.holds Tryd.pinned (.plain (OpenSpec.ofChange vecProductsSpec)) vecProductsCard

/-- THE TIED CARD OF 'aneroidlaw04.VecOrder'. -/
def vecOrderCard : Claim7 := { stood := { row := vecOrderRow, standIns := [], harness := (true, "09aba66ce5da61a4ed310a47146edcc645d045f9138de47a9dfbc6c019e48c25"), looks := false }, kinds := [], alts := [], laidByText := true, laidKinds := [.data], laidTests := true, laidLooks := .later }
def VecOrderCardSaid : Prop := Claim7.holds Tryd.pinned (.plain (OpenSpec.ofChange vecOrderSpec)) vecOrderCard

/-- THE TIED CARD OF 'aneroidlaw09.TameSound'. -/
def tameSoundCard : Claim7 := { stood := { row := tameSoundRow, standIns := [], harness := (true, "09aba66ce5da61a4ed310a47146edcc645d045f9138de47a9dfbc6c019e48c25"), looks := false }, kinds := [], alts := [], laidByText := true, laidKinds := [.data, .data], laidTests := true, laidLooks := .later }
def TameSoundCardSaid : Prop := Claim7.holds Tryd.pinned (.plain (OpenSpec.ofChange tameSoundSpec)) tameSoundCard

/-- THE TIED CARD OF 'aneroidlaw09.TameStays'. -/
def tameStaysCard : Claim7 := { stood := { row := tameStaysRow, standIns := [], harness := (true, "09aba66ce5da61a4ed310a47146edcc645d045f9138de47a9dfbc6c019e48c25"), looks := false }, kinds := [], alts := [], laidByText := true, laidKinds := [.data, .data], laidTests := true, laidLooks := .later }
def TameStaysCardSaid : Prop := Claim7.holds Tryd.pinned (.plain (OpenSpec.ofChange tameStaysSpec)) tameStaysCard

/-- THE TIED CARD OF 'aneroidlaw04.VecSums'. -/
def vecSumsCard : Claim7 := { stood := { row := vecSumsRow, standIns := [], harness := (true, "09aba66ce5da61a4ed310a47146edcc645d045f9138de47a9dfbc6c019e48c25"), looks := false }, kinds := [], alts := [], laidByText := true, laidKinds := [.data], laidTests := true, laidLooks := .later }
def VecSumsCardSaid : Prop := Claim7.holds Tryd.pinned (.plain (OpenSpec.ofChange vecSumsSpec)) vecSumsCard

/-- THE SECOND FORM's CARD OF 'aneroidlaw05.SymSums'. -/
def symSumsUptoCard : Claim7 := { stood := { row := symSumsUptoRow, standIns := [], harness := (true, "09aba66ce5da61a4ed310a47146edcc645d045f9138de47a9dfbc6c019e48c25"), looks := false }, kinds := [], alts := [], laidByText := true, laidKinds := [.data], laidTests := true, laidLooks := .later }
def SymSumsUptoCardSaid : Prop := Claim7.holds Tryd.pinned (.plain (OpenSpec.upto symSumsSpec)) symSumsUptoCard

/-- THE SECOND FORM's CARD OF 'aneroidlaw05.SymSound'. -/
def symSoundUptoCard : Claim7 := { stood := { row := symSoundUptoRow, standIns := [], harness := (true, "09aba66ce5da61a4ed310a47146edcc645d045f9138de47a9dfbc6c019e48c25"), looks := false }, kinds := [], alts := [], laidByText := true, laidKinds := [.data], laidTests := true, laidLooks := .later }
def SymSoundUptoCardSaid : Prop := Claim7.holds Tryd.pinned (.plain (OpenSpec.upto symSoundSpec)) symSoundUptoCard

/-- THE SECOND FORM's CARD OF 'aneroidlaw09.TamePlays'. -/
def tamePlaysUptoCard : Claim7 := { stood := { row := tamePlaysUptoRow, standIns := [], harness := (true, "09aba66ce5da61a4ed310a47146edcc645d045f9138de47a9dfbc6c019e48c25"), looks := false }, kinds := [], alts := [], laidByText := true, laidKinds := [.data, .data], laidTests := true, laidLooks := .later }
def TamePlaysUptoCardSaid : Prop := Claim7.holds Tryd.pinned (.plain (OpenSpec.upto tamePlaysSpec)) tamePlaysUptoCard

/-- THE SECOND FORM's CARD OF 'aneroidlaw10.GatePasses'. -/
def gatePassesUptoCard : Claim7 := { stood := { row := gatePassesUptoRow, standIns := [], harness := (true, "09aba66ce5da61a4ed310a47146edcc645d045f9138de47a9dfbc6c019e48c25"), looks := false }, kinds := [], alts := [], laidByText := true, laidKinds := [.data], laidTests := true, laidLooks := .later }
def GatePassesUptoCardSaid : Prop := Claim7.holds Tryd.pinned (.plain (OpenSpec.upto gatePassesSpec)) gatePassesUptoCard

/-- THE SECOND FORM's CARD OF 'aneroidlaw10.GateWider'. -/
def gateWiderUptoCard : Claim7 := { stood := { row := gateWiderUptoRow, standIns := [], harness := (true, "09aba66ce5da61a4ed310a47146edcc645d045f9138de47a9dfbc6c019e48c25"), looks := false }, kinds := [], alts := [], laidByText := true, laidKinds := [.data], laidTests := true, laidLooks := .later }
def GateWiderUptoCardSaid : Prop := Claim7.holds Tryd.pinned (.plain (OpenSpec.upto gateWiderSpec)) gateWiderUptoCard

/-- THE SECOND FORM's CARD OF 'aneroidlaw04.VecProducts'. -/
def vecProductsUptoCard : Claim7 := { stood := { row := vecProductsUptoRow, standIns := [], harness := (true, "09aba66ce5da61a4ed310a47146edcc645d045f9138de47a9dfbc6c019e48c25"), looks := false }, kinds := [], alts := [], laidByText := true, laidKinds := [.data], laidTests := true, laidLooks := .later }
def VecProductsUptoCardSaid : Prop := Claim7.holds Tryd.pinned (.plain (OpenSpec.upto vecProductsSpec)) vecProductsUptoCard

/-- THE SECOND FORM's CARD OF 'aneroidlaw04.VecOrder'. -/
def vecOrderUptoCard : Claim7 := { stood := { row := vecOrderUptoRow, standIns := [], harness := (true, "09aba66ce5da61a4ed310a47146edcc645d045f9138de47a9dfbc6c019e48c25"), looks := false }, kinds := [], alts := [], laidByText := true, laidKinds := [.data], laidTests := true, laidLooks := .later }
def VecOrderUptoCardSaid : Prop := Claim7.holds Tryd.pinned (.plain (OpenSpec.upto vecOrderSpec)) vecOrderUptoCard

/-- THE SECOND FORM's CARD OF 'aneroidlaw09.TameSound'. -/
def tameSoundUptoCard : Claim7 := { stood := { row := tameSoundUptoRow, standIns := [], harness := (true, "09aba66ce5da61a4ed310a47146edcc645d045f9138de47a9dfbc6c019e48c25"), looks := false }, kinds := [], alts := [], laidByText := true, laidKinds := [.data, .data], laidTests := true, laidLooks := .later }
def TameSoundUptoCardSaid : Prop := Claim7.holds Tryd.pinned (.plain (OpenSpec.upto tameSoundSpec)) tameSoundUptoCard

/-- THE SECOND FORM's CARD OF 'aneroidlaw09.TameStays'. -/
def tameStaysUptoCard : Claim7 := { stood := { row := tameStaysUptoRow, standIns := [], harness := (true, "09aba66ce5da61a4ed310a47146edcc645d045f9138de47a9dfbc6c019e48c25"), looks := false }, kinds := [], alts := [], laidByText := true, laidKinds := [.data, .data], laidTests := true, laidLooks := .later }
def TameStaysUptoCardSaid : Prop := Claim7.holds Tryd.pinned (.plain (OpenSpec.upto tameStaysSpec)) tameStaysUptoCard

/-- THE SECOND FORM's CARD OF 'aneroidlaw04.VecSums'. -/
def vecSumsUptoCard : Claim7 := { stood := { row := vecSumsUptoRow, standIns := [], harness := (true, "09aba66ce5da61a4ed310a47146edcc645d045f9138de47a9dfbc6c019e48c25"), looks := false }, kinds := [], alts := [], laidByText := true, laidKinds := [.data], laidTests := true, laidLooks := .later }
def VecSumsUptoCardSaid : Prop := Claim7.holds Tryd.pinned (.plain (OpenSpec.upto vecSumsSpec)) vecSumsUptoCard
end Rows
end Go.Proofs.YtlinfennhfphiaaDoor
