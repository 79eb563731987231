/-
  DERIVED. GIVEN WITH THE SEED: THE CARDS: each row of YticcjmcmicchjaaDoorRows.lean that lists a variable, with what it lists TIED to the program's text (the seventh form; the later family's looks); each row that meets fmt, with fmt's text TOLD by the authors' own Lean function (tested against real Go, not proved from fmt's source: count such statements apart). THE CARD IS WHAT COUNTS. Prove the row's statement (the work); the ties are given (YticcjmcmicchjaaDoorTie.lean); close each card by the builder's one call (the guide's Derived/Test/ToyasCard.lean, 'card_holds'). Laid BY PROGRAM, IN A SANDBOX (cutbox-door.mjs). By AI agents, Wed Nov 11 2026. No macro, syntax, notation, axiom, sorry.
-/
import Derived.Test.YticcjmcmicchjaaDoorRows
import GoSem.ClaimSeven
namespace Go.Proofs.YticcjmcmicchjaaDoor
namespace Rows

/-- THE TIED CARD OF 'aneroidlaw12.JosephDoubt'. -/
def josephDoubtCard : Claim7 := { stood := { row := josephDoubtRow, standIns := [], harness := (true, "139c22f6bac40ab18f379cdc1fb612252c76db0bcd62904f9a5d1b9f84f56436"), looks := false }, kinds := [], alts := [], laidByText := true, laidKinds := [.data, .data], laidTests := true, laidLooks := .later }
def JosephDoubtCardSaid : Prop := Claim7.holds Tryd.pinned (.plain (OpenSpec.ofChange josephDoubtSpec)) josephDoubtCard

/-- THE TIED CARD OF 'aneroidlaw12.JosephPart'. -/
def josephPartCard : Claim7 := { stood := { row := josephPartRow, standIns := [], harness := (true, "139c22f6bac40ab18f379cdc1fb612252c76db0bcd62904f9a5d1b9f84f56436"), looks := false }, kinds := [], alts := [], laidByText := true, laidKinds := [.data, .data], laidTests := true, laidLooks := .later }
def JosephPartCardSaid : Prop := Claim7.holds Tryd.pinned (.plain (OpenSpec.ofChange josephPartSpec)) josephPartCard

/-- THE TIED CARD OF 'aneroidlaw12.JosephState'. -/
def josephStateCard : Claim7 := { stood := { row := josephStateRow, standIns := [], harness := (true, "139c22f6bac40ab18f379cdc1fb612252c76db0bcd62904f9a5d1b9f84f56436"), looks := false }, kinds := [], alts := [], laidByText := true, laidKinds := [.data, .data], laidTests := true, laidLooks := .later }
def JosephStateCardSaid : Prop := Claim7.holds Tryd.pinned (.plain (OpenSpec.ofChange josephStateSpec)) josephStateCard

/-- THE TIED CARD OF 'aneroidlaw12.JosephNothing'. -/
def josephNothingCard : Claim7 := { stood := { row := josephNothingRow, standIns := [], harness := (true, "139c22f6bac40ab18f379cdc1fb612252c76db0bcd62904f9a5d1b9f84f56436"), looks := false }, kinds := [], alts := [], laidByText := true, laidKinds := [.data, .data], laidTests := true, laidLooks := .later }
def JosephNothingCardSaid : Prop := Claim7.holds Tryd.pinned (.plain (OpenSpec.ofChange josephNothingSpec)) josephNothingCard

/-- THE SECOND FORM's CARD OF 'aneroidlaw12.JosephDoubt'. -/
def josephDoubtUptoCard : Claim7 := { stood := { row := josephDoubtUptoRow, standIns := [], harness := (true, "139c22f6bac40ab18f379cdc1fb612252c76db0bcd62904f9a5d1b9f84f56436"), looks := false }, kinds := [], alts := [], laidByText := true, laidKinds := [.data, .data], laidTests := true, laidLooks := .later }
def JosephDoubtUptoCardSaid : Prop := Claim7.holds Tryd.pinned (.plain (OpenSpec.upto josephDoubtSpec)) josephDoubtUptoCard

/-- THE SECOND FORM's CARD OF 'aneroidlaw12.JosephPart'. -/
def josephPartUptoCard : Claim7 := { stood := { row := josephPartUptoRow, standIns := [], harness := (true, "139c22f6bac40ab18f379cdc1fb612252c76db0bcd62904f9a5d1b9f84f56436"), looks := false }, kinds := [], alts := [], laidByText := true, laidKinds := [.data, .data], laidTests := true, laidLooks := .later }
def JosephPartUptoCardSaid : Prop := Claim7.holds Tryd.pinned (.plain (OpenSpec.upto josephPartSpec)) josephPartUptoCard

/-- THE SECOND FORM's CARD OF 'aneroidlaw12.JosephState'. -/
def josephStateUptoCard : Claim7 := { stood := { row := josephStateUptoRow, standIns := [], harness := (true, "139c22f6bac40ab18f379cdc1fb612252c76db0bcd62904f9a5d1b9f84f56436"), looks := false }, kinds := [], alts := [], laidByText := true, laidKinds := [.data, .data], laidTests := true, laidLooks := .later }
def JosephStateUptoCardSaid : Prop := Claim7.holds Tryd.pinned (.plain (OpenSpec.upto josephStateSpec)) josephStateUptoCard

/-- THE SECOND FORM's CARD OF 'aneroidlaw12.JosephNothing'. -/
def josephNothingUptoCard : Claim7 := { stood := { row := josephNothingUptoRow, standIns := [], harness := (true, "139c22f6bac40ab18f379cdc1fb612252c76db0bcd62904f9a5d1b9f84f56436"), looks := false }, kinds := [], alts := [], laidByText := true, laidKinds := [.data, .data], laidTests := true, laidLooks := .later }
def JosephNothingUptoCardSaid : Prop := Claim7.holds Tryd.pinned (.plain (OpenSpec.upto josephNothingSpec)) josephNothingUptoCard
end Rows
end Go.Proofs.YticcjmcmicchjaaDoor
