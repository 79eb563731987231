/-
  DERIVED. GIVEN WITH THE SEED: THE CARDS: each row of YtgodfbhjfhdihaaDoorRows.lean that lists a variable, with what it lists TIED to the program's text (the seventh form; the later family's looks); each row that meets fmt, with fmt's text TOLD by the authors' own Lean function (tested against real Go, not proved from fmt's source: count such statements apart). THE CARD IS WHAT COUNTS. Prove the row's statement (the work); the ties are given (YtgodfbhjfhdihaaDoorTie.lean); close each card by the builder's one call (the guide's Derived/Test/ToyasCard.lean, 'card_holds'). Laid BY PROGRAM, IN A SANDBOX (cutbox-door.mjs). By AI agents, Wed Nov 11 2026. No macro, syntax, notation, axiom, sorry.
-/
import Derived.Test.YtgodfbhjfhdihaaDoorRows
import GoSem.ClaimSeven
namespace Go.Proofs.YtgodfbhjfhdihaaDoor
namespace Rows

/-- THE TIED CARD OF 'aneroidlaw03.RootOf'. -/
def rootOfCard : Claim7 := { stood := { row := rootOfRow, standIns := [], harness := (true, "a7251a3e1d44be62124d8b8ea8210cda8e94f47cbb44d0414de64cb28213a714"), looks := false }, kinds := [], alts := [], laidByText := true, laidKinds := [.data], laidTests := true, laidLooks := .later }
def RootOfCardSaid : Prop := Claim7.holds Tryd.pinned (.plain (OpenSpec.ofChange rootOfSpec)) rootOfCard

/-- THE TIED CARD OF 'aneroidlaw03.RootMean'. -/
def rootMeanCard : Claim7 := { stood := { row := rootMeanRow, standIns := [], harness := (true, "a7251a3e1d44be62124d8b8ea8210cda8e94f47cbb44d0414de64cb28213a714"), looks := false }, kinds := [], alts := [], laidByText := true, laidKinds := [.data], laidTests := true, laidLooks := .later }
def RootMeanCardSaid : Prop := Claim7.holds Tryd.pinned (.plain (OpenSpec.ofChange rootMeanSpec)) rootMeanCard

/-- THE TIED CARD OF 'aneroidlaw03.RootSquares'. -/
def rootSquaresCard : Claim7 := { stood := { row := rootSquaresRow, standIns := [], harness := (true, "a7251a3e1d44be62124d8b8ea8210cda8e94f47cbb44d0414de64cb28213a714"), looks := false }, kinds := [], alts := [], laidByText := true, laidKinds := [.data], laidTests := true, laidLooks := .later }
def RootSquaresCardSaid : Prop := Claim7.holds Tryd.pinned (.plain (OpenSpec.ofChange rootSquaresSpec)) rootSquaresCard

/-- THE TIED CARD OF 'aneroidlaw02.FixSums'. -/
def fixSumsCard : Claim7 := { stood := { row := fixSumsRow, standIns := [], harness := (true, "a7251a3e1d44be62124d8b8ea8210cda8e94f47cbb44d0414de64cb28213a714"), looks := false }, kinds := [], alts := [], laidByText := true, laidKinds := [.data], laidTests := true, laidLooks := .later }
def FixSumsCardSaid : Prop := Claim7.holds Tryd.pinned (.plain (OpenSpec.ofChange fixSumsSpec)) fixSumsCard

/-- THE TIED CARD OF 'aneroidlaw02.FixEdges'. -/
def fixEdgesCard : Claim7 := { stood := { row := fixEdgesRow, standIns := [], harness := (true, "a7251a3e1d44be62124d8b8ea8210cda8e94f47cbb44d0414de64cb28213a714"), looks := false }, kinds := [], alts := [], laidByText := true, laidKinds := [.data], laidTests := true, laidLooks := .later }
def FixEdgesCardSaid : Prop := Claim7.holds Tryd.pinned (.plain (OpenSpec.ofChange fixEdgesSpec)) fixEdgesCard

/-- THE TIED CARD OF 'aneroidlaw01.WideDivides'. -/
def wideDividesCard : Claim7 := { stood := { row := wideDividesRow, standIns := [], harness := (true, "a7251a3e1d44be62124d8b8ea8210cda8e94f47cbb44d0414de64cb28213a714"), looks := false }, kinds := [], alts := [], laidByText := true, laidKinds := [.data, .data], laidTests := true, laidLooks := .later }
def WideDividesCardSaid : Prop := Claim7.holds Tryd.pinned (.plain (OpenSpec.ofChange wideDividesSpec)) wideDividesCard

/-- THE TIED CARD OF 'aneroidlaw01.WideSums'. -/
def wideSumsCard : Claim7 := { stood := { row := wideSumsRow, standIns := [], harness := (true, "a7251a3e1d44be62124d8b8ea8210cda8e94f47cbb44d0414de64cb28213a714"), looks := false }, kinds := [], alts := [], laidByText := true, laidKinds := [.data, .data], laidTests := true, laidLooks := .later }
def WideSumsCardSaid : Prop := Claim7.holds Tryd.pinned (.plain (OpenSpec.ofChange wideSumsSpec)) wideSumsCard

/-- THE TIED CARD OF 'aneroidlaw01.WideShifts'. -/
def wideShiftsCard : Claim7 := { stood := { row := wideShiftsRow, standIns := [], harness := (true, "a7251a3e1d44be62124d8b8ea8210cda8e94f47cbb44d0414de64cb28213a714"), looks := false }, kinds := [], alts := [], laidByText := true, laidKinds := [.data, .data], laidTests := true, laidLooks := .later }
def WideShiftsCardSaid : Prop := Claim7.holds Tryd.pinned (.plain (OpenSpec.ofChange wideShiftsSpec)) wideShiftsCard

/-- THE TIED CARD OF 'aneroidlaw01.WideProducts'. -/
def wideProductsCard : Claim7 := { stood := { row := wideProductsRow, standIns := [], harness := (true, "a7251a3e1d44be62124d8b8ea8210cda8e94f47cbb44d0414de64cb28213a714"), looks := false }, kinds := [], alts := [], laidByText := true, laidKinds := [.data, .data], laidTests := true, laidLooks := .later }
def WideProductsCardSaid : Prop := Claim7.holds Tryd.pinned (.plain (OpenSpec.ofChange wideProductsSpec)) wideProductsCard

/-- THE TIED CARD OF 'aneroidlaw02.FixProducts'. -/
def fixProductsCard : Claim7 := { stood := { row := fixProductsRow, standIns := [], harness := (true, "a7251a3e1d44be62124d8b8ea8210cda8e94f47cbb44d0414de64cb28213a714"), looks := false }, kinds := [], alts := [], laidByText := true, laidKinds := [.data, .data], laidTests := true, laidLooks := .later }
def FixProductsCardSaid : Prop := Claim7.holds Tryd.pinned (.plain (OpenSpec.ofChange fixProductsSpec)) fixProductsCard

/-- THE TIED CARD OF 'aneroidlaw02.FixOne'. -/
def fixOneCard : Claim7 := { stood := { row := fixOneRow, standIns := [], harness := (true, "a7251a3e1d44be62124d8b8ea8210cda8e94f47cbb44d0414de64cb28213a714"), looks := false }, kinds := [], alts := [], laidByText := true, laidKinds := [.data, .data], laidTests := true, laidLooks := .later }
def FixOneCardSaid : Prop := Claim7.holds Tryd.pinned (.plain (OpenSpec.ofChange fixOneSpec)) fixOneCard

/-- THE TIED CARD OF 'aneroidlaw01.WideBack'. -/
def wideBackCard : Claim7 := { stood := { row := wideBackRow, standIns := [], harness := (true, "a7251a3e1d44be62124d8b8ea8210cda8e94f47cbb44d0414de64cb28213a714"), looks := false }, kinds := [], alts := [], laidByText := true, laidKinds := [.data, .data], laidTests := true, laidLooks := .later }
def WideBackCardSaid : Prop := Claim7.holds Tryd.pinned (.plain (OpenSpec.ofChange wideBackSpec)) wideBackCard

/-- THE SECOND FORM's CARD OF 'aneroidlaw03.RootOf'. -/
def rootOfUptoCard : Claim7 := { stood := { row := rootOfUptoRow, standIns := [], harness := (true, "a7251a3e1d44be62124d8b8ea8210cda8e94f47cbb44d0414de64cb28213a714"), looks := false }, kinds := [], alts := [], laidByText := true, laidKinds := [.data], laidTests := true, laidLooks := .later }
def RootOfUptoCardSaid : Prop := Claim7.holds Tryd.pinned (.plain (OpenSpec.upto rootOfSpec)) rootOfUptoCard

/-- THE SECOND FORM's CARD OF 'aneroidlaw03.RootMean'. -/
def rootMeanUptoCard : Claim7 := { stood := { row := rootMeanUptoRow, standIns := [], harness := (true, "a7251a3e1d44be62124d8b8ea8210cda8e94f47cbb44d0414de64cb28213a714"), looks := false }, kinds := [], alts := [], laidByText := true, laidKinds := [.data], laidTests := true, laidLooks := .later }
def RootMeanUptoCardSaid : Prop := Claim7.holds Tryd.pinned (.plain (OpenSpec.upto rootMeanSpec)) rootMeanUptoCard

/-- THE SECOND FORM's CARD OF 'aneroidlaw03.RootSquares'. -/
def rootSquaresUptoCard : Claim7 := { stood := { row := rootSquaresUptoRow, standIns := [], harness := (true, "a7251a3e1d44be62124d8b8ea8210cda8e94f47cbb44d0414de64cb28213a714"), looks := false }, kinds := [], alts := [], laidByText := true, laidKinds := [.data], laidTests := true, laidLooks := .later }
def RootSquaresUptoCardSaid : Prop := Claim7.holds Tryd.pinned (.plain (OpenSpec.upto rootSquaresSpec)) rootSquaresUptoCard

/-- THE SECOND FORM's CARD OF 'aneroidlaw02.FixSums'. -/
def fixSumsUptoCard : Claim7 := { stood := { row := fixSumsUptoRow, standIns := [], harness := (true, "a7251a3e1d44be62124d8b8ea8210cda8e94f47cbb44d0414de64cb28213a714"), looks := false }, kinds := [], alts := [], laidByText := true, laidKinds := [.data], laidTests := true, laidLooks := .later }
def FixSumsUptoCardSaid : Prop := Claim7.holds Tryd.pinned (.plain (OpenSpec.upto fixSumsSpec)) fixSumsUptoCard

/-- THE SECOND FORM's CARD OF 'aneroidlaw02.FixEdges'. -/
def fixEdgesUptoCard : Claim7 := { stood := { row := fixEdgesUptoRow, standIns := [], harness := (true, "a7251a3e1d44be62124d8b8ea8210cda8e94f47cbb44d0414de64cb28213a714"), looks := false }, kinds := [], alts := [], laidByText := true, laidKinds := [.data], laidTests := true, laidLooks := .later }
def FixEdgesUptoCardSaid : Prop := Claim7.holds Tryd.pinned (.plain (OpenSpec.upto fixEdgesSpec)) fixEdgesUptoCard

/-- THE SECOND FORM's CARD OF 'aneroidlaw01.WideDivides'. -/
def wideDividesUptoCard : Claim7 := { stood := { row := wideDividesUptoRow, standIns := [], harness := (true, "a7251a3e1d44be62124d8b8ea8210cda8e94f47cbb44d0414de64cb28213a714"), looks := false }, kinds := [], alts := [], laidByText := true, laidKinds := [.data, .data], laidTests := true, laidLooks := .later }
def WideDividesUptoCardSaid : Prop := Claim7.holds Tryd.pinned (.plain (OpenSpec.upto wideDividesSpec)) wideDividesUptoCard

/-- THE SECOND FORM's CARD OF 'aneroidlaw01.WideSums'. -/
def wideSumsUptoCard : Claim7 := { stood := { row := wideSumsUptoRow, standIns := [], harness := (true, "a7251a3e1d44be62124d8b8ea8210cda8e94f47cbb44d0414de64cb28213a714"), looks := false }, kinds := [], alts := [], laidByText := true, laidKinds := [.data, .data], laidTests := true, laidLooks := .later }
def WideSumsUptoCardSaid : Prop := Claim7.holds Tryd.pinned (.plain (OpenSpec.upto wideSumsSpec)) wideSumsUptoCard

/-- THE SECOND FORM's CARD OF 'aneroidlaw01.WideShifts'. -/
def wideShiftsUptoCard : Claim7 := { stood := { row := wideShiftsUptoRow, standIns := [], harness := (true, "a7251a3e1d44be62124d8b8ea8210cda8e94f47cbb44d0414de64cb28213a714"), looks := false }, kinds := [], alts := [], laidByText := true, laidKinds := [.data, .data], laidTests := true, laidLooks := .later }
def WideShiftsUptoCardSaid : Prop := Claim7.holds Tryd.pinned (.plain (OpenSpec.upto wideShiftsSpec)) wideShiftsUptoCard

/-- THE SECOND FORM's CARD OF 'aneroidlaw01.WideProducts'. -/
def wideProductsUptoCard : Claim7 := { stood := { row := wideProductsUptoRow, standIns := [], harness := (true, "a7251a3e1d44be62124d8b8ea8210cda8e94f47cbb44d0414de64cb28213a714"), looks := false }, kinds := [], alts := [], laidByText := true, laidKinds := [.data, .data], laidTests := true, laidLooks := .later }
def WideProductsUptoCardSaid : Prop := Claim7.holds Tryd.pinned (.plain (OpenSpec.upto wideProductsSpec)) wideProductsUptoCard

/-- THE SECOND FORM's CARD OF 'aneroidlaw02.FixProducts'. -/
def fixProductsUptoCard : Claim7 := { stood := { row := fixProductsUptoRow, standIns := [], harness := (true, "a7251a3e1d44be62124d8b8ea8210cda8e94f47cbb44d0414de64cb28213a714"), looks := false }, kinds := [], alts := [], laidByText := true, laidKinds := [.data, .data], laidTests := true, laidLooks := .later }
def FixProductsUptoCardSaid : Prop := Claim7.holds Tryd.pinned (.plain (OpenSpec.upto fixProductsSpec)) fixProductsUptoCard

/-- THE SECOND FORM's CARD OF 'aneroidlaw02.FixOne'. -/
def fixOneUptoCard : Claim7 := { stood := { row := fixOneUptoRow, standIns := [], harness := (true, "a7251a3e1d44be62124d8b8ea8210cda8e94f47cbb44d0414de64cb28213a714"), looks := false }, kinds := [], alts := [], laidByText := true, laidKinds := [.data, .data], laidTests := true, laidLooks := .later }
def FixOneUptoCardSaid : Prop := Claim7.holds Tryd.pinned (.plain (OpenSpec.upto fixOneSpec)) fixOneUptoCard

/-- THE SECOND FORM's CARD OF 'aneroidlaw01.WideBack'. -/
def wideBackUptoCard : Claim7 := { stood := { row := wideBackUptoRow, standIns := [], harness := (true, "a7251a3e1d44be62124d8b8ea8210cda8e94f47cbb44d0414de64cb28213a714"), looks := false }, kinds := [], alts := [], laidByText := true, laidKinds := [.data, .data], laidTests := true, laidLooks := .later }
def WideBackUptoCardSaid : Prop := Claim7.holds Tryd.pinned (.plain (OpenSpec.upto wideBackSpec)) wideBackUptoCard
end Rows
end Go.Proofs.YtgodfbhjfhdihaaDoor
