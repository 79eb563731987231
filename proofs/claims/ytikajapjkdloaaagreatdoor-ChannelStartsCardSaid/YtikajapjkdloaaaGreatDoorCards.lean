/-
  DERIVED. GIVEN WITH THE SEED: THE CARDS: each row of YtikajapjkdloaaaGreatDoorRows.lean that lists a variable, with what it lists TIED to the program's text (the seventh form; the later family's looks); each row that meets fmt, with fmt's text TOLD by the authors' own Lean function (tested against real Go, not proved from fmt's source: count such statements apart). THE CARD IS WHAT COUNTS. Prove the row's statement (the work); the ties are given (YtikajapjkdloaaaGreatDoorTie.lean); close each card by the builder's one call (the guide's Derived/Test/ToyasCard.lean, 'card_holds'). Laid BY PROGRAM, IN A SANDBOX (cutbox-door.mjs). By AI agents, Wed Nov 11 2026. No macro, syntax, notation, axiom, sorry.
-/
import Derived.Test.YtikajapjkdloaaaGreatDoorRows
import GoSem.ClaimSeven
namespace Go.Proofs.YtikajapjkdloaaaGreatDoor
namespace Rows

/-- THE TIED CARD OF 'aneroidlaw20.ChannelStarts'. -/
def channelStartsCard : Claim7 := { stood := { row := channelStartsRow, standIns := [], harness := (true, "e757fc6040364128829a1e54b8a1f17c9ce330c1ec1981d81c1ea3e0f413e15a"), looks := false }, kinds := [], alts := [], laidByText := true, laidKinds := [.data, .data, .data, .widerDeep, .data], laidTests := true, laidLooks := .later }
def ChannelStartsCardSaid : Prop := Claim7.holds Tryz.pinned (.plain (OpenSpec.ofChange channelStartsSpec)) channelStartsCard

/-- THE TIED CARD OF 'aneroidlaw20.ChannelRests'. -/
def channelRestsCard : Claim7 := { stood := { row := channelRestsRow, standIns := [], harness := (true, "e757fc6040364128829a1e54b8a1f17c9ce330c1ec1981d81c1ea3e0f413e15a"), looks := false }, kinds := [], alts := [], laidByText := true, laidKinds := [.data, .data, .data, .widerDeep, .data], laidTests := true, laidLooks := .later }
def ChannelRestsCardSaid : Prop := Claim7.holds Tryz.pinned (.plain (OpenSpec.ofChange channelRestsSpec)) channelRestsCard

/-- THE TIED CARD OF 'aneroidlaw20.ChannelTame'. -/
def channelTameCard : Claim7 := { stood := { row := channelTameRow, standIns := [], harness := (true, "e757fc6040364128829a1e54b8a1f17c9ce330c1ec1981d81c1ea3e0f413e15a"), looks := false }, kinds := [], alts := [], laidByText := true, laidKinds := [.data, .data, .data, .widerDeep, .data], laidTests := true, laidLooks := .later }
def ChannelTameCardSaid : Prop := Claim7.holds Tryz.pinned (.plain (OpenSpec.ofChange channelTameSpec)) channelTameCard

/-- THE TIED CARD OF 'aneroidlaw20.ChannelCopies'. -/
def channelCopiesCard : Claim7 := { stood := { row := channelCopiesRow, standIns := [], harness := (true, "e757fc6040364128829a1e54b8a1f17c9ce330c1ec1981d81c1ea3e0f413e15a"), looks := false }, kinds := [], alts := [], laidByText := true, laidKinds := [.data, .data, .data, .widerDeep, .data], laidTests := true, laidLooks := .later }
def ChannelCopiesCardSaid : Prop := Claim7.holds Tryz.pinned (.plain (OpenSpec.ofChange channelCopiesSpec)) channelCopiesCard

/-- THE TIED CARD OF 'aneroidlaw20.ChannelNone'. -/
def channelNoneCard : Claim7 := { stood := { row := channelNoneRow, standIns := [], harness := (true, "e757fc6040364128829a1e54b8a1f17c9ce330c1ec1981d81c1ea3e0f413e15a"), looks := false }, kinds := [], alts := [], laidByText := true, laidKinds := [.data, .data, .data, .widerDeep, .data], laidTests := true, laidLooks := .later }
def ChannelNoneCardSaid : Prop := Claim7.holds Tryz.pinned (.plain (OpenSpec.ofChange channelNoneSpec)) channelNoneCard

/-- THE TIED CARD OF 'aneroidlaw20.ChannelHeld'. -/
def channelHeldCard : Claim7 := { stood := { row := channelHeldRow, standIns := [], harness := (true, "e757fc6040364128829a1e54b8a1f17c9ce330c1ec1981d81c1ea3e0f413e15a"), looks := false }, kinds := [], alts := [], laidByText := true, laidKinds := [.data, .data, .data, .widerDeep, .data], laidTests := true, laidLooks := .later }
def ChannelHeldCardSaid : Prop := Claim7.holds Tryz.pinned (.plain (OpenSpec.ofChange channelHeldSpec)) channelHeldCard

/-- THE TIED CARD OF 'aneroidlaw20.ChannelLost'. -/
def channelLostCard : Claim7 := { stood := { row := channelLostRow, standIns := [], harness := (true, "e757fc6040364128829a1e54b8a1f17c9ce330c1ec1981d81c1ea3e0f413e15a"), looks := false }, kinds := [], alts := [], laidByText := true, laidKinds := [.data, .data, .data, .widerDeep, .data], laidTests := true, laidLooks := .later }
def ChannelLostCardSaid : Prop := Claim7.holds Tryz.pinned (.plain (OpenSpec.ofChange channelLostSpec)) channelLostCard

/-- THE TIED CARD OF 'aneroidlaw20.ChannelPlays'. -/
def channelPlaysCard : Claim7 := { stood := { row := channelPlaysRow, standIns := [], harness := (true, "e757fc6040364128829a1e54b8a1f17c9ce330c1ec1981d81c1ea3e0f413e15a"), looks := false }, kinds := [], alts := [], laidByText := true, laidKinds := [.data, .data, .data, .widerDeep, .data], laidTests := true, laidLooks := .later }
def ChannelPlaysCardSaid : Prop := Claim7.holds Tryz.pinned (.plain (OpenSpec.ofChange channelPlaysSpec)) channelPlaysCard

/-- THE SECOND FORM's CARD OF 'aneroidlaw20.ChannelStarts'. -/
def channelStartsUptoCard : Claim7 := { stood := { row := channelStartsUptoRow, standIns := [], harness := (true, "e757fc6040364128829a1e54b8a1f17c9ce330c1ec1981d81c1ea3e0f413e15a"), looks := false }, kinds := [], alts := [], laidByText := true, laidKinds := [.data, .data, .data, .widerDeep, .data], laidTests := true, laidLooks := .later }
def ChannelStartsUptoCardSaid : Prop := Claim7.holds Tryz.pinned (.plain (OpenSpec.upto channelStartsSpec)) channelStartsUptoCard

/-- THE SECOND FORM's CARD OF 'aneroidlaw20.ChannelRests'. -/
def channelRestsUptoCard : Claim7 := { stood := { row := channelRestsUptoRow, standIns := [], harness := (true, "e757fc6040364128829a1e54b8a1f17c9ce330c1ec1981d81c1ea3e0f413e15a"), looks := false }, kinds := [], alts := [], laidByText := true, laidKinds := [.data, .data, .data, .widerDeep, .data], laidTests := true, laidLooks := .later }
def ChannelRestsUptoCardSaid : Prop := Claim7.holds Tryz.pinned (.plain (OpenSpec.upto channelRestsSpec)) channelRestsUptoCard

/-- THE SECOND FORM's CARD OF 'aneroidlaw20.ChannelTame'. -/
def channelTameUptoCard : Claim7 := { stood := { row := channelTameUptoRow, standIns := [], harness := (true, "e757fc6040364128829a1e54b8a1f17c9ce330c1ec1981d81c1ea3e0f413e15a"), looks := false }, kinds := [], alts := [], laidByText := true, laidKinds := [.data, .data, .data, .widerDeep, .data], laidTests := true, laidLooks := .later }
def ChannelTameUptoCardSaid : Prop := Claim7.holds Tryz.pinned (.plain (OpenSpec.upto channelTameSpec)) channelTameUptoCard

/-- THE SECOND FORM's CARD OF 'aneroidlaw20.ChannelCopies'. -/
def channelCopiesUptoCard : Claim7 := { stood := { row := channelCopiesUptoRow, standIns := [], harness := (true, "e757fc6040364128829a1e54b8a1f17c9ce330c1ec1981d81c1ea3e0f413e15a"), looks := false }, kinds := [], alts := [], laidByText := true, laidKinds := [.data, .data, .data, .widerDeep, .data], laidTests := true, laidLooks := .later }
def ChannelCopiesUptoCardSaid : Prop := Claim7.holds Tryz.pinned (.plain (OpenSpec.upto channelCopiesSpec)) channelCopiesUptoCard

/-- THE SECOND FORM's CARD OF 'aneroidlaw20.ChannelNone'. -/
def channelNoneUptoCard : Claim7 := { stood := { row := channelNoneUptoRow, standIns := [], harness := (true, "e757fc6040364128829a1e54b8a1f17c9ce330c1ec1981d81c1ea3e0f413e15a"), looks := false }, kinds := [], alts := [], laidByText := true, laidKinds := [.data, .data, .data, .widerDeep, .data], laidTests := true, laidLooks := .later }
def ChannelNoneUptoCardSaid : Prop := Claim7.holds Tryz.pinned (.plain (OpenSpec.upto channelNoneSpec)) channelNoneUptoCard

/-- THE SECOND FORM's CARD OF 'aneroidlaw20.ChannelHeld'. -/
def channelHeldUptoCard : Claim7 := { stood := { row := channelHeldUptoRow, standIns := [], harness := (true, "e757fc6040364128829a1e54b8a1f17c9ce330c1ec1981d81c1ea3e0f413e15a"), looks := false }, kinds := [], alts := [], laidByText := true, laidKinds := [.data, .data, .data, .widerDeep, .data], laidTests := true, laidLooks := .later }
def ChannelHeldUptoCardSaid : Prop := Claim7.holds Tryz.pinned (.plain (OpenSpec.upto channelHeldSpec)) channelHeldUptoCard

/-- THE SECOND FORM's CARD OF 'aneroidlaw20.ChannelLost'. -/
def channelLostUptoCard : Claim7 := { stood := { row := channelLostUptoRow, standIns := [], harness := (true, "e757fc6040364128829a1e54b8a1f17c9ce330c1ec1981d81c1ea3e0f413e15a"), looks := false }, kinds := [], alts := [], laidByText := true, laidKinds := [.data, .data, .data, .widerDeep, .data], laidTests := true, laidLooks := .later }
def ChannelLostUptoCardSaid : Prop := Claim7.holds Tryz.pinned (.plain (OpenSpec.upto channelLostSpec)) channelLostUptoCard

/-- THE SECOND FORM's CARD OF 'aneroidlaw20.ChannelPlays'. -/
def channelPlaysUptoCard : Claim7 := { stood := { row := channelPlaysUptoRow, standIns := [], harness := (true, "e757fc6040364128829a1e54b8a1f17c9ce330c1ec1981d81c1ea3e0f413e15a"), looks := false }, kinds := [], alts := [], laidByText := true, laidKinds := [.data, .data, .data, .widerDeep, .data], laidTests := true, laidLooks := .later }
def ChannelPlaysUptoCardSaid : Prop := Claim7.holds Tryz.pinned (.plain (OpenSpec.upto channelPlaysSpec)) channelPlaysUptoCard
end Rows
end Go.Proofs.YtikajapjkdloaaaGreatDoor
