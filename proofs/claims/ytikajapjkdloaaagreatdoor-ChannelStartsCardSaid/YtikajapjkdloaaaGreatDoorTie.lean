/-
  DERIVED. GIVEN WITH THE SEED: THE PROGRAM's TIES (one call each: nine closed facts by the kernel) AND EACH ROW's TIE, after the 31st guide's Derived/Test/Toyas{Tie, Card}.lean. No idea stands in it: it is a product of the set-up. Laid BY PROGRAM, IN A SANDBOX (cutbox-door.mjs). By AI agents, Wed Nov 11 2026. No macro, syntax, notation, axiom, sorry.
-/
import Derived.Test.YtikajapjkdloaaaGreatDoorRows
import Derived.LaidByTextLater
import Derived.SevenTiedAt
import Derived.LaidSub
import Derived.LaidOnce
namespace Go.Proofs.YtikajapjkdloaaaGreatDoor
open Go
set_option maxRecDepth 100000
theorem seatTie1 : Tryz.prog.laidByTextLater [("aneroid/wide.none", Rows.laid_aneroid_wide_none), ("aneroid/wide.least", Rows.laid_aneroid_wide_least), ("aneroid/sym.places", Rows.laid_aneroid_sym_places), ("aneroid/atmos.table", Rows.laid_aneroid_atmos_table), ("aneroid/spread.rows", Rows.laid_aneroid_spread_rows)] [.data, .data, .data, .widerDeep, .data] true :=
  Program.laidByTextLater_by_one 40 8 48 (by kernel_rfl) (by kernel_rfl) (by kernel_rfl) (by kernel_rfl) (by kernel_rfl) (by kernel_rfl) (fun _ _ => by kernel_rfl)
theorem noOwnUnsafe : Tryz.pinned.checked.prog.headLifts.contains "ownunsafe" = false := by kernel_rfl
theorem tie : Tryz.prog.laidByTextLater [("aneroid/wide.none", Rows.laid_aneroid_wide_none), ("aneroid/wide.least", Rows.laid_aneroid_wide_least), ("aneroid/sym.places", Rows.laid_aneroid_sym_places), ("aneroid/atmos.table", Rows.laid_aneroid_atmos_table), ("aneroid/spread.rows", Rows.laid_aneroid_spread_rows)] [.data, .data, .data, .widerDeep, .data] true :=
  Program.laidByTextLater.sub seatTie1 ["aneroid/wide.none", "aneroid/wide.least", "aneroid/sym.places", "aneroid/atmos.table", "aneroid/spread.rows"] (by kernel_rfl) (by kernel_rfl)
theorem channelStarts_row_tie : Rows.channelStartsRow.laidByTextAt .later Tryz.pinned [.data, .data, .data, .widerDeep, .data] true :=
  OpenClaim.laidByTextAt_later rfl rfl tie noOwnUnsafe
theorem channelRests_row_tie : Rows.channelRestsRow.laidByTextAt .later Tryz.pinned [.data, .data, .data, .widerDeep, .data] true :=
  OpenClaim.laidByTextAt_later rfl rfl tie noOwnUnsafe
theorem channelTame_row_tie : Rows.channelTameRow.laidByTextAt .later Tryz.pinned [.data, .data, .data, .widerDeep, .data] true :=
  OpenClaim.laidByTextAt_later rfl rfl tie noOwnUnsafe
theorem channelCopies_row_tie : Rows.channelCopiesRow.laidByTextAt .later Tryz.pinned [.data, .data, .data, .widerDeep, .data] true :=
  OpenClaim.laidByTextAt_later rfl rfl tie noOwnUnsafe
theorem channelNone_row_tie : Rows.channelNoneRow.laidByTextAt .later Tryz.pinned [.data, .data, .data, .widerDeep, .data] true :=
  OpenClaim.laidByTextAt_later rfl rfl tie noOwnUnsafe
theorem channelHeld_row_tie : Rows.channelHeldRow.laidByTextAt .later Tryz.pinned [.data, .data, .data, .widerDeep, .data] true :=
  OpenClaim.laidByTextAt_later rfl rfl tie noOwnUnsafe
theorem channelLost_row_tie : Rows.channelLostRow.laidByTextAt .later Tryz.pinned [.data, .data, .data, .widerDeep, .data] true :=
  OpenClaim.laidByTextAt_later rfl rfl tie noOwnUnsafe
theorem channelPlays_row_tie : Rows.channelPlaysRow.laidByTextAt .later Tryz.pinned [.data, .data, .data, .widerDeep, .data] true :=
  OpenClaim.laidByTextAt_later rfl rfl tie noOwnUnsafe
theorem channelStartsUpto_row_tie : Rows.channelStartsUptoRow.laidByTextAt .later Tryz.pinned [.data, .data, .data, .widerDeep, .data] true :=
  OpenClaim.laidByTextAt_later rfl rfl tie noOwnUnsafe
theorem channelRestsUpto_row_tie : Rows.channelRestsUptoRow.laidByTextAt .later Tryz.pinned [.data, .data, .data, .widerDeep, .data] true :=
  OpenClaim.laidByTextAt_later rfl rfl tie noOwnUnsafe
theorem channelTameUpto_row_tie : Rows.channelTameUptoRow.laidByTextAt .later Tryz.pinned [.data, .data, .data, .widerDeep, .data] true :=
  OpenClaim.laidByTextAt_later rfl rfl tie noOwnUnsafe
theorem channelCopiesUpto_row_tie : Rows.channelCopiesUptoRow.laidByTextAt .later Tryz.pinned [.data, .data, .data, .widerDeep, .data] true :=
  OpenClaim.laidByTextAt_later rfl rfl tie noOwnUnsafe
theorem channelNoneUpto_row_tie : Rows.channelNoneUptoRow.laidByTextAt .later Tryz.pinned [.data, .data, .data, .widerDeep, .data] true :=
  OpenClaim.laidByTextAt_later rfl rfl tie noOwnUnsafe
theorem channelHeldUpto_row_tie : Rows.channelHeldUptoRow.laidByTextAt .later Tryz.pinned [.data, .data, .data, .widerDeep, .data] true :=
  OpenClaim.laidByTextAt_later rfl rfl tie noOwnUnsafe
theorem channelLostUpto_row_tie : Rows.channelLostUptoRow.laidByTextAt .later Tryz.pinned [.data, .data, .data, .widerDeep, .data] true :=
  OpenClaim.laidByTextAt_later rfl rfl tie noOwnUnsafe
theorem channelPlaysUpto_row_tie : Rows.channelPlaysUptoRow.laidByTextAt .later Tryz.pinned [.data, .data, .data, .widerDeep, .data] true :=
  OpenClaim.laidByTextAt_later rfl rfl tie noOwnUnsafe
end Go.Proofs.YtikajapjkdloaaaGreatDoor
