/-
  DERIVED. GIVEN WITH THE SEED: THE PROGRAM's TIES (one call each: nine closed facts by the kernel) AND EACH ROW's TIE, after the 31st guide's Derived/Test/Toyas{Tie, Card}.lean. No idea stands in it: it is a product of the set-up. Laid BY PROGRAM, IN A SANDBOX (cutbox-door.mjs). By AI agents, Wed Nov 11 2026. No macro, syntax, notation, axiom, sorry.
-/
import Derived.Test.YtogcbiooddodlaaDoorRows
import Derived.LaidByTextLater
import Derived.SevenTiedAt
import Derived.LaidSub
import Derived.LaidOnce
namespace Go.Proofs.YtogcbiooddodlaaDoor
open Go
set_option maxRecDepth 100000
theorem seatTie1 : Tryd.prog.laidByTextLater [("paternoster/api.ErrEnd", Rows.laid_paternoster_api_ErrEnd), ("paternoster/api.ErrShape", Rows.laid_paternoster_api_ErrShape), ("paternoster/api.ErrRange", Rows.laid_paternoster_api_ErrRange), ("paternoster/api.ErrMany", Rows.laid_paternoster_api_ErrMany), ("paternoster/api.ErrPower", Rows.laid_paternoster_api_ErrPower), ("paternoster/api.ErrNone", Rows.laid_paternoster_api_ErrNone), ("paternoster/api.ErrKind", Rows.laid_paternoster_api_ErrKind), ("paternoster/api.ErrOrder", Rows.laid_paternoster_api_ErrOrder), ("paternoster/api.ErrDoor", Rows.laid_paternoster_api_ErrDoor), ("paternoster/api.ErrFloor", Rows.laid_paternoster_api_ErrFloor), ("paternoster/api.ErrTwice", Rows.laid_paternoster_api_ErrTwice), ("paternoster/api.ErrWord", Rows.laid_paternoster_api_ErrWord), ("paternoster/api.ErrNumber", Rows.laid_paternoster_api_ErrNumber)] [.sentinel, .sentinel, .sentinel, .sentinel, .sentinel, .sentinel, .sentinel, .sentinel, .sentinel, .sentinel, .sentinel, .sentinel, .sentinel] true :=
  Program.laidByTextLater_by_one 256 8 2 (by kernel_rfl) (by kernel_rfl) (by kernel_rfl) (by kernel_rfl) (by kernel_rfl) (by kernel_rfl) (fun _ _ => by kernel_rfl)
theorem noOwnUnsafe : Tryd.pinned.checked.prog.headLifts.contains "ownunsafe" = false := by kernel_rfl
theorem tie : Tryd.prog.laidByTextLater [("paternoster/api.ErrEnd", Rows.laid_paternoster_api_ErrEnd), ("paternoster/api.ErrShape", Rows.laid_paternoster_api_ErrShape), ("paternoster/api.ErrRange", Rows.laid_paternoster_api_ErrRange), ("paternoster/api.ErrMany", Rows.laid_paternoster_api_ErrMany), ("paternoster/api.ErrPower", Rows.laid_paternoster_api_ErrPower), ("paternoster/api.ErrNone", Rows.laid_paternoster_api_ErrNone), ("paternoster/api.ErrKind", Rows.laid_paternoster_api_ErrKind), ("paternoster/api.ErrOrder", Rows.laid_paternoster_api_ErrOrder), ("paternoster/api.ErrDoor", Rows.laid_paternoster_api_ErrDoor), ("paternoster/api.ErrFloor", Rows.laid_paternoster_api_ErrFloor), ("paternoster/api.ErrTwice", Rows.laid_paternoster_api_ErrTwice), ("paternoster/api.ErrWord", Rows.laid_paternoster_api_ErrWord), ("paternoster/api.ErrNumber", Rows.laid_paternoster_api_ErrNumber)] [.sentinel, .sentinel, .sentinel, .sentinel, .sentinel, .sentinel, .sentinel, .sentinel, .sentinel, .sentinel, .sentinel, .sentinel, .sentinel] true :=
  Program.laidByTextLater.sub seatTie1 ["paternoster/api.ErrEnd", "paternoster/api.ErrShape", "paternoster/api.ErrRange", "paternoster/api.ErrMany", "paternoster/api.ErrPower", "paternoster/api.ErrNone", "paternoster/api.ErrKind", "paternoster/api.ErrOrder", "paternoster/api.ErrDoor", "paternoster/api.ErrFloor", "paternoster/api.ErrTwice", "paternoster/api.ErrWord", "paternoster/api.ErrNumber"] (by kernel_rfl) (by kernel_rfl)
theorem wireForms_row_tie : Rows.wireFormsRow.laidByTextAt .later Tryd.pinned [.sentinel, .sentinel, .sentinel, .sentinel, .sentinel, .sentinel, .sentinel, .sentinel, .sentinel, .sentinel, .sentinel, .sentinel, .sentinel] true :=
  OpenClaim.laidByTextAt_later rfl rfl tie noOwnUnsafe
theorem wireRanges_row_tie : Rows.wireRangesRow.laidByTextAt .later Tryd.pinned [.sentinel, .sentinel, .sentinel, .sentinel, .sentinel, .sentinel, .sentinel, .sentinel, .sentinel, .sentinel, .sentinel, .sentinel, .sentinel] true :=
  OpenClaim.laidByTextAt_later rfl rfl tie noOwnUnsafe
theorem wireRows_row_tie : Rows.wireRowsRow.laidByTextAt .later Tryd.pinned [.sentinel, .sentinel, .sentinel, .sentinel, .sentinel, .sentinel, .sentinel, .sentinel, .sentinel, .sentinel, .sentinel, .sentinel, .sentinel] true :=
  OpenClaim.laidByTextAt_later rfl rfl tie noOwnUnsafe
theorem wireLengths_row_tie : Rows.wireLengthsRow.laidByTextAt .later Tryd.pinned [.sentinel, .sentinel, .sentinel, .sentinel, .sentinel, .sentinel, .sentinel, .sentinel, .sentinel, .sentinel, .sentinel, .sentinel, .sentinel] true :=
  OpenClaim.laidByTextAt_later rfl rfl tie noOwnUnsafe
theorem frameRings_row_tie : Rows.frameRingsRow.laidByTextAt .later Tryd.pinned [.sentinel, .sentinel, .sentinel, .sentinel, .sentinel, .sentinel, .sentinel, .sentinel, .sentinel, .sentinel, .sentinel, .sentinel, .sentinel] true :=
  OpenClaim.laidByTextAt_later rfl rfl tie noOwnUnsafe
theorem frameBeats_row_tie : Rows.frameBeatsRow.laidByTextAt .later Tryd.pinned [.sentinel, .sentinel, .sentinel, .sentinel, .sentinel, .sentinel, .sentinel, .sentinel, .sentinel, .sentinel, .sentinel, .sentinel, .sentinel] true :=
  OpenClaim.laidByTextAt_later rfl rfl tie noOwnUnsafe
theorem frameSays_row_tie : Rows.frameSaysRow.laidByTextAt .later Tryd.pinned [.sentinel, .sentinel, .sentinel, .sentinel, .sentinel, .sentinel, .sentinel, .sentinel, .sentinel, .sentinel, .sentinel, .sentinel, .sentinel] true :=
  OpenClaim.laidByTextAt_later rfl rfl tie noOwnUnsafe
theorem tie2 : Tryd.prog.laidByTextLater [("paternoster/api.ErrEnd", Rows.laid_paternoster_api_ErrEnd), ("paternoster/api.ErrShape", Rows.laid_paternoster_api_ErrShape), ("paternoster/api.ErrRange", Rows.laid_paternoster_api_ErrRange)] [.sentinel, .sentinel, .sentinel] true :=
  Program.laidByTextLater.sub seatTie1 ["paternoster/api.ErrEnd", "paternoster/api.ErrShape", "paternoster/api.ErrRange"] (by kernel_rfl) (by kernel_rfl)
theorem wireTwins_row_tie : Rows.wireTwinsRow.laidByTextAt .later Tryd.pinned [.sentinel, .sentinel, .sentinel] true :=
  OpenClaim.laidByTextAt_later rfl rfl tie2 noOwnUnsafe
theorem wirePuts_row_tie : Rows.wirePutsRow.laidByTextAt .later Tryd.pinned [.sentinel, .sentinel, .sentinel] true :=
  OpenClaim.laidByTextAt_later rfl rfl tie2 noOwnUnsafe
theorem tie3 : Tryd.prog.laidByTextLater [("paternoster/api.ErrRange", Rows.laid_paternoster_api_ErrRange), ("paternoster/api.ErrMany", Rows.laid_paternoster_api_ErrMany), ("paternoster/api.ErrKind", Rows.laid_paternoster_api_ErrKind), ("paternoster/api.ErrTwice", Rows.laid_paternoster_api_ErrTwice)] [.sentinel, .sentinel, .sentinel, .sentinel] true :=
  Program.laidByTextLater.sub seatTie1 ["paternoster/api.ErrRange", "paternoster/api.ErrMany", "paternoster/api.ErrKind", "paternoster/api.ErrTwice"] (by kernel_rfl) (by kernel_rfl)
theorem frameOwn_row_tie : Rows.frameOwnRow.laidByTextAt .later Tryd.pinned [.sentinel, .sentinel, .sentinel, .sentinel] true :=
  OpenClaim.laidByTextAt_later rfl rfl tie3 noOwnUnsafe
theorem tie4 : Tryd.prog.laidByTextLater [("paternoster/api.ErrEnd", Rows.laid_paternoster_api_ErrEnd), ("paternoster/api.ErrShape", Rows.laid_paternoster_api_ErrShape), ("paternoster/api.ErrRange", Rows.laid_paternoster_api_ErrRange), ("paternoster/api.ErrMany", Rows.laid_paternoster_api_ErrMany), ("paternoster/api.ErrKind", Rows.laid_paternoster_api_ErrKind), ("paternoster/api.ErrTwice", Rows.laid_paternoster_api_ErrTwice)] [.sentinel, .sentinel, .sentinel, .sentinel, .sentinel, .sentinel] true :=
  Program.laidByTextLater.sub seatTie1 ["paternoster/api.ErrEnd", "paternoster/api.ErrShape", "paternoster/api.ErrRange", "paternoster/api.ErrMany", "paternoster/api.ErrKind", "paternoster/api.ErrTwice"] (by kernel_rfl) (by kernel_rfl)
theorem frameBack_row_tie : Rows.frameBackRow.laidByTextAt .later Tryd.pinned [.sentinel, .sentinel, .sentinel, .sentinel, .sentinel, .sentinel] true :=
  OpenClaim.laidByTextAt_later rfl rfl tie4 noOwnUnsafe
theorem wireFormsUpto_row_tie : Rows.wireFormsUptoRow.laidByTextAt .later Tryd.pinned [.sentinel, .sentinel, .sentinel, .sentinel, .sentinel, .sentinel, .sentinel, .sentinel, .sentinel, .sentinel, .sentinel, .sentinel, .sentinel] true :=
  OpenClaim.laidByTextAt_later rfl rfl tie noOwnUnsafe
theorem wireTwinsUpto_row_tie : Rows.wireTwinsUptoRow.laidByTextAt .later Tryd.pinned [.sentinel, .sentinel, .sentinel] true :=
  OpenClaim.laidByTextAt_later rfl rfl tie2 noOwnUnsafe
theorem wirePutsUpto_row_tie : Rows.wirePutsUptoRow.laidByTextAt .later Tryd.pinned [.sentinel, .sentinel, .sentinel] true :=
  OpenClaim.laidByTextAt_later rfl rfl tie2 noOwnUnsafe
theorem wireRangesUpto_row_tie : Rows.wireRangesUptoRow.laidByTextAt .later Tryd.pinned [.sentinel, .sentinel, .sentinel, .sentinel, .sentinel, .sentinel, .sentinel, .sentinel, .sentinel, .sentinel, .sentinel, .sentinel, .sentinel] true :=
  OpenClaim.laidByTextAt_later rfl rfl tie noOwnUnsafe
theorem wireRowsUpto_row_tie : Rows.wireRowsUptoRow.laidByTextAt .later Tryd.pinned [.sentinel, .sentinel, .sentinel, .sentinel, .sentinel, .sentinel, .sentinel, .sentinel, .sentinel, .sentinel, .sentinel, .sentinel, .sentinel] true :=
  OpenClaim.laidByTextAt_later rfl rfl tie noOwnUnsafe
theorem wireLengthsUpto_row_tie : Rows.wireLengthsUptoRow.laidByTextAt .later Tryd.pinned [.sentinel, .sentinel, .sentinel, .sentinel, .sentinel, .sentinel, .sentinel, .sentinel, .sentinel, .sentinel, .sentinel, .sentinel, .sentinel] true :=
  OpenClaim.laidByTextAt_later rfl rfl tie noOwnUnsafe
theorem frameRingsUpto_row_tie : Rows.frameRingsUptoRow.laidByTextAt .later Tryd.pinned [.sentinel, .sentinel, .sentinel, .sentinel, .sentinel, .sentinel, .sentinel, .sentinel, .sentinel, .sentinel, .sentinel, .sentinel, .sentinel] true :=
  OpenClaim.laidByTextAt_later rfl rfl tie noOwnUnsafe
theorem frameOwnUpto_row_tie : Rows.frameOwnUptoRow.laidByTextAt .later Tryd.pinned [.sentinel, .sentinel, .sentinel, .sentinel] true :=
  OpenClaim.laidByTextAt_later rfl rfl tie3 noOwnUnsafe
theorem frameBeatsUpto_row_tie : Rows.frameBeatsUptoRow.laidByTextAt .later Tryd.pinned [.sentinel, .sentinel, .sentinel, .sentinel, .sentinel, .sentinel, .sentinel, .sentinel, .sentinel, .sentinel, .sentinel, .sentinel, .sentinel] true :=
  OpenClaim.laidByTextAt_later rfl rfl tie noOwnUnsafe
theorem frameBackUpto_row_tie : Rows.frameBackUptoRow.laidByTextAt .later Tryd.pinned [.sentinel, .sentinel, .sentinel, .sentinel, .sentinel, .sentinel] true :=
  OpenClaim.laidByTextAt_later rfl rfl tie4 noOwnUnsafe
theorem frameSaysUpto_row_tie : Rows.frameSaysUptoRow.laidByTextAt .later Tryd.pinned [.sentinel, .sentinel, .sentinel, .sentinel, .sentinel, .sentinel, .sentinel, .sentinel, .sentinel, .sentinel, .sentinel, .sentinel, .sentinel] true :=
  OpenClaim.laidByTextAt_later rfl rfl tie noOwnUnsafe
end Go.Proofs.YtogcbiooddodlaaDoor
