/-
  DERIVED. GIVEN WITH THE SEED: THE PROGRAM's TIES (one call each: nine closed facts by the kernel) AND EACH ROW's TIE, after the 31st guide's Derived/Test/Toyas{Tie, Card}.lean. No idea stands in it: it is a product of the set-up. Laid BY PROGRAM, IN A SANDBOX (cutbox-door.mjs). By AI agents, Wed Nov 11 2026. No macro, syntax, notation, axiom, sorry.
-/
import Derived.Test.YtopfgminkdfpkaaGreatDoorRows
import Derived.LaidByTextLater
import Derived.SevenTiedAt
import Derived.LaidSub
import Derived.LaidOnce
namespace Go.Proofs.YtopfgminkdfpkaaGreatDoor
open Go
set_option maxRecDepth 100000
theorem seatTie1 : Tryz.prog.laidByTextLater [("bspregion/api.ErrInvalid", Rows.laid_bspregion_api_ErrInvalid), ("bspregion/api.ErrEmpty", Rows.laid_bspregion_api_ErrEmpty), ("bspregion/api.ErrLimit", Rows.laid_bspregion_api_ErrLimit)] [.sentinel, .sentinel, .sentinel] true :=
  Program.laidByTextLater_by_one 66 8 2 (by kernel_rfl) (by kernel_rfl) (by kernel_rfl) (by kernel_rfl) (by kernel_rfl) (by kernel_rfl) (fun _ _ => by kernel_rfl)
theorem noOwnUnsafe : Tryz.pinned.checked.prog.headLifts.contains "ownunsafe" = false := by kernel_rfl
theorem tie : Tryz.prog.laidByTextLater [("bspregion/api.ErrInvalid", Rows.laid_bspregion_api_ErrInvalid), ("bspregion/api.ErrEmpty", Rows.laid_bspregion_api_ErrEmpty), ("bspregion/api.ErrLimit", Rows.laid_bspregion_api_ErrLimit)] [.sentinel, .sentinel, .sentinel] true :=
  Program.laidByTextLater.sub seatTie1 ["bspregion/api.ErrInvalid", "bspregion/api.ErrEmpty", "bspregion/api.ErrLimit"] (by kernel_rfl) (by kernel_rfl)
theorem relateWitness_row_tie : Rows.relateWitnessRow.laidByTextAt .later Tryz.pinned [.sentinel, .sentinel, .sentinel] true :=
  OpenClaim.laidByTextAt_later rfl rfl tie noOwnUnsafe
theorem tie2 : Tryz.prog.laidByTextLater [("bspregion/api.ErrInvalid", Rows.laid_bspregion_api_ErrInvalid), ("bspregion/api.ErrLimit", Rows.laid_bspregion_api_ErrLimit)] [.sentinel, .sentinel] true :=
  Program.laidByTextLater.sub seatTie1 ["bspregion/api.ErrInvalid", "bspregion/api.ErrLimit"] (by kernel_rfl) (by kernel_rfl)
theorem reduceKeeps_row_tie : Rows.reduceKeepsRow.laidByTextAt .later Tryz.pinned [.sentinel, .sentinel] true :=
  OpenClaim.laidByTextAt_later rfl rfl tie2 noOwnUnsafe
theorem mergeDenotes_row_tie : Rows.mergeDenotesRow.laidByTextAt .later Tryz.pinned [.sentinel, .sentinel] true :=
  OpenClaim.laidByTextAt_later rfl rfl tie2 noOwnUnsafe
theorem mergeClasses_row_tie : Rows.mergeClassesRow.laidByTextAt .later Tryz.pinned [.sentinel, .sentinel] true :=
  OpenClaim.laidByTextAt_later rfl rfl tie2 noOwnUnsafe
theorem relatePoints_row_tie : Rows.relatePointsRow.laidByTextAt .later Tryz.pinned [.sentinel, .sentinel] true :=
  OpenClaim.laidByTextAt_later rfl rfl tie2 noOwnUnsafe
theorem relateWitnessUpto_row_tie : Rows.relateWitnessUptoRow.laidByTextAt .later Tryz.pinned [.sentinel, .sentinel, .sentinel] true :=
  OpenClaim.laidByTextAt_later rfl rfl tie noOwnUnsafe
theorem reduceKeepsUpto_row_tie : Rows.reduceKeepsUptoRow.laidByTextAt .later Tryz.pinned [.sentinel, .sentinel] true :=
  OpenClaim.laidByTextAt_later rfl rfl tie2 noOwnUnsafe
theorem mergeDenotesUpto_row_tie : Rows.mergeDenotesUptoRow.laidByTextAt .later Tryz.pinned [.sentinel, .sentinel] true :=
  OpenClaim.laidByTextAt_later rfl rfl tie2 noOwnUnsafe
theorem mergeClassesUpto_row_tie : Rows.mergeClassesUptoRow.laidByTextAt .later Tryz.pinned [.sentinel, .sentinel] true :=
  OpenClaim.laidByTextAt_later rfl rfl tie2 noOwnUnsafe
theorem relatePointsUpto_row_tie : Rows.relatePointsUptoRow.laidByTextAt .later Tryz.pinned [.sentinel, .sentinel] true :=
  OpenClaim.laidByTextAt_later rfl rfl tie2 noOwnUnsafe
end Go.Proofs.YtopfgminkdfpkaaGreatDoor
