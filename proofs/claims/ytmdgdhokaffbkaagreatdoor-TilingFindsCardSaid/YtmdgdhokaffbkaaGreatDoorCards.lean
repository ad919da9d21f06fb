/-
  DERIVED. GIVEN WITH THE SEED: THE CARDS: each row of YtmdgdhokaffbkaaGreatDoorRows.lean that lists a variable, with what it lists TIED to the program's text (the seventh form; the later family's looks); each row that meets fmt, with fmt's text TOLD by the authors' own Lean function (tested against real Go, not proved from fmt's source: count such statements apart). THE CARD IS WHAT COUNTS. Prove the row's statement (the work); the ties are given (YtmdgdhokaffbkaaGreatDoorTie.lean); close each card by the builder's one call (the guide's Derived/Test/ToyasCard.lean, 'card_holds'). Laid BY PROGRAM, IN A SANDBOX (cutbox-door.mjs). By AI agents, Wed Nov 11 2026. No macro, syntax, notation, axiom, sorry.
-/
import Derived.Test.YtmdgdhokaffbkaaGreatDoorRows
import GoSem.ClaimSeven
namespace Go.Proofs.YtmdgdhokaffbkaaGreatDoor
namespace Rows

/-- THE TIED CARD OF 'bspregionlaw30.TilingFinds'. -/
def tilingFindsCard : Claim7 := { stood := { row := tilingFindsRow, standIns := [], harness := (true, "c00bb7a43faed4df5a2fc2659e980039629693ed4b8528ba4f881cdc69e5e9f8"), looks := true }, kinds := [], alts := [], laidByText := true, laidKinds := [.data, .data, .data, .sentinel, .sentinel, .sentinel, .sentinel], laidTests := true, laidLooks := .later }
def TilingFindsCardSaid : Prop := Claim7.holds Tryz.pinned (.plain (OpenSpec.ofChange tilingFindsSpec)) tilingFindsCard

/-- THE TIED CARD OF 'bspregionlaw29.MorphUnites'. -/
def morphUnitesCard : Claim7 := { stood := { row := morphUnitesRow, standIns := [], harness := (true, "c00bb7a43faed4df5a2fc2659e980039629693ed4b8528ba4f881cdc69e5e9f8"), looks := true }, kinds := [], alts := [], laidByText := true, laidKinds := [.data, .data, .data, .sentinel, .sentinel, .sentinel], laidTests := true, laidLooks := .later }
def MorphUnitesCardSaid : Prop := Claim7.holds Tryz.pinned (.plain (OpenSpec.ofChange morphUnitesSpec)) morphUnitesCard

/-- THE TIED CARD OF 'bspregionlaw29.MorphSeparates'. -/
def morphSeparatesCard : Claim7 := { stood := { row := morphSeparatesRow, standIns := [], harness := (true, "c00bb7a43faed4df5a2fc2659e980039629693ed4b8528ba4f881cdc69e5e9f8"), looks := true }, kinds := [], alts := [], laidByText := true, laidKinds := [.data, .data, .data, .sentinel, .sentinel, .sentinel], laidTests := true, laidLooks := .later }
def MorphSeparatesCardSaid : Prop := Claim7.holds Tryz.pinned (.plain (OpenSpec.ofChange morphSeparatesSpec)) morphSeparatesCard

/-- THE SECOND FORM's CARD OF 'bspregionlaw30.TilingFinds'. -/
def tilingFindsUptoCard : Claim7 := { stood := { row := tilingFindsUptoRow, standIns := [], harness := (true, "c00bb7a43faed4df5a2fc2659e980039629693ed4b8528ba4f881cdc69e5e9f8"), looks := true }, kinds := [], alts := [], laidByText := true, laidKinds := [.data, .data, .data, .sentinel, .sentinel, .sentinel, .sentinel], laidTests := true, laidLooks := .later }
def TilingFindsUptoCardSaid : Prop := Claim7.holds Tryz.pinned (.plain (OpenSpec.upto tilingFindsSpec)) tilingFindsUptoCard

/-- THE SECOND FORM's CARD OF 'bspregionlaw29.MorphUnites'. -/
def morphUnitesUptoCard : Claim7 := { stood := { row := morphUnitesUptoRow, standIns := [], harness := (true, "c00bb7a43faed4df5a2fc2659e980039629693ed4b8528ba4f881cdc69e5e9f8"), looks := true }, kinds := [], alts := [], laidByText := true, laidKinds := [.data, .data, .data, .sentinel, .sentinel, .sentinel], laidTests := true, laidLooks := .later }
def MorphUnitesUptoCardSaid : Prop := Claim7.holds Tryz.pinned (.plain (OpenSpec.upto morphUnitesSpec)) morphUnitesUptoCard

/-- THE SECOND FORM's CARD OF 'bspregionlaw29.MorphSeparates'. -/
def morphSeparatesUptoCard : Claim7 := { stood := { row := morphSeparatesUptoRow, standIns := [], harness := (true, "c00bb7a43faed4df5a2fc2659e980039629693ed4b8528ba4f881cdc69e5e9f8"), looks := true }, kinds := [], alts := [], laidByText := true, laidKinds := [.data, .data, .data, .sentinel, .sentinel, .sentinel], laidTests := true, laidLooks := .later }
def MorphSeparatesUptoCardSaid : Prop := Claim7.holds Tryz.pinned (.plain (OpenSpec.upto morphSeparatesSpec)) morphSeparatesUptoCard
end Rows
end Go.Proofs.YtmdgdhokaffbkaaGreatDoor
