/-
  DERIVED. GIVEN WITH THE SEED: THE CARDS: each row of YtidmgdlbilojcaaGreatDoorRows.lean that lists a variable, with what it lists TIED to the program's text (the seventh form; the later family's looks); each row that meets fmt, with fmt's text TOLD by the authors' own Lean function (tested against real Go, not proved from fmt's source: count such statements apart). THE CARD IS WHAT COUNTS. Prove the row's statement (the work); the ties are given (YtidmgdlbilojcaaGreatDoorTie.lean); close each card by the builder's one call (the guide's Derived/Test/ToyasCard.lean, 'card_holds'). Laid BY PROGRAM, IN A SANDBOX (cutbox-door.mjs). By AI agents, Wed Nov 11 2026. No macro, syntax, notation, axiom, sorry.
-/
import Derived.Test.YtidmgdlbilojcaaGreatDoorRows
import GoSem.ClaimSeven
namespace Go.Proofs.YtidmgdlbilojcaaGreatDoor
namespace Rows

/-- THE TIED CARD OF 'bspregionlaw21.MeasureCells'. -/
def measureCellsCard : Claim7 := { stood := { row := measureCellsRow, standIns := [], harness := (true, "2d439c162d7596f18b04f9a13e3dbddcf4018e246722113d4be9cba869203fe6"), looks := true }, kinds := [], alts := [], laidByText := true, laidKinds := [.sentinel, .sentinel, .sentinel, .sentinel], laidTests := true, laidLooks := .later }
def MeasureCellsCardSaid : Prop := Claim7.holds Tryz.pinned (.plain (OpenSpec.ofChange measureCellsSpec)) measureCellsCard

/-- THE TIED CARD OF 'bspregionlaw21.MeasureAdds'. -/
def measureAddsCard : Claim7 := { stood := { row := measureAddsRow, standIns := [], harness := (true, "2d439c162d7596f18b04f9a13e3dbddcf4018e246722113d4be9cba869203fe6"), looks := true }, kinds := [], alts := [], laidByText := true, laidKinds := [.sentinel, .sentinel, .sentinel], laidTests := true, laidLooks := .later }
def MeasureAddsCardSaid : Prop := Claim7.holds Tryz.pinned (.plain (OpenSpec.ofChange measureAddsSpec)) measureAddsCard

/-- THE TIED CARD OF 'bspregionlaw30.TilingInside'. -/
def tilingInsideCard : Claim7 := { stood := { row := tilingInsideRow, standIns := [], harness := (true, "2d439c162d7596f18b04f9a13e3dbddcf4018e246722113d4be9cba869203fe6"), looks := true }, kinds := [], alts := [], laidByText := true, laidKinds := [.sentinel, .sentinel, .sentinel, .sentinel, .sentinel], laidTests := true, laidLooks := .later }
def TilingInsideCardSaid : Prop := Claim7.holds Tryz.pinned (.plain (OpenSpec.ofChange tilingInsideSpec)) tilingInsideCard

/-- THE TIED CARD OF 'bspregionlaw21.MeasureBoxes'. -/
def measureBoxesCard : Claim7 := { stood := { row := measureBoxesRow, standIns := [], harness := (true, "2d439c162d7596f18b04f9a13e3dbddcf4018e246722113d4be9cba869203fe6"), looks := true }, kinds := [], alts := [], laidByText := true, laidKinds := [.sentinel, .sentinel, .sentinel, .sentinel], laidTests := true, laidLooks := .later }
def MeasureBoxesCardSaid : Prop := Claim7.holds Tryz.pinned (.plain (OpenSpec.ofChange measureBoxesSpec)) measureBoxesCard

/-- THE SECOND FORM's CARD OF 'bspregionlaw21.MeasureCells'. -/
def measureCellsUptoCard : Claim7 := { stood := { row := measureCellsUptoRow, standIns := [], harness := (true, "2d439c162d7596f18b04f9a13e3dbddcf4018e246722113d4be9cba869203fe6"), looks := true }, kinds := [], alts := [], laidByText := true, laidKinds := [.sentinel, .sentinel, .sentinel, .sentinel], laidTests := true, laidLooks := .later }
def MeasureCellsUptoCardSaid : Prop := Claim7.holds Tryz.pinned (.plain (OpenSpec.upto measureCellsSpec)) measureCellsUptoCard

/-- THE SECOND FORM's CARD OF 'bspregionlaw21.MeasureAdds'. -/
def measureAddsUptoCard : Claim7 := { stood := { row := measureAddsUptoRow, standIns := [], harness := (true, "2d439c162d7596f18b04f9a13e3dbddcf4018e246722113d4be9cba869203fe6"), looks := true }, kinds := [], alts := [], laidByText := true, laidKinds := [.sentinel, .sentinel, .sentinel], laidTests := true, laidLooks := .later }
def MeasureAddsUptoCardSaid : Prop := Claim7.holds Tryz.pinned (.plain (OpenSpec.upto measureAddsSpec)) measureAddsUptoCard

/-- THE SECOND FORM's CARD OF 'bspregionlaw30.TilingInside'. -/
def tilingInsideUptoCard : Claim7 := { stood := { row := tilingInsideUptoRow, standIns := [], harness := (true, "2d439c162d7596f18b04f9a13e3dbddcf4018e246722113d4be9cba869203fe6"), looks := true }, kinds := [], alts := [], laidByText := true, laidKinds := [.sentinel, .sentinel, .sentinel, .sentinel, .sentinel], laidTests := true, laidLooks := .later }
def TilingInsideUptoCardSaid : Prop := Claim7.holds Tryz.pinned (.plain (OpenSpec.upto tilingInsideSpec)) tilingInsideUptoCard

/-- THE SECOND FORM's CARD OF 'bspregionlaw21.MeasureBoxes'. -/
def measureBoxesUptoCard : Claim7 := { stood := { row := measureBoxesUptoRow, standIns := [], harness := (true, "2d439c162d7596f18b04f9a13e3dbddcf4018e246722113d4be9cba869203fe6"), looks := true }, kinds := [], alts := [], laidByText := true, laidKinds := [.sentinel, .sentinel, .sentinel, .sentinel], laidTests := true, laidLooks := .later }
def MeasureBoxesUptoCardSaid : Prop := Claim7.holds Tryz.pinned (.plain (OpenSpec.upto measureBoxesSpec)) measureBoxesUptoCard
end Rows
end Go.Proofs.YtidmgdlbilojcaaGreatDoor
