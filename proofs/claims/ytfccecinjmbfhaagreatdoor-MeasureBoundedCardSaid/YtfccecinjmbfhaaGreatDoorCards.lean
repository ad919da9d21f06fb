/-
  DERIVED. GIVEN WITH THE SEED: THE CARDS: each row of YtfccecinjmbfhaaGreatDoorRows.lean that lists a variable, with what it lists TIED to the program's text (the seventh form; the later family's looks); each row that meets fmt, with fmt's text TOLD by the authors' own Lean function (tested against real Go, not proved from fmt's source: count such statements apart). THE CARD IS WHAT COUNTS. Prove the row's statement (the work); the ties are given (YtfccecinjmbfhaaGreatDoorTie.lean); close each card by the builder's one call (the guide's Derived/Test/ToyasCard.lean, 'card_holds'). Laid BY PROGRAM, IN A SANDBOX (cutbox-door.mjs). By AI agents, Wed Nov 11 2026. No macro, syntax, notation, axiom, sorry.
-/
import Derived.Test.YtfccecinjmbfhaaGreatDoorRows
import GoSem.ClaimSeven
namespace Go.Proofs.YtfccecinjmbfhaaGreatDoor
namespace Rows

/-- THE TIED CARD OF 'bspregionlaw30.TilingTriangles'. -/
def tilingTrianglesCard : Claim7 := { stood := { row := tilingTrianglesRow, standIns := [], harness := (true, "bb489183e5aaa880d9a59fea9acc05de60ee75b6541bd33ce1ed390e5a9c20ba"), looks := true }, kinds := [], alts := [], laidByText := true, laidKinds := [.sentinel, .sentinel, .sentinel], laidTests := true, laidLooks := .later }
def TilingTrianglesCardSaid : Prop := Claim7.holds Tryz.pinned (.plain (OpenSpec.ofChange tilingTrianglesSpec)) tilingTrianglesCard

/-- THE TIED CARD OF 'bspregionlaw30.TilingSamples'. -/
def tilingSamplesCard : Claim7 := { stood := { row := tilingSamplesRow, standIns := [], harness := (true, "bb489183e5aaa880d9a59fea9acc05de60ee75b6541bd33ce1ed390e5a9c20ba"), looks := true }, kinds := [], alts := [], laidByText := true, laidKinds := [.sentinel, .sentinel, .sentinel, .sentinel, .sentinel], laidTests := true, laidLooks := .later }
def TilingSamplesCardSaid : Prop := Claim7.holds Tryz.pinned (.plain (OpenSpec.ofChange tilingSamplesSpec)) tilingSamplesCard

/-- THE TIED CARD OF 'bspregionlaw21.MeasureComputes'. -/
def measureComputesCard : Claim7 := { stood := { row := measureComputesRow, standIns := [], harness := (true, "bb489183e5aaa880d9a59fea9acc05de60ee75b6541bd33ce1ed390e5a9c20ba"), looks := true }, kinds := [], alts := [], laidByText := true, laidKinds := [.sentinel, .sentinel, .sentinel, .sentinel], laidTests := true, laidLooks := .later }
def MeasureComputesCardSaid : Prop := Claim7.holds Tryz.pinned (.plain (OpenSpec.ofChange measureComputesSpec)) measureComputesCard

/-- THE TIED CARD OF 'bspregionlaw21.MeasureBounded'. -/
def measureBoundedCard : Claim7 := { stood := { row := measureBoundedRow, standIns := [], harness := (true, "bb489183e5aaa880d9a59fea9acc05de60ee75b6541bd33ce1ed390e5a9c20ba"), looks := true }, kinds := [], alts := [], laidByText := true, laidKinds := [.sentinel, .sentinel, .sentinel, .sentinel], laidTests := true, laidLooks := .later }
def MeasureBoundedCardSaid : Prop := Claim7.holds Tryz.pinned (.plain (OpenSpec.ofChange measureBoundedSpec)) measureBoundedCard

/-- THE TIED CARD OF 'bspregionlaw21.MeasureCells'. -/
def measureCellsCard : Claim7 := { stood := { row := measureCellsRow, standIns := [], harness := (true, "bb489183e5aaa880d9a59fea9acc05de60ee75b6541bd33ce1ed390e5a9c20ba"), looks := true }, kinds := [], alts := [], laidByText := true, laidKinds := [.sentinel, .sentinel, .sentinel, .sentinel], laidTests := true, laidLooks := .later }
def MeasureCellsCardSaid : Prop := Claim7.holds Tryz.pinned (.plain (OpenSpec.ofChange measureCellsSpec)) measureCellsCard

/-- THE TIED CARD OF 'bspregionlaw21.MeasureAdds'. -/
def measureAddsCard : Claim7 := { stood := { row := measureAddsRow, standIns := [], harness := (true, "bb489183e5aaa880d9a59fea9acc05de60ee75b6541bd33ce1ed390e5a9c20ba"), looks := true }, kinds := [], alts := [], laidByText := true, laidKinds := [.sentinel, .sentinel, .sentinel], laidTests := true, laidLooks := .later }
def MeasureAddsCardSaid : Prop := Claim7.holds Tryz.pinned (.plain (OpenSpec.ofChange measureAddsSpec)) measureAddsCard

/-- THE TIED CARD OF 'bspregionlaw30.TilingInside'. -/
def tilingInsideCard : Claim7 := { stood := { row := tilingInsideRow, standIns := [], harness := (true, "bb489183e5aaa880d9a59fea9acc05de60ee75b6541bd33ce1ed390e5a9c20ba"), looks := true }, kinds := [], alts := [], laidByText := true, laidKinds := [.sentinel, .sentinel, .sentinel, .sentinel, .sentinel], laidTests := true, laidLooks := .later }
def TilingInsideCardSaid : Prop := Claim7.holds Tryz.pinned (.plain (OpenSpec.ofChange tilingInsideSpec)) tilingInsideCard

/-- THE TIED CARD OF 'bspregionlaw21.MeasureBoxes'. -/
def measureBoxesCard : Claim7 := { stood := { row := measureBoxesRow, standIns := [], harness := (true, "bb489183e5aaa880d9a59fea9acc05de60ee75b6541bd33ce1ed390e5a9c20ba"), looks := true }, kinds := [], alts := [], laidByText := true, laidKinds := [.sentinel, .sentinel, .sentinel, .sentinel], laidTests := true, laidLooks := .later }
def MeasureBoxesCardSaid : Prop := Claim7.holds Tryz.pinned (.plain (OpenSpec.ofChange measureBoxesSpec)) measureBoxesCard

/-- THE SECOND FORM's CARD OF 'bspregionlaw30.TilingTriangles'. -/
def tilingTrianglesUptoCard : Claim7 := { stood := { row := tilingTrianglesUptoRow, standIns := [], harness := (true, "bb489183e5aaa880d9a59fea9acc05de60ee75b6541bd33ce1ed390e5a9c20ba"), looks := true }, kinds := [], alts := [], laidByText := true, laidKinds := [.sentinel, .sentinel, .sentinel], laidTests := true, laidLooks := .later }
def TilingTrianglesUptoCardSaid : Prop := Claim7.holds Tryz.pinned (.plain (OpenSpec.upto tilingTrianglesSpec)) tilingTrianglesUptoCard

/-- THE SECOND FORM's CARD OF 'bspregionlaw30.TilingSamples'. -/
def tilingSamplesUptoCard : Claim7 := { stood := { row := tilingSamplesUptoRow, standIns := [], harness := (true, "bb489183e5aaa880d9a59fea9acc05de60ee75b6541bd33ce1ed390e5a9c20ba"), looks := true }, kinds := [], alts := [], laidByText := true, laidKinds := [.sentinel, .sentinel, .sentinel, .sentinel, .sentinel], laidTests := true, laidLooks := .later }
def TilingSamplesUptoCardSaid : Prop := Claim7.holds Tryz.pinned (.plain (OpenSpec.upto tilingSamplesSpec)) tilingSamplesUptoCard

/-- THE SECOND FORM's CARD OF 'bspregionlaw21.MeasureComputes'. -/
def measureComputesUptoCard : Claim7 := { stood := { row := measureComputesUptoRow, standIns := [], harness := (true, "bb489183e5aaa880d9a59fea9acc05de60ee75b6541bd33ce1ed390e5a9c20ba"), looks := true }, kinds := [], alts := [], laidByText := true, laidKinds := [.sentinel, .sentinel, .sentinel, .sentinel], laidTests := true, laidLooks := .later }
def MeasureComputesUptoCardSaid : Prop := Claim7.holds Tryz.pinned (.plain (OpenSpec.upto measureComputesSpec)) measureComputesUptoCard

/-- THE SECOND FORM's CARD OF 'bspregionlaw21.MeasureBounded'. -/
def measureBoundedUptoCard : Claim7 := { stood := { row := measureBoundedUptoRow, standIns := [], harness := (true, "bb489183e5aaa880d9a59fea9acc05de60ee75b6541bd33ce1ed390e5a9c20ba"), looks := true }, kinds := [], alts := [], laidByText := true, laidKinds := [.sentinel, .sentinel, .sentinel, .sentinel], laidTests := true, laidLooks := .later }
def MeasureBoundedUptoCardSaid : Prop := Claim7.holds Tryz.pinned (.plain (OpenSpec.upto measureBoundedSpec)) measureBoundedUptoCard

/-- THE SECOND FORM's CARD OF 'bspregionlaw21.MeasureCells'. -/
def measureCellsUptoCard : Claim7 := { stood := { row := measureCellsUptoRow, standIns := [], harness := (true, "bb489183e5aaa880d9a59fea9acc05de60ee75b6541bd33ce1ed390e5a9c20ba"), looks := true }, kinds := [], alts := [], laidByText := true, laidKinds := [.sentinel, .sentinel, .sentinel, .sentinel], laidTests := true, laidLooks := .later }
def MeasureCellsUptoCardSaid : Prop := Claim7.holds Tryz.pinned (.plain (OpenSpec.upto measureCellsSpec)) measureCellsUptoCard

/-- THE SECOND FORM's CARD OF 'bspregionlaw21.MeasureAdds'. -/
def measureAddsUptoCard : Claim7 := { stood := { row := measureAddsUptoRow, standIns := [], harness := (true, "bb489183e5aaa880d9a59fea9acc05de60ee75b6541bd33ce1ed390e5a9c20ba"), looks := true }, kinds := [], alts := [], laidByText := true, laidKinds := [.sentinel, .sentinel, .sentinel], laidTests := true, laidLooks := .later }
def MeasureAddsUptoCardSaid : Prop := Claim7.holds Tryz.pinned (.plain (OpenSpec.upto measureAddsSpec)) measureAddsUptoCard

/-- THE SECOND FORM's CARD OF 'bspregionlaw30.TilingInside'. -/
def tilingInsideUptoCard : Claim7 := { stood := { row := tilingInsideUptoRow, standIns := [], harness := (true, "bb489183e5aaa880d9a59fea9acc05de60ee75b6541bd33ce1ed390e5a9c20ba"), looks := true }, kinds := [], alts := [], laidByText := true, laidKinds := [.sentinel, .sentinel, .sentinel, .sentinel, .sentinel], laidTests := true, laidLooks := .later }
def TilingInsideUptoCardSaid : Prop := Claim7.holds Tryz.pinned (.plain (OpenSpec.upto tilingInsideSpec)) tilingInsideUptoCard

/-- THE SECOND FORM's CARD OF 'bspregionlaw21.MeasureBoxes'. -/
def measureBoxesUptoCard : Claim7 := { stood := { row := measureBoxesUptoRow, standIns := [], harness := (true, "bb489183e5aaa880d9a59fea9acc05de60ee75b6541bd33ce1ed390e5a9c20ba"), looks := true }, kinds := [], alts := [], laidByText := true, laidKinds := [.sentinel, .sentinel, .sentinel, .sentinel], laidTests := true, laidLooks := .later }
def MeasureBoxesUptoCardSaid : Prop := Claim7.holds Tryz.pinned (.plain (OpenSpec.upto measureBoxesSpec)) measureBoxesUptoCard
end Rows
end Go.Proofs.YtfccecinjmbfhaaGreatDoor
