/-
  DERIVED. GIVEN WITH THE SEED: THE CARDS: each row of YtefoocgiaegobaaGreatDoorRows.lean that lists a variable, with what it lists TIED to the program's text (the seventh form; the later family's looks); each row that meets fmt, with fmt's text TOLD by the authors' own Lean function (tested against real Go, not proved from fmt's source: count such statements apart). THE CARD IS WHAT COUNTS. Prove the row's statement (the work); the ties are given (YtefoocgiaegobaaGreatDoorTie.lean); close each card by the builder's one call (the guide's Derived/Test/ToyasCard.lean, 'card_holds'). Laid BY PROGRAM, IN A SANDBOX (cutbox-door.mjs). By AI agents, Wed Nov 11 2026. No macro, syntax, notation, axiom, sorry.
-/
import Derived.Test.YtefoocgiaegobaaGreatDoorRows
import GoSem.ClaimSeven
namespace Go.Proofs.YtefoocgiaegobaaGreatDoor
namespace Rows

/-- THE TIED CARD OF 'bspregionlaw18.BuildMakes'. -/
def buildMakesCard : Claim7 := { stood := { row := buildMakesRow, standIns := [], harness := (true, "c2b888091caff3ab24f94840e370f8016fa318d5fe6f3afb5f08d6919ef6fb69"), looks := true }, kinds := [], alts := [], laidByText := true, laidKinds := [.data, .data, .data, .sentinel, .sentinel, .sentinel], laidTests := true, laidLooks := .later }
def BuildMakesCardSaid : Prop := Claim7.holds Tryz.pinned (.plain (OpenSpec.ofChange buildMakesSpec)) buildMakesCard

/-- THE TIED CARD OF 'bspregionlaw18.BuildRefuses'. -/
def buildRefusesCard : Claim7 := { stood := { row := buildRefusesRow, standIns := [], harness := (true, "c2b888091caff3ab24f94840e370f8016fa318d5fe6f3afb5f08d6919ef6fb69"), looks := true }, kinds := [], alts := [], laidByText := true, laidKinds := [.data, .data, .data, .sentinel, .sentinel, .sentinel], laidTests := true, laidLooks := .later }
def BuildRefusesCardSaid : Prop := Claim7.holds Tryz.pinned (.plain (OpenSpec.ofChange buildRefusesSpec)) buildRefusesCard

/-- THE TIED CARD OF 'bspregionlaw10.WindingTwice'. -/
def windingTwiceCard : Claim7 := { stood := { row := windingTwiceRow, standIns := [], harness := (true, "c2b888091caff3ab24f94840e370f8016fa318d5fe6f3afb5f08d6919ef6fb69"), looks := true }, kinds := [], alts := [], laidByText := true, laidKinds := [.data, .data, .data, .sentinel, .sentinel, .sentinel, .sentinel], laidTests := true, laidLooks := .later }
def WindingTwiceCardSaid : Prop := Claim7.holds Tryz.pinned (.plain (OpenSpec.ofChange windingTwiceSpec)) windingTwiceCard

/-- THE TIED CARD OF 'bspregionlaw21.MeasureRings'. -/
def measureRingsCard : Claim7 := { stood := { row := measureRingsRow, standIns := [], harness := (true, "c2b888091caff3ab24f94840e370f8016fa318d5fe6f3afb5f08d6919ef6fb69"), looks := true }, kinds := [], alts := [], laidByText := true, laidKinds := [.sentinel, .sentinel, .sentinel, .sentinel], laidTests := true, laidLooks := .later }
def MeasureRingsCardSaid : Prop := Claim7.holds Tryz.pinned (.plain (OpenSpec.ofChange measureRingsSpec)) measureRingsCard

/-- THE TIED CARD OF 'bspregionlaw10.WindingSums'. -/
def windingSumsCard : Claim7 := { stood := { row := windingSumsRow, standIns := [], harness := (true, "c2b888091caff3ab24f94840e370f8016fa318d5fe6f3afb5f08d6919ef6fb69"), looks := true }, kinds := [], alts := [], laidByText := true, laidKinds := [.data, .data, .data, .sentinel, .sentinel, .sentinel, .sentinel], laidTests := true, laidLooks := .later }
def WindingSumsCardSaid : Prop := Claim7.holds Tryz.pinned (.plain (OpenSpec.ofChange windingSumsSpec)) windingSumsCard

/-- THE TIED CARD OF 'bspregionlaw10.WindingNumbers'. -/
def windingNumbersCard : Claim7 := { stood := { row := windingNumbersRow, standIns := [], harness := (true, "c2b888091caff3ab24f94840e370f8016fa318d5fe6f3afb5f08d6919ef6fb69"), looks := true }, kinds := [], alts := [], laidByText := true, laidKinds := [.data, .data, .data, .sentinel, .sentinel, .sentinel, .sentinel], laidTests := true, laidLooks := .later }
def WindingNumbersCardSaid : Prop := Claim7.holds Tryz.pinned (.plain (OpenSpec.ofChange windingNumbersSpec)) windingNumbersCard

/-- THE TIED CARD OF 'bspregionlaw10.WindingRefuses'. -/
def windingRefusesCard : Claim7 := { stood := { row := windingRefusesRow, standIns := [], harness := (true, "c2b888091caff3ab24f94840e370f8016fa318d5fe6f3afb5f08d6919ef6fb69"), looks := true }, kinds := [], alts := [], laidByText := true, laidKinds := [.data, .data, .data, .sentinel, .sentinel, .sentinel, .sentinel], laidTests := true, laidLooks := .later }
def WindingRefusesCardSaid : Prop := Claim7.holds Tryz.pinned (.plain (OpenSpec.ofChange windingRefusesSpec)) windingRefusesCard

/-- THE TIED CARD OF 'bspregionlaw18.BuildBounds'. -/
def buildBoundsCard : Claim7 := { stood := { row := buildBoundsRow, standIns := [], harness := (true, "c2b888091caff3ab24f94840e370f8016fa318d5fe6f3afb5f08d6919ef6fb69"), looks := true }, kinds := [], alts := [], laidByText := true, laidKinds := [.data, .data, .data, .sentinel, .sentinel, .sentinel], laidTests := true, laidLooks := .later }
def BuildBoundsCardSaid : Prop := Claim7.holds Tryz.pinned (.plain (OpenSpec.ofChange buildBoundsSpec)) buildBoundsCard

/-- THE TIED CARD OF 'bspregionlaw18.BuildEverywhere'. -/
def buildEverywhereCard : Claim7 := { stood := { row := buildEverywhereRow, standIns := [], harness := (true, "c2b888091caff3ab24f94840e370f8016fa318d5fe6f3afb5f08d6919ef6fb69"), looks := true }, kinds := [], alts := [], laidByText := true, laidKinds := [.data, .data, .data, .sentinel, .sentinel, .sentinel, .sentinel], laidTests := true, laidLooks := .later }
def BuildEverywhereCardSaid : Prop := Claim7.holds Tryz.pinned (.plain (OpenSpec.ofChange buildEverywhereSpec)) buildEverywhereCard

/-- THE TIED CARD OF 'bspregionlaw18.BuildHalves'. -/
def buildHalvesCard : Claim7 := { stood := { row := buildHalvesRow, standIns := [], harness := (true, "c2b888091caff3ab24f94840e370f8016fa318d5fe6f3afb5f08d6919ef6fb69"), looks := true }, kinds := [], alts := [], laidByText := true, laidKinds := [.data, .data, .data, .sentinel, .sentinel, .sentinel, .sentinel], laidTests := true, laidLooks := .later }
def BuildHalvesCardSaid : Prop := Claim7.holds Tryz.pinned (.plain (OpenSpec.ofChange buildHalvesSpec)) buildHalvesCard

/-- THE TIED CARD OF 'bspregionlaw18.BuildCells'. -/
def buildCellsCard : Claim7 := { stood := { row := buildCellsRow, standIns := [], harness := (true, "c2b888091caff3ab24f94840e370f8016fa318d5fe6f3afb5f08d6919ef6fb69"), looks := true }, kinds := [], alts := [], laidByText := true, laidKinds := [.data, .data, .data, .sentinel, .sentinel, .sentinel], laidTests := true, laidLooks := .later }
def BuildCellsCardSaid : Prop := Claim7.holds Tryz.pinned (.plain (OpenSpec.ofChange buildCellsSpec)) buildCellsCard

/-- THE TIED CARD OF 'bspregionlaw18.BuildDenotes'. -/
def buildDenotesCard : Claim7 := { stood := { row := buildDenotesRow, standIns := [], harness := (true, "c2b888091caff3ab24f94840e370f8016fa318d5fe6f3afb5f08d6919ef6fb69"), looks := true }, kinds := [], alts := [], laidByText := true, laidKinds := [.data, .data, .data, .sentinel, .sentinel, .sentinel], laidTests := true, laidLooks := .later }
def BuildDenotesCardSaid : Prop := Claim7.holds Tryz.pinned (.plain (OpenSpec.ofChange buildDenotesSpec)) buildDenotesCard

/-- THE SECOND FORM's CARD OF 'bspregionlaw18.BuildMakes'. -/
def buildMakesUptoCard : Claim7 := { stood := { row := buildMakesUptoRow, standIns := [], harness := (true, "c2b888091caff3ab24f94840e370f8016fa318d5fe6f3afb5f08d6919ef6fb69"), looks := true }, kinds := [], alts := [], laidByText := true, laidKinds := [.data, .data, .data, .sentinel, .sentinel, .sentinel], laidTests := true, laidLooks := .later }
def BuildMakesUptoCardSaid : Prop := Claim7.holds Tryz.pinned (.plain (OpenSpec.upto buildMakesSpec)) buildMakesUptoCard

/-- THE SECOND FORM's CARD OF 'bspregionlaw18.BuildRefuses'. -/
def buildRefusesUptoCard : Claim7 := { stood := { row := buildRefusesUptoRow, standIns := [], harness := (true, "c2b888091caff3ab24f94840e370f8016fa318d5fe6f3afb5f08d6919ef6fb69"), looks := true }, kinds := [], alts := [], laidByText := true, laidKinds := [.data, .data, .data, .sentinel, .sentinel, .sentinel], laidTests := true, laidLooks := .later }
def BuildRefusesUptoCardSaid : Prop := Claim7.holds Tryz.pinned (.plain (OpenSpec.upto buildRefusesSpec)) buildRefusesUptoCard

/-- THE SECOND FORM's CARD OF 'bspregionlaw10.WindingTwice'. -/
def windingTwiceUptoCard : Claim7 := { stood := { row := windingTwiceUptoRow, standIns := [], harness := (true, "c2b888091caff3ab24f94840e370f8016fa318d5fe6f3afb5f08d6919ef6fb69"), looks := true }, kinds := [], alts := [], laidByText := true, laidKinds := [.data, .data, .data, .sentinel, .sentinel, .sentinel, .sentinel], laidTests := true, laidLooks := .later }
def WindingTwiceUptoCardSaid : Prop := Claim7.holds Tryz.pinned (.plain (OpenSpec.upto windingTwiceSpec)) windingTwiceUptoCard

/-- THE SECOND FORM's CARD OF 'bspregionlaw21.MeasureRings'. -/
def measureRingsUptoCard : Claim7 := { stood := { row := measureRingsUptoRow, standIns := [], harness := (true, "c2b888091caff3ab24f94840e370f8016fa318d5fe6f3afb5f08d6919ef6fb69"), looks := true }, kinds := [], alts := [], laidByText := true, laidKinds := [.sentinel, .sentinel, .sentinel, .sentinel], laidTests := true, laidLooks := .later }
def MeasureRingsUptoCardSaid : Prop := Claim7.holds Tryz.pinned (.plain (OpenSpec.upto measureRingsSpec)) measureRingsUptoCard

/-- THE SECOND FORM's CARD OF 'bspregionlaw10.WindingSums'. -/
def windingSumsUptoCard : Claim7 := { stood := { row := windingSumsUptoRow, standIns := [], harness := (true, "c2b888091caff3ab24f94840e370f8016fa318d5fe6f3afb5f08d6919ef6fb69"), looks := true }, kinds := [], alts := [], laidByText := true, laidKinds := [.data, .data, .data, .sentinel, .sentinel, .sentinel, .sentinel], laidTests := true, laidLooks := .later }
def WindingSumsUptoCardSaid : Prop := Claim7.holds Tryz.pinned (.plain (OpenSpec.upto windingSumsSpec)) windingSumsUptoCard

/-- THE SECOND FORM's CARD OF 'bspregionlaw10.WindingNumbers'. -/
def windingNumbersUptoCard : Claim7 := { stood := { row := windingNumbersUptoRow, standIns := [], harness := (true, "c2b888091caff3ab24f94840e370f8016fa318d5fe6f3afb5f08d6919ef6fb69"), looks := true }, kinds := [], alts := [], laidByText := true, laidKinds := [.data, .data, .data, .sentinel, .sentinel, .sentinel, .sentinel], laidTests := true, laidLooks := .later }
def WindingNumbersUptoCardSaid : Prop := Claim7.holds Tryz.pinned (.plain (OpenSpec.upto windingNumbersSpec)) windingNumbersUptoCard

/-- THE SECOND FORM's CARD OF 'bspregionlaw10.WindingRefuses'. -/
def windingRefusesUptoCard : Claim7 := { stood := { row := windingRefusesUptoRow, standIns := [], harness := (true, "c2b888091caff3ab24f94840e370f8016fa318d5fe6f3afb5f08d6919ef6fb69"), looks := true }, kinds := [], alts := [], laidByText := true, laidKinds := [.data, .data, .data, .sentinel, .sentinel, .sentinel, .sentinel], laidTests := true, laidLooks := .later }
def WindingRefusesUptoCardSaid : Prop := Claim7.holds Tryz.pinned (.plain (OpenSpec.upto windingRefusesSpec)) windingRefusesUptoCard

/-- THE SECOND FORM's CARD OF 'bspregionlaw18.BuildBounds'. -/
def buildBoundsUptoCard : Claim7 := { stood := { row := buildBoundsUptoRow, standIns := [], harness := (true, "c2b888091caff3ab24f94840e370f8016fa318d5fe6f3afb5f08d6919ef6fb69"), looks := true }, kinds := [], alts := [], laidByText := true, laidKinds := [.data, .data, .data, .sentinel, .sentinel, .sentinel], laidTests := true, laidLooks := .later }
def BuildBoundsUptoCardSaid : Prop := Claim7.holds Tryz.pinned (.plain (OpenSpec.upto buildBoundsSpec)) buildBoundsUptoCard

/-- THE SECOND FORM's CARD OF 'bspregionlaw18.BuildEverywhere'. -/
def buildEverywhereUptoCard : Claim7 := { stood := { row := buildEverywhereUptoRow, standIns := [], harness := (true, "c2b888091caff3ab24f94840e370f8016fa318d5fe6f3afb5f08d6919ef6fb69"), looks := true }, kinds := [], alts := [], laidByText := true, laidKinds := [.data, .data, .data, .sentinel, .sentinel, .sentinel, .sentinel], laidTests := true, laidLooks := .later }
def BuildEverywhereUptoCardSaid : Prop := Claim7.holds Tryz.pinned (.plain (OpenSpec.upto buildEverywhereSpec)) buildEverywhereUptoCard

/-- THE SECOND FORM's CARD OF 'bspregionlaw18.BuildHalves'. -/
def buildHalvesUptoCard : Claim7 := { stood := { row := buildHalvesUptoRow, standIns := [], harness := (true, "c2b888091caff3ab24f94840e370f8016fa318d5fe6f3afb5f08d6919ef6fb69"), looks := true }, kinds := [], alts := [], laidByText := true, laidKinds := [.data, .data, .data, .sentinel, .sentinel, .sentinel, .sentinel], laidTests := true, laidLooks := .later }
def BuildHalvesUptoCardSaid : Prop := Claim7.holds Tryz.pinned (.plain (OpenSpec.upto buildHalvesSpec)) buildHalvesUptoCard

/-- THE SECOND FORM's CARD OF 'bspregionlaw18.BuildCells'. -/
def buildCellsUptoCard : Claim7 := { stood := { row := buildCellsUptoRow, standIns := [], harness := (true, "c2b888091caff3ab24f94840e370f8016fa318d5fe6f3afb5f08d6919ef6fb69"), looks := true }, kinds := [], alts := [], laidByText := true, laidKinds := [.data, .data, .data, .sentinel, .sentinel, .sentinel], laidTests := true, laidLooks := .later }
def BuildCellsUptoCardSaid : Prop := Claim7.holds Tryz.pinned (.plain (OpenSpec.upto buildCellsSpec)) buildCellsUptoCard

/-- THE SECOND FORM's CARD OF 'bspregionlaw18.BuildDenotes'. -/
def buildDenotesUptoCard : Claim7 := { stood := { row := buildDenotesUptoRow, standIns := [], harness := (true, "c2b888091caff3ab24f94840e370f8016fa318d5fe6f3afb5f08d6919ef6fb69"), looks := true }, kinds := [], alts := [], laidByText := true, laidKinds := [.data, .data, .data, .sentinel, .sentinel, .sentinel], laidTests := true, laidLooks := .later }
def BuildDenotesUptoCardSaid : Prop := Claim7.holds Tryz.pinned (.plain (OpenSpec.upto buildDenotesSpec)) buildDenotesUptoCard
end Rows
end Go.Proofs.YtefoocgiaegobaaGreatDoor
