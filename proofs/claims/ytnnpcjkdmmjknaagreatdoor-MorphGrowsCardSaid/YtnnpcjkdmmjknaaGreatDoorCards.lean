/-
  DERIVED. GIVEN WITH THE SEED: THE CARDS: each row of YtnnpcjkdmmjknaaGreatDoorRows.lean that lists a variable, with what it lists TIED to the program's text (the seventh form; the later family's looks); each row that meets fmt, with fmt's text TOLD by the authors' own Lean function (tested against real Go, not proved from fmt's source: count such statements apart). THE CARD IS WHAT COUNTS. Prove the row's statement (the work); the ties are given (YtnnpcjkdmmjknaaGreatDoorTie.lean); close each card by the builder's one call (the guide's Derived/Test/ToyasCard.lean, 'card_holds'). Laid BY PROGRAM, IN A SANDBOX (cutbox-door.mjs). By AI agents, Wed Nov 11 2026. No macro, syntax, notation, axiom, sorry.
-/
import Derived.Test.YtnnpcjkdmmjknaaGreatDoorRows
import GoSem.ClaimSeven
namespace Go.Proofs.YtnnpcjkdmmjknaaGreatDoor
namespace Rows

/-- THE TIED CARD OF 'bspregionlaw30.TilingFinds'. -/
def tilingFindsCard : Claim7 := { stood := { row := tilingFindsRow, standIns := [], harness := (true, "b5ca0e386fb05ee74d939a29c8954fe836e32be5261da245d54176d25ffdf25e"), looks := true }, kinds := [], alts := [], laidByText := true, laidKinds := [.data, .data, .data, .sentinel, .sentinel, .sentinel, .sentinel], laidTests := true, laidLooks := .later }
def TilingFindsCardSaid : Prop := Claim7.holds Tryz.pinned (.plain (OpenSpec.ofChange tilingFindsSpec)) tilingFindsCard

/-- THE TIED CARD OF 'bspregionlaw29.MorphSums'. -/
def morphSumsCard : Claim7 := { stood := { row := morphSumsRow, standIns := [], harness := (true, "b5ca0e386fb05ee74d939a29c8954fe836e32be5261da245d54176d25ffdf25e"), looks := true }, kinds := [], alts := [], laidByText := true, laidKinds := [.data, .data, .data, .sentinel, .sentinel, .sentinel], laidTests := true, laidLooks := .later }
def MorphSumsCardSaid : Prop := Claim7.holds Tryz.pinned (.plain (OpenSpec.ofChange morphSumsSpec)) morphSumsCard

/-- THE TIED CARD OF 'bspregionlaw29.MorphUnites'. -/
def morphUnitesCard : Claim7 := { stood := { row := morphUnitesRow, standIns := [], harness := (true, "b5ca0e386fb05ee74d939a29c8954fe836e32be5261da245d54176d25ffdf25e"), looks := true }, kinds := [], alts := [], laidByText := true, laidKinds := [.data, .data, .data, .sentinel, .sentinel, .sentinel], laidTests := true, laidLooks := .later }
def MorphUnitesCardSaid : Prop := Claim7.holds Tryz.pinned (.plain (OpenSpec.ofChange morphUnitesSpec)) morphUnitesCard

/-- THE TIED CARD OF 'bspregionlaw29.MorphGrows'. -/
def morphGrowsCard : Claim7 := { stood := { row := morphGrowsRow, standIns := [], harness := (true, "b5ca0e386fb05ee74d939a29c8954fe836e32be5261da245d54176d25ffdf25e"), looks := true }, kinds := [], alts := [], laidByText := true, laidKinds := [.data, .data, .data, .sentinel, .sentinel, .sentinel], laidTests := true, laidLooks := .later }
def MorphGrowsCardSaid : Prop := Claim7.holds Tryz.pinned (.plain (OpenSpec.ofChange morphGrowsSpec)) morphGrowsCard

/-- THE TIED CARD OF 'bspregionlaw29.MorphOpens'. -/
def morphOpensCard : Claim7 := { stood := { row := morphOpensRow, standIns := [], harness := (true, "b5ca0e386fb05ee74d939a29c8954fe836e32be5261da245d54176d25ffdf25e"), looks := true }, kinds := [], alts := [], laidByText := true, laidKinds := [.data, .data, .data, .sentinel, .sentinel, .sentinel], laidTests := true, laidLooks := .later }
def MorphOpensCardSaid : Prop := Claim7.holds Tryz.pinned (.plain (OpenSpec.ofChange morphOpensSpec)) morphOpensCard

/-- THE TIED CARD OF 'bspregionlaw29.MorphCells'. -/
def morphCellsCard : Claim7 := { stood := { row := morphCellsRow, standIns := [], harness := (true, "b5ca0e386fb05ee74d939a29c8954fe836e32be5261da245d54176d25ffdf25e"), looks := true }, kinds := [], alts := [], laidByText := true, laidKinds := [.data, .data, .data, .sentinel, .sentinel, .sentinel, .sentinel], laidTests := true, laidLooks := .later }
def MorphCellsCardSaid : Prop := Claim7.holds Tryz.pinned (.plain (OpenSpec.ofChange morphCellsSpec)) morphCellsCard

/-- THE TIED CARD OF 'bspregionlaw29.MorphSeparates'. -/
def morphSeparatesCard : Claim7 := { stood := { row := morphSeparatesRow, standIns := [], harness := (true, "b5ca0e386fb05ee74d939a29c8954fe836e32be5261da245d54176d25ffdf25e"), looks := true }, kinds := [], alts := [], laidByText := true, laidKinds := [.data, .data, .data, .sentinel, .sentinel, .sentinel], laidTests := true, laidLooks := .later }
def MorphSeparatesCardSaid : Prop := Claim7.holds Tryz.pinned (.plain (OpenSpec.ofChange morphSeparatesSpec)) morphSeparatesCard

/-- THE TIED CARD OF 'bspregionlaw29.MorphPoints'. -/
def morphPointsCard : Claim7 := { stood := { row := morphPointsRow, standIns := [], harness := (true, "b5ca0e386fb05ee74d939a29c8954fe836e32be5261da245d54176d25ffdf25e"), looks := true }, kinds := [], alts := [], laidByText := true, laidKinds := [.data, .data, .data, .sentinel, .sentinel, .sentinel], laidTests := true, laidLooks := .later }
def MorphPointsCardSaid : Prop := Claim7.holds Tryz.pinned (.plain (OpenSpec.ofChange morphPointsSpec)) morphPointsCard

/-- THE SECOND FORM's CARD OF 'bspregionlaw30.TilingFinds'. -/
def tilingFindsUptoCard : Claim7 := { stood := { row := tilingFindsUptoRow, standIns := [], harness := (true, "b5ca0e386fb05ee74d939a29c8954fe836e32be5261da245d54176d25ffdf25e"), looks := true }, kinds := [], alts := [], laidByText := true, laidKinds := [.data, .data, .data, .sentinel, .sentinel, .sentinel, .sentinel], laidTests := true, laidLooks := .later }
def TilingFindsUptoCardSaid : Prop := Claim7.holds Tryz.pinned (.plain (OpenSpec.upto tilingFindsSpec)) tilingFindsUptoCard

/-- THE SECOND FORM's CARD OF 'bspregionlaw29.MorphSums'. -/
def morphSumsUptoCard : Claim7 := { stood := { row := morphSumsUptoRow, standIns := [], harness := (true, "b5ca0e386fb05ee74d939a29c8954fe836e32be5261da245d54176d25ffdf25e"), looks := true }, kinds := [], alts := [], laidByText := true, laidKinds := [.data, .data, .data, .sentinel, .sentinel, .sentinel], laidTests := true, laidLooks := .later }
def MorphSumsUptoCardSaid : Prop := Claim7.holds Tryz.pinned (.plain (OpenSpec.upto morphSumsSpec)) morphSumsUptoCard

/-- THE SECOND FORM's CARD OF 'bspregionlaw29.MorphUnites'. -/
def morphUnitesUptoCard : Claim7 := { stood := { row := morphUnitesUptoRow, standIns := [], harness := (true, "b5ca0e386fb05ee74d939a29c8954fe836e32be5261da245d54176d25ffdf25e"), looks := true }, kinds := [], alts := [], laidByText := true, laidKinds := [.data, .data, .data, .sentinel, .sentinel, .sentinel], laidTests := true, laidLooks := .later }
def MorphUnitesUptoCardSaid : Prop := Claim7.holds Tryz.pinned (.plain (OpenSpec.upto morphUnitesSpec)) morphUnitesUptoCard

/-- THE SECOND FORM's CARD OF 'bspregionlaw29.MorphGrows'. -/
def morphGrowsUptoCard : Claim7 := { stood := { row := morphGrowsUptoRow, standIns := [], harness := (true, "b5ca0e386fb05ee74d939a29c8954fe836e32be5261da245d54176d25ffdf25e"), looks := true }, kinds := [], alts := [], laidByText := true, laidKinds := [.data, .data, .data, .sentinel, .sentinel, .sentinel], laidTests := true, laidLooks := .later }
def MorphGrowsUptoCardSaid : Prop := Claim7.holds Tryz.pinned (.plain (OpenSpec.upto morphGrowsSpec)) morphGrowsUptoCard

/-- THE SECOND FORM's CARD OF 'bspregionlaw29.MorphOpens'. -/
def morphOpensUptoCard : Claim7 := { stood := { row := morphOpensUptoRow, standIns := [], harness := (true, "b5ca0e386fb05ee74d939a29c8954fe836e32be5261da245d54176d25ffdf25e"), looks := true }, kinds := [], alts := [], laidByText := true, laidKinds := [.data, .data, .data, .sentinel, .sentinel, .sentinel], laidTests := true, laidLooks := .later }
def MorphOpensUptoCardSaid : Prop := Claim7.holds Tryz.pinned (.plain (OpenSpec.upto morphOpensSpec)) morphOpensUptoCard

/-- THE SECOND FORM's CARD OF 'bspregionlaw29.MorphCells'. -/
def morphCellsUptoCard : Claim7 := { stood := { row := morphCellsUptoRow, standIns := [], harness := (true, "b5ca0e386fb05ee74d939a29c8954fe836e32be5261da245d54176d25ffdf25e"), looks := true }, kinds := [], alts := [], laidByText := true, laidKinds := [.data, .data, .data, .sentinel, .sentinel, .sentinel, .sentinel], laidTests := true, laidLooks := .later }
def MorphCellsUptoCardSaid : Prop := Claim7.holds Tryz.pinned (.plain (OpenSpec.upto morphCellsSpec)) morphCellsUptoCard

/-- THE SECOND FORM's CARD OF 'bspregionlaw29.MorphSeparates'. -/
def morphSeparatesUptoCard : Claim7 := { stood := { row := morphSeparatesUptoRow, standIns := [], harness := (true, "b5ca0e386fb05ee74d939a29c8954fe836e32be5261da245d54176d25ffdf25e"), looks := true }, kinds := [], alts := [], laidByText := true, laidKinds := [.data, .data, .data, .sentinel, .sentinel, .sentinel], laidTests := true, laidLooks := .later }
def MorphSeparatesUptoCardSaid : Prop := Claim7.holds Tryz.pinned (.plain (OpenSpec.upto morphSeparatesSpec)) morphSeparatesUptoCard

/-- THE SECOND FORM's CARD OF 'bspregionlaw29.MorphPoints'. -/
def morphPointsUptoCard : Claim7 := { stood := { row := morphPointsUptoRow, standIns := [], harness := (true, "b5ca0e386fb05ee74d939a29c8954fe836e32be5261da245d54176d25ffdf25e"), looks := true }, kinds := [], alts := [], laidByText := true, laidKinds := [.data, .data, .data, .sentinel, .sentinel, .sentinel], laidTests := true, laidLooks := .later }
def MorphPointsUptoCardSaid : Prop := Claim7.holds Tryz.pinned (.plain (OpenSpec.upto morphPointsSpec)) morphPointsUptoCard
end Rows
end Go.Proofs.YtnnpcjkdmmjknaaGreatDoor
