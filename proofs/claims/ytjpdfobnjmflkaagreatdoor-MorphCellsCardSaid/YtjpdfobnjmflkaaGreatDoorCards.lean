/-
  DERIVED. GIVEN WITH THE SEED: THE CARDS: each row of YtjpdfobnjmflkaaGreatDoorRows.lean that lists a variable, with what it lists TIED to the program's text (the seventh form; the later family's looks); each row that meets fmt, with fmt's text TOLD by the authors' own Lean function (tested against real Go, not proved from fmt's source: count such statements apart). THE CARD IS WHAT COUNTS. Prove the row's statement (the work); the ties are given (YtjpdfobnjmflkaaGreatDoorTie.lean); close each card by the builder's one call (the guide's Derived/Test/ToyasCard.lean, 'card_holds'). Laid BY PROGRAM, IN A SANDBOX (cutbox-door.mjs). By AI agents, Wed Nov 11 2026. No macro, syntax, notation, axiom, sorry.
-/
import Derived.Test.YtjpdfobnjmflkaaGreatDoorRows
import GoSem.ClaimSeven
namespace Go.Proofs.YtjpdfobnjmflkaaGreatDoor
namespace Rows

/-- THE TIED CARD OF 'bspregionlaw29.MorphSums'. -/
def morphSumsCard : Claim7 := { stood := { row := morphSumsRow, standIns := [], harness := (true, "048d38e1d1e3df84847d510d34b3bb74bad82531ab1269ae21ed58b07f5b0228"), looks := true }, kinds := [], alts := [], laidByText := true, laidKinds := [.data, .data, .data, .sentinel, .sentinel, .sentinel], laidTests := true, laidLooks := .later }
def MorphSumsCardSaid : Prop := Claim7.holds Tryz.pinned (.plain (OpenSpec.ofChange morphSumsSpec)) morphSumsCard

/-- THE TIED CARD OF 'bspregionlaw29.MorphCells'. -/
def morphCellsCard : Claim7 := { stood := { row := morphCellsRow, standIns := [], harness := (true, "048d38e1d1e3df84847d510d34b3bb74bad82531ab1269ae21ed58b07f5b0228"), looks := true }, kinds := [], alts := [], laidByText := true, laidKinds := [.data, .data, .data, .sentinel, .sentinel, .sentinel, .sentinel], laidTests := true, laidLooks := .later }
def MorphCellsCardSaid : Prop := Claim7.holds Tryz.pinned (.plain (OpenSpec.ofChange morphCellsSpec)) morphCellsCard

/-- THE TIED CARD OF 'bspregionlaw29.MorphPoints'. -/
def morphPointsCard : Claim7 := { stood := { row := morphPointsRow, standIns := [], harness := (true, "048d38e1d1e3df84847d510d34b3bb74bad82531ab1269ae21ed58b07f5b0228"), looks := true }, kinds := [], alts := [], laidByText := true, laidKinds := [.data, .data, .data, .sentinel, .sentinel, .sentinel], laidTests := true, laidLooks := .later }
def MorphPointsCardSaid : Prop := Claim7.holds Tryz.pinned (.plain (OpenSpec.ofChange morphPointsSpec)) morphPointsCard

/-- THE SECOND FORM's CARD OF 'bspregionlaw29.MorphSums'. -/
def morphSumsUptoCard : Claim7 := { stood := { row := morphSumsUptoRow, standIns := [], harness := (true, "048d38e1d1e3df84847d510d34b3bb74bad82531ab1269ae21ed58b07f5b0228"), looks := true }, kinds := [], alts := [], laidByText := true, laidKinds := [.data, .data, .data, .sentinel, .sentinel, .sentinel], laidTests := true, laidLooks := .later }
def MorphSumsUptoCardSaid : Prop := Claim7.holds Tryz.pinned (.plain (OpenSpec.upto morphSumsSpec)) morphSumsUptoCard

/-- THE SECOND FORM's CARD OF 'bspregionlaw29.MorphCells'. -/
def morphCellsUptoCard : Claim7 := { stood := { row := morphCellsUptoRow, standIns := [], harness := (true, "048d38e1d1e3df84847d510d34b3bb74bad82531ab1269ae21ed58b07f5b0228"), looks := true }, kinds := [], alts := [], laidByText := true, laidKinds := [.data, .data, .data, .sentinel, .sentinel, .sentinel, .sentinel], laidTests := true, laidLooks := .later }
def MorphCellsUptoCardSaid : Prop := Claim7.holds Tryz.pinned (.plain (OpenSpec.upto morphCellsSpec)) morphCellsUptoCard

/-- THE SECOND FORM's CARD OF 'bspregionlaw29.MorphPoints'. -/
def morphPointsUptoCard : Claim7 := { stood := { row := morphPointsUptoRow, standIns := [], harness := (true, "048d38e1d1e3df84847d510d34b3bb74bad82531ab1269ae21ed58b07f5b0228"), looks := true }, kinds := [], alts := [], laidByText := true, laidKinds := [.data, .data, .data, .sentinel, .sentinel, .sentinel], laidTests := true, laidLooks := .later }
def MorphPointsUptoCardSaid : Prop := Claim7.holds Tryz.pinned (.plain (OpenSpec.upto morphPointsSpec)) morphPointsUptoCard
end Rows
end Go.Proofs.YtjpdfobnjmflkaaGreatDoor
