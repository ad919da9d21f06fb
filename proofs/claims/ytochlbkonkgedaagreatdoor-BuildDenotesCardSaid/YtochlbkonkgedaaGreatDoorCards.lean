/-
  DERIVED. GIVEN WITH THE SEED: THE CARDS: each row of YtochlbkonkgedaaGreatDoorRows.lean that lists a variable, with what it lists TIED to the program's text (the seventh form; the later family's looks); each row that meets fmt, with fmt's text TOLD by the authors' own Lean function (tested against real Go, not proved from fmt's source: count such statements apart). THE CARD IS WHAT COUNTS. Prove the row's statement (the work); the ties are given (YtochlbkonkgedaaGreatDoorTie.lean); close each card by the builder's one call (the guide's Derived/Test/ToyasCard.lean, 'card_holds'). Laid BY PROGRAM, IN A SANDBOX (cutbox-door.mjs). By AI agents, Wed Nov 11 2026. No macro, syntax, notation, axiom, sorry.
-/
import Derived.Test.YtochlbkonkgedaaGreatDoorRows
import GoSem.ClaimSeven
namespace Go.Proofs.YtochlbkonkgedaaGreatDoor
namespace Rows

/-- THE TIED CARD OF 'bspregionlaw18.BuildDenotes'. -/
def buildDenotesCard : Claim7 := { stood := { row := buildDenotesRow, standIns := [], harness := (true, "5bd07b740ab84c8d01bd4eab4918fb3e5530d280b28968d96a576d47d22ff7d5"), looks := true }, kinds := [], alts := [], laidByText := true, laidKinds := [.data, .data, .data, .sentinel, .sentinel, .sentinel], laidTests := true, laidLooks := .later }
def BuildDenotesCardSaid : Prop := Claim7.holds Tryz.pinned (.plain (OpenSpec.ofChange buildDenotesSpec)) buildDenotesCard

/-- THE SECOND FORM's CARD OF 'bspregionlaw18.BuildDenotes'. -/
def buildDenotesUptoCard : Claim7 := { stood := { row := buildDenotesUptoRow, standIns := [], harness := (true, "5bd07b740ab84c8d01bd4eab4918fb3e5530d280b28968d96a576d47d22ff7d5"), looks := true }, kinds := [], alts := [], laidByText := true, laidKinds := [.data, .data, .data, .sentinel, .sentinel, .sentinel], laidTests := true, laidLooks := .later }
def BuildDenotesUptoCardSaid : Prop := Claim7.holds Tryz.pinned (.plain (OpenSpec.upto buildDenotesSpec)) buildDenotesUptoCard
end Rows
end Go.Proofs.YtochlbkonkgedaaGreatDoor
