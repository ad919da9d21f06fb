/-
  DERIVED. GIVEN WITH THE SEED: THE CARDS: each row of YtmhfhhiaecjhiaaGreatDoorRows.lean that lists a variable, with what it lists TIED to the program's text (the seventh form; the later family's looks); each row that meets fmt, with fmt's text TOLD by the authors' own Lean function (tested against real Go, not proved from fmt's source: count such statements apart). THE CARD IS WHAT COUNTS. Prove the row's statement (the work); the ties are given (YtmhfhhiaecjhiaaGreatDoorTie.lean); close each card by the builder's one call (the guide's Derived/Test/ToyasCard.lean, 'card_holds'). Laid BY PROGRAM, IN A SANDBOX (cutbox-door.mjs). By AI agents, Wed Nov 11 2026. No macro, syntax, notation, axiom, sorry.
-/
import Derived.Test.YtmhfhhiaecjhiaaGreatDoorRows
import GoSem.ClaimSeven
namespace Go.Proofs.YtmhfhhiaecjhiaaGreatDoor
namespace Rows

/-- THE TIED CARD OF 'bspregionlaw18.BuildRefuses'. -/
def buildRefusesCard : Claim7 := { stood := { row := buildRefusesRow, standIns := [], harness := (true, "0d1f79ca4263f53a70858d7865e70e0a92c971bbaaee346f8c8c2e2393d70be0"), looks := true }, kinds := [], alts := [], laidByText := true, laidKinds := [.data, .data, .data, .sentinel, .sentinel, .sentinel], laidTests := true, laidLooks := .later }
def BuildRefusesCardSaid : Prop := Claim7.holds Tryz.pinned (.plain (OpenSpec.ofChange buildRefusesSpec)) buildRefusesCard

/-- THE TIED CARD OF 'bspregionlaw10.WindingRefuses'. -/
def windingRefusesCard : Claim7 := { stood := { row := windingRefusesRow, standIns := [], harness := (true, "0d1f79ca4263f53a70858d7865e70e0a92c971bbaaee346f8c8c2e2393d70be0"), looks := true }, kinds := [], alts := [], laidByText := true, laidKinds := [.data, .data, .data, .sentinel, .sentinel, .sentinel, .sentinel], laidTests := true, laidLooks := .later }
def WindingRefusesCardSaid : Prop := Claim7.holds Tryz.pinned (.plain (OpenSpec.ofChange windingRefusesSpec)) windingRefusesCard

/-- THE SECOND FORM's CARD OF 'bspregionlaw18.BuildRefuses'. -/
def buildRefusesUptoCard : Claim7 := { stood := { row := buildRefusesUptoRow, standIns := [], harness := (true, "0d1f79ca4263f53a70858d7865e70e0a92c971bbaaee346f8c8c2e2393d70be0"), looks := true }, kinds := [], alts := [], laidByText := true, laidKinds := [.data, .data, .data, .sentinel, .sentinel, .sentinel], laidTests := true, laidLooks := .later }
def BuildRefusesUptoCardSaid : Prop := Claim7.holds Tryz.pinned (.plain (OpenSpec.upto buildRefusesSpec)) buildRefusesUptoCard

/-- THE SECOND FORM's CARD OF 'bspregionlaw10.WindingRefuses'. -/
def windingRefusesUptoCard : Claim7 := { stood := { row := windingRefusesUptoRow, standIns := [], harness := (true, "0d1f79ca4263f53a70858d7865e70e0a92c971bbaaee346f8c8c2e2393d70be0"), looks := true }, kinds := [], alts := [], laidByText := true, laidKinds := [.data, .data, .data, .sentinel, .sentinel, .sentinel, .sentinel], laidTests := true, laidLooks := .later }
def WindingRefusesUptoCardSaid : Prop := Claim7.holds Tryz.pinned (.plain (OpenSpec.upto windingRefusesSpec)) windingRefusesUptoCard
end Rows
end Go.Proofs.YtmhfhhiaecjhiaaGreatDoor
