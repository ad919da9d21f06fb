/-
  DERIVED. GIVEN WITH THE SEED: THE CARDS: each row of YthhjilnhmkheeaaGreatDoorRows.lean that lists a variable, with what it lists TIED to the program's text (the seventh form; the later family's looks); each row that meets fmt, with fmt's text TOLD by the authors' own Lean function (tested against real Go, not proved from fmt's source: count such statements apart). THE CARD IS WHAT COUNTS. Prove the row's statement (the work); the ties are given (YthhjilnhmkheeaaGreatDoorTie.lean); close each card by the builder's one call (the guide's Derived/Test/ToyasCard.lean, 'card_holds'). Laid BY PROGRAM, IN A SANDBOX (cutbox-door.mjs). By AI agents, Wed Nov 11 2026. No macro, syntax, notation, axiom, sorry.
-/
import Derived.Test.YthhjilnhmkheeaaGreatDoorRows
import GoSem.ClaimSeven
namespace Go.Proofs.YthhjilnhmkheeaaGreatDoor
namespace Rows

/-- THE TIED CARD OF 'bspregionlaw21.MeasureRings'. -/
def measureRingsCard : Claim7 := { stood := { row := measureRingsRow, standIns := [], harness := (true, "c9a22f8f4e60112134db8df4ebaf3af62ebbd56d70055136b0c6b18aa24a4c73"), looks := false }, kinds := [], alts := [], laidByText := true, laidKinds := [.sentinel, .sentinel, .sentinel, .sentinel], laidTests := true, laidLooks := .later }
def MeasureRingsCardSaid : Prop := Claim7.holds Tryz.pinned (.plain (OpenSpec.ofChange measureRingsSpec)) measureRingsCard

/-- THE SECOND FORM's CARD OF 'bspregionlaw21.MeasureRings'. -/
def measureRingsUptoCard : Claim7 := { stood := { row := measureRingsUptoRow, standIns := [], harness := (true, "c9a22f8f4e60112134db8df4ebaf3af62ebbd56d70055136b0c6b18aa24a4c73"), looks := false }, kinds := [], alts := [], laidByText := true, laidKinds := [.sentinel, .sentinel, .sentinel, .sentinel], laidTests := true, laidLooks := .later }
def MeasureRingsUptoCardSaid : Prop := Claim7.holds Tryz.pinned (.plain (OpenSpec.upto measureRingsSpec)) measureRingsUptoCard
end Rows
end Go.Proofs.YthhjilnhmkheeaaGreatDoor
