/-
  DERIVED. GIVEN WITH THE SEED: THE CARDS: each row of YtopfgminkdfpkaaGreatDoorRows.lean that lists a variable, with what it lists TIED to the program's text (the seventh form; the later family's looks); each row that meets fmt, with fmt's text TOLD by the authors' own Lean function (tested against real Go, not proved from fmt's source: count such statements apart). THE CARD IS WHAT COUNTS. Prove the row's statement (the work); the ties are given (YtopfgminkdfpkaaGreatDoorTie.lean); close each card by the builder's one call (the guide's Derived/Test/ToyasCard.lean, 'card_holds'). Laid BY PROGRAM, IN A SANDBOX (cutbox-door.mjs). By AI agents, Wed Nov 11 2026. No macro, syntax, notation, axiom, sorry.
-/
import Derived.Test.YtopfgminkdfpkaaGreatDoorRows
import GoSem.ClaimSeven
namespace Go.Proofs.YtopfgminkdfpkaaGreatDoor
namespace Rows

/-- THE TIED CARD OF 'bspregionlaw20.RelateWitness'. -/
def relateWitnessCard : Claim7 := { stood := { row := relateWitnessRow, standIns := [], harness := (true, "3998eb2c9fd54aadb08a9f5d2e9a5a2ed9952e0536eb48f72f926c3c8124f144"), looks := true }, kinds := [], alts := [], laidByText := true, laidKinds := [.sentinel, .sentinel, .sentinel], laidTests := true, laidLooks := .later }
def RelateWitnessCardSaid : Prop := Claim7.holds Tryz.pinned (.plain (OpenSpec.ofChange relateWitnessSpec)) relateWitnessCard

/-- THE TIED CARD OF 'bspregionlaw17.ReduceKeeps'. -/
def reduceKeepsCard : Claim7 := { stood := { row := reduceKeepsRow, standIns := [], harness := (true, "3998eb2c9fd54aadb08a9f5d2e9a5a2ed9952e0536eb48f72f926c3c8124f144"), looks := true }, kinds := [], alts := [], laidByText := true, laidKinds := [.sentinel, .sentinel], laidTests := true, laidLooks := .later }
def ReduceKeepsCardSaid : Prop := Claim7.holds Tryz.pinned (.plain (OpenSpec.ofChange reduceKeepsSpec)) reduceKeepsCard

/-- THE TIED CARD OF 'bspregionlaw19.MergeDenotes'. -/
def mergeDenotesCard : Claim7 := { stood := { row := mergeDenotesRow, standIns := [], harness := (true, "3998eb2c9fd54aadb08a9f5d2e9a5a2ed9952e0536eb48f72f926c3c8124f144"), looks := true }, kinds := [], alts := [], laidByText := true, laidKinds := [.sentinel, .sentinel], laidTests := true, laidLooks := .later }
def MergeDenotesCardSaid : Prop := Claim7.holds Tryz.pinned (.plain (OpenSpec.ofChange mergeDenotesSpec)) mergeDenotesCard

/-- THE TIED CARD OF 'bspregionlaw19.MergeClasses'. -/
def mergeClassesCard : Claim7 := { stood := { row := mergeClassesRow, standIns := [], harness := (true, "3998eb2c9fd54aadb08a9f5d2e9a5a2ed9952e0536eb48f72f926c3c8124f144"), looks := true }, kinds := [], alts := [], laidByText := true, laidKinds := [.sentinel, .sentinel], laidTests := true, laidLooks := .later }
def MergeClassesCardSaid : Prop := Claim7.holds Tryz.pinned (.plain (OpenSpec.ofChange mergeClassesSpec)) mergeClassesCard

/-- THE TIED CARD OF 'bspregionlaw20.RelatePoints'. -/
def relatePointsCard : Claim7 := { stood := { row := relatePointsRow, standIns := [], harness := (true, "3998eb2c9fd54aadb08a9f5d2e9a5a2ed9952e0536eb48f72f926c3c8124f144"), looks := true }, kinds := [], alts := [], laidByText := true, laidKinds := [.sentinel, .sentinel], laidTests := true, laidLooks := .later }
def RelatePointsCardSaid : Prop := Claim7.holds Tryz.pinned (.plain (OpenSpec.ofChange relatePointsSpec)) relatePointsCard

/-- THE SECOND FORM's CARD OF 'bspregionlaw20.RelateWitness'. -/
def relateWitnessUptoCard : Claim7 := { stood := { row := relateWitnessUptoRow, standIns := [], harness := (true, "3998eb2c9fd54aadb08a9f5d2e9a5a2ed9952e0536eb48f72f926c3c8124f144"), looks := true }, kinds := [], alts := [], laidByText := true, laidKinds := [.sentinel, .sentinel, .sentinel], laidTests := true, laidLooks := .later }
def RelateWitnessUptoCardSaid : Prop := Claim7.holds Tryz.pinned (.plain (OpenSpec.upto relateWitnessSpec)) relateWitnessUptoCard

/-- THE SECOND FORM's CARD OF 'bspregionlaw17.ReduceKeeps'. -/
def reduceKeepsUptoCard : Claim7 := { stood := { row := reduceKeepsUptoRow, standIns := [], harness := (true, "3998eb2c9fd54aadb08a9f5d2e9a5a2ed9952e0536eb48f72f926c3c8124f144"), looks := true }, kinds := [], alts := [], laidByText := true, laidKinds := [.sentinel, .sentinel], laidTests := true, laidLooks := .later }
def ReduceKeepsUptoCardSaid : Prop := Claim7.holds Tryz.pinned (.plain (OpenSpec.upto reduceKeepsSpec)) reduceKeepsUptoCard

/-- THE SECOND FORM's CARD OF 'bspregionlaw19.MergeDenotes'. -/
def mergeDenotesUptoCard : Claim7 := { stood := { row := mergeDenotesUptoRow, standIns := [], harness := (true, "3998eb2c9fd54aadb08a9f5d2e9a5a2ed9952e0536eb48f72f926c3c8124f144"), looks := true }, kinds := [], alts := [], laidByText := true, laidKinds := [.sentinel, .sentinel], laidTests := true, laidLooks := .later }
def MergeDenotesUptoCardSaid : Prop := Claim7.holds Tryz.pinned (.plain (OpenSpec.upto mergeDenotesSpec)) mergeDenotesUptoCard

/-- THE SECOND FORM's CARD OF 'bspregionlaw19.MergeClasses'. -/
def mergeClassesUptoCard : Claim7 := { stood := { row := mergeClassesUptoRow, standIns := [], harness := (true, "3998eb2c9fd54aadb08a9f5d2e9a5a2ed9952e0536eb48f72f926c3c8124f144"), looks := true }, kinds := [], alts := [], laidByText := true, laidKinds := [.sentinel, .sentinel], laidTests := true, laidLooks := .later }
def MergeClassesUptoCardSaid : Prop := Claim7.holds Tryz.pinned (.plain (OpenSpec.upto mergeClassesSpec)) mergeClassesUptoCard

/-- THE SECOND FORM's CARD OF 'bspregionlaw20.RelatePoints'. -/
def relatePointsUptoCard : Claim7 := { stood := { row := relatePointsUptoRow, standIns := [], harness := (true, "3998eb2c9fd54aadb08a9f5d2e9a5a2ed9952e0536eb48f72f926c3c8124f144"), looks := true }, kinds := [], alts := [], laidByText := true, laidKinds := [.sentinel, .sentinel], laidTests := true, laidLooks := .later }
def RelatePointsUptoCardSaid : Prop := Claim7.holds Tryz.pinned (.plain (OpenSpec.upto relatePointsSpec)) relatePointsUptoCard
end Rows
end Go.Proofs.YtopfgminkdfpkaaGreatDoor
