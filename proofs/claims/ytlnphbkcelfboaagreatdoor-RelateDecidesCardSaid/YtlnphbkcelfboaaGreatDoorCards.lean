/-
  DERIVED. GIVEN WITH THE SEED: THE CARDS: each row of YtlnphbkcelfboaaGreatDoorRows.lean that lists a variable, with what it lists TIED to the program's text (the seventh form; the later family's looks); each row that meets fmt, with fmt's text TOLD by the authors' own Lean function (tested against real Go, not proved from fmt's source: count such statements apart). THE CARD IS WHAT COUNTS. Prove the row's statement (the work); the ties are given (YtlnphbkcelfboaaGreatDoorTie.lean); close each card by the builder's one call (the guide's Derived/Test/ToyasCard.lean, 'card_holds'). Laid BY PROGRAM, IN A SANDBOX (cutbox-door.mjs). By AI agents, Wed Nov 11 2026. No macro, syntax, notation, axiom, sorry.
-/
import Derived.Test.YtlnphbkcelfboaaGreatDoorRows
import GoSem.ClaimSeven
namespace Go.Proofs.YtlnphbkcelfboaaGreatDoor
namespace Rows

/-- THE TIED CARD OF 'bspregionlaw19.MergeAlgebra'. -/
def mergeAlgebraCard : Claim7 := { stood := { row := mergeAlgebraRow, standIns := [], harness := (true, "9b36bd267d9c00fcaaae2695a8639ceab26ef69fd8abf007920a169432e5bfac"), looks := true }, kinds := [], alts := [], laidByText := true, laidKinds := [.sentinel, .sentinel], laidTests := true, laidLooks := .later }
def MergeAlgebraCardSaid : Prop := Claim7.holds Tryz.pinned (.plain (OpenSpec.ofChange mergeAlgebraSpec)) mergeAlgebraCard

/-- THE TIED CARD OF 'bspregionlaw20.RelateForms'. -/
def relateFormsCard : Claim7 := { stood := { row := relateFormsRow, standIns := [], harness := (true, "9b36bd267d9c00fcaaae2695a8639ceab26ef69fd8abf007920a169432e5bfac"), looks := true }, kinds := [], alts := [], laidByText := true, laidKinds := [.sentinel, .sentinel], laidTests := true, laidLooks := .later }
def RelateFormsCardSaid : Prop := Claim7.holds Tryz.pinned (.plain (OpenSpec.ofChange relateFormsSpec)) relateFormsCard

/-- THE TIED CARD OF 'bspregionlaw20.RelateDecides'. -/
def relateDecidesCard : Claim7 := { stood := { row := relateDecidesRow, standIns := [], harness := (true, "9b36bd267d9c00fcaaae2695a8639ceab26ef69fd8abf007920a169432e5bfac"), looks := true }, kinds := [], alts := [], laidByText := true, laidKinds := [.sentinel, .sentinel], laidTests := true, laidLooks := .later }
def RelateDecidesCardSaid : Prop := Claim7.holds Tryz.pinned (.plain (OpenSpec.ofChange relateDecidesSpec)) relateDecidesCard

/-- THE TIED CARD OF 'bspregionlaw19.MergeMakes'. -/
def mergeMakesCard : Claim7 := { stood := { row := mergeMakesRow, standIns := [], harness := (true, "9b36bd267d9c00fcaaae2695a8639ceab26ef69fd8abf007920a169432e5bfac"), looks := true }, kinds := [], alts := [], laidByText := true, laidKinds := [.sentinel, .sentinel], laidTests := true, laidLooks := .later }
def MergeMakesCardSaid : Prop := Claim7.holds Tryz.pinned (.plain (OpenSpec.ofChange mergeMakesSpec)) mergeMakesCard

/-- THE TIED CARD OF 'bspregionlaw19.MergeBounds'. -/
def mergeBoundsCard : Claim7 := { stood := { row := mergeBoundsRow, standIns := [], harness := (true, "9b36bd267d9c00fcaaae2695a8639ceab26ef69fd8abf007920a169432e5bfac"), looks := true }, kinds := [], alts := [], laidByText := true, laidKinds := [.sentinel, .sentinel], laidTests := true, laidLooks := .later }
def MergeBoundsCardSaid : Prop := Claim7.holds Tryz.pinned (.plain (OpenSpec.ofChange mergeBoundsSpec)) mergeBoundsCard

/-- THE TIED CARD OF 'bspregionlaw20.RelateOrder'. -/
def relateOrderCard : Claim7 := { stood := { row := relateOrderRow, standIns := [], harness := (true, "9b36bd267d9c00fcaaae2695a8639ceab26ef69fd8abf007920a169432e5bfac"), looks := true }, kinds := [], alts := [], laidByText := true, laidKinds := [.sentinel, .sentinel], laidTests := true, laidLooks := .later }
def RelateOrderCardSaid : Prop := Claim7.holds Tryz.pinned (.plain (OpenSpec.ofChange relateOrderSpec)) relateOrderCard

/-- THE TIED CARD OF 'bspregionlaw19.MergeAll'. -/
def mergeAllCard : Claim7 := { stood := { row := mergeAllRow, standIns := [], harness := (true, "9b36bd267d9c00fcaaae2695a8639ceab26ef69fd8abf007920a169432e5bfac"), looks := true }, kinds := [], alts := [], laidByText := true, laidKinds := [.sentinel, .sentinel, .sentinel], laidTests := true, laidLooks := .later }
def MergeAllCardSaid : Prop := Claim7.holds Tryz.pinned (.plain (OpenSpec.ofChange mergeAllSpec)) mergeAllCard

/-- THE TIED CARD OF 'bspregionlaw20.RelateWitness'. -/
def relateWitnessCard : Claim7 := { stood := { row := relateWitnessRow, standIns := [], harness := (true, "9b36bd267d9c00fcaaae2695a8639ceab26ef69fd8abf007920a169432e5bfac"), looks := true }, kinds := [], alts := [], laidByText := true, laidKinds := [.sentinel, .sentinel, .sentinel], laidTests := true, laidLooks := .later }
def RelateWitnessCardSaid : Prop := Claim7.holds Tryz.pinned (.plain (OpenSpec.ofChange relateWitnessSpec)) relateWitnessCard

/-- THE TIED CARD OF 'bspregionlaw20.RelateRefuses'. -/
def relateRefusesCard : Claim7 := { stood := { row := relateRefusesRow, standIns := [], harness := (true, "9b36bd267d9c00fcaaae2695a8639ceab26ef69fd8abf007920a169432e5bfac"), looks := true }, kinds := [], alts := [], laidByText := true, laidKinds := [.sentinel, .sentinel, .sentinel], laidTests := true, laidLooks := .later }
def RelateRefusesCardSaid : Prop := Claim7.holds Tryz.pinned (.plain (OpenSpec.ofChange relateRefusesSpec)) relateRefusesCard

/-- THE SECOND FORM's CARD OF 'bspregionlaw19.MergeAlgebra'. -/
def mergeAlgebraUptoCard : Claim7 := { stood := { row := mergeAlgebraUptoRow, standIns := [], harness := (true, "9b36bd267d9c00fcaaae2695a8639ceab26ef69fd8abf007920a169432e5bfac"), looks := true }, kinds := [], alts := [], laidByText := true, laidKinds := [.sentinel, .sentinel], laidTests := true, laidLooks := .later }
def MergeAlgebraUptoCardSaid : Prop := Claim7.holds Tryz.pinned (.plain (OpenSpec.upto mergeAlgebraSpec)) mergeAlgebraUptoCard

/-- THE SECOND FORM's CARD OF 'bspregionlaw20.RelateForms'. -/
def relateFormsUptoCard : Claim7 := { stood := { row := relateFormsUptoRow, standIns := [], harness := (true, "9b36bd267d9c00fcaaae2695a8639ceab26ef69fd8abf007920a169432e5bfac"), looks := true }, kinds := [], alts := [], laidByText := true, laidKinds := [.sentinel, .sentinel], laidTests := true, laidLooks := .later }
def RelateFormsUptoCardSaid : Prop := Claim7.holds Tryz.pinned (.plain (OpenSpec.upto relateFormsSpec)) relateFormsUptoCard

/-- THE SECOND FORM's CARD OF 'bspregionlaw20.RelateDecides'. -/
def relateDecidesUptoCard : Claim7 := { stood := { row := relateDecidesUptoRow, standIns := [], harness := (true, "9b36bd267d9c00fcaaae2695a8639ceab26ef69fd8abf007920a169432e5bfac"), looks := true }, kinds := [], alts := [], laidByText := true, laidKinds := [.sentinel, .sentinel], laidTests := true, laidLooks := .later }
def RelateDecidesUptoCardSaid : Prop := Claim7.holds Tryz.pinned (.plain (OpenSpec.upto relateDecidesSpec)) relateDecidesUptoCard

/-- THE SECOND FORM's CARD OF 'bspregionlaw19.MergeMakes'. -/
def mergeMakesUptoCard : Claim7 := { stood := { row := mergeMakesUptoRow, standIns := [], harness := (true, "9b36bd267d9c00fcaaae2695a8639ceab26ef69fd8abf007920a169432e5bfac"), looks := true }, kinds := [], alts := [], laidByText := true, laidKinds := [.sentinel, .sentinel], laidTests := true, laidLooks := .later }
def MergeMakesUptoCardSaid : Prop := Claim7.holds Tryz.pinned (.plain (OpenSpec.upto mergeMakesSpec)) mergeMakesUptoCard

/-- THE SECOND FORM's CARD OF 'bspregionlaw19.MergeBounds'. -/
def mergeBoundsUptoCard : Claim7 := { stood := { row := mergeBoundsUptoRow, standIns := [], harness := (true, "9b36bd267d9c00fcaaae2695a8639ceab26ef69fd8abf007920a169432e5bfac"), looks := true }, kinds := [], alts := [], laidByText := true, laidKinds := [.sentinel, .sentinel], laidTests := true, laidLooks := .later }
def MergeBoundsUptoCardSaid : Prop := Claim7.holds Tryz.pinned (.plain (OpenSpec.upto mergeBoundsSpec)) mergeBoundsUptoCard

/-- THE SECOND FORM's CARD OF 'bspregionlaw20.RelateOrder'. -/
def relateOrderUptoCard : Claim7 := { stood := { row := relateOrderUptoRow, standIns := [], harness := (true, "9b36bd267d9c00fcaaae2695a8639ceab26ef69fd8abf007920a169432e5bfac"), looks := true }, kinds := [], alts := [], laidByText := true, laidKinds := [.sentinel, .sentinel], laidTests := true, laidLooks := .later }
def RelateOrderUptoCardSaid : Prop := Claim7.holds Tryz.pinned (.plain (OpenSpec.upto relateOrderSpec)) relateOrderUptoCard

/-- THE SECOND FORM's CARD OF 'bspregionlaw19.MergeAll'. -/
def mergeAllUptoCard : Claim7 := { stood := { row := mergeAllUptoRow, standIns := [], harness := (true, "9b36bd267d9c00fcaaae2695a8639ceab26ef69fd8abf007920a169432e5bfac"), looks := true }, kinds := [], alts := [], laidByText := true, laidKinds := [.sentinel, .sentinel, .sentinel], laidTests := true, laidLooks := .later }
def MergeAllUptoCardSaid : Prop := Claim7.holds Tryz.pinned (.plain (OpenSpec.upto mergeAllSpec)) mergeAllUptoCard

/-- THE SECOND FORM's CARD OF 'bspregionlaw20.RelateWitness'. -/
def relateWitnessUptoCard : Claim7 := { stood := { row := relateWitnessUptoRow, standIns := [], harness := (true, "9b36bd267d9c00fcaaae2695a8639ceab26ef69fd8abf007920a169432e5bfac"), looks := true }, kinds := [], alts := [], laidByText := true, laidKinds := [.sentinel, .sentinel, .sentinel], laidTests := true, laidLooks := .later }
def RelateWitnessUptoCardSaid : Prop := Claim7.holds Tryz.pinned (.plain (OpenSpec.upto relateWitnessSpec)) relateWitnessUptoCard

/-- THE SECOND FORM's CARD OF 'bspregionlaw20.RelateRefuses'. -/
def relateRefusesUptoCard : Claim7 := { stood := { row := relateRefusesUptoRow, standIns := [], harness := (true, "9b36bd267d9c00fcaaae2695a8639ceab26ef69fd8abf007920a169432e5bfac"), looks := true }, kinds := [], alts := [], laidByText := true, laidKinds := [.sentinel, .sentinel, .sentinel], laidTests := true, laidLooks := .later }
def RelateRefusesUptoCardSaid : Prop := Claim7.holds Tryz.pinned (.plain (OpenSpec.upto relateRefusesSpec)) relateRefusesUptoCard
end Rows
end Go.Proofs.YtlnphbkcelfboaaGreatDoor
