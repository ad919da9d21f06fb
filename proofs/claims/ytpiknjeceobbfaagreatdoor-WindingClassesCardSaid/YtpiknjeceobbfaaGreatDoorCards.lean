/-
  DERIVED. GIVEN WITH THE SEED: THE CARDS: each row of YtpiknjeceobbfaaGreatDoorRows.lean that lists a variable, with what it lists TIED to the program's text (the seventh form; the later family's looks); each row that meets fmt, with fmt's text TOLD by the authors' own Lean function (tested against real Go, not proved from fmt's source: count such statements apart). THE CARD IS WHAT COUNTS. Prove the row's statement (the work); the ties are given (YtpiknjeceobbfaaGreatDoorTie.lean); close each card by the builder's one call (the guide's Derived/Test/ToyasCard.lean, 'card_holds'). Laid BY PROGRAM, IN A SANDBOX (cutbox-door.mjs). By AI agents, Wed Nov 11 2026. No macro, syntax, notation, axiom, sorry.
-/
import Derived.Test.YtpiknjeceobbfaaGreatDoorRows
import GoSem.ClaimSeven
namespace Go.Proofs.YtpiknjeceobbfaaGreatDoor
namespace Rows

/-- THE TIED CARD OF 'bspregionlaw10.WindingAccepts'. -/
def windingAcceptsCard : Claim7 := { stood := { row := windingAcceptsRow, standIns := [], harness := (true, "a2a78317b3b04883f7260d4e34c1186cd73792950cd4f5103a9cf491b69ea867"), looks := true }, kinds := [], alts := [], laidByText := true, laidKinds := [.data, .data, .data, .sentinel, .sentinel, .sentinel, .sentinel], laidTests := true, laidLooks := .later }
def WindingAcceptsCardSaid : Prop := Claim7.holds Tryz.pinned (.plain (OpenSpec.ofChange windingAcceptsSpec)) windingAcceptsCard

/-- THE TIED CARD OF 'bspregionlaw10.WindingClasses'. -/
def windingClassesCard : Claim7 := { stood := { row := windingClassesRow, standIns := [], harness := (true, "a2a78317b3b04883f7260d4e34c1186cd73792950cd4f5103a9cf491b69ea867"), looks := true }, kinds := [], alts := [], laidByText := true, laidKinds := [.data, .data, .data, .sentinel, .sentinel, .sentinel, .sentinel], laidTests := true, laidLooks := .later }
def WindingClassesCardSaid : Prop := Claim7.holds Tryz.pinned (.plain (OpenSpec.ofChange windingClassesSpec)) windingClassesCard

/-- THE TIED CARD OF 'bspregionlaw10.WindingConvex'. -/
def windingConvexCard : Claim7 := { stood := { row := windingConvexRow, standIns := [], harness := (true, "a2a78317b3b04883f7260d4e34c1186cd73792950cd4f5103a9cf491b69ea867"), looks := true }, kinds := [], alts := [], laidByText := true, laidKinds := [.data, .data, .data, .sentinel, .sentinel, .sentinel, .sentinel], laidTests := true, laidLooks := .later }
def WindingConvexCardSaid : Prop := Claim7.holds Tryz.pinned (.plain (OpenSpec.ofChange windingConvexSpec)) windingConvexCard

/-- THE TIED CARD OF 'bspregionlaw10.WindingNumbers'. -/
def windingNumbersCard : Claim7 := { stood := { row := windingNumbersRow, standIns := [], harness := (true, "a2a78317b3b04883f7260d4e34c1186cd73792950cd4f5103a9cf491b69ea867"), looks := true }, kinds := [], alts := [], laidByText := true, laidKinds := [.data, .data, .data, .sentinel, .sentinel, .sentinel, .sentinel], laidTests := true, laidLooks := .later }
def WindingNumbersCardSaid : Prop := Claim7.holds Tryz.pinned (.plain (OpenSpec.ofChange windingNumbersSpec)) windingNumbersCard

/-- THE SECOND FORM's CARD OF 'bspregionlaw10.WindingAccepts'. -/
def windingAcceptsUptoCard : Claim7 := { stood := { row := windingAcceptsUptoRow, standIns := [], harness := (true, "a2a78317b3b04883f7260d4e34c1186cd73792950cd4f5103a9cf491b69ea867"), looks := true }, kinds := [], alts := [], laidByText := true, laidKinds := [.data, .data, .data, .sentinel, .sentinel, .sentinel, .sentinel], laidTests := true, laidLooks := .later }
def WindingAcceptsUptoCardSaid : Prop := Claim7.holds Tryz.pinned (.plain (OpenSpec.upto windingAcceptsSpec)) windingAcceptsUptoCard

/-- THE SECOND FORM's CARD OF 'bspregionlaw10.WindingClasses'. -/
def windingClassesUptoCard : Claim7 := { stood := { row := windingClassesUptoRow, standIns := [], harness := (true, "a2a78317b3b04883f7260d4e34c1186cd73792950cd4f5103a9cf491b69ea867"), looks := true }, kinds := [], alts := [], laidByText := true, laidKinds := [.data, .data, .data, .sentinel, .sentinel, .sentinel, .sentinel], laidTests := true, laidLooks := .later }
def WindingClassesUptoCardSaid : Prop := Claim7.holds Tryz.pinned (.plain (OpenSpec.upto windingClassesSpec)) windingClassesUptoCard

/-- THE SECOND FORM's CARD OF 'bspregionlaw10.WindingConvex'. -/
def windingConvexUptoCard : Claim7 := { stood := { row := windingConvexUptoRow, standIns := [], harness := (true, "a2a78317b3b04883f7260d4e34c1186cd73792950cd4f5103a9cf491b69ea867"), looks := true }, kinds := [], alts := [], laidByText := true, laidKinds := [.data, .data, .data, .sentinel, .sentinel, .sentinel, .sentinel], laidTests := true, laidLooks := .later }
def WindingConvexUptoCardSaid : Prop := Claim7.holds Tryz.pinned (.plain (OpenSpec.upto windingConvexSpec)) windingConvexUptoCard

/-- THE SECOND FORM's CARD OF 'bspregionlaw10.WindingNumbers'. -/
def windingNumbersUptoCard : Claim7 := { stood := { row := windingNumbersUptoRow, standIns := [], harness := (true, "a2a78317b3b04883f7260d4e34c1186cd73792950cd4f5103a9cf491b69ea867"), looks := true }, kinds := [], alts := [], laidByText := true, laidKinds := [.data, .data, .data, .sentinel, .sentinel, .sentinel, .sentinel], laidTests := true, laidLooks := .later }
def WindingNumbersUptoCardSaid : Prop := Claim7.holds Tryz.pinned (.plain (OpenSpec.upto windingNumbersSpec)) windingNumbersUptoCard
end Rows
end Go.Proofs.YtpiknjeceobbfaaGreatDoor
