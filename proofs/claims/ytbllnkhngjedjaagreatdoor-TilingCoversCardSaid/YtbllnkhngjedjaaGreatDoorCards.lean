/-
  DERIVED. GIVEN WITH THE SEED: THE CARDS: each row of YtbllnkhngjedjaaGreatDoorRows.lean that lists a variable, with what it lists TIED to the program's text (the seventh form; the later family's looks); each row that meets fmt, with fmt's text TOLD by the authors' own Lean function (tested against real Go, not proved from fmt's source: count such statements apart). THE CARD IS WHAT COUNTS. Prove the row's statement (the work); the ties are given (YtbllnkhngjedjaaGreatDoorTie.lean); close each card by the builder's one call (the guide's Derived/Test/ToyasCard.lean, 'card_holds'). Laid BY PROGRAM, IN A SANDBOX (cutbox-door.mjs). By AI agents, Wed Nov 11 2026. No macro, syntax, notation, axiom, sorry.
-/
import Derived.Test.YtbllnkhngjedjaaGreatDoorRows
import GoSem.ClaimSeven
namespace Go.Proofs.YtbllnkhngjedjaaGreatDoor
namespace Rows

/-- THE TIED CARD OF 'bspregionlaw30.TilingCovers'. -/
def tilingCoversCard : Claim7 := { stood := { row := tilingCoversRow, standIns := [], harness := (true, "b4adabdc0c3346a6887240bba8a14850ea318fa7f4d872995aa9ae2fffa7ff62"), looks := false }, kinds := [], alts := [], laidByText := true, laidKinds := [.data, .data, .data, .sentinel, .sentinel, .sentinel, .sentinel], laidTests := true, laidLooks := .later }
def TilingCoversCardSaid : Prop := Claim7.holds Tryz.pinned (.plain (OpenSpec.ofChange tilingCoversSpec)) tilingCoversCard

/-- THE SECOND FORM's CARD OF 'bspregionlaw30.TilingCovers'. -/
def tilingCoversUptoCard : Claim7 := { stood := { row := tilingCoversUptoRow, standIns := [], harness := (true, "b4adabdc0c3346a6887240bba8a14850ea318fa7f4d872995aa9ae2fffa7ff62"), looks := false }, kinds := [], alts := [], laidByText := true, laidKinds := [.data, .data, .data, .sentinel, .sentinel, .sentinel, .sentinel], laidTests := true, laidLooks := .later }
def TilingCoversUptoCardSaid : Prop := Claim7.holds Tryz.pinned (.plain (OpenSpec.upto tilingCoversSpec)) tilingCoversUptoCard
end Rows
end Go.Proofs.YtbllnkhngjedjaaGreatDoor
