/-
  DERIVED. GIVEN WITH THE SEED: THE CARDS: each row of YtmbbejdimfkkcaaGreatDoorRows.lean that lists a variable, with what it lists TIED to the program's text (the seventh form; the later family's looks); each row that meets fmt, with fmt's text TOLD by the authors' own Lean function (tested against real Go, not proved from fmt's source: count such statements apart). THE CARD IS WHAT COUNTS. Prove the row's statement (the work); the ties are given (YtmbbejdimfkkcaaGreatDoorTie.lean); close each card by the builder's one call (the guide's Derived/Test/ToyasCard.lean, 'card_holds'). Laid BY PROGRAM, IN A SANDBOX (cutbox-door.mjs). By AI agents, Wed Nov 11 2026. No macro, syntax, notation, axiom, sorry.
-/
import Derived.Test.YtmbbejdimfkkcaaGreatDoorRows
import GoSem.ClaimSeven
namespace Go.Proofs.YtmbbejdimfkkcaaGreatDoor
namespace Rows

/-- THE TIED CARD OF 'bspregionlaw29.MorphOpens'. -/
def morphOpensCard : Claim7 := { stood := { row := morphOpensRow, standIns := [], harness := (true, "650648355258fc7afdeb8a64a814ae605e589a1797f460f437912128020338f4"), looks := false }, kinds := [], alts := [], laidByText := true, laidKinds := [.data, .data, .data, .sentinel, .sentinel, .sentinel], laidTests := true, laidLooks := .later }
def MorphOpensCardSaid : Prop := Claim7.holds Tryz.pinned (.plain (OpenSpec.ofChange morphOpensSpec)) morphOpensCard

/-- THE SECOND FORM's CARD OF 'bspregionlaw29.MorphOpens'. -/
def morphOpensUptoCard : Claim7 := { stood := { row := morphOpensUptoRow, standIns := [], harness := (true, "650648355258fc7afdeb8a64a814ae605e589a1797f460f437912128020338f4"), looks := false }, kinds := [], alts := [], laidByText := true, laidKinds := [.data, .data, .data, .sentinel, .sentinel, .sentinel], laidTests := true, laidLooks := .later }
def MorphOpensUptoCardSaid : Prop := Claim7.holds Tryz.pinned (.plain (OpenSpec.upto morphOpensSpec)) morphOpensUptoCard
end Rows
end Go.Proofs.YtmbbejdimfkkcaaGreatDoor
