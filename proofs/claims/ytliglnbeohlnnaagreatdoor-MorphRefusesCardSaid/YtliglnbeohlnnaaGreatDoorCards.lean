/-
  DERIVED. GIVEN WITH THE SEED: THE CARDS: each row of YtliglnbeohlnnaaGreatDoorRows.lean that lists a variable, with what it lists TIED to the program's text (the seventh form; the later family's looks); each row that meets fmt, with fmt's text TOLD by the authors' own Lean function (tested against real Go, not proved from fmt's source: count such statements apart). THE CARD IS WHAT COUNTS. Prove the row's statement (the work); the ties are given (YtliglnbeohlnnaaGreatDoorTie.lean); close each card by the builder's one call (the guide's Derived/Test/ToyasCard.lean, 'card_holds'). Laid BY PROGRAM, IN A SANDBOX (cutbox-door.mjs). By AI agents, Wed Nov 11 2026. No macro, syntax, notation, axiom, sorry.
-/
import Derived.Test.YtliglnbeohlnnaaGreatDoorRows
import GoSem.ClaimSeven
namespace Go.Proofs.YtliglnbeohlnnaaGreatDoor
namespace Rows

/-- THE TIED CARD OF 'bspregionlaw29.MorphRefuses'. -/
def morphRefusesCard : Claim7 := { stood := { row := morphRefusesRow, standIns := [], harness := (true, "41186f28014c4fb15a72fa65fcae9cc2c8e410f448ca7b0528bf78f73c8e13c1"), looks := true }, kinds := [], alts := [], laidByText := true, laidKinds := [.data, .data, .data, .sentinel, .sentinel, .sentinel, .sentinel], laidTests := true, laidLooks := .later }
def MorphRefusesCardSaid : Prop := Claim7.holds Tryz.pinned (.plain (OpenSpec.ofChange morphRefusesSpec)) morphRefusesCard

/-- THE SECOND FORM's CARD OF 'bspregionlaw29.MorphRefuses'. -/
def morphRefusesUptoCard : Claim7 := { stood := { row := morphRefusesUptoRow, standIns := [], harness := (true, "41186f28014c4fb15a72fa65fcae9cc2c8e410f448ca7b0528bf78f73c8e13c1"), looks := true }, kinds := [], alts := [], laidByText := true, laidKinds := [.data, .data, .data, .sentinel, .sentinel, .sentinel, .sentinel], laidTests := true, laidLooks := .later }
def MorphRefusesUptoCardSaid : Prop := Claim7.holds Tryz.pinned (.plain (OpenSpec.upto morphRefusesSpec)) morphRefusesUptoCard
end Rows
end Go.Proofs.YtliglnbeohlnnaaGreatDoor
