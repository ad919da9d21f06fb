/-
  DERIVED. GIVEN WITH THE SEED: THE CARDS: each row of YtkijgpopaaknfaaGreatDoorRows.lean that lists a variable, with what it lists TIED to the program's text (the seventh form; the later family's looks); each row that meets fmt, with fmt's text TOLD by the authors' own Lean function (tested against real Go, not proved from fmt's source: count such statements apart). THE CARD IS WHAT COUNTS. Prove the row's statement (the work); the ties are given (YtkijgpopaaknfaaGreatDoorTie.lean); close each card by the builder's one call (the guide's Derived/Test/ToyasCard.lean, 'card_holds'). Laid BY PROGRAM, IN A SANDBOX (cutbox-door.mjs). By AI agents, Wed Nov 11 2026. No macro, syntax, notation, axiom, sorry.
-/
import Derived.Test.YtkijgpopaaknfaaGreatDoorRows
import GoSem.ClaimSeven
namespace Go.Proofs.YtkijgpopaaknfaaGreatDoor
namespace Rows

/-- THE TIED CARD OF 'bspregionlaw17.ReduceSplits'. -/
def reduceSplitsCard : Claim7 := { stood := { row := reduceSplitsRow, standIns := [], harness := (true, "29aceffb5e1a1a59dda7154e33c21d95959699fe017648641f00fa529f167856"), looks := true }, kinds := [], alts := [], laidByText := true, laidKinds := [.sentinel, .sentinel], laidTests := true, laidLooks := .later }
def ReduceSplitsCardSaid : Prop := Claim7.holds Tryz.pinned (.plain (OpenSpec.ofChange reduceSplitsSpec)) reduceSplitsCard

/-- THE TIED CARD OF 'bspregionlaw17.ReduceCells'. -/
def reduceCellsCard : Claim7 := { stood := { row := reduceCellsRow, standIns := [], harness := (true, "29aceffb5e1a1a59dda7154e33c21d95959699fe017648641f00fa529f167856"), looks := true }, kinds := [], alts := [], laidByText := true, laidKinds := [.sentinel, .sentinel], laidTests := true, laidLooks := .later }
def ReduceCellsCardSaid : Prop := Claim7.holds Tryz.pinned (.plain (OpenSpec.ofChange reduceCellsSpec)) reduceCellsCard

/-- THE TIED CARD OF 'bspregionlaw17.ReduceTwice'. -/
def reduceTwiceCard : Claim7 := { stood := { row := reduceTwiceRow, standIns := [], harness := (true, "29aceffb5e1a1a59dda7154e33c21d95959699fe017648641f00fa529f167856"), looks := true }, kinds := [], alts := [], laidByText := true, laidKinds := [.sentinel, .sentinel, .sentinel], laidTests := true, laidLooks := .later }
def ReduceTwiceCardSaid : Prop := Claim7.holds Tryz.pinned (.plain (OpenSpec.ofChange reduceTwiceSpec)) reduceTwiceCard

/-- THE TIED CARD OF 'bspregionlaw17.ReduceRefuses'. -/
def reduceRefusesCard : Claim7 := { stood := { row := reduceRefusesRow, standIns := [], harness := (true, "29aceffb5e1a1a59dda7154e33c21d95959699fe017648641f00fa529f167856"), looks := true }, kinds := [], alts := [], laidByText := true, laidKinds := [.sentinel, .sentinel, .sentinel], laidTests := true, laidLooks := .later }
def ReduceRefusesCardSaid : Prop := Claim7.holds Tryz.pinned (.plain (OpenSpec.ofChange reduceRefusesSpec)) reduceRefusesCard

/-- THE TIED CARD OF 'bspregionlaw17.ReduceRestricts'. -/
def reduceRestrictsCard : Claim7 := { stood := { row := reduceRestrictsRow, standIns := [], harness := (true, "29aceffb5e1a1a59dda7154e33c21d95959699fe017648641f00fa529f167856"), looks := true }, kinds := [], alts := [], laidByText := true, laidKinds := [.sentinel, .sentinel, .sentinel], laidTests := true, laidLooks := .later }
def ReduceRestrictsCardSaid : Prop := Claim7.holds Tryz.pinned (.plain (OpenSpec.ofChange reduceRestrictsSpec)) reduceRestrictsCard

/-- THE TIED CARD OF 'bspregionlaw19.MergeRefuses'. -/
def mergeRefusesCard : Claim7 := { stood := { row := mergeRefusesRow, standIns := [], harness := (true, "29aceffb5e1a1a59dda7154e33c21d95959699fe017648641f00fa529f167856"), looks := true }, kinds := [], alts := [], laidByText := true, laidKinds := [.sentinel, .sentinel, .sentinel], laidTests := true, laidLooks := .later }
def MergeRefusesCardSaid : Prop := Claim7.holds Tryz.pinned (.plain (OpenSpec.ofChange mergeRefusesSpec)) mergeRefusesCard

/-- THE SECOND FORM's CARD OF 'bspregionlaw17.ReduceSplits'. -/
def reduceSplitsUptoCard : Claim7 := { stood := { row := reduceSplitsUptoRow, standIns := [], harness := (true, "29aceffb5e1a1a59dda7154e33c21d95959699fe017648641f00fa529f167856"), looks := true }, kinds := [], alts := [], laidByText := true, laidKinds := [.sentinel, .sentinel], laidTests := true, laidLooks := .later }
def ReduceSplitsUptoCardSaid : Prop := Claim7.holds Tryz.pinned (.plain (OpenSpec.upto reduceSplitsSpec)) reduceSplitsUptoCard

/-- THE SECOND FORM's CARD OF 'bspregionlaw17.ReduceCells'. -/
def reduceCellsUptoCard : Claim7 := { stood := { row := reduceCellsUptoRow, standIns := [], harness := (true, "29aceffb5e1a1a59dda7154e33c21d95959699fe017648641f00fa529f167856"), looks := true }, kinds := [], alts := [], laidByText := true, laidKinds := [.sentinel, .sentinel], laidTests := true, laidLooks := .later }
def ReduceCellsUptoCardSaid : Prop := Claim7.holds Tryz.pinned (.plain (OpenSpec.upto reduceCellsSpec)) reduceCellsUptoCard

/-- THE SECOND FORM's CARD OF 'bspregionlaw17.ReduceTwice'. -/
def reduceTwiceUptoCard : Claim7 := { stood := { row := reduceTwiceUptoRow, standIns := [], harness := (true, "29aceffb5e1a1a59dda7154e33c21d95959699fe017648641f00fa529f167856"), looks := true }, kinds := [], alts := [], laidByText := true, laidKinds := [.sentinel, .sentinel, .sentinel], laidTests := true, laidLooks := .later }
def ReduceTwiceUptoCardSaid : Prop := Claim7.holds Tryz.pinned (.plain (OpenSpec.upto reduceTwiceSpec)) reduceTwiceUptoCard

/-- THE SECOND FORM's CARD OF 'bspregionlaw17.ReduceRefuses'. -/
def reduceRefusesUptoCard : Claim7 := { stood := { row := reduceRefusesUptoRow, standIns := [], harness := (true, "29aceffb5e1a1a59dda7154e33c21d95959699fe017648641f00fa529f167856"), looks := true }, kinds := [], alts := [], laidByText := true, laidKinds := [.sentinel, .sentinel, .sentinel], laidTests := true, laidLooks := .later }
def ReduceRefusesUptoCardSaid : Prop := Claim7.holds Tryz.pinned (.plain (OpenSpec.upto reduceRefusesSpec)) reduceRefusesUptoCard

/-- THE SECOND FORM's CARD OF 'bspregionlaw17.ReduceRestricts'. -/
def reduceRestrictsUptoCard : Claim7 := { stood := { row := reduceRestrictsUptoRow, standIns := [], harness := (true, "29aceffb5e1a1a59dda7154e33c21d95959699fe017648641f00fa529f167856"), looks := true }, kinds := [], alts := [], laidByText := true, laidKinds := [.sentinel, .sentinel, .sentinel], laidTests := true, laidLooks := .later }
def ReduceRestrictsUptoCardSaid : Prop := Claim7.holds Tryz.pinned (.plain (OpenSpec.upto reduceRestrictsSpec)) reduceRestrictsUptoCard

/-- THE SECOND FORM's CARD OF 'bspregionlaw19.MergeRefuses'. -/
def mergeRefusesUptoCard : Claim7 := { stood := { row := mergeRefusesUptoRow, standIns := [], harness := (true, "29aceffb5e1a1a59dda7154e33c21d95959699fe017648641f00fa529f167856"), looks := true }, kinds := [], alts := [], laidByText := true, laidKinds := [.sentinel, .sentinel, .sentinel], laidTests := true, laidLooks := .later }
def MergeRefusesUptoCardSaid : Prop := Claim7.holds Tryz.pinned (.plain (OpenSpec.upto mergeRefusesSpec)) mergeRefusesUptoCard
end Rows
end Go.Proofs.YtkijgpopaaknfaaGreatDoor
