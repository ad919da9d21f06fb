/-
  NARROWER THAN 'FOR EVERY INPUT', by the rows' own cells (each row's printed sentence says how): MeasureCells: laid · MeasureAdds: laid · TilingInside: laid · MeasureBoxes: laid.
  DERIVED. THE GIVEN ROWS OF THIS SEAT. 4 by the template 'for every input the law returns true; each argument reads behind the call as it read before'; 0 by the template 'total and deterministic' (their statements: YtidmgdlbilojcaaGreatDoorTotals.lean).
  GIVEN WITH THE SEED: the statements are not yours to turn. If you find one false, say at which input.
  Laid BY PROGRAM, IN A SANDBOX (cutbox-rows.mjs): the forced cells as the released guide's own fill.sh prints them over the translation 76452b5bab4ca2aa… (all of the seat's roots in one cut). By AI agents, Wed Nov 11 2026. No macro, syntax, notation, axiom, sorry.
-/
import Derived.Test.YtidmgdlbilojcaaGreatDoorChecked
import GoSem.Claim
import GoSem.ClaimJoined
import GoSem.ClaimMapViews
import Derived.JoinedTies
import Derived.KernelRfl
namespace Go.Proofs.YtidmgdlbilojcaaGreatDoor
/- THE CELL 'sum', in the pinned program and in every row, IS THE sha256 OF THE DUMP (.gsa) THAT YtidmgdlbilojcaaGreatDoorProg.lean LOADS. Nothing in Lean hashes anything: it is a label: what it is worth is what the hold of that sum in a sandbox is worth. -/
noncomputable def Tryz.pinned : Pinned := { name := "ytidmgdlbilojcaagreatdoor", sum := "76452b5bab4ca2aa9cfb342bd4d78898420a1302245490cd4c5d193593f51e25", checked := Tryz.checked }
namespace Rows
def none {H : Type} : Left H := { results := [], args := [] }

/- WHAT THE LISTED PACKAGE-LEVEL VARIABLES READ AS WHEN THE CALL BEGINS. Each datum BY PROGRAM (the guide's laid-datum.mjs) off the statement by which the dump's own 'gosem.cut.vars' lays the variable. In a bare row this is a premise. The card (YtidmgdlbilojcaaGreatDoorCards.lean) ties it to the program's text. -/
def laid_bspregion_api_ErrInvalid {H : Type} : DataW H := .iface "*errors.errorString" (.ptr (.agg [.lit (.string [105, 110, 118, 97, 108, 105, 100, 32, 118, 97, 108, 117, 101])]))
def laid_bspregion_api_ErrUnbounded {H : Type} : DataW H := .iface "*errors.errorString" (.ptr (.agg [.lit (.string [110, 111, 116, 32, 98, 111, 117, 110, 100, 101, 100])]))
def laid_bspregion_api_ErrEmpty {H : Type} : DataW H := .iface "*errors.errorString" (.ptr (.agg [.lit (.string [101, 109, 112, 116, 121])]))
def laid_bspregion_api_ErrLimit {H : Type} : DataW H := .iface "*errors.errorString" (.ptr (.agg [.lit (.string [108, 105, 109, 105, 116, 32, 101, 120, 99, 101, 101, 100, 101, 100])]))
def laid_bspregion_api_ErrRange {H : Type} : DataW H := .iface "*errors.errorString" (.ptr (.agg [.lit (.string [111, 117, 116, 32, 111, 102, 32, 114, 97, 110, 103, 101])]))

/-- 'bspregionlaw21.MeasureCells': WHATEVER THE INPUT: true; the input reads as it did. -/
def measureCellsSpec : ChangeSpec := { name := "measureCells", fn := fun _ => fun
  | [d] => { results := [.lit (.bool true)], args := [d] }
  | _ => none }
def measureCellsRow : OpenClaim := { program := "ytidmgdlbilojcaagreatdoor", sum := "76452b5bab4ca2aa9cfb342bd4d78898420a1302245490cd4c5d193593f51e25", func := "bspregion/bspregionlaw21.MeasureCells", spec := "measureCells", inPlace := ["slices.overlaps[bspregion/geo.Fr]"], unfollowed := true, recurses := true, named := ["math/bits.overflowError", "bspregion/api.ErrUnbounded", "bspregion/api.ErrInvalid", "bspregion/api.ErrLimit", "bspregion/api.ErrEmpty"], apart := false, laid := [("bspregion/api.ErrInvalid", laid_bspregion_api_ErrInvalid), ("bspregion/api.ErrUnbounded", laid_bspregion_api_ErrUnbounded), ("bspregion/api.ErrEmpty", laid_bspregion_api_ErrEmpty), ("bspregion/api.ErrLimit", laid_bspregion_api_ErrLimit)] }
def MeasureCellsSaid : Prop := measureCellsRow.holds Tryz.pinned (OpenSpec.ofChange measureCellsSpec)

/-- ITS FALSE NEIGHBOUR: 'it returns false'. Refute it at one input. -/
def measureCellsWrong : ChangeSpec := { name := "measureCells", fn := fun _ => fun
  | [d] => { results := [.lit (.bool false)], args := [d] }
  | _ => none }
def MeasureCellsWrongFalsely : Prop := measureCellsRow.holds Tryz.pinned (OpenSpec.ofChange measureCellsWrong)

/-- 'bspregionlaw21.MeasureAdds': WHATEVER THE INPUT: true; the input reads as it did. -/
def measureAddsSpec : ChangeSpec := { name := "measureAdds", fn := fun _ => fun
  | [d] => { results := [.lit (.bool true)], args := [d] }
  | _ => none }
def measureAddsRow : OpenClaim := { program := "ytidmgdlbilojcaagreatdoor", sum := "76452b5bab4ca2aa9cfb342bd4d78898420a1302245490cd4c5d193593f51e25", func := "bspregion/bspregionlaw21.MeasureAdds", spec := "measureAdds", inPlace := ["slices.overlaps[bspregion/geo.Fr]"], unfollowed := true, recurses := true, named := ["math/bits.overflowError", "bspregion/api.ErrInvalid", "bspregion/api.ErrLimit", "bspregion/api.ErrUnbounded"], apart := false, laid := [("bspregion/api.ErrInvalid", laid_bspregion_api_ErrInvalid), ("bspregion/api.ErrUnbounded", laid_bspregion_api_ErrUnbounded), ("bspregion/api.ErrLimit", laid_bspregion_api_ErrLimit)] }
def MeasureAddsSaid : Prop := measureAddsRow.holds Tryz.pinned (OpenSpec.ofChange measureAddsSpec)

/-- ITS FALSE NEIGHBOUR: 'it returns false'. Refute it at one input. -/
def measureAddsWrong : ChangeSpec := { name := "measureAdds", fn := fun _ => fun
  | [d] => { results := [.lit (.bool false)], args := [d] }
  | _ => none }
def MeasureAddsWrongFalsely : Prop := measureAddsRow.holds Tryz.pinned (OpenSpec.ofChange measureAddsWrong)

/-- 'bspregionlaw30.TilingInside': WHATEVER THE INPUT: true; the input reads as it did. -/
def tilingInsideSpec : ChangeSpec := { name := "tilingInside", fn := fun _ => fun
  | [d1, d2] => { results := [.lit (.bool true)], args := [d1, d2] }
  | _ => none }
def tilingInsideRow : OpenClaim := { program := "ytidmgdlbilojcaagreatdoor", sum := "76452b5bab4ca2aa9cfb342bd4d78898420a1302245490cd4c5d193593f51e25", func := "bspregion/bspregionlaw30.TilingInside", spec := "tilingInside", inPlace := ["slices.overlaps[bspregion/geo.Fr]", "internal/reflectlite.TypeOf"], unfollowed := true, recurses := true, named := ["bspregion/api.ErrEmpty", "math/bits.overflowError", "bspregion/api.ErrRange", "bspregion/api.ErrInvalid", "bspregion/api.ErrLimit", "bspregion/api.ErrUnbounded"], apart := false, laid := [("bspregion/api.ErrInvalid", laid_bspregion_api_ErrInvalid), ("bspregion/api.ErrUnbounded", laid_bspregion_api_ErrUnbounded), ("bspregion/api.ErrEmpty", laid_bspregion_api_ErrEmpty), ("bspregion/api.ErrLimit", laid_bspregion_api_ErrLimit), ("bspregion/api.ErrRange", laid_bspregion_api_ErrRange)] }
def TilingInsideSaid : Prop := tilingInsideRow.holds Tryz.pinned (OpenSpec.ofChange tilingInsideSpec)

/-- ITS FALSE NEIGHBOUR: 'it returns false'. Refute it at one input. -/
def tilingInsideWrong : ChangeSpec := { name := "tilingInside", fn := fun _ => fun
  | [d1, d2] => { results := [.lit (.bool false)], args := [d1, d2] }
  | _ => none }
def TilingInsideWrongFalsely : Prop := tilingInsideRow.holds Tryz.pinned (OpenSpec.ofChange tilingInsideWrong)

/-- 'bspregionlaw21.MeasureBoxes': WHATEVER THE INPUT: true; the input reads as it did. -/
def measureBoxesSpec : ChangeSpec := { name := "measureBoxes", fn := fun _ => fun
  | [d] => { results := [.lit (.bool true)], args := [d] }
  | _ => none }
def measureBoxesRow : OpenClaim := { program := "ytidmgdlbilojcaagreatdoor", sum := "76452b5bab4ca2aa9cfb342bd4d78898420a1302245490cd4c5d193593f51e25", func := "bspregion/bspregionlaw21.MeasureBoxes", spec := "measureBoxes", inPlace := ["slices.overlaps[bspregion/geo.Fr]", "internal/reflectlite.TypeOf"], unfollowed := true, recurses := true, named := ["bspregion/api.ErrEmpty", "math/bits.overflowError", "bspregion/api.ErrUnbounded", "bspregion/api.ErrInvalid", "bspregion/api.ErrLimit"], apart := false, laid := [("bspregion/api.ErrInvalid", laid_bspregion_api_ErrInvalid), ("bspregion/api.ErrUnbounded", laid_bspregion_api_ErrUnbounded), ("bspregion/api.ErrEmpty", laid_bspregion_api_ErrEmpty), ("bspregion/api.ErrLimit", laid_bspregion_api_ErrLimit)] }
def MeasureBoxesSaid : Prop := measureBoxesRow.holds Tryz.pinned (OpenSpec.ofChange measureBoxesSpec)

/-- ITS FALSE NEIGHBOUR: 'it returns false'. Refute it at one input. -/
def measureBoxesWrong : ChangeSpec := { name := "measureBoxes", fn := fun _ => fun
  | [d] => { results := [.lit (.bool false)], args := [d] }
  | _ => none }
def MeasureBoxesWrongFalsely : Prop := measureBoxesRow.holds Tryz.pinned (OpenSpec.ofChange measureBoxesWrong)

/- THE SECOND FORM. 'bulk': how many values and letters a reading holds, each counted each time it is reached (what is shared counts as often as it is met; a slice's spare places count too). A statement '..UptoSaid' is the law's where the arguments, and the package variables that the reading takes, are together of bulk at most 1048576: NARROWER than '..Said'. Prove '..Said' where nothing that the law and all that it calls make is longer than what came in: it says more and counts as full. Else prove '..UptoSaid'. A law counts once. -/
mutual
def uptoBulk {H : Type} : DataW H → Nat
  | .lit (.string bytes) => bytes.length + 1
  | .lit _ => 1
  | .nil => 1
  | .ptr d => uptoBulk d + 1
  | .slice elems spare => uptoBulkAll elems + uptoBulkAll spare + 1
  | .agg parts => uptoBulkAll parts + 1
  | .iface _ d => uptoBulk d + 1
  | .map entries => uptoBulkEntries entries + 1
  | .held _ => 1
def uptoBulkAll {H : Type} : List (DataW H) → Nat
  | [] => 0
  | d :: r => uptoBulk d + uptoBulkAll r
def uptoBulkEntries {H : Type} : List (Lit × DataW H) → Nat
  | [] => 0
  | x :: r => uptoBulkEntry x + uptoBulkEntries r
def uptoBulkEntry {H : Type} : Lit × DataW H → Nat
  | (.string bytes, d) => bytes.length + uptoBulk d + 1
  | (_, d) => uptoBulk d + 1
 end
def uptoSmall : (H : Type) → List (DataW H) → Bool := fun _ ds => decide (uptoBulkAll ds ≤ 1048576)
def OpenSpec.upto (s : _root_.Go.ChangeSpec) : _root_.Go.OpenSpec := { _root_.Go.OpenSpec.ofChange s with cond := some uptoSmall }

/-- 'bspregionlaw21.MeasureCells', WHERE WHAT IT READS IS OF BULK AT MOST 1048576: true; the input reads as it did. -/
def measureCellsUptoRow : OpenClaim := { program := "ytidmgdlbilojcaagreatdoor", sum := "76452b5bab4ca2aa9cfb342bd4d78898420a1302245490cd4c5d193593f51e25", func := "bspregion/bspregionlaw21.MeasureCells", spec := "measureCells", inPlace := ["slices.overlaps[bspregion/geo.Fr]"], unfollowed := true, recurses := true, named := ["math/bits.overflowError", "bspregion/api.ErrUnbounded", "bspregion/api.ErrInvalid", "bspregion/api.ErrLimit", "bspregion/api.ErrEmpty"], apart := false, laid := [("bspregion/api.ErrInvalid", laid_bspregion_api_ErrInvalid), ("bspregion/api.ErrUnbounded", laid_bspregion_api_ErrUnbounded), ("bspregion/api.ErrEmpty", laid_bspregion_api_ErrEmpty), ("bspregion/api.ErrLimit", laid_bspregion_api_ErrLimit)], narrowed := true }
def MeasureCellsUptoSaid : Prop := measureCellsUptoRow.holds Tryz.pinned (OpenSpec.upto measureCellsSpec)

/-- 'bspregionlaw21.MeasureAdds', WHERE WHAT IT READS IS OF BULK AT MOST 1048576: true; the input reads as it did. -/
def measureAddsUptoRow : OpenClaim := { program := "ytidmgdlbilojcaagreatdoor", sum := "76452b5bab4ca2aa9cfb342bd4d78898420a1302245490cd4c5d193593f51e25", func := "bspregion/bspregionlaw21.MeasureAdds", spec := "measureAdds", inPlace := ["slices.overlaps[bspregion/geo.Fr]"], unfollowed := true, recurses := true, named := ["math/bits.overflowError", "bspregion/api.ErrInvalid", "bspregion/api.ErrLimit", "bspregion/api.ErrUnbounded"], apart := false, laid := [("bspregion/api.ErrInvalid", laid_bspregion_api_ErrInvalid), ("bspregion/api.ErrUnbounded", laid_bspregion_api_ErrUnbounded), ("bspregion/api.ErrLimit", laid_bspregion_api_ErrLimit)], narrowed := true }
def MeasureAddsUptoSaid : Prop := measureAddsUptoRow.holds Tryz.pinned (OpenSpec.upto measureAddsSpec)

/-- 'bspregionlaw30.TilingInside', WHERE WHAT IT READS IS OF BULK AT MOST 1048576: true; the input reads as it did. -/
def tilingInsideUptoRow : OpenClaim := { program := "ytidmgdlbilojcaagreatdoor", sum := "76452b5bab4ca2aa9cfb342bd4d78898420a1302245490cd4c5d193593f51e25", func := "bspregion/bspregionlaw30.TilingInside", spec := "tilingInside", inPlace := ["slices.overlaps[bspregion/geo.Fr]", "internal/reflectlite.TypeOf"], unfollowed := true, recurses := true, named := ["bspregion/api.ErrEmpty", "math/bits.overflowError", "bspregion/api.ErrRange", "bspregion/api.ErrInvalid", "bspregion/api.ErrLimit", "bspregion/api.ErrUnbounded"], apart := false, laid := [("bspregion/api.ErrInvalid", laid_bspregion_api_ErrInvalid), ("bspregion/api.ErrUnbounded", laid_bspregion_api_ErrUnbounded), ("bspregion/api.ErrEmpty", laid_bspregion_api_ErrEmpty), ("bspregion/api.ErrLimit", laid_bspregion_api_ErrLimit), ("bspregion/api.ErrRange", laid_bspregion_api_ErrRange)], narrowed := true }
def TilingInsideUptoSaid : Prop := tilingInsideUptoRow.holds Tryz.pinned (OpenSpec.upto tilingInsideSpec)

/-- 'bspregionlaw21.MeasureBoxes', WHERE WHAT IT READS IS OF BULK AT MOST 1048576: true; the input reads as it did. -/
def measureBoxesUptoRow : OpenClaim := { program := "ytidmgdlbilojcaagreatdoor", sum := "76452b5bab4ca2aa9cfb342bd4d78898420a1302245490cd4c5d193593f51e25", func := "bspregion/bspregionlaw21.MeasureBoxes", spec := "measureBoxes", inPlace := ["slices.overlaps[bspregion/geo.Fr]", "internal/reflectlite.TypeOf"], unfollowed := true, recurses := true, named := ["bspregion/api.ErrEmpty", "math/bits.overflowError", "bspregion/api.ErrUnbounded", "bspregion/api.ErrInvalid", "bspregion/api.ErrLimit"], apart := false, laid := [("bspregion/api.ErrInvalid", laid_bspregion_api_ErrInvalid), ("bspregion/api.ErrUnbounded", laid_bspregion_api_ErrUnbounded), ("bspregion/api.ErrEmpty", laid_bspregion_api_ErrEmpty), ("bspregion/api.ErrLimit", laid_bspregion_api_ErrLimit)], narrowed := true }
def MeasureBoxesUptoSaid : Prop := measureBoxesUptoRow.holds Tryz.pinned (OpenSpec.upto measureBoxesSpec)

end Rows
end Go.Proofs.YtidmgdlbilojcaaGreatDoor
