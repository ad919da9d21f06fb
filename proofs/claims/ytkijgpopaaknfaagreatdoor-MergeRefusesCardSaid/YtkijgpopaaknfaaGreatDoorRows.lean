/-
  NARROWER THAN 'FOR EVERY INPUT', by the rows' own cells (each row's printed sentence says how): ReduceSplits: laid · ReduceCells: laid · ReduceTwice: laid · ReduceRefuses: laid · ReduceRestricts: laid · MergeRefuses: laid.
  DERIVED. THE GIVEN ROWS OF THIS SEAT. 6 by the template 'for every input the law returns true; each argument reads behind the call as it read before'; 0 by the template 'total and deterministic' (their statements: YtkijgpopaaknfaaGreatDoorTotals.lean).
  GIVEN WITH THE SEED: the statements are not yours to turn. If you find one false, say at which input.
  Laid BY PROGRAM, IN A SANDBOX (cutbox-rows.mjs): the forced cells as the released guide's own fill.sh prints them over the translation 8f6bf1385fb13837… (all of the seat's roots in one cut). By AI agents, Wed Nov 11 2026. No macro, syntax, notation, axiom, sorry.
-/
import Derived.Test.YtkijgpopaaknfaaGreatDoorChecked
import GoSem.Claim
import GoSem.ClaimJoined
import GoSem.ClaimMapViews
import Derived.JoinedTies
import Derived.KernelRfl
namespace Go.Proofs.YtkijgpopaaknfaaGreatDoor
/- THE CELL 'sum', in the pinned program and in every row, IS THE sha256 OF THE DUMP (.gsa) THAT YtkijgpopaaknfaaGreatDoorProg.lean LOADS. Nothing in Lean hashes anything: it is a label: what it is worth is what the hold of that sum in a sandbox is worth. -/
noncomputable def Tryz.pinned : Pinned := { name := "ytkijgpopaaknfaagreatdoor", sum := "8f6bf1385fb13837f9f655deb69c0224a87926fe6279a9d50c27a2af4b5cb0ad", checked := Tryz.checked }
namespace Rows
def none {H : Type} : Left H := { results := [], args := [] }

/- WHAT THE LISTED PACKAGE-LEVEL VARIABLES READ AS WHEN THE CALL BEGINS. Each datum BY PROGRAM (the guide's laid-datum.mjs) off the statement by which the dump's own 'gosem.cut.vars' lays the variable. In a bare row this is a premise. The card (YtkijgpopaaknfaaGreatDoorCards.lean) ties it to the program's text. -/
def laid_bspregion_api_ErrInvalid {H : Type} : DataW H := .iface "*errors.errorString" (.ptr (.agg [.lit (.string [105, 110, 118, 97, 108, 105, 100, 32, 118, 97, 108, 117, 101])]))
def laid_bspregion_api_ErrLimit {H : Type} : DataW H := .iface "*errors.errorString" (.ptr (.agg [.lit (.string [108, 105, 109, 105, 116, 32, 101, 120, 99, 101, 101, 100, 101, 100])]))
def laid_bspregion_api_ErrEmpty {H : Type} : DataW H := .iface "*errors.errorString" (.ptr (.agg [.lit (.string [101, 109, 112, 116, 121])]))

/-- 'bspregionlaw17.ReduceSplits': WHATEVER THE INPUT: true; the input reads as it did. -/
def reduceSplitsSpec : ChangeSpec := { name := "reduceSplits", fn := fun _ => fun
  | [d] => { results := [.lit (.bool true)], args := [d] }
  | _ => none }
def reduceSplitsRow : OpenClaim := { program := "ytkijgpopaaknfaagreatdoor", sum := "8f6bf1385fb13837f9f655deb69c0224a87926fe6279a9d50c27a2af4b5cb0ad", func := "bspregion/bspregionlaw17.ReduceSplits", spec := "reduceSplits", inPlace := ["slices.overlaps[bspregion/geo.Fr]"], unfollowed := true, recurses := true, named := ["math/bits.overflowError", "bspregion/api.ErrInvalid", "bspregion/api.ErrLimit"], apart := false, laid := [("bspregion/api.ErrInvalid", laid_bspregion_api_ErrInvalid), ("bspregion/api.ErrLimit", laid_bspregion_api_ErrLimit)] }
def ReduceSplitsSaid : Prop := reduceSplitsRow.holds Tryz.pinned (OpenSpec.ofChange reduceSplitsSpec)

/-- ITS FALSE NEIGHBOUR: 'it returns false'. Refute it at one input. -/
def reduceSplitsWrong : ChangeSpec := { name := "reduceSplits", fn := fun _ => fun
  | [d] => { results := [.lit (.bool false)], args := [d] }
  | _ => none }
def ReduceSplitsWrongFalsely : Prop := reduceSplitsRow.holds Tryz.pinned (OpenSpec.ofChange reduceSplitsWrong)

/-- 'bspregionlaw17.ReduceCells': WHATEVER THE INPUT: true; the input reads as it did. -/
def reduceCellsSpec : ChangeSpec := { name := "reduceCells", fn := fun _ => fun
  | [d] => { results := [.lit (.bool true)], args := [d] }
  | _ => none }
def reduceCellsRow : OpenClaim := { program := "ytkijgpopaaknfaagreatdoor", sum := "8f6bf1385fb13837f9f655deb69c0224a87926fe6279a9d50c27a2af4b5cb0ad", func := "bspregion/bspregionlaw17.ReduceCells", spec := "reduceCells", inPlace := ["slices.overlaps[bspregion/geo.Fr]"], unfollowed := true, recurses := true, named := ["math/bits.overflowError", "bspregion/api.ErrInvalid", "bspregion/api.ErrLimit"], apart := false, laid := [("bspregion/api.ErrInvalid", laid_bspregion_api_ErrInvalid), ("bspregion/api.ErrLimit", laid_bspregion_api_ErrLimit)] }
def ReduceCellsSaid : Prop := reduceCellsRow.holds Tryz.pinned (OpenSpec.ofChange reduceCellsSpec)

/-- ITS FALSE NEIGHBOUR: 'it returns false'. Refute it at one input. -/
def reduceCellsWrong : ChangeSpec := { name := "reduceCells", fn := fun _ => fun
  | [d] => { results := [.lit (.bool false)], args := [d] }
  | _ => none }
def ReduceCellsWrongFalsely : Prop := reduceCellsRow.holds Tryz.pinned (OpenSpec.ofChange reduceCellsWrong)

/-- 'bspregionlaw17.ReduceTwice': WHATEVER THE INPUT: true; the input reads as it did. -/
def reduceTwiceSpec : ChangeSpec := { name := "reduceTwice", fn := fun _ => fun
  | [d] => { results := [.lit (.bool true)], args := [d] }
  | _ => none }
def reduceTwiceRow : OpenClaim := { program := "ytkijgpopaaknfaagreatdoor", sum := "8f6bf1385fb13837f9f655deb69c0224a87926fe6279a9d50c27a2af4b5cb0ad", func := "bspregion/bspregionlaw17.ReduceTwice", spec := "reduceTwice", inPlace := ["slices.overlaps[bspregion/geo.Fr]", "internal/reflectlite.TypeOf"], unfollowed := true, recurses := true, named := ["bspregion/api.ErrEmpty", "math/bits.overflowError", "bspregion/api.ErrInvalid", "bspregion/api.ErrLimit"], apart := false, laid := [("bspregion/api.ErrInvalid", laid_bspregion_api_ErrInvalid), ("bspregion/api.ErrEmpty", laid_bspregion_api_ErrEmpty), ("bspregion/api.ErrLimit", laid_bspregion_api_ErrLimit)] }
def ReduceTwiceSaid : Prop := reduceTwiceRow.holds Tryz.pinned (OpenSpec.ofChange reduceTwiceSpec)

/-- ITS FALSE NEIGHBOUR: 'it returns false'. Refute it at one input. -/
def reduceTwiceWrong : ChangeSpec := { name := "reduceTwice", fn := fun _ => fun
  | [d] => { results := [.lit (.bool false)], args := [d] }
  | _ => none }
def ReduceTwiceWrongFalsely : Prop := reduceTwiceRow.holds Tryz.pinned (OpenSpec.ofChange reduceTwiceWrong)

/-- 'bspregionlaw17.ReduceRefuses': WHATEVER THE INPUT: true; the input reads as it did. -/
def reduceRefusesSpec : ChangeSpec := { name := "reduceRefuses", fn := fun _ => fun
  | [d1, d2, d3] => { results := [.lit (.bool true)], args := [d1, d2, d3] }
  | _ => none }
def reduceRefusesRow : OpenClaim := { program := "ytkijgpopaaknfaagreatdoor", sum := "8f6bf1385fb13837f9f655deb69c0224a87926fe6279a9d50c27a2af4b5cb0ad", func := "bspregion/bspregionlaw17.ReduceRefuses", spec := "reduceRefuses", inPlace := ["slices.overlaps[bspregion/geo.Fr]", "internal/reflectlite.TypeOf"], unfollowed := true, recurses := true, named := ["bspregion/api.ErrInvalid", "bspregion/api.ErrEmpty", "math/bits.overflowError", "bspregion/api.ErrLimit"], apart := false, laid := [("bspregion/api.ErrInvalid", laid_bspregion_api_ErrInvalid), ("bspregion/api.ErrEmpty", laid_bspregion_api_ErrEmpty), ("bspregion/api.ErrLimit", laid_bspregion_api_ErrLimit)] }
def ReduceRefusesSaid : Prop := reduceRefusesRow.holds Tryz.pinned (OpenSpec.ofChange reduceRefusesSpec)

/-- ITS FALSE NEIGHBOUR: 'it returns false'. Refute it at one input. -/
def reduceRefusesWrong : ChangeSpec := { name := "reduceRefuses", fn := fun _ => fun
  | [d1, d2, d3] => { results := [.lit (.bool false)], args := [d1, d2, d3] }
  | _ => none }
def ReduceRefusesWrongFalsely : Prop := reduceRefusesRow.holds Tryz.pinned (OpenSpec.ofChange reduceRefusesWrong)

/-- 'bspregionlaw17.ReduceRestricts': WHATEVER THE INPUT: true; the input reads as it did. -/
def reduceRestrictsSpec : ChangeSpec := { name := "reduceRestricts", fn := fun _ => fun
  | [d1, d2] => { results := [.lit (.bool true)], args := [d1, d2] }
  | _ => none }
def reduceRestrictsRow : OpenClaim := { program := "ytkijgpopaaknfaagreatdoor", sum := "8f6bf1385fb13837f9f655deb69c0224a87926fe6279a9d50c27a2af4b5cb0ad", func := "bspregion/bspregionlaw17.ReduceRestricts", spec := "reduceRestricts", inPlace := ["slices.overlaps[bspregion/geo.Fr]", "internal/reflectlite.TypeOf"], unfollowed := true, recurses := true, named := ["bspregion/api.ErrEmpty", "math/bits.overflowError", "bspregion/api.ErrInvalid", "bspregion/api.ErrLimit"], apart := false, laid := [("bspregion/api.ErrInvalid", laid_bspregion_api_ErrInvalid), ("bspregion/api.ErrEmpty", laid_bspregion_api_ErrEmpty), ("bspregion/api.ErrLimit", laid_bspregion_api_ErrLimit)] }
def ReduceRestrictsSaid : Prop := reduceRestrictsRow.holds Tryz.pinned (OpenSpec.ofChange reduceRestrictsSpec)

/-- ITS FALSE NEIGHBOUR: 'it returns false'. Refute it at one input. -/
def reduceRestrictsWrong : ChangeSpec := { name := "reduceRestricts", fn := fun _ => fun
  | [d1, d2] => { results := [.lit (.bool false)], args := [d1, d2] }
  | _ => none }
def ReduceRestrictsWrongFalsely : Prop := reduceRestrictsRow.holds Tryz.pinned (OpenSpec.ofChange reduceRestrictsWrong)

/-- 'bspregionlaw19.MergeRefuses': WHATEVER THE INPUT: true; the input reads as it did. -/
def mergeRefusesSpec : ChangeSpec := { name := "mergeRefuses", fn := fun _ => fun
  | [d1, d2, d3] => { results := [.lit (.bool true)], args := [d1, d2, d3] }
  | _ => none }
def mergeRefusesRow : OpenClaim := { program := "ytkijgpopaaknfaagreatdoor", sum := "8f6bf1385fb13837f9f655deb69c0224a87926fe6279a9d50c27a2af4b5cb0ad", func := "bspregion/bspregionlaw19.MergeRefuses", spec := "mergeRefuses", inPlace := ["slices.overlaps[bspregion/geo.Fr]", "internal/reflectlite.TypeOf"], unfollowed := true, recurses := true, named := ["bspregion/api.ErrInvalid", "bspregion/api.ErrLimit", "math/bits.overflowError", "bspregion/api.ErrEmpty"], apart := false, laid := [("bspregion/api.ErrInvalid", laid_bspregion_api_ErrInvalid), ("bspregion/api.ErrEmpty", laid_bspregion_api_ErrEmpty), ("bspregion/api.ErrLimit", laid_bspregion_api_ErrLimit)] }
def MergeRefusesSaid : Prop := mergeRefusesRow.holds Tryz.pinned (OpenSpec.ofChange mergeRefusesSpec)

/-- ITS FALSE NEIGHBOUR: 'it returns false'. Refute it at one input. -/
def mergeRefusesWrong : ChangeSpec := { name := "mergeRefuses", fn := fun _ => fun
  | [d1, d2, d3] => { results := [.lit (.bool false)], args := [d1, d2, d3] }
  | _ => none }
def MergeRefusesWrongFalsely : Prop := mergeRefusesRow.holds Tryz.pinned (OpenSpec.ofChange mergeRefusesWrong)

/- THE SECOND FORM. 'bulk': how many values and letters a reading holds, each counted each time it is reached (what is shared counts as often as it is met; a slice's spare places count too). A statement '..UptoSaid' is the law's where the arguments, and the package variables that the reading takes, are together of bulk at most 1048576: NARROWER than '..Said'. Prove '..Said' where nothing that the law and all that it calls make is longer than what came in: it says more and counts as full. Else prove '..UptoSaid'. A law counts once. -/
mutual
def uptoBulk {H : Type} : DataW H → Nat
  | .lit (.string bytes) => bytes.length + 1
  | .lit _ => 1
  | .nil => 1
  | .ptr d => uptoBulk d + 1
  | .slice elems spare => uptoBulkAll elems + uptoBulkAll spare + 1
  | .agg parts => uptoBulkAll parts + 1
  | .iface _ d => uptoBulk d + 1
  | .map entries => uptoBulkEntries entries + 1
  | .held _ => 1
def uptoBulkAll {H : Type} : List (DataW H) → Nat
  | [] => 0
  | d :: r => uptoBulk d + uptoBulkAll r
def uptoBulkEntries {H : Type} : List (Lit × DataW H) → Nat
  | [] => 0
  | x :: r => uptoBulkEntry x + uptoBulkEntries r
def uptoBulkEntry {H : Type} : Lit × DataW H → Nat
  | (.string bytes, d) => bytes.length + uptoBulk d + 1
  | (_, d) => uptoBulk d + 1
 end
def uptoSmall : (H : Type) → List (DataW H) → Bool := fun _ ds => decide (uptoBulkAll ds ≤ 1048576)
def OpenSpec.upto (s : _root_.Go.ChangeSpec) : _root_.Go.OpenSpec := { _root_.Go.OpenSpec.ofChange s with cond := some uptoSmall }

/-- 'bspregionlaw17.ReduceSplits', WHERE WHAT IT READS IS OF BULK AT MOST 1048576: true; the input reads as it did. -/
def reduceSplitsUptoRow : OpenClaim := { program := "ytkijgpopaaknfaagreatdoor", sum := "8f6bf1385fb13837f9f655deb69c0224a87926fe6279a9d50c27a2af4b5cb0ad", func := "bspregion/bspregionlaw17.ReduceSplits", spec := "reduceSplits", inPlace := ["slices.overlaps[bspregion/geo.Fr]"], unfollowed := true, recurses := true, named := ["math/bits.overflowError", "bspregion/api.ErrInvalid", "bspregion/api.ErrLimit"], apart := false, laid := [("bspregion/api.ErrInvalid", laid_bspregion_api_ErrInvalid), ("bspregion/api.ErrLimit", laid_bspregion_api_ErrLimit)], narrowed := true }
def ReduceSplitsUptoSaid : Prop := reduceSplitsUptoRow.holds Tryz.pinned (OpenSpec.upto reduceSplitsSpec)

/-- 'bspregionlaw17.ReduceCells', WHERE WHAT IT READS IS OF BULK AT MOST 1048576: true; the input reads as it did. -/
def reduceCellsUptoRow : OpenClaim := { program := "ytkijgpopaaknfaagreatdoor", sum := "8f6bf1385fb13837f9f655deb69c0224a87926fe6279a9d50c27a2af4b5cb0ad", func := "bspregion/bspregionlaw17.ReduceCells", spec := "reduceCells", inPlace := ["slices.overlaps[bspregion/geo.Fr]"], unfollowed := true, recurses := true, named := ["math/bits.overflowError", "bspregion/api.ErrInvalid", "bspregion/api.ErrLimit"], apart := false, laid := [("bspregion/api.ErrInvalid", laid_bspregion_api_ErrInvalid), ("bspregion/api.ErrLimit", laid_bspregion_api_ErrLimit)], narrowed := true }
def ReduceCellsUptoSaid : Prop := reduceCellsUptoRow.holds Tryz.pinned (OpenSpec.upto reduceCellsSpec)

/-- 'bspregionlaw17.ReduceTwice', WHERE WHAT IT READS IS OF BULK AT MOST 1048576: true; the input reads as it did. -/
def reduceTwiceUptoRow : OpenClaim := { program := "ytkijgpopaaknfaagreatdoor", sum := "8f6bf1385fb13837f9f655deb69c0224a87926fe6279a9d50c27a2af4b5cb0ad", func := "bspregion/bspregionlaw17.ReduceTwice", spec := "reduceTwice", inPlace := ["slices.overlaps[bspregion/geo.Fr]", "internal/reflectlite.TypeOf"], unfollowed := true, recurses := true, named := ["bspregion/api.ErrEmpty", "math/bits.overflowError", "bspregion/api.ErrInvalid", "bspregion/api.ErrLimit"], apart := false, laid := [("bspregion/api.ErrInvalid", laid_bspregion_api_ErrInvalid), ("bspregion/api.ErrEmpty", laid_bspregion_api_ErrEmpty), ("bspregion/api.ErrLimit", laid_bspregion_api_ErrLimit)], narrowed := true }
def ReduceTwiceUptoSaid : Prop := reduceTwiceUptoRow.holds Tryz.pinned (OpenSpec.upto reduceTwiceSpec)

/-- 'bspregionlaw17.ReduceRefuses', WHERE WHAT IT READS IS OF BULK AT MOST 1048576: true; the input reads as it did. -/
def reduceRefusesUptoRow : OpenClaim := { program := "ytkijgpopaaknfaagreatdoor", sum := "8f6bf1385fb13837f9f655deb69c0224a87926fe6279a9d50c27a2af4b5cb0ad", func := "bspregion/bspregionlaw17.ReduceRefuses", spec := "reduceRefuses", inPlace := ["slices.overlaps[bspregion/geo.Fr]", "internal/reflectlite.TypeOf"], unfollowed := true, recurses := true, named := ["bspregion/api.ErrInvalid", "bspregion/api.ErrEmpty", "math/bits.overflowError", "bspregion/api.ErrLimit"], apart := false, laid := [("bspregion/api.ErrInvalid", laid_bspregion_api_ErrInvalid), ("bspregion/api.ErrEmpty", laid_bspregion_api_ErrEmpty), ("bspregion/api.ErrLimit", laid_bspregion_api_ErrLimit)], narrowed := true }
def ReduceRefusesUptoSaid : Prop := reduceRefusesUptoRow.holds Tryz.pinned (OpenSpec.upto reduceRefusesSpec)

/-- 'bspregionlaw17.ReduceRestricts', WHERE WHAT IT READS IS OF BULK AT MOST 1048576: true; the input reads as it did. -/
def reduceRestrictsUptoRow : OpenClaim := { program := "ytkijgpopaaknfaagreatdoor", sum := "8f6bf1385fb13837f9f655deb69c0224a87926fe6279a9d50c27a2af4b5cb0ad", func := "bspregion/bspregionlaw17.ReduceRestricts", spec := "reduceRestricts", inPlace := ["slices.overlaps[bspregion/geo.Fr]", "internal/reflectlite.TypeOf"], unfollowed := true, recurses := true, named := ["bspregion/api.ErrEmpty", "math/bits.overflowError", "bspregion/api.ErrInvalid", "bspregion/api.ErrLimit"], apart := false, laid := [("bspregion/api.ErrInvalid", laid_bspregion_api_ErrInvalid), ("bspregion/api.ErrEmpty", laid_bspregion_api_ErrEmpty), ("bspregion/api.ErrLimit", laid_bspregion_api_ErrLimit)], narrowed := true }
def ReduceRestrictsUptoSaid : Prop := reduceRestrictsUptoRow.holds Tryz.pinned (OpenSpec.upto reduceRestrictsSpec)

/-- 'bspregionlaw19.MergeRefuses', WHERE WHAT IT READS IS OF BULK AT MOST 1048576: true; the input reads as it did. -/
def mergeRefusesUptoRow : OpenClaim := { program := "ytkijgpopaaknfaagreatdoor", sum := "8f6bf1385fb13837f9f655deb69c0224a87926fe6279a9d50c27a2af4b5cb0ad", func := "bspregion/bspregionlaw19.MergeRefuses", spec := "mergeRefuses", inPlace := ["slices.overlaps[bspregion/geo.Fr]", "internal/reflectlite.TypeOf"], unfollowed := true, recurses := true, named := ["bspregion/api.ErrInvalid", "bspregion/api.ErrLimit", "math/bits.overflowError", "bspregion/api.ErrEmpty"], apart := false, laid := [("bspregion/api.ErrInvalid", laid_bspregion_api_ErrInvalid), ("bspregion/api.ErrEmpty", laid_bspregion_api_ErrEmpty), ("bspregion/api.ErrLimit", laid_bspregion_api_ErrLimit)], narrowed := true }
def MergeRefusesUptoSaid : Prop := mergeRefusesUptoRow.holds Tryz.pinned (OpenSpec.upto mergeRefusesSpec)

end Rows
end Go.Proofs.YtkijgpopaaknfaaGreatDoor
