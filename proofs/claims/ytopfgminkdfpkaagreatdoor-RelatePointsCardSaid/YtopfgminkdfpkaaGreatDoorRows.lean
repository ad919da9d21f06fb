/-
  NARROWER THAN 'FOR EVERY INPUT', by the rows' own cells (each row's printed sentence says how): RelateWitness: laid · ReduceKeeps: laid · MergeDenotes: laid · MergeClasses: laid · RelatePoints: laid.
  DERIVED. THE GIVEN ROWS OF THIS SEAT. 5 by the template 'for every input the law returns true; each argument reads behind the call as it read before'; 0 by the template 'total and deterministic' (their statements: YtopfgminkdfpkaaGreatDoorTotals.lean).
  GIVEN WITH THE SEED: the statements are not yours to turn. If you find one false, say at which input.
  Laid BY PROGRAM, IN A SANDBOX (cutbox-rows.mjs): the forced cells as the released guide's own fill.sh prints them over the translation 409888e89c09199f… (all of the seat's roots in one cut). By AI agents, Wed Nov 11 2026. No macro, syntax, notation, axiom, sorry.
-/
import Derived.Test.YtopfgminkdfpkaaGreatDoorChecked
import GoSem.Claim
import GoSem.ClaimJoined
import GoSem.ClaimMapViews
import Derived.JoinedTies
import Derived.KernelRfl
namespace Go.Proofs.YtopfgminkdfpkaaGreatDoor
/- THE CELL 'sum', in the pinned program and in every row, IS THE sha256 OF THE DUMP (.gsa) THAT YtopfgminkdfpkaaGreatDoorProg.lean LOADS. Nothing in Lean hashes anything: it is a label: what it is worth is what the hold of that sum in a sandbox is worth. -/
noncomputable def Tryz.pinned : Pinned := { name := "ytopfgminkdfpkaagreatdoor", sum := "409888e89c09199f24c922ac438c17ef14df812d7394b832f9738f1a11a6ce6f", checked := Tryz.checked }
namespace Rows
def none {H : Type} : Left H := { results := [], args := [] }

/- WHAT THE LISTED PACKAGE-LEVEL VARIABLES READ AS WHEN THE CALL BEGINS. Each datum BY PROGRAM (the guide's laid-datum.mjs) off the statement by which the dump's own 'gosem.cut.vars' lays the variable. In a bare row this is a premise. The card (YtopfgminkdfpkaaGreatDoorCards.lean) ties it to the program's text. -/
def laid_bspregion_api_ErrInvalid {H : Type} : DataW H := .iface "*errors.errorString" (.ptr (.agg [.lit (.string [105, 110, 118, 97, 108, 105, 100, 32, 118, 97, 108, 117, 101])]))
def laid_bspregion_api_ErrEmpty {H : Type} : DataW H := .iface "*errors.errorString" (.ptr (.agg [.lit (.string [101, 109, 112, 116, 121])]))
def laid_bspregion_api_ErrLimit {H : Type} : DataW H := .iface "*errors.errorString" (.ptr (.agg [.lit (.string [108, 105, 109, 105, 116, 32, 101, 120, 99, 101, 101, 100, 101, 100])]))

/-- 'bspregionlaw20.RelateWitness': WHATEVER THE INPUT: true; the input reads as it did. -/
def relateWitnessSpec : ChangeSpec := { name := "relateWitness", fn := fun _ => fun
  | [d] => { results := [.lit (.bool true)], args := [d] }
  | _ => none }
def relateWitnessRow : OpenClaim := { program := "ytopfgminkdfpkaagreatdoor", sum := "409888e89c09199f24c922ac438c17ef14df812d7394b832f9738f1a11a6ce6f", func := "bspregion/bspregionlaw20.RelateWitness", spec := "relateWitness", inPlace := ["slices.overlaps[bspregion/geo.Fr]", "internal/reflectlite.TypeOf"], unfollowed := true, recurses := true, named := ["bspregion/api.ErrEmpty", "math/bits.overflowError", "bspregion/api.ErrInvalid", "bspregion/api.ErrLimit"], apart := false, laid := [("bspregion/api.ErrInvalid", laid_bspregion_api_ErrInvalid), ("bspregion/api.ErrEmpty", laid_bspregion_api_ErrEmpty), ("bspregion/api.ErrLimit", laid_bspregion_api_ErrLimit)] }
def RelateWitnessSaid : Prop := relateWitnessRow.holds Tryz.pinned (OpenSpec.ofChange relateWitnessSpec)

/-- ITS FALSE NEIGHBOUR: 'it returns false'. Refute it at one input. -/
def relateWitnessWrong : ChangeSpec := { name := "relateWitness", fn := fun _ => fun
  | [d] => { results := [.lit (.bool false)], args := [d] }
  | _ => none }
def RelateWitnessWrongFalsely : Prop := relateWitnessRow.holds Tryz.pinned (OpenSpec.ofChange relateWitnessWrong)

/-- 'bspregionlaw17.ReduceKeeps': WHATEVER THE INPUT: true; the input reads as it did. -/
def reduceKeepsSpec : ChangeSpec := { name := "reduceKeeps", fn := fun _ => fun
  | [d] => { results := [.lit (.bool true)], args := [d] }
  | _ => none }
def reduceKeepsRow : OpenClaim := { program := "ytopfgminkdfpkaagreatdoor", sum := "409888e89c09199f24c922ac438c17ef14df812d7394b832f9738f1a11a6ce6f", func := "bspregion/bspregionlaw17.ReduceKeeps", spec := "reduceKeeps", inPlace := ["slices.overlaps[bspregion/geo.Fr]"], unfollowed := true, recurses := true, named := ["math/bits.overflowError", "bspregion/api.ErrInvalid", "bspregion/api.ErrLimit"], apart := false, laid := [("bspregion/api.ErrInvalid", laid_bspregion_api_ErrInvalid), ("bspregion/api.ErrLimit", laid_bspregion_api_ErrLimit)] }
def ReduceKeepsSaid : Prop := reduceKeepsRow.holds Tryz.pinned (OpenSpec.ofChange reduceKeepsSpec)

/-- ITS FALSE NEIGHBOUR: 'it returns false'. Refute it at one input. -/
def reduceKeepsWrong : ChangeSpec := { name := "reduceKeeps", fn := fun _ => fun
  | [d] => { results := [.lit (.bool false)], args := [d] }
  | _ => none }
def ReduceKeepsWrongFalsely : Prop := reduceKeepsRow.holds Tryz.pinned (OpenSpec.ofChange reduceKeepsWrong)

/-- 'bspregionlaw19.MergeDenotes': WHATEVER THE INPUT: true; the input reads as it did. -/
def mergeDenotesSpec : ChangeSpec := { name := "mergeDenotes", fn := fun _ => fun
  | [d1, d2] => { results := [.lit (.bool true)], args := [d1, d2] }
  | _ => none }
def mergeDenotesRow : OpenClaim := { program := "ytopfgminkdfpkaagreatdoor", sum := "409888e89c09199f24c922ac438c17ef14df812d7394b832f9738f1a11a6ce6f", func := "bspregion/bspregionlaw19.MergeDenotes", spec := "mergeDenotes", inPlace := ["slices.overlaps[bspregion/geo.Fr]"], unfollowed := true, recurses := true, named := ["math/bits.overflowError", "bspregion/api.ErrInvalid", "bspregion/api.ErrLimit"], apart := false, laid := [("bspregion/api.ErrInvalid", laid_bspregion_api_ErrInvalid), ("bspregion/api.ErrLimit", laid_bspregion_api_ErrLimit)] }
def MergeDenotesSaid : Prop := mergeDenotesRow.holds Tryz.pinned (OpenSpec.ofChange mergeDenotesSpec)

/-- ITS FALSE NEIGHBOUR: 'it returns false'. Refute it at one input. -/
def mergeDenotesWrong : ChangeSpec := { name := "mergeDenotes", fn := fun _ => fun
  | [d1, d2] => { results := [.lit (.bool false)], args := [d1, d2] }
  | _ => none }
def MergeDenotesWrongFalsely : Prop := mergeDenotesRow.holds Tryz.pinned (OpenSpec.ofChange mergeDenotesWrong)

/-- 'bspregionlaw19.MergeClasses': WHATEVER THE INPUT: true; the input reads as it did. -/
def mergeClassesSpec : ChangeSpec := { name := "mergeClasses", fn := fun _ => fun
  | [d1, d2] => { results := [.lit (.bool true)], args := [d1, d2] }
  | _ => none }
def mergeClassesRow : OpenClaim := { program := "ytopfgminkdfpkaagreatdoor", sum := "409888e89c09199f24c922ac438c17ef14df812d7394b832f9738f1a11a6ce6f", func := "bspregion/bspregionlaw19.MergeClasses", spec := "mergeClasses", inPlace := ["slices.overlaps[bspregion/geo.Fr]"], unfollowed := true, recurses := true, named := ["math/bits.overflowError", "bspregion/api.ErrInvalid", "bspregion/api.ErrLimit"], apart := false, laid := [("bspregion/api.ErrInvalid", laid_bspregion_api_ErrInvalid), ("bspregion/api.ErrLimit", laid_bspregion_api_ErrLimit)] }
def MergeClassesSaid : Prop := mergeClassesRow.holds Tryz.pinned (OpenSpec.ofChange mergeClassesSpec)

/-- ITS FALSE NEIGHBOUR: 'it returns false'. Refute it at one input. -/
def mergeClassesWrong : ChangeSpec := { name := "mergeClasses", fn := fun _ => fun
  | [d1, d2] => { results := [.lit (.bool false)], args := [d1, d2] }
  | _ => none }
def MergeClassesWrongFalsely : Prop := mergeClassesRow.holds Tryz.pinned (OpenSpec.ofChange mergeClassesWrong)

/-- 'bspregionlaw20.RelatePoints': WHATEVER THE INPUT: true; the input reads as it did. -/
def relatePointsSpec : ChangeSpec := { name := "relatePoints", fn := fun _ => fun
  | [d] => { results := [.lit (.bool true)], args := [d] }
  | _ => none }
def relatePointsRow : OpenClaim := { program := "ytopfgminkdfpkaagreatdoor", sum := "409888e89c09199f24c922ac438c17ef14df812d7394b832f9738f1a11a6ce6f", func := "bspregion/bspregionlaw20.RelatePoints", spec := "relatePoints", inPlace := ["slices.overlaps[bspregion/geo.Fr]"], unfollowed := true, recurses := true, named := ["math/bits.overflowError", "bspregion/api.ErrInvalid", "bspregion/api.ErrLimit"], apart := false, laid := [("bspregion/api.ErrInvalid", laid_bspregion_api_ErrInvalid), ("bspregion/api.ErrLimit", laid_bspregion_api_ErrLimit)] }
def RelatePointsSaid : Prop := relatePointsRow.holds Tryz.pinned (OpenSpec.ofChange relatePointsSpec)

/-- ITS FALSE NEIGHBOUR: 'it returns false'. Refute it at one input. -/
def relatePointsWrong : ChangeSpec := { name := "relatePoints", fn := fun _ => fun
  | [d] => { results := [.lit (.bool false)], args := [d] }
  | _ => none }
def RelatePointsWrongFalsely : Prop := relatePointsRow.holds Tryz.pinned (OpenSpec.ofChange relatePointsWrong)

/- THE SECOND FORM. 'bulk': how many values and letters a reading holds, each counted each time it is reached (what is shared counts as often as it is met; a slice's spare places count too). A statement '..UptoSaid' is the law's where the arguments, and the package variables that the reading takes, are together of bulk at most 1048576: NARROWER than '..Said'. Prove '..Said' where nothing that the law and all that it calls make is longer than what came in: it says more and counts as full. Else prove '..UptoSaid'. A law counts once. -/
mutual
def uptoBulk {H : Type} : DataW H → Nat
  | .lit (.string bytes) => bytes.length + 1
  | .lit _ => 1
  | .nil => 1
  | .ptr d => uptoBulk d + 1
  | .slice elems spare => uptoBulkAll elems + uptoBulkAll spare + 1
  | .agg parts => uptoBulkAll parts + 1
  | .iface _ d => uptoBulk d + 1
  | .map entries => uptoBulkEntries entries + 1
  | .held _ => 1
def uptoBulkAll {H : Type} : List (DataW H) → Nat
  | [] => 0
  | d :: r => uptoBulk d + uptoBulkAll r
def uptoBulkEntries {H : Type} : List (Lit × DataW H) → Nat
  | [] => 0
  | x :: r => uptoBulkEntry x + uptoBulkEntries r
def uptoBulkEntry {H : Type} : Lit × DataW H → Nat
  | (.string bytes, d) => bytes.length + uptoBulk d + 1
  | (_, d) => uptoBulk d + 1
 end
def uptoSmall : (H : Type) → List (DataW H) → Bool := fun _ ds => decide (uptoBulkAll ds ≤ 1048576)
def OpenSpec.upto (s : _root_.Go.ChangeSpec) : _root_.Go.OpenSpec := { _root_.Go.OpenSpec.ofChange s with cond := some uptoSmall }

/-- 'bspregionlaw20.RelateWitness', WHERE WHAT IT READS IS OF BULK AT MOST 1048576: true; the input reads as it did. -/
def relateWitnessUptoRow : OpenClaim := { program := "ytopfgminkdfpkaagreatdoor", sum := "409888e89c09199f24c922ac438c17ef14df812d7394b832f9738f1a11a6ce6f", func := "bspregion/bspregionlaw20.RelateWitness", spec := "relateWitness", inPlace := ["slices.overlaps[bspregion/geo.Fr]", "internal/reflectlite.TypeOf"], unfollowed := true, recurses := true, named := ["bspregion/api.ErrEmpty", "math/bits.overflowError", "bspregion/api.ErrInvalid", "bspregion/api.ErrLimit"], apart := false, laid := [("bspregion/api.ErrInvalid", laid_bspregion_api_ErrInvalid), ("bspregion/api.ErrEmpty", laid_bspregion_api_ErrEmpty), ("bspregion/api.ErrLimit", laid_bspregion_api_ErrLimit)], narrowed := true }
def RelateWitnessUptoSaid : Prop := relateWitnessUptoRow.holds Tryz.pinned (OpenSpec.upto relateWitnessSpec)

/-- 'bspregionlaw17.ReduceKeeps', WHERE WHAT IT READS IS OF BULK AT MOST 1048576: true; the input reads as it did. -/
def reduceKeepsUptoRow : OpenClaim := { program := "ytopfgminkdfpkaagreatdoor", sum := "409888e89c09199f24c922ac438c17ef14df812d7394b832f9738f1a11a6ce6f", func := "bspregion/bspregionlaw17.ReduceKeeps", spec := "reduceKeeps", inPlace := ["slices.overlaps[bspregion/geo.Fr]"], unfollowed := true, recurses := true, named := ["math/bits.overflowError", "bspregion/api.ErrInvalid", "bspregion/api.ErrLimit"], apart := false, laid := [("bspregion/api.ErrInvalid", laid_bspregion_api_ErrInvalid), ("bspregion/api.ErrLimit", laid_bspregion_api_ErrLimit)], narrowed := true }
def ReduceKeepsUptoSaid : Prop := reduceKeepsUptoRow.holds Tryz.pinned (OpenSpec.upto reduceKeepsSpec)

/-- 'bspregionlaw19.MergeDenotes', WHERE WHAT IT READS IS OF BULK AT MOST 1048576: true; the input reads as it did. -/
def mergeDenotesUptoRow : OpenClaim := { program := "ytopfgminkdfpkaagreatdoor", sum := "409888e89c09199f24c922ac438c17ef14df812d7394b832f9738f1a11a6ce6f", func := "bspregion/bspregionlaw19.MergeDenotes", spec := "mergeDenotes", inPlace := ["slices.overlaps[bspregion/geo.Fr]"], unfollowed := true, recurses := true, named := ["math/bits.overflowError", "bspregion/api.ErrInvalid", "bspregion/api.ErrLimit"], apart := false, laid := [("bspregion/api.ErrInvalid", laid_bspregion_api_ErrInvalid), ("bspregion/api.ErrLimit", laid_bspregion_api_ErrLimit)], narrowed := true }
def MergeDenotesUptoSaid : Prop := mergeDenotesUptoRow.holds Tryz.pinned (OpenSpec.upto mergeDenotesSpec)

/-- 'bspregionlaw19.MergeClasses', WHERE WHAT IT READS IS OF BULK AT MOST 1048576: true; the input reads as it did. -/
def mergeClassesUptoRow : OpenClaim := { program := "ytopfgminkdfpkaagreatdoor", sum := "409888e89c09199f24c922ac438c17ef14df812d7394b832f9738f1a11a6ce6f", func := "bspregion/bspregionlaw19.MergeClasses", spec := "mergeClasses", inPlace := ["slices.overlaps[bspregion/geo.Fr]"], unfollowed := true, recurses := true, named := ["math/bits.overflowError", "bspregion/api.ErrInvalid", "bspregion/api.ErrLimit"], apart := false, laid := [("bspregion/api.ErrInvalid", laid_bspregion_api_ErrInvalid), ("bspregion/api.ErrLimit", laid_bspregion_api_ErrLimit)], narrowed := true }
def MergeClassesUptoSaid : Prop := mergeClassesUptoRow.holds Tryz.pinned (OpenSpec.upto mergeClassesSpec)

/-- 'bspregionlaw20.RelatePoints', WHERE WHAT IT READS IS OF BULK AT MOST 1048576: true; the input reads as it did. -/
def relatePointsUptoRow : OpenClaim := { program := "ytopfgminkdfpkaagreatdoor", sum := "409888e89c09199f24c922ac438c17ef14df812d7394b832f9738f1a11a6ce6f", func := "bspregion/bspregionlaw20.RelatePoints", spec := "relatePoints", inPlace := ["slices.overlaps[bspregion/geo.Fr]"], unfollowed := true, recurses := true, named := ["math/bits.overflowError", "bspregion/api.ErrInvalid", "bspregion/api.ErrLimit"], apart := false, laid := [("bspregion/api.ErrInvalid", laid_bspregion_api_ErrInvalid), ("bspregion/api.ErrLimit", laid_bspregion_api_ErrLimit)], narrowed := true }
def RelatePointsUptoSaid : Prop := relatePointsUptoRow.holds Tryz.pinned (OpenSpec.upto relatePointsSpec)

end Rows
end Go.Proofs.YtopfgminkdfpkaaGreatDoor
