/-
  NARROWER THAN 'FOR EVERY INPUT', by the rows' own cells (each row's printed sentence says how): MergeAlgebra: laid · RelateForms: laid · RelateDecides: laid · MergeMakes: laid · MergeBounds: laid · RelateOrder: laid · MergeAll: laid · RelateWitness: laid · RelateRefuses: laid.
  DERIVED. THE GIVEN ROWS OF THIS SEAT. 9 by the template 'for every input the law returns true; each argument reads behind the call as it read before'; 0 by the template 'total and deterministic' (their statements: YtlnphbkcelfboaaGreatDoorTotals.lean).
  GIVEN WITH THE SEED: the statements are not yours to turn. If you find one false, say at which input.
  Laid BY PROGRAM, IN A SANDBOX (cutbox-rows.mjs): the forced cells as the released guide's own fill.sh prints them over the translation e52691520957657a… (all of the seat's roots in one cut). By AI agents, Wed Nov 11 2026. No macro, syntax, notation, axiom, sorry.
-/
import Derived.Test.YtlnphbkcelfboaaGreatDoorChecked
import GoSem.Claim
import GoSem.ClaimJoined
import GoSem.ClaimMapViews
import Derived.JoinedTies
import Derived.KernelRfl
namespace Go.Proofs.YtlnphbkcelfboaaGreatDoor
/- THE CELL 'sum', in the pinned program and in every row, IS THE sha256 OF THE DUMP (.gsa) THAT YtlnphbkcelfboaaGreatDoorProg.lean LOADS. Nothing in Lean hashes anything: it is a label: what it is worth is what the hold of that sum in a sandbox is worth. -/
noncomputable def Tryz.pinned : Pinned := { name := "ytlnphbkcelfboaagreatdoor", sum := "e52691520957657a83286425994dc6d3c69c77e68970e5f082afb627267b7d6c", checked := Tryz.checked }
namespace Rows
def none {H : Type} : Left H := { results := [], args := [] }

/- WHAT THE LISTED PACKAGE-LEVEL VARIABLES READ AS WHEN THE CALL BEGINS. Each datum BY PROGRAM (the guide's laid-datum.mjs) off the statement by which the dump's own 'gosem.cut.vars' lays the variable. In a bare row this is a premise. The card (YtlnphbkcelfboaaGreatDoorCards.lean) ties it to the program's text. -/
def laid_bspregion_api_ErrInvalid {H : Type} : DataW H := .iface "*errors.errorString" (.ptr (.agg [.lit (.string [105, 110, 118, 97, 108, 105, 100, 32, 118, 97, 108, 117, 101])]))
def laid_bspregion_api_ErrLimit {H : Type} : DataW H := .iface "*errors.errorString" (.ptr (.agg [.lit (.string [108, 105, 109, 105, 116, 32, 101, 120, 99, 101, 101, 100, 101, 100])]))
def laid_bspregion_api_ErrEmpty {H : Type} : DataW H := .iface "*errors.errorString" (.ptr (.agg [.lit (.string [101, 109, 112, 116, 121])]))

/-- 'bspregionlaw19.MergeAlgebra': WHATEVER THE INPUT: true; the input reads as it did. -/
def mergeAlgebraSpec : ChangeSpec := { name := "mergeAlgebra", fn := fun _ => fun
  | [d] => { results := [.lit (.bool true)], args := [d] }
  | _ => none }
def mergeAlgebraRow : OpenClaim := { program := "ytlnphbkcelfboaagreatdoor", sum := "e52691520957657a83286425994dc6d3c69c77e68970e5f082afb627267b7d6c", func := "bspregion/bspregionlaw19.MergeAlgebra", spec := "mergeAlgebra", inPlace := ["slices.overlaps[bspregion/geo.Fr]"], unfollowed := true, recurses := true, named := ["math/bits.overflowError", "bspregion/api.ErrInvalid", "bspregion/api.ErrLimit"], apart := false, laid := [("bspregion/api.ErrInvalid", laid_bspregion_api_ErrInvalid), ("bspregion/api.ErrLimit", laid_bspregion_api_ErrLimit)] }
def MergeAlgebraSaid : Prop := mergeAlgebraRow.holds Tryz.pinned (OpenSpec.ofChange mergeAlgebraSpec)

/-- ITS FALSE NEIGHBOUR: 'it returns false'. Refute it at one input. -/
def mergeAlgebraWrong : ChangeSpec := { name := "mergeAlgebra", fn := fun _ => fun
  | [d] => { results := [.lit (.bool false)], args := [d] }
  | _ => none }
def MergeAlgebraWrongFalsely : Prop := mergeAlgebraRow.holds Tryz.pinned (OpenSpec.ofChange mergeAlgebraWrong)

/-- 'bspregionlaw20.RelateForms': WHATEVER THE INPUT: true; the input reads as it did. -/
def relateFormsSpec : ChangeSpec := { name := "relateForms", fn := fun _ => fun
  | [d] => { results := [.lit (.bool true)], args := [d] }
  | _ => none }
def relateFormsRow : OpenClaim := { program := "ytlnphbkcelfboaagreatdoor", sum := "e52691520957657a83286425994dc6d3c69c77e68970e5f082afb627267b7d6c", func := "bspregion/bspregionlaw20.RelateForms", spec := "relateForms", inPlace := ["slices.overlaps[bspregion/geo.Fr]"], unfollowed := true, recurses := true, named := ["math/bits.overflowError", "bspregion/api.ErrInvalid", "bspregion/api.ErrLimit"], apart := false, laid := [("bspregion/api.ErrInvalid", laid_bspregion_api_ErrInvalid), ("bspregion/api.ErrLimit", laid_bspregion_api_ErrLimit)] }
def RelateFormsSaid : Prop := relateFormsRow.holds Tryz.pinned (OpenSpec.ofChange relateFormsSpec)

/-- ITS FALSE NEIGHBOUR: 'it returns false'. Refute it at one input. -/
def relateFormsWrong : ChangeSpec := { name := "relateForms", fn := fun _ => fun
  | [d] => { results := [.lit (.bool false)], args := [d] }
  | _ => none }
def RelateFormsWrongFalsely : Prop := relateFormsRow.holds Tryz.pinned (OpenSpec.ofChange relateFormsWrong)

/-- 'bspregionlaw20.RelateDecides': WHATEVER THE INPUT: true; the input reads as it did. -/
def relateDecidesSpec : ChangeSpec := { name := "relateDecides", fn := fun _ => fun
  | [d] => { results := [.lit (.bool true)], args := [d] }
  | _ => none }
def relateDecidesRow : OpenClaim := { program := "ytlnphbkcelfboaagreatdoor", sum := "e52691520957657a83286425994dc6d3c69c77e68970e5f082afb627267b7d6c", func := "bspregion/bspregionlaw20.RelateDecides", spec := "relateDecides", inPlace := ["slices.overlaps[bspregion/geo.Fr]"], unfollowed := true, recurses := true, named := ["math/bits.overflowError", "bspregion/api.ErrInvalid", "bspregion/api.ErrLimit"], apart := false, laid := [("bspregion/api.ErrInvalid", laid_bspregion_api_ErrInvalid), ("bspregion/api.ErrLimit", laid_bspregion_api_ErrLimit)] }
def RelateDecidesSaid : Prop := relateDecidesRow.holds Tryz.pinned (OpenSpec.ofChange relateDecidesSpec)

/-- ITS FALSE NEIGHBOUR: 'it returns false'. Refute it at one input. -/
def relateDecidesWrong : ChangeSpec := { name := "relateDecides", fn := fun _ => fun
  | [d] => { results := [.lit (.bool false)], args := [d] }
  | _ => none }
def RelateDecidesWrongFalsely : Prop := relateDecidesRow.holds Tryz.pinned (OpenSpec.ofChange relateDecidesWrong)

/-- 'bspregionlaw19.MergeMakes': WHATEVER THE INPUT: true; the input reads as it did. -/
def mergeMakesSpec : ChangeSpec := { name := "mergeMakes", fn := fun _ => fun
  | [d1, d2] => { results := [.lit (.bool true)], args := [d1, d2] }
  | _ => none }
def mergeMakesRow : OpenClaim := { program := "ytlnphbkcelfboaagreatdoor", sum := "e52691520957657a83286425994dc6d3c69c77e68970e5f082afb627267b7d6c", func := "bspregion/bspregionlaw19.MergeMakes", spec := "mergeMakes", inPlace := ["slices.overlaps[bspregion/geo.Fr]", "internal/reflectlite.TypeOf"], unfollowed := true, recurses := true, named := ["bspregion/api.ErrInvalid", "math/bits.overflowError", "bspregion/api.ErrLimit"], apart := false, laid := [("bspregion/api.ErrInvalid", laid_bspregion_api_ErrInvalid), ("bspregion/api.ErrLimit", laid_bspregion_api_ErrLimit)] }
def MergeMakesSaid : Prop := mergeMakesRow.holds Tryz.pinned (OpenSpec.ofChange mergeMakesSpec)

/-- ITS FALSE NEIGHBOUR: 'it returns false'. Refute it at one input. -/
def mergeMakesWrong : ChangeSpec := { name := "mergeMakes", fn := fun _ => fun
  | [d1, d2] => { results := [.lit (.bool false)], args := [d1, d2] }
  | _ => none }
def MergeMakesWrongFalsely : Prop := mergeMakesRow.holds Tryz.pinned (OpenSpec.ofChange mergeMakesWrong)

/-- 'bspregionlaw19.MergeBounds': WHATEVER THE INPUT: true; the input reads as it did. -/
def mergeBoundsSpec : ChangeSpec := { name := "mergeBounds", fn := fun _ => fun
  | [d1, d2, d3, d4] => { results := [.lit (.bool true)], args := [d1, d2, d3, d4] }
  | _ => none }
def mergeBoundsRow : OpenClaim := { program := "ytlnphbkcelfboaagreatdoor", sum := "e52691520957657a83286425994dc6d3c69c77e68970e5f082afb627267b7d6c", func := "bspregion/bspregionlaw19.MergeBounds", spec := "mergeBounds", inPlace := ["slices.overlaps[bspregion/geo.Fr]", "math/bits.Add64"], unfollowed := true, recurses := true, named := ["math/bits.overflowError", "bspregion/api.ErrInvalid", "bspregion/api.ErrLimit"], apart := false, laid := [("bspregion/api.ErrInvalid", laid_bspregion_api_ErrInvalid), ("bspregion/api.ErrLimit", laid_bspregion_api_ErrLimit)] }
def MergeBoundsSaid : Prop := mergeBoundsRow.holds Tryz.pinned (OpenSpec.ofChange mergeBoundsSpec)

/-- ITS FALSE NEIGHBOUR: 'it returns false'. Refute it at one input. -/
def mergeBoundsWrong : ChangeSpec := { name := "mergeBounds", fn := fun _ => fun
  | [d1, d2, d3, d4] => { results := [.lit (.bool false)], args := [d1, d2, d3, d4] }
  | _ => none }
def MergeBoundsWrongFalsely : Prop := mergeBoundsRow.holds Tryz.pinned (OpenSpec.ofChange mergeBoundsWrong)

/-- 'bspregionlaw20.RelateOrder': WHATEVER THE INPUT: true; the input reads as it did. -/
def relateOrderSpec : ChangeSpec := { name := "relateOrder", fn := fun _ => fun
  | [d] => { results := [.lit (.bool true)], args := [d] }
  | _ => none }
def relateOrderRow : OpenClaim := { program := "ytlnphbkcelfboaagreatdoor", sum := "e52691520957657a83286425994dc6d3c69c77e68970e5f082afb627267b7d6c", func := "bspregion/bspregionlaw20.RelateOrder", spec := "relateOrder", inPlace := ["slices.overlaps[bspregion/geo.Fr]"], unfollowed := true, recurses := true, named := ["math/bits.overflowError", "bspregion/api.ErrInvalid", "bspregion/api.ErrLimit"], apart := false, laid := [("bspregion/api.ErrInvalid", laid_bspregion_api_ErrInvalid), ("bspregion/api.ErrLimit", laid_bspregion_api_ErrLimit)] }
def RelateOrderSaid : Prop := relateOrderRow.holds Tryz.pinned (OpenSpec.ofChange relateOrderSpec)

/-- ITS FALSE NEIGHBOUR: 'it returns false'. Refute it at one input. -/
def relateOrderWrong : ChangeSpec := { name := "relateOrder", fn := fun _ => fun
  | [d] => { results := [.lit (.bool false)], args := [d] }
  | _ => none }
def RelateOrderWrongFalsely : Prop := relateOrderRow.holds Tryz.pinned (OpenSpec.ofChange relateOrderWrong)

/-- 'bspregionlaw19.MergeAll': WHATEVER THE INPUT: true; the input reads as it did. -/
def mergeAllSpec : ChangeSpec := { name := "mergeAll", fn := fun _ => fun
  | [d1, d2] => { results := [.lit (.bool true)], args := [d1, d2] }
  | _ => none }
def mergeAllRow : OpenClaim := { program := "ytlnphbkcelfboaagreatdoor", sum := "e52691520957657a83286425994dc6d3c69c77e68970e5f082afb627267b7d6c", func := "bspregion/bspregionlaw19.MergeAll", spec := "mergeAll", inPlace := ["slices.overlaps[bspregion/geo.Fr]", "internal/reflectlite.TypeOf"], unfollowed := true, recurses := true, named := ["bspregion/api.ErrEmpty", "math/bits.overflowError", "bspregion/api.ErrInvalid", "bspregion/api.ErrLimit"], apart := false, laid := [("bspregion/api.ErrInvalid", laid_bspregion_api_ErrInvalid), ("bspregion/api.ErrEmpty", laid_bspregion_api_ErrEmpty), ("bspregion/api.ErrLimit", laid_bspregion_api_ErrLimit)] }
def MergeAllSaid : Prop := mergeAllRow.holds Tryz.pinned (OpenSpec.ofChange mergeAllSpec)

/-- ITS FALSE NEIGHBOUR: 'it returns false'. Refute it at one input. -/
def mergeAllWrong : ChangeSpec := { name := "mergeAll", fn := fun _ => fun
  | [d1, d2] => { results := [.lit (.bool false)], args := [d1, d2] }
  | _ => none }
def MergeAllWrongFalsely : Prop := mergeAllRow.holds Tryz.pinned (OpenSpec.ofChange mergeAllWrong)

/-- 'bspregionlaw20.RelateWitness': WHATEVER THE INPUT: true; the input reads as it did. -/
def relateWitnessSpec : ChangeSpec := { name := "relateWitness", fn := fun _ => fun
  | [d] => { results := [.lit (.bool true)], args := [d] }
  | _ => none }
def relateWitnessRow : OpenClaim := { program := "ytlnphbkcelfboaagreatdoor", sum := "e52691520957657a83286425994dc6d3c69c77e68970e5f082afb627267b7d6c", func := "bspregion/bspregionlaw20.RelateWitness", spec := "relateWitness", inPlace := ["slices.overlaps[bspregion/geo.Fr]", "internal/reflectlite.TypeOf"], unfollowed := true, recurses := true, named := ["bspregion/api.ErrEmpty", "math/bits.overflowError", "bspregion/api.ErrInvalid", "bspregion/api.ErrLimit"], apart := false, laid := [("bspregion/api.ErrInvalid", laid_bspregion_api_ErrInvalid), ("bspregion/api.ErrEmpty", laid_bspregion_api_ErrEmpty), ("bspregion/api.ErrLimit", laid_bspregion_api_ErrLimit)] }
def RelateWitnessSaid : Prop := relateWitnessRow.holds Tryz.pinned (OpenSpec.ofChange relateWitnessSpec)

/-- ITS FALSE NEIGHBOUR: 'it returns false'. Refute it at one input. -/
def relateWitnessWrong : ChangeSpec := { name := "relateWitness", fn := fun _ => fun
  | [d] => { results := [.lit (.bool false)], args := [d] }
  | _ => none }
def RelateWitnessWrongFalsely : Prop := relateWitnessRow.holds Tryz.pinned (OpenSpec.ofChange relateWitnessWrong)

/-- 'bspregionlaw20.RelateRefuses': WHATEVER THE INPUT: true; the input reads as it did. -/
def relateRefusesSpec : ChangeSpec := { name := "relateRefuses", fn := fun _ => fun
  | [d1, d2] => { results := [.lit (.bool true)], args := [d1, d2] }
  | _ => none }
def relateRefusesRow : OpenClaim := { program := "ytlnphbkcelfboaagreatdoor", sum := "e52691520957657a83286425994dc6d3c69c77e68970e5f082afb627267b7d6c", func := "bspregion/bspregionlaw20.RelateRefuses", spec := "relateRefuses", inPlace := ["slices.overlaps[bspregion/geo.Fr]", "internal/reflectlite.TypeOf"], unfollowed := true, recurses := true, named := ["bspregion/api.ErrInvalid", "math/bits.overflowError", "bspregion/api.ErrLimit", "bspregion/api.ErrEmpty"], apart := false, laid := [("bspregion/api.ErrInvalid", laid_bspregion_api_ErrInvalid), ("bspregion/api.ErrEmpty", laid_bspregion_api_ErrEmpty), ("bspregion/api.ErrLimit", laid_bspregion_api_ErrLimit)] }
def RelateRefusesSaid : Prop := relateRefusesRow.holds Tryz.pinned (OpenSpec.ofChange relateRefusesSpec)

/-- ITS FALSE NEIGHBOUR: 'it returns false'. Refute it at one input. -/
def relateRefusesWrong : ChangeSpec := { name := "relateRefuses", fn := fun _ => fun
  | [d1, d2] => { results := [.lit (.bool false)], args := [d1, d2] }
  | _ => none }
def RelateRefusesWrongFalsely : Prop := relateRefusesRow.holds Tryz.pinned (OpenSpec.ofChange relateRefusesWrong)

/- THE SECOND FORM. 'bulk': how many values and letters a reading holds, each counted each time it is reached (what is shared counts as often as it is met; a slice's spare places count too). A statement '..UptoSaid' is the law's where the arguments, and the package variables that the reading takes, are together of bulk at most 1048576: NARROWER than '..Said'. Prove '..Said' where nothing that the law and all that it calls make is longer than what came in: it says more and counts as full. Else prove '..UptoSaid'. A law counts once. -/
mutual
def uptoBulk {H : Type} : DataW H → Nat
  | .lit (.string bytes) => bytes.length + 1
  | .lit _ => 1
  | .nil => 1
  | .ptr d => uptoBulk d + 1
  | .slice elems spare => uptoBulkAll elems + uptoBulkAll spare + 1
  | .agg parts => uptoBulkAll parts + 1
  | .iface _ d => uptoBulk d + 1
  | .map entries => uptoBulkEntries entries + 1
  | .held _ => 1
def uptoBulkAll {H : Type} : List (DataW H) → Nat
  | [] => 0
  | d :: r => uptoBulk d + uptoBulkAll r
def uptoBulkEntries {H : Type} : List (Lit × DataW H) → Nat
  | [] => 0
  | x :: r => uptoBulkEntry x + uptoBulkEntries r
def uptoBulkEntry {H : Type} : Lit × DataW H → Nat
  | (.string bytes, d) => bytes.length + uptoBulk d + 1
  | (_, d) => uptoBulk d + 1
 end
def uptoSmall : (H : Type) → List (DataW H) → Bool := fun _ ds => decide (uptoBulkAll ds ≤ 1048576)
def OpenSpec.upto (s : _root_.Go.ChangeSpec) : _root_.Go.OpenSpec := { _root_.Go.OpenSpec.ofChange s with cond := some uptoSmall }

/-- 'bspregionlaw19.MergeAlgebra', WHERE WHAT IT READS IS OF BULK AT MOST 1048576: true; the input reads as it did. -/
def mergeAlgebraUptoRow : OpenClaim := { program := "ytlnphbkcelfboaagreatdoor", sum := "e52691520957657a83286425994dc6d3c69c77e68970e5f082afb627267b7d6c", func := "bspregion/bspregionlaw19.MergeAlgebra", spec := "mergeAlgebra", inPlace := ["slices.overlaps[bspregion/geo.Fr]"], unfollowed := true, recurses := true, named := ["math/bits.overflowError", "bspregion/api.ErrInvalid", "bspregion/api.ErrLimit"], apart := false, laid := [("bspregion/api.ErrInvalid", laid_bspregion_api_ErrInvalid), ("bspregion/api.ErrLimit", laid_bspregion_api_ErrLimit)], narrowed := true }
def MergeAlgebraUptoSaid : Prop := mergeAlgebraUptoRow.holds Tryz.pinned (OpenSpec.upto mergeAlgebraSpec)

/-- 'bspregionlaw20.RelateForms', WHERE WHAT IT READS IS OF BULK AT MOST 1048576: true; the input reads as it did. -/
def relateFormsUptoRow : OpenClaim := { program := "ytlnphbkcelfboaagreatdoor", sum := "e52691520957657a83286425994dc6d3c69c77e68970e5f082afb627267b7d6c", func := "bspregion/bspregionlaw20.RelateForms", spec := "relateForms", inPlace := ["slices.overlaps[bspregion/geo.Fr]"], unfollowed := true, recurses := true, named := ["math/bits.overflowError", "bspregion/api.ErrInvalid", "bspregion/api.ErrLimit"], apart := false, laid := [("bspregion/api.ErrInvalid", laid_bspregion_api_ErrInvalid), ("bspregion/api.ErrLimit", laid_bspregion_api_ErrLimit)], narrowed := true }
def RelateFormsUptoSaid : Prop := relateFormsUptoRow.holds Tryz.pinned (OpenSpec.upto relateFormsSpec)

/-- 'bspregionlaw20.RelateDecides', WHERE WHAT IT READS IS OF BULK AT MOST 1048576: true; the input reads as it did. -/
def relateDecidesUptoRow : OpenClaim := { program := "ytlnphbkcelfboaagreatdoor", sum := "e52691520957657a83286425994dc6d3c69c77e68970e5f082afb627267b7d6c", func := "bspregion/bspregionlaw20.RelateDecides", spec := "relateDecides", inPlace := ["slices.overlaps[bspregion/geo.Fr]"], unfollowed := true, recurses := true, named := ["math/bits.overflowError", "bspregion/api.ErrInvalid", "bspregion/api.ErrLimit"], apart := false, laid := [("bspregion/api.ErrInvalid", laid_bspregion_api_ErrInvalid), ("bspregion/api.ErrLimit", laid_bspregion_api_ErrLimit)], narrowed := true }
def RelateDecidesUptoSaid : Prop := relateDecidesUptoRow.holds Tryz.pinned (OpenSpec.upto relateDecidesSpec)

/-- 'bspregionlaw19.MergeMakes', WHERE WHAT IT READS IS OF BULK AT MOST 1048576: true; the input reads as it did. -/
def mergeMakesUptoRow : OpenClaim := { program := "ytlnphbkcelfboaagreatdoor", sum := "e52691520957657a83286425994dc6d3c69c77e68970e5f082afb627267b7d6c", func := "bspregion/bspregionlaw19.MergeMakes", spec := "mergeMakes", inPlace := ["slices.overlaps[bspregion/geo.Fr]", "internal/reflectlite.TypeOf"], unfollowed := true, recurses := true, named := ["bspregion/api.ErrInvalid", "math/bits.overflowError", "bspregion/api.ErrLimit"], apart := false, laid := [("bspregion/api.ErrInvalid", laid_bspregion_api_ErrInvalid), ("bspregion/api.ErrLimit", laid_bspregion_api_ErrLimit)], narrowed := true }
def MergeMakesUptoSaid : Prop := mergeMakesUptoRow.holds Tryz.pinned (OpenSpec.upto mergeMakesSpec)

/-- 'bspregionlaw19.MergeBounds', WHERE WHAT IT READS IS OF BULK AT MOST 1048576: true; the input reads as it did. -/
def mergeBoundsUptoRow : OpenClaim := { program := "ytlnphbkcelfboaagreatdoor", sum := "e52691520957657a83286425994dc6d3c69c77e68970e5f082afb627267b7d6c", func := "bspregion/bspregionlaw19.MergeBounds", spec := "mergeBounds", inPlace := ["slices.overlaps[bspregion/geo.Fr]", "math/bits.Add64"], unfollowed := true, recurses := true, named := ["math/bits.overflowError", "bspregion/api.ErrInvalid", "bspregion/api.ErrLimit"], apart := false, laid := [("bspregion/api.ErrInvalid", laid_bspregion_api_ErrInvalid), ("bspregion/api.ErrLimit", laid_bspregion_api_ErrLimit)], narrowed := true }
def MergeBoundsUptoSaid : Prop := mergeBoundsUptoRow.holds Tryz.pinned (OpenSpec.upto mergeBoundsSpec)

/-- 'bspregionlaw20.RelateOrder', WHERE WHAT IT READS IS OF BULK AT MOST 1048576: true; the input reads as it did. -/
def relateOrderUptoRow : OpenClaim := { program := "ytlnphbkcelfboaagreatdoor", sum := "e52691520957657a83286425994dc6d3c69c77e68970e5f082afb627267b7d6c", func := "bspregion/bspregionlaw20.RelateOrder", spec := "relateOrder", inPlace := ["slices.overlaps[bspregion/geo.Fr]"], unfollowed := true, recurses := true, named := ["math/bits.overflowError", "bspregion/api.ErrInvalid", "bspregion/api.ErrLimit"], apart := false, laid := [("bspregion/api.ErrInvalid", laid_bspregion_api_ErrInvalid), ("bspregion/api.ErrLimit", laid_bspregion_api_ErrLimit)], narrowed := true }
def RelateOrderUptoSaid : Prop := relateOrderUptoRow.holds Tryz.pinned (OpenSpec.upto relateOrderSpec)

/-- 'bspregionlaw19.MergeAll', WHERE WHAT IT READS IS OF BULK AT MOST 1048576: true; the input reads as it did. -/
def mergeAllUptoRow : OpenClaim := { program := "ytlnphbkcelfboaagreatdoor", sum := "e52691520957657a83286425994dc6d3c69c77e68970e5f082afb627267b7d6c", func := "bspregion/bspregionlaw19.MergeAll", spec := "mergeAll", inPlace := ["slices.overlaps[bspregion/geo.Fr]", "internal/reflectlite.TypeOf"], unfollowed := true, recurses := true, named := ["bspregion/api.ErrEmpty", "math/bits.overflowError", "bspregion/api.ErrInvalid", "bspregion/api.ErrLimit"], apart := false, laid := [("bspregion/api.ErrInvalid", laid_bspregion_api_ErrInvalid), ("bspregion/api.ErrEmpty", laid_bspregion_api_ErrEmpty), ("bspregion/api.ErrLimit", laid_bspregion_api_ErrLimit)], narrowed := true }
def MergeAllUptoSaid : Prop := mergeAllUptoRow.holds Tryz.pinned (OpenSpec.upto mergeAllSpec)

/-- 'bspregionlaw20.RelateWitness', WHERE WHAT IT READS IS OF BULK AT MOST 1048576: true; the input reads as it did. -/
def relateWitnessUptoRow : OpenClaim := { program := "ytlnphbkcelfboaagreatdoor", sum := "e52691520957657a83286425994dc6d3c69c77e68970e5f082afb627267b7d6c", func := "bspregion/bspregionlaw20.RelateWitness", spec := "relateWitness", inPlace := ["slices.overlaps[bspregion/geo.Fr]", "internal/reflectlite.TypeOf"], unfollowed := true, recurses := true, named := ["bspregion/api.ErrEmpty", "math/bits.overflowError", "bspregion/api.ErrInvalid", "bspregion/api.ErrLimit"], apart := false, laid := [("bspregion/api.ErrInvalid", laid_bspregion_api_ErrInvalid), ("bspregion/api.ErrEmpty", laid_bspregion_api_ErrEmpty), ("bspregion/api.ErrLimit", laid_bspregion_api_ErrLimit)], narrowed := true }
def RelateWitnessUptoSaid : Prop := relateWitnessUptoRow.holds Tryz.pinned (OpenSpec.upto relateWitnessSpec)

/-- 'bspregionlaw20.RelateRefuses', WHERE WHAT IT READS IS OF BULK AT MOST 1048576: true; the input reads as it did. -/
def relateRefusesUptoRow : OpenClaim := { program := "ytlnphbkcelfboaagreatdoor", sum := "e52691520957657a83286425994dc6d3c69c77e68970e5f082afb627267b7d6c", func := "bspregion/bspregionlaw20.RelateRefuses", spec := "relateRefuses", inPlace := ["slices.overlaps[bspregion/geo.Fr]", "internal/reflectlite.TypeOf"], unfollowed := true, recurses := true, named := ["bspregion/api.ErrInvalid", "math/bits.overflowError", "bspregion/api.ErrLimit", "bspregion/api.ErrEmpty"], apart := false, laid := [("bspregion/api.ErrInvalid", laid_bspregion_api_ErrInvalid), ("bspregion/api.ErrEmpty", laid_bspregion_api_ErrEmpty), ("bspregion/api.ErrLimit", laid_bspregion_api_ErrLimit)], narrowed := true }
def RelateRefusesUptoSaid : Prop := relateRefusesUptoRow.holds Tryz.pinned (OpenSpec.upto relateRefusesSpec)

end Rows
end Go.Proofs.YtlnphbkcelfboaaGreatDoor
