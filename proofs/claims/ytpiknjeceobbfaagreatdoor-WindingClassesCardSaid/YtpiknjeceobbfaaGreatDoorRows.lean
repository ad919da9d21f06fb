/-
  NARROWER THAN 'FOR EVERY INPUT', by the rows' own cells (each row's printed sentence says how): WindingAccepts: laid · WindingClasses: laid · WindingConvex: laid · WindingNumbers: laid.
  DERIVED. THE GIVEN ROWS OF THIS SEAT. 4 by the template 'for every input the law returns true; each argument reads behind the call as it read before'; 0 by the template 'total and deterministic' (their statements: YtpiknjeceobbfaaGreatDoorTotals.lean).
  GIVEN WITH THE SEED: the statements are not yours to turn. If you find one false, say at which input.
  Laid BY PROGRAM, IN A SANDBOX (cutbox-rows.mjs): the forced cells as the released guide's own fill.sh prints them over the translation cd901189c2850ba7… (all of the seat's roots in one cut). By AI agents, Wed Nov 11 2026. No macro, syntax, notation, axiom, sorry.
-/
import Derived.Test.YtpiknjeceobbfaaGreatDoorChecked
import GoSem.Claim
import GoSem.ClaimJoined
import GoSem.ClaimMapViews
import Derived.JoinedTies
import Derived.KernelRfl
namespace Go.Proofs.YtpiknjeceobbfaaGreatDoor
/- THE CELL 'sum', in the pinned program and in every row, IS THE sha256 OF THE DUMP (.gsa) THAT YtpiknjeceobbfaaGreatDoorProg.lean LOADS. Nothing in Lean hashes anything: it is a label: what it is worth is what the hold of that sum in a sandbox is worth. -/
noncomputable def Tryz.pinned : Pinned := { name := "ytpiknjeceobbfaagreatdoor", sum := "cd901189c2850ba7709a618144b386b6affc050b5300b2d9aa60fba182eba227", checked := Tryz.checked }
namespace Rows
def none {H : Type} : Left H := { results := [], args := [] }

/- WHAT THE LISTED PACKAGE-LEVEL VARIABLES READ AS WHEN THE CALL BEGINS. Each datum BY PROGRAM (the guide's laid-datum.mjs) off the statement by which the dump's own 'gosem.cut.vars' lays the variable. In a bare row this is a premise. The card (YtpiknjeceobbfaaGreatDoorCards.lean) ties it to the program's text. -/
def laid_math_bits_deBruijn32tab {H : Type} : DataW H := .agg [.lit (.int .u8 0), .lit (.int .u8 1), .lit (.int .u8 28), .lit (.int .u8 2), .lit (.int .u8 29), .lit (.int .u8 14), .lit (.int .u8 24), .lit (.int .u8 3), .lit (.int .u8 30), .lit (.int .u8 22), .lit (.int .u8 20), .lit (.int .u8 15), .lit (.int .u8 25), .lit (.int .u8 17), .lit (.int .u8 4), .lit (.int .u8 8), .lit (.int .u8 31), .lit (.int .u8 27), .lit (.int .u8 13), .lit (.int .u8 23), .lit (.int .u8 21), .lit (.int .u8 19), .lit (.int .u8 16), .lit (.int .u8 7), .lit (.int .u8 26), .lit (.int .u8 12), .lit (.int .u8 18), .lit (.int .u8 6), .lit (.int .u8 11), .lit (.int .u8 5), .lit (.int .u8 10), .lit (.int .u8 9)]
def laid_math_bits_deBruijn64tab {H : Type} : DataW H := .agg [.lit (.int .u8 0), .lit (.int .u8 1), .lit (.int .u8 56), .lit (.int .u8 2), .lit (.int .u8 57), .lit (.int .u8 49), .lit (.int .u8 28), .lit (.int .u8 3), .lit (.int .u8 61), .lit (.int .u8 58), .lit (.int .u8 42), .lit (.int .u8 50), .lit (.int .u8 38), .lit (.int .u8 29), .lit (.int .u8 17), .lit (.int .u8 4), .lit (.int .u8 62), .lit (.int .u8 47), .lit (.int .u8 59), .lit (.int .u8 36), .lit (.int .u8 45), .lit (.int .u8 43), .lit (.int .u8 51), .lit (.int .u8 22), .lit (.int .u8 53), .lit (.int .u8 39), .lit (.int .u8 33), .lit (.int .u8 30), .lit (.int .u8 24), .lit (.int .u8 18), .lit (.int .u8 12), .lit (.int .u8 5), .lit (.int .u8 63), .lit (.int .u8 55), .lit (.int .u8 48), .lit (.int .u8 27), .lit (.int .u8 60), .lit (.int .u8 41), .lit (.int .u8 37), .lit (.int .u8 16), .lit (.int .u8 46), .lit (.int .u8 35), .lit (.int .u8 44), .lit (.int .u8 21), .lit (.int .u8 52), .lit (.int .u8 32), .lit (.int .u8 23), .lit (.int .u8 11), .lit (.int .u8 54), .lit (.int .u8 26), .lit (.int .u8 40), .lit (.int .u8 15), .lit (.int .u8 34), .lit (.int .u8 20), .lit (.int .u8 31), .lit (.int .u8 10), .lit (.int .u8 25), .lit (.int .u8 14), .lit (.int .u8 19), .lit (.int .u8 9), .lit (.int .u8 13), .lit (.int .u8 8), .lit (.int .u8 7), .lit (.int .u8 6)]
def laid_internal_strconv_uint64pow10 {H : Type} : DataW H := .agg [.lit (.int .u64 1), .lit (.int .u64 10), .lit (.int .u64 100), .lit (.int .u64 1000), .lit (.int .u64 10000), .lit (.int .u64 100000), .lit (.int .u64 1000000), .lit (.int .u64 10000000), .lit (.int .u64 100000000), .lit (.int .u64 1000000000), .lit (.int .u64 10000000000), .lit (.int .u64 100000000000), .lit (.int .u64 1000000000000), .lit (.int .u64 10000000000000), .lit (.int .u64 100000000000000), .lit (.int .u64 1000000000000000), .lit (.int .u64 10000000000000000), .lit (.int .u64 100000000000000000), .lit (.int .u64 1000000000000000000), .lit (.int .u64 10000000000000000000)]
def laid_bspregion_api_ErrInvalid {H : Type} : DataW H := .iface "*errors.errorString" (.ptr (.agg [.lit (.string [105, 110, 118, 97, 108, 105, 100, 32, 118, 97, 108, 117, 101])]))
def laid_bspregion_api_ErrRing {H : Type} : DataW H := .iface "*errors.errorString" (.ptr (.agg [.lit (.string [98, 97, 100, 32, 114, 105, 110, 103])]))
def laid_bspregion_api_ErrLimit {H : Type} : DataW H := .iface "*errors.errorString" (.ptr (.agg [.lit (.string [108, 105, 109, 105, 116, 32, 101, 120, 99, 101, 101, 100, 101, 100])]))
def laid_bspregion_api_ErrRange {H : Type} : DataW H := .iface "*errors.errorString" (.ptr (.agg [.lit (.string [111, 117, 116, 32, 111, 102, 32, 114, 97, 110, 103, 101])]))

/-- 'bspregionlaw10.WindingAccepts': WHATEVER THE INPUT: true; the input reads as it did. -/
def windingAcceptsSpec : ChangeSpec := { name := "windingAccepts", fn := fun _ => fun
  | [d1, d2] => { results := [.lit (.bool true)], args := [d1, d2] }
  | _ => none }
def windingAcceptsRow : OpenClaim := { program := "ytpiknjeceobbfaagreatdoor", sum := "cd901189c2850ba7709a618144b386b6affc050b5300b2d9aa60fba182eba227", func := "bspregion/bspregionlaw10.WindingAccepts", spec := "windingAccepts", unfollowed := true, recurses := true, named := ["bspregion/api.ErrRange", "bspregion/api.ErrLimit", "bspregion/api.ErrInvalid", "bspregion/api.ErrRing", "internal/strconv.uint64pow10", "math/bits.deBruijn32tab", "math/bits.deBruijn64tab"], apart := false, laid := [("math/bits.deBruijn32tab", laid_math_bits_deBruijn32tab), ("math/bits.deBruijn64tab", laid_math_bits_deBruijn64tab), ("internal/strconv.uint64pow10", laid_internal_strconv_uint64pow10), ("bspregion/api.ErrInvalid", laid_bspregion_api_ErrInvalid), ("bspregion/api.ErrRing", laid_bspregion_api_ErrRing), ("bspregion/api.ErrLimit", laid_bspregion_api_ErrLimit), ("bspregion/api.ErrRange", laid_bspregion_api_ErrRange)] }
def WindingAcceptsSaid : Prop := windingAcceptsRow.holds Tryz.pinned (OpenSpec.ofChange windingAcceptsSpec)

/-- ITS FALSE NEIGHBOUR: 'it returns false'. Refute it at one input. -/
def windingAcceptsWrong : ChangeSpec := { name := "windingAccepts", fn := fun _ => fun
  | [d1, d2] => { results := [.lit (.bool false)], args := [d1, d2] }
  | _ => none }
def WindingAcceptsWrongFalsely : Prop := windingAcceptsRow.holds Tryz.pinned (OpenSpec.ofChange windingAcceptsWrong)

/-- 'bspregionlaw10.WindingClasses': WHATEVER THE INPUT: true; the input reads as it did. -/
def windingClassesSpec : ChangeSpec := { name := "windingClasses", fn := fun _ => fun
  | [d1, d2] => { results := [.lit (.bool true)], args := [d1, d2] }
  | _ => none }
def windingClassesRow : OpenClaim := { program := "ytpiknjeceobbfaagreatdoor", sum := "cd901189c2850ba7709a618144b386b6affc050b5300b2d9aa60fba182eba227", func := "bspregion/bspregionlaw10.WindingClasses", spec := "windingClasses", inPlace := ["internal/reflectlite.TypeOf"], unfollowed := true, recurses := true, named := ["bspregion/api.ErrInvalid", "math/bits.overflowError", "bspregion/api.ErrLimit", "bspregion/api.ErrRing", "internal/strconv.uint64pow10", "math/bits.deBruijn32tab", "math/bits.deBruijn64tab", "bspregion/api.ErrRange"], apart := false, laid := [("math/bits.deBruijn32tab", laid_math_bits_deBruijn32tab), ("math/bits.deBruijn64tab", laid_math_bits_deBruijn64tab), ("internal/strconv.uint64pow10", laid_internal_strconv_uint64pow10), ("bspregion/api.ErrInvalid", laid_bspregion_api_ErrInvalid), ("bspregion/api.ErrRing", laid_bspregion_api_ErrRing), ("bspregion/api.ErrLimit", laid_bspregion_api_ErrLimit), ("bspregion/api.ErrRange", laid_bspregion_api_ErrRange)] }
def WindingClassesSaid : Prop := windingClassesRow.holds Tryz.pinned (OpenSpec.ofChange windingClassesSpec)

/-- ITS FALSE NEIGHBOUR: 'it returns false'. Refute it at one input. -/
def windingClassesWrong : ChangeSpec := { name := "windingClasses", fn := fun _ => fun
  | [d1, d2] => { results := [.lit (.bool false)], args := [d1, d2] }
  | _ => none }
def WindingClassesWrongFalsely : Prop := windingClassesRow.holds Tryz.pinned (OpenSpec.ofChange windingClassesWrong)

/-- 'bspregionlaw10.WindingConvex': WHATEVER THE INPUT: true; the input reads as it did. -/
def windingConvexSpec : ChangeSpec := { name := "windingConvex", fn := fun _ => fun
  | [d] => { results := [.lit (.bool true)], args := [d] }
  | _ => none }
def windingConvexRow : OpenClaim := { program := "ytpiknjeceobbfaagreatdoor", sum := "cd901189c2850ba7709a618144b386b6affc050b5300b2d9aa60fba182eba227", func := "bspregion/bspregionlaw10.WindingConvex", spec := "windingConvex", inPlace := ["internal/reflectlite.TypeOf"], unfollowed := true, recurses := true, named := ["bspregion/api.ErrRange", "math/bits.overflowError", "bspregion/api.ErrInvalid", "bspregion/api.ErrLimit", "bspregion/api.ErrRing", "internal/strconv.uint64pow10", "math/bits.deBruijn32tab", "math/bits.deBruijn64tab"], apart := false, laid := [("math/bits.deBruijn32tab", laid_math_bits_deBruijn32tab), ("math/bits.deBruijn64tab", laid_math_bits_deBruijn64tab), ("internal/strconv.uint64pow10", laid_internal_strconv_uint64pow10), ("bspregion/api.ErrInvalid", laid_bspregion_api_ErrInvalid), ("bspregion/api.ErrRing", laid_bspregion_api_ErrRing), ("bspregion/api.ErrLimit", laid_bspregion_api_ErrLimit), ("bspregion/api.ErrRange", laid_bspregion_api_ErrRange)] }
def WindingConvexSaid : Prop := windingConvexRow.holds Tryz.pinned (OpenSpec.ofChange windingConvexSpec)

/-- ITS FALSE NEIGHBOUR: 'it returns false'. Refute it at one input. -/
def windingConvexWrong : ChangeSpec := { name := "windingConvex", fn := fun _ => fun
  | [d] => { results := [.lit (.bool false)], args := [d] }
  | _ => none }
def WindingConvexWrongFalsely : Prop := windingConvexRow.holds Tryz.pinned (OpenSpec.ofChange windingConvexWrong)

/-- 'bspregionlaw10.WindingNumbers': WHATEVER THE INPUT: true; the input reads as it did. -/
def windingNumbersSpec : ChangeSpec := { name := "windingNumbers", fn := fun _ => fun
  | [d] => { results := [.lit (.bool true)], args := [d] }
  | _ => none }
def windingNumbersRow : OpenClaim := { program := "ytpiknjeceobbfaagreatdoor", sum := "cd901189c2850ba7709a618144b386b6affc050b5300b2d9aa60fba182eba227", func := "bspregion/bspregionlaw10.WindingNumbers", spec := "windingNumbers", inPlace := ["internal/reflectlite.TypeOf"], unfollowed := true, recurses := true, named := ["bspregion/api.ErrRange", "math/bits.overflowError", "bspregion/api.ErrLimit", "bspregion/api.ErrInvalid", "bspregion/api.ErrRing", "internal/strconv.uint64pow10", "math/bits.deBruijn32tab", "math/bits.deBruijn64tab"], apart := false, laid := [("math/bits.deBruijn32tab", laid_math_bits_deBruijn32tab), ("math/bits.deBruijn64tab", laid_math_bits_deBruijn64tab), ("internal/strconv.uint64pow10", laid_internal_strconv_uint64pow10), ("bspregion/api.ErrInvalid", laid_bspregion_api_ErrInvalid), ("bspregion/api.ErrRing", laid_bspregion_api_ErrRing), ("bspregion/api.ErrLimit", laid_bspregion_api_ErrLimit), ("bspregion/api.ErrRange", laid_bspregion_api_ErrRange)] }
def WindingNumbersSaid : Prop := windingNumbersRow.holds Tryz.pinned (OpenSpec.ofChange windingNumbersSpec)

/-- ITS FALSE NEIGHBOUR: 'it returns false'. Refute it at one input. -/
def windingNumbersWrong : ChangeSpec := { name := "windingNumbers", fn := fun _ => fun
  | [d] => { results := [.lit (.bool false)], args := [d] }
  | _ => none }
def WindingNumbersWrongFalsely : Prop := windingNumbersRow.holds Tryz.pinned (OpenSpec.ofChange windingNumbersWrong)

/- THE SECOND FORM. 'bulk': how many values and letters a reading holds, each counted each time it is reached (what is shared counts as often as it is met; a slice's spare places count too). A statement '..UptoSaid' is the law's where the arguments, and the package variables that the reading takes, are together of bulk at most 1048576: NARROWER than '..Said'. Prove '..Said' where nothing that the law and all that it calls make is longer than what came in: it says more and counts as full. Else prove '..UptoSaid'. A law counts once. -/
mutual
def uptoBulk {H : Type} : DataW H → Nat
  | .lit (.string bytes) => bytes.length + 1
  | .lit _ => 1
  | .nil => 1
  | .ptr d => uptoBulk d + 1
  | .slice elems spare => uptoBulkAll elems + uptoBulkAll spare + 1
  | .agg parts => uptoBulkAll parts + 1
  | .iface _ d => uptoBulk d + 1
  | .map entries => uptoBulkEntries entries + 1
  | .held _ => 1
def uptoBulkAll {H : Type} : List (DataW H) → Nat
  | [] => 0
  | d :: r => uptoBulk d + uptoBulkAll r
def uptoBulkEntries {H : Type} : List (Lit × DataW H) → Nat
  | [] => 0
  | x :: r => uptoBulkEntry x + uptoBulkEntries r
def uptoBulkEntry {H : Type} : Lit × DataW H → Nat
  | (.string bytes, d) => bytes.length + uptoBulk d + 1
  | (_, d) => uptoBulk d + 1
 end
def uptoSmall : (H : Type) → List (DataW H) → Bool := fun _ ds => decide (uptoBulkAll ds ≤ 1048576)
def OpenSpec.upto (s : _root_.Go.ChangeSpec) : _root_.Go.OpenSpec := { _root_.Go.OpenSpec.ofChange s with cond := some uptoSmall }

/-- 'bspregionlaw10.WindingAccepts', WHERE WHAT IT READS IS OF BULK AT MOST 1048576: true; the input reads as it did. -/
def windingAcceptsUptoRow : OpenClaim := { program := "ytpiknjeceobbfaagreatdoor", sum := "cd901189c2850ba7709a618144b386b6affc050b5300b2d9aa60fba182eba227", func := "bspregion/bspregionlaw10.WindingAccepts", spec := "windingAccepts", unfollowed := true, recurses := true, named := ["bspregion/api.ErrRange", "bspregion/api.ErrLimit", "bspregion/api.ErrInvalid", "bspregion/api.ErrRing", "internal/strconv.uint64pow10", "math/bits.deBruijn32tab", "math/bits.deBruijn64tab"], apart := false, laid := [("math/bits.deBruijn32tab", laid_math_bits_deBruijn32tab), ("math/bits.deBruijn64tab", laid_math_bits_deBruijn64tab), ("internal/strconv.uint64pow10", laid_internal_strconv_uint64pow10), ("bspregion/api.ErrInvalid", laid_bspregion_api_ErrInvalid), ("bspregion/api.ErrRing", laid_bspregion_api_ErrRing), ("bspregion/api.ErrLimit", laid_bspregion_api_ErrLimit), ("bspregion/api.ErrRange", laid_bspregion_api_ErrRange)], narrowed := true }
def WindingAcceptsUptoSaid : Prop := windingAcceptsUptoRow.holds Tryz.pinned (OpenSpec.upto windingAcceptsSpec)

/-- 'bspregionlaw10.WindingClasses', WHERE WHAT IT READS IS OF BULK AT MOST 1048576: true; the input reads as it did. -/
def windingClassesUptoRow : OpenClaim := { program := "ytpiknjeceobbfaagreatdoor", sum := "cd901189c2850ba7709a618144b386b6affc050b5300b2d9aa60fba182eba227", func := "bspregion/bspregionlaw10.WindingClasses", spec := "windingClasses", inPlace := ["internal/reflectlite.TypeOf"], unfollowed := true, recurses := true, named := ["bspregion/api.ErrInvalid", "math/bits.overflowError", "bspregion/api.ErrLimit", "bspregion/api.ErrRing", "internal/strconv.uint64pow10", "math/bits.deBruijn32tab", "math/bits.deBruijn64tab", "bspregion/api.ErrRange"], apart := false, laid := [("math/bits.deBruijn32tab", laid_math_bits_deBruijn32tab), ("math/bits.deBruijn64tab", laid_math_bits_deBruijn64tab), ("internal/strconv.uint64pow10", laid_internal_strconv_uint64pow10), ("bspregion/api.ErrInvalid", laid_bspregion_api_ErrInvalid), ("bspregion/api.ErrRing", laid_bspregion_api_ErrRing), ("bspregion/api.ErrLimit", laid_bspregion_api_ErrLimit), ("bspregion/api.ErrRange", laid_bspregion_api_ErrRange)], narrowed := true }
def WindingClassesUptoSaid : Prop := windingClassesUptoRow.holds Tryz.pinned (OpenSpec.upto windingClassesSpec)

/-- 'bspregionlaw10.WindingConvex', WHERE WHAT IT READS IS OF BULK AT MOST 1048576: true; the input reads as it did. -/
def windingConvexUptoRow : OpenClaim := { program := "ytpiknjeceobbfaagreatdoor", sum := "cd901189c2850ba7709a618144b386b6affc050b5300b2d9aa60fba182eba227", func := "bspregion/bspregionlaw10.WindingConvex", spec := "windingConvex", inPlace := ["internal/reflectlite.TypeOf"], unfollowed := true, recurses := true, named := ["bspregion/api.ErrRange", "math/bits.overflowError", "bspregion/api.ErrInvalid", "bspregion/api.ErrLimit", "bspregion/api.ErrRing", "internal/strconv.uint64pow10", "math/bits.deBruijn32tab", "math/bits.deBruijn64tab"], apart := false, laid := [("math/bits.deBruijn32tab", laid_math_bits_deBruijn32tab), ("math/bits.deBruijn64tab", laid_math_bits_deBruijn64tab), ("internal/strconv.uint64pow10", laid_internal_strconv_uint64pow10), ("bspregion/api.ErrInvalid", laid_bspregion_api_ErrInvalid), ("bspregion/api.ErrRing", laid_bspregion_api_ErrRing), ("bspregion/api.ErrLimit", laid_bspregion_api_ErrLimit), ("bspregion/api.ErrRange", laid_bspregion_api_ErrRange)], narrowed := true }
def WindingConvexUptoSaid : Prop := windingConvexUptoRow.holds Tryz.pinned (OpenSpec.upto windingConvexSpec)

/-- 'bspregionlaw10.WindingNumbers', WHERE WHAT IT READS IS OF BULK AT MOST 1048576: true; the input reads as it did. -/
def windingNumbersUptoRow : OpenClaim := { program := "ytpiknjeceobbfaagreatdoor", sum := "cd901189c2850ba7709a618144b386b6affc050b5300b2d9aa60fba182eba227", func := "bspregion/bspregionlaw10.WindingNumbers", spec := "windingNumbers", inPlace := ["internal/reflectlite.TypeOf"], unfollowed := true, recurses := true, named := ["bspregion/api.ErrRange", "math/bits.overflowError", "bspregion/api.ErrLimit", "bspregion/api.ErrInvalid", "bspregion/api.ErrRing", "internal/strconv.uint64pow10", "math/bits.deBruijn32tab", "math/bits.deBruijn64tab"], apart := false, laid := [("math/bits.deBruijn32tab", laid_math_bits_deBruijn32tab), ("math/bits.deBruijn64tab", laid_math_bits_deBruijn64tab), ("internal/strconv.uint64pow10", laid_internal_strconv_uint64pow10), ("bspregion/api.ErrInvalid", laid_bspregion_api_ErrInvalid), ("bspregion/api.ErrRing", laid_bspregion_api_ErrRing), ("bspregion/api.ErrLimit", laid_bspregion_api_ErrLimit), ("bspregion/api.ErrRange", laid_bspregion_api_ErrRange)], narrowed := true }
def WindingNumbersUptoSaid : Prop := windingNumbersUptoRow.holds Tryz.pinned (OpenSpec.upto windingNumbersSpec)

end Rows
end Go.Proofs.YtpiknjeceobbfaaGreatDoor
