/-
  Zero values of the program's types as deep values. Numbers as deep values; bounds. Trees, nodes and lines as deep values; bridges to what was shown before. Reference: trees written for package api. The sanity check of the law. Blocks frozen at once; calls that tell of a family of results; new blocks handed back. Contracts of before as ones over deep values. Reference: digits (over deep values). Reference: natural numbers of any size: sign, Word, Cmp, Sum, Less.
-/
import Derived.Test.YtkijgpopaaknfaaGreatDoorMb13
section
set_option maxRecDepth 100000
namespace Go.Sx
open Go
theorem isNilS (G : Gh) : Is G (.sl []) (.slice none 0 0) := is_sl.2 ⟨0, ⟨none, 0, 0⟩, [], rfl, IsSl.nil G 0, .nil⟩
instance : TyZD Go.Proofs.Tryz.prog 2 (.int .i64 0) [.v (.int .i64 0)] := ⟨inferInstance, (.cons ((is_v.2 rfl)) .nil)⟩
instance : TyZE Go.Proofs.Tryz.prog 2 (.v (.int .i64 0)) := ⟨⟨_, inferInstance, (is_v.2 rfl), rfl⟩⟩
instance : TyZD Go.Proofs.Tryz.prog 3 (.int .i64 0) [.v (.int .i64 0)] := ⟨inferInstance, (.cons ((is_v.2 rfl)) .nil)⟩
instance : TyZE Go.Proofs.Tryz.prog 3 (.v (.int .i64 0)) := ⟨⟨_, inferInstance, (is_v.2 rfl), rfl⟩⟩
instance : TyZD Go.Proofs.Tryz.prog 4 (.bool false) [.v (.bool false)] := ⟨inferInstance, (.cons ((is_v.2 rfl)) .nil)⟩
instance : TyZE Go.Proofs.Tryz.prog 4 (.v (.bool false)) := ⟨⟨_, inferInstance, (is_v.2 rfl), rfl⟩⟩
instance : TyZD Go.Proofs.Tryz.prog 20 (.nilIface) [.v (.nilIface)] := ⟨inferInstance, (.cons ((is_v.2 rfl)) .nil)⟩
instance : TyZE Go.Proofs.Tryz.prog 20 (.v (.nilIface)) := ⟨⟨_, inferInstance, (is_v.2 rfl), rfl⟩⟩
instance : TyZD Go.Proofs.Tryz.prog 22 (.slice none 0 0) [.sl []] := ⟨inferInstance, (.cons (isNilS _) .nil)⟩
instance : TyZE Go.Proofs.Tryz.prog 22 (.sl []) := ⟨⟨_, inferInstance, isNilS _, rfl⟩⟩
instance : TyZD Go.Proofs.Tryz.prog 23 (.pointer none) [.v (.pointer none)] := ⟨inferInstance, (.cons ((is_v.2 rfl)) .nil)⟩
instance : TyZE Go.Proofs.Tryz.prog 23 (.v (.pointer none)) := ⟨⟨_, inferInstance, (is_v.2 rfl), rfl⟩⟩
instance : TyZD Go.Proofs.Tryz.prog 25 (.pointer none) [.v (.pointer none)] := ⟨inferInstance, (.cons ((is_v.2 rfl)) .nil)⟩
instance : TyZE Go.Proofs.Tryz.prog 25 (.v (.pointer none)) := ⟨⟨_, inferInstance, (is_v.2 rfl), rfl⟩⟩
instance : TyZD Go.Proofs.Tryz.prog 27 (.slice none 0 0) [.sl []] := ⟨inferInstance, (.cons (isNilS _) .nil)⟩
instance : TyZE Go.Proofs.Tryz.prog 27 (.sl []) := ⟨⟨_, inferInstance, isNilS _, rfl⟩⟩
instance : TyZD Go.Proofs.Tryz.prog 28 (.slice none 0 0) [.sl []] := ⟨inferInstance, (.cons (isNilS _) .nil)⟩
instance : TyZE Go.Proofs.Tryz.prog 28 (.sl []) := ⟨⟨_, inferInstance, isNilS _, rfl⟩⟩
instance : TyZD Go.Proofs.Tryz.prog 30 (.agg ⟨[.bool false, .slice none 0 0]⟩) [.v (.bool false), .sl []] := ⟨inferInstance, (.cons ((is_v.2 rfl)) (.cons (isNilS _) .nil))⟩
instance : TyZE Go.Proofs.Tryz.prog 30 (.ag [.v (.bool false), .sl []]) := ⟨⟨_, inferInstance, is_ag.2 ⟨_, rfl, (.cons ((is_v.2 rfl)) (.cons (isNilS _) .nil))⟩, rfl⟩⟩
instance : TyZD Go.Proofs.Tryz.prog 32 (.agg ⟨[.bool false, .slice none 0 0, .bool false, .slice none 0 0, .bool false, .slice none 0 0]⟩) [.v (.bool false), .sl [], .v (.bool false), .sl [], .v (.bool false), .sl []] := ⟨inferInstance, (.cons ((is_v.2 rfl)) (.cons (isNilS _) (.cons ((is_v.2 rfl)) (.cons (isNilS _) (.cons ((is_v.2 rfl)) (.cons (isNilS _) .nil))))))⟩
instance : TyZE Go.Proofs.Tryz.prog 32 (.ag [.v (.bool false), .sl [], .v (.bool false), .sl [], .v (.bool false), .sl []]) := ⟨⟨_, inferInstance, is_ag.2 ⟨_, rfl, (.cons ((is_v.2 rfl)) (.cons (isNilS _) (.cons ((is_v.2 rfl)) (.cons (isNilS _) (.cons ((is_v.2 rfl)) (.cons (isNilS _) .nil))))))⟩, rfl⟩⟩
instance : TyZD Go.Proofs.Tryz.prog 34 (.slice none 0 0) [.sl []] := ⟨inferInstance, (.cons (isNilS _) .nil)⟩
instance : TyZE Go.Proofs.Tryz.prog 34 (.sl []) := ⟨⟨_, inferInstance, isNilS _, rfl⟩⟩
instance : TyZD Go.Proofs.Tryz.prog 36 (.agg ⟨[.int .i64 0, .slice none 0 0]⟩) [.v (.int .i64 0), .sl []] := ⟨inferInstance, (.cons ((is_v.2 rfl)) (.cons (isNilS _) .nil))⟩
instance : TyZE Go.Proofs.Tryz.prog 36 (.ag [.v (.int .i64 0), .sl []]) := ⟨⟨_, inferInstance, is_ag.2 ⟨_, rfl, (.cons ((is_v.2 rfl)) (.cons (isNilS _) .nil))⟩, rfl⟩⟩
instance : TyZD Go.Proofs.Tryz.prog 38 (.nilIface) [.v (.nilIface)] := ⟨inferInstance, (.cons ((is_v.2 rfl)) .nil)⟩
instance : TyZE Go.Proofs.Tryz.prog 38 (.v (.nilIface)) := ⟨⟨_, inferInstance, (is_v.2 rfl), rfl⟩⟩
instance : TyZD Go.Proofs.Tryz.prog 42 (.slice none 0 0) [.sl []] := ⟨inferInstance, (.cons (isNilS _) .nil)⟩
instance : TyZE Go.Proofs.Tryz.prog 42 (.sl []) := ⟨⟨_, inferInstance, isNilS _, rfl⟩⟩
instance : TyZD Go.Proofs.Tryz.prog 44 (.agg ⟨[.bool false, .slice none 0 0]⟩) [.v (.bool false), .sl []] := ⟨inferInstance, (.cons ((is_v.2 rfl)) (.cons (isNilS _) .nil))⟩
instance : TyZE Go.Proofs.Tryz.prog 44 (.ag [.v (.bool false), .sl []]) := ⟨⟨_, inferInstance, is_ag.2 ⟨_, rfl, (.cons ((is_v.2 rfl)) (.cons (isNilS _) .nil))⟩, rfl⟩⟩
instance : TyZD Go.Proofs.Tryz.prog 46 (.agg ⟨[.bool false, .slice none 0 0, .bool false, .slice none 0 0, .bool false, .slice none 0 0]⟩) [.v (.bool false), .sl [], .v (.bool false), .sl [], .v (.bool false), .sl []] := ⟨inferInstance, (.cons ((is_v.2 rfl)) (.cons (isNilS _) (.cons ((is_v.2 rfl)) (.cons (isNilS _) (.cons ((is_v.2 rfl)) (.cons (isNilS _) .nil))))))⟩
instance : TyZE Go.Proofs.Tryz.prog 46 (.ag [.v (.bool false), .sl [], .v (.bool false), .sl [], .v (.bool false), .sl []]) := ⟨⟨_, inferInstance, is_ag.2 ⟨_, rfl, (.cons ((is_v.2 rfl)) (.cons (isNilS _) (.cons ((is_v.2 rfl)) (.cons (isNilS _) (.cons ((is_v.2 rfl)) (.cons (isNilS _) .nil))))))⟩, rfl⟩⟩
instance : TyZD Go.Proofs.Tryz.prog 51 (.slice none 0 0) [.sl []] := ⟨inferInstance, (.cons (isNilS _) .nil)⟩
instance : TyZE Go.Proofs.Tryz.prog 51 (.sl []) := ⟨⟨_, inferInstance, isNilS _, rfl⟩⟩
instance : TyZD Go.Proofs.Tryz.prog 56 (.slice none 0 0) [.sl []] := ⟨inferInstance, (.cons (isNilS _) .nil)⟩
instance : TyZE Go.Proofs.Tryz.prog 56 (.sl []) := ⟨⟨_, inferInstance, isNilS _, rfl⟩⟩
instance : TyZD Go.Proofs.Tryz.prog 60 (.agg ⟨[.bool false, .slice none 0 0, .bool false, .slice none 0 0, .bool false, .slice none 0 0, .int .i64 0, .int .i64 0]⟩) [.v (.bool false), .sl [], .v (.bool false), .sl [], .v (.bool false), .sl [], .v (.int .i64 0), .v (.int .i64 0)] := ⟨inferInstance, (.cons ((is_v.2 rfl)) (.cons (isNilS _) (.cons ((is_v.2 rfl)) (.cons (isNilS _) (.cons ((is_v.2 rfl)) (.cons (isNilS _) (.cons ((is_v.2 rfl)) (.cons ((is_v.2 rfl)) .nil))))))))⟩
instance : TyZE Go.Proofs.Tryz.prog 60 (.ag [.v (.bool false), .sl [], .v (.bool false), .sl [], .v (.bool false), .sl [], .v (.int .i64 0), .v (.int .i64 0)]) := ⟨⟨_, inferInstance, is_ag.2 ⟨_, rfl, (.cons ((is_v.2 rfl)) (.cons (isNilS _) (.cons ((is_v.2 rfl)) (.cons (isNilS _) (.cons ((is_v.2 rfl)) (.cons (isNilS _) (.cons ((is_v.2 rfl)) (.cons ((is_v.2 rfl)) .nil))))))))⟩, rfl⟩⟩
instance : TyZD Go.Proofs.Tryz.prog 63 (.slice none 0 0) [.sl []] := ⟨inferInstance, (.cons (isNilS _) .nil)⟩
instance : TyZE Go.Proofs.Tryz.prog 63 (.sl []) := ⟨⟨_, inferInstance, isNilS _, rfl⟩⟩
instance : TyZD Go.Proofs.Tryz.prog 65 (.agg ⟨[.slice none 0 0]⟩) [.sl []] := ⟨inferInstance, (.cons (isNilS _) .nil)⟩
instance : TyZE Go.Proofs.Tryz.prog 65 (.ag [.sl []]) := ⟨⟨_, inferInstance, is_ag.2 ⟨_, rfl, (.cons (isNilS _) .nil)⟩, rfl⟩⟩
instance : TyZD Go.Proofs.Tryz.prog 84 (.slice none 0 0) [.sl []] := ⟨inferInstance, (.cons (isNilS _) .nil)⟩
instance : TyZE Go.Proofs.Tryz.prog 84 (.sl []) := ⟨⟨_, inferInstance, isNilS _, rfl⟩⟩
instance : TyZD Go.Proofs.Tryz.prog 87 (.agg ⟨[.bool false, .slice none 0 0, .slice none 0 0]⟩) [.v (.bool false), .sl [], .sl []] := ⟨inferInstance, (.cons ((is_v.2 rfl)) (.cons (isNilS _) (.cons (isNilS _) .nil)))⟩
instance : TyZE Go.Proofs.Tryz.prog 87 (.ag [.v (.bool false), .sl [], .sl []]) := ⟨⟨_, inferInstance, is_ag.2 ⟨_, rfl, (.cons ((is_v.2 rfl)) (.cons (isNilS _) (.cons (isNilS _) .nil)))⟩, rfl⟩⟩
instance : TyZD Go.Proofs.Tryz.prog 89 (.agg ⟨[.bool false, .slice none 0 0, .slice none 0 0, .bool false, .slice none 0 0, .slice none 0 0]⟩) [.v (.bool false), .sl [], .sl [], .v (.bool false), .sl [], .sl []] := ⟨inferInstance, (.cons ((is_v.2 rfl)) (.cons (isNilS _) (.cons (isNilS _) (.cons ((is_v.2 rfl)) (.cons (isNilS _) (.cons (isNilS _) .nil))))))⟩
instance : TyZE Go.Proofs.Tryz.prog 89 (.ag [.v (.bool false), .sl [], .sl [], .v (.bool false), .sl [], .sl []]) := ⟨⟨_, inferInstance, is_ag.2 ⟨_, rfl, (.cons ((is_v.2 rfl)) (.cons (isNilS _) (.cons (isNilS _) (.cons ((is_v.2 rfl)) (.cons (isNilS _) (.cons (isNilS _) .nil))))))⟩, rfl⟩⟩
instance : TyZD Go.Proofs.Tryz.prog 93 (.agg ⟨[.slice none 0 0, .int .i64 0]⟩) [.sl [], .v (.int .i64 0)] := ⟨inferInstance, (.cons (isNilS _) (.cons ((is_v.2 rfl)) .nil))⟩
instance : TyZE Go.Proofs.Tryz.prog 93 (.ag [.sl [], .v (.int .i64 0)]) := ⟨⟨_, inferInstance, is_ag.2 ⟨_, rfl, (.cons (isNilS _) (.cons ((is_v.2 rfl)) .nil))⟩, rfl⟩⟩
instance : TyZD Go.Proofs.Tryz.prog 97 (.agg ⟨[.bool false, .bool false, .bool false, .slice none 0 0, .bool false, .slice none 0 0, .bool false, .slice none 0 0, .pointer none, .pointer none]⟩) [.v (.bool false), .v (.bool false), .v (.bool false), .sl [], .v (.bool false), .sl [], .v (.bool false), .sl [], .v (.pointer none), .v (.pointer none)] := ⟨inferInstance, (.cons ((is_v.2 rfl)) (.cons ((is_v.2 rfl)) (.cons ((is_v.2 rfl)) (.cons (isNilS _) (.cons ((is_v.2 rfl)) (.cons (isNilS _) (.cons ((is_v.2 rfl)) (.cons (isNilS _) (.cons ((is_v.2 rfl)) (.cons ((is_v.2 rfl)) .nil))))))))))⟩
instance : TyZE Go.Proofs.Tryz.prog 97 (.ag [.v (.bool false), .v (.bool false), .v (.bool false), .sl [], .v (.bool false), .sl [], .v (.bool false), .sl [], .v (.pointer none), .v (.pointer none)]) := ⟨⟨_, inferInstance, is_ag.2 ⟨_, rfl, (.cons ((is_v.2 rfl)) (.cons ((is_v.2 rfl)) (.cons ((is_v.2 rfl)) (.cons (isNilS _) (.cons ((is_v.2 rfl)) (.cons (isNilS _) (.cons ((is_v.2 rfl)) (.cons (isNilS _) (.cons ((is_v.2 rfl)) (.cons ((is_v.2 rfl)) .nil))))))))))⟩, rfl⟩⟩
instance : TyZD Go.Proofs.Tryz.prog 103 (.agg ⟨[.int .i64 0, .int .i64 0, .pointer none]⟩) [.v (.int .i64 0), .v (.int .i64 0), .v (.pointer none)] := ⟨inferInstance, (.cons ((is_v.2 rfl)) (.cons ((is_v.2 rfl)) (.cons ((is_v.2 rfl)) .nil)))⟩
instance : TyZE Go.Proofs.Tryz.prog 103 (.ag [.v (.int .i64 0), .v (.int .i64 0), .v (.pointer none)]) := ⟨⟨_, inferInstance, is_ag.2 ⟨_, rfl, (.cons ((is_v.2 rfl)) (.cons ((is_v.2 rfl)) (.cons ((is_v.2 rfl)) .nil)))⟩, rfl⟩⟩
instance : TyZD Go.Proofs.Tryz.prog 105 (.agg ⟨[.int .i64 0, .int .i64 0, .pointer none, .int .i64 0, .int .i64 0, .pointer none, .int .i64 0, .int .i64 0, .pointer none]⟩) [.v (.int .i64 0), .v (.int .i64 0), .v (.pointer none), .v (.int .i64 0), .v (.int .i64 0), .v (.pointer none), .v (.int .i64 0), .v (.int .i64 0), .v (.pointer none)] := ⟨inferInstance, (.cons ((is_v.2 rfl)) (.cons ((is_v.2 rfl)) (.cons ((is_v.2 rfl)) (.cons ((is_v.2 rfl)) (.cons ((is_v.2 rfl)) (.cons ((is_v.2 rfl)) (.cons ((is_v.2 rfl)) (.cons ((is_v.2 rfl)) (.cons ((is_v.2 rfl)) .nil)))))))))⟩
instance : TyZE Go.Proofs.Tryz.prog 105 (.ag [.v (.int .i64 0), .v (.int .i64 0), .v (.pointer none), .v (.int .i64 0), .v (.int .i64 0), .v (.pointer none), .v (.int .i64 0), .v (.int .i64 0), .v (.pointer none)]) := ⟨⟨_, inferInstance, is_ag.2 ⟨_, rfl, (.cons ((is_v.2 rfl)) (.cons ((is_v.2 rfl)) (.cons ((is_v.2 rfl)) (.cons ((is_v.2 rfl)) (.cons ((is_v.2 rfl)) (.cons ((is_v.2 rfl)) (.cons ((is_v.2 rfl)) (.cons ((is_v.2 rfl)) (.cons ((is_v.2 rfl)) .nil)))))))))⟩, rfl⟩⟩
instance : TyZD Go.Proofs.Tryz.prog 108 (.pointer none) [.v (.pointer none)] := ⟨inferInstance, (.cons ((is_v.2 rfl)) .nil)⟩
instance : TyZE Go.Proofs.Tryz.prog 108 (.v (.pointer none)) := ⟨⟨_, inferInstance, (is_v.2 rfl), rfl⟩⟩
instance : TyZD Go.Proofs.Tryz.prog 111 (.slice none 0 0) [.sl []] := ⟨inferInstance, (.cons (isNilS _) .nil)⟩
instance : TyZE Go.Proofs.Tryz.prog 111 (.sl []) := ⟨⟨_, inferInstance, isNilS _, rfl⟩⟩
instance : TyZD Go.Proofs.Tryz.prog 112 (.slice none 0 0) [.sl []] := ⟨inferInstance, (.cons (isNilS _) .nil)⟩
instance : TyZE Go.Proofs.Tryz.prog 112 (.sl []) := ⟨⟨_, inferInstance, isNilS _, rfl⟩⟩
instance : TyZD Go.Proofs.Tryz.prog 126 (.slice none 0 0) [.sl []] := ⟨inferInstance, (.cons (isNilS _) .nil)⟩
instance : TyZE Go.Proofs.Tryz.prog 126 (.sl []) := ⟨⟨_, inferInstance, isNilS _, rfl⟩⟩
instance : TyZD Go.Proofs.Tryz.prog 130 (.agg ⟨[.slice none 0 0, .pointer none]⟩) [.sl [], .v (.pointer none)] := ⟨inferInstance, (.cons (isNilS _) (.cons ((is_v.2 rfl)) .nil))⟩
instance : TyZE Go.Proofs.Tryz.prog 130 (.ag [.sl [], .v (.pointer none)]) := ⟨⟨_, inferInstance, is_ag.2 ⟨_, rfl, (.cons (isNilS _) (.cons ((is_v.2 rfl)) .nil))⟩, rfl⟩⟩
instance : TyZD Go.Proofs.Tryz.prog 132 (.agg ⟨[.int .i64 0, .int .i64 0, .pointer none, .int .i64 0, .int .i64 0, .pointer none, .int .i64 0, .int .i64 0, .pointer none, .pointer none, .pointer none, .bool false]⟩) [.v (.int .i64 0), .v (.int .i64 0), .v (.pointer none), .v (.int .i64 0), .v (.int .i64 0), .v (.pointer none), .v (.int .i64 0), .v (.int .i64 0), .v (.pointer none), .v (.pointer none), .v (.pointer none), .v (.bool false)] := ⟨inferInstance, (.cons ((is_v.2 rfl)) (.cons ((is_v.2 rfl)) (.cons ((is_v.2 rfl)) (.cons ((is_v.2 rfl)) (.cons ((is_v.2 rfl)) (.cons ((is_v.2 rfl)) (.cons ((is_v.2 rfl)) (.cons ((is_v.2 rfl)) (.cons ((is_v.2 rfl)) (.cons ((is_v.2 rfl)) (.cons ((is_v.2 rfl)) (.cons ((is_v.2 rfl)) .nil))))))))))))⟩
instance : TyZE Go.Proofs.Tryz.prog 132 (.ag [.v (.int .i64 0), .v (.int .i64 0), .v (.pointer none), .v (.int .i64 0), .v (.int .i64 0), .v (.pointer none), .v (.int .i64 0), .v (.int .i64 0), .v (.pointer none), .v (.pointer none), .v (.pointer none), .v (.bool false)]) := ⟨⟨_, inferInstance, is_ag.2 ⟨_, rfl, (.cons ((is_v.2 rfl)) (.cons ((is_v.2 rfl)) (.cons ((is_v.2 rfl)) (.cons ((is_v.2 rfl)) (.cons ((is_v.2 rfl)) (.cons ((is_v.2 rfl)) (.cons ((is_v.2 rfl)) (.cons ((is_v.2 rfl)) (.cons ((is_v.2 rfl)) (.cons ((is_v.2 rfl)) (.cons ((is_v.2 rfl)) (.cons ((is_v.2 rfl)) .nil))))))))))))⟩, rfl⟩⟩
instance : TyZD Go.Proofs.Tryz.prog 139 (.slice none 0 0) [.sl []] := ⟨inferInstance, (.cons (isNilS _) .nil)⟩
instance : TyZE Go.Proofs.Tryz.prog 139 (.sl []) := ⟨⟨_, inferInstance, isNilS _, rfl⟩⟩
instance : TyZD Go.Proofs.Tryz.prog 157 (.agg ⟨[.bool false, .slice none 0 0, .slice none 0 0, .bool false, .slice none 0 0, .slice none 0 0, .bool false, .bool false]⟩) [.v (.bool false), .sl [], .sl [], .v (.bool false), .sl [], .sl [], .v (.bool false), .v (.bool false)] := ⟨inferInstance, (.cons ((is_v.2 rfl)) (.cons (isNilS _) (.cons (isNilS _) (.cons ((is_v.2 rfl)) (.cons (isNilS _) (.cons (isNilS _) (.cons ((is_v.2 rfl)) (.cons ((is_v.2 rfl)) .nil))))))))⟩
instance : TyZE Go.Proofs.Tryz.prog 157 (.ag [.v (.bool false), .sl [], .sl [], .v (.bool false), .sl [], .sl [], .v (.bool false), .v (.bool false)]) := ⟨⟨_, inferInstance, is_ag.2 ⟨_, rfl, (.cons ((is_v.2 rfl)) (.cons (isNilS _) (.cons (isNilS _) (.cons ((is_v.2 rfl)) (.cons (isNilS _) (.cons (isNilS _) (.cons ((is_v.2 rfl)) (.cons ((is_v.2 rfl)) .nil))))))))⟩, rfl⟩⟩
instance : TyZD Go.Proofs.Tryz.prog 165 (.slice none 0 0) [.sl []] := ⟨inferInstance, (.cons (isNilS _) .nil)⟩
instance : TyZE Go.Proofs.Tryz.prog 165 (.sl []) := ⟨⟨_, inferInstance, isNilS _, rfl⟩⟩
instance : TyZD Go.Proofs.Tryz.prog 169 (.slice none 0 0) [.sl []] := ⟨inferInstance, (.cons (isNilS _) .nil)⟩
instance : TyZE Go.Proofs.Tryz.prog 169 (.sl []) := ⟨⟨_, inferInstance, isNilS _, rfl⟩⟩
instance : TyZD Go.Proofs.Tryz.prog 186 (.nilFunc) [.v (.nilFunc)] := ⟨inferInstance, (.cons ((is_v.2 rfl)) .nil)⟩
instance : TyZE Go.Proofs.Tryz.prog 186 (.v (.nilFunc)) := ⟨⟨_, inferInstance, (is_v.2 rfl), rfl⟩⟩
instance : TyZD Go.Proofs.Tryz.prog 194 (.agg ⟨[.int .i64 0, .int .i64 0, .pointer none, .int .i64 0, .int .i64 0, .pointer none, .bool false, .bool false]⟩) [.v (.int .i64 0), .v (.int .i64 0), .v (.pointer none), .v (.int .i64 0), .v (.int .i64 0), .v (.pointer none), .v (.bool false), .v (.bool false)] := ⟨inferInstance, (.cons ((is_v.2 rfl)) (.cons ((is_v.2 rfl)) (.cons ((is_v.2 rfl)) (.cons ((is_v.2 rfl)) (.cons ((is_v.2 rfl)) (.cons ((is_v.2 rfl)) (.cons ((is_v.2 rfl)) (.cons ((is_v.2 rfl)) .nil))))))))⟩
instance : TyZE Go.Proofs.Tryz.prog 194 (.ag [.v (.int .i64 0), .v (.int .i64 0), .v (.pointer none), .v (.int .i64 0), .v (.int .i64 0), .v (.pointer none), .v (.bool false), .v (.bool false)]) := ⟨⟨_, inferInstance, is_ag.2 ⟨_, rfl, (.cons ((is_v.2 rfl)) (.cons ((is_v.2 rfl)) (.cons ((is_v.2 rfl)) (.cons ((is_v.2 rfl)) (.cons ((is_v.2 rfl)) (.cons ((is_v.2 rfl)) (.cons ((is_v.2 rfl)) (.cons ((is_v.2 rfl)) .nil))))))))⟩, rfl⟩⟩
instance : TyZD Go.Proofs.Tryz.prog 196 (.agg ⟨[.int .i64 0, .int .i64 0, .pointer none, .int .i64 0, .int .i64 0, .pointer none, .int .i64 0, .int .i64 0, .pointer none, .int .i64 0, .int .i64 0, .pointer none, .int .i64 0, .int .i64 0, .pointer none, .bool false, .bool false]⟩) [.v (.int .i64 0), .v (.int .i64 0), .v (.pointer none), .v (.int .i64 0), .v (.int .i64 0), .v (.pointer none), .v (.int .i64 0), .v (.int .i64 0), .v (.pointer none), .v (.int .i64 0), .v (.int .i64 0), .v (.pointer none), .v (.int .i64 0), .v (.int .i64 0), .v (.pointer none), .v (.bool false), .v (.bool false)] := ⟨inferInstance, (.cons ((is_v.2 rfl)) (.cons ((is_v.2 rfl)) (.cons ((is_v.2 rfl)) (.cons ((is_v.2 rfl)) (.cons ((is_v.2 rfl)) (.cons ((is_v.2 rfl)) (.cons ((is_v.2 rfl)) (.cons ((is_v.2 rfl)) (.cons ((is_v.2 rfl)) (.cons ((is_v.2 rfl)) (.cons ((is_v.2 rfl)) (.cons ((is_v.2 rfl)) (.cons ((is_v.2 rfl)) (.cons ((is_v.2 rfl)) (.cons ((is_v.2 rfl)) (.cons ((is_v.2 rfl)) (.cons ((is_v.2 rfl)) .nil)))))))))))))))))⟩
instance : TyZE Go.Proofs.Tryz.prog 196 (.ag [.v (.int .i64 0), .v (.int .i64 0), .v (.pointer none), .v (.int .i64 0), .v (.int .i64 0), .v (.pointer none), .v (.int .i64 0), .v (.int .i64 0), .v (.pointer none), .v (.int .i64 0), .v (.int .i64 0), .v (.pointer none), .v (.int .i64 0), .v (.int .i64 0), .v (.pointer none), .v (.bool false), .v (.bool false)]) := ⟨⟨_, inferInstance, is_ag.2 ⟨_, rfl, (.cons ((is_v.2 rfl)) (.cons ((is_v.2 rfl)) (.cons ((is_v.2 rfl)) (.cons ((is_v.2 rfl)) (.cons ((is_v.2 rfl)) (.cons ((is_v.2 rfl)) (.cons ((is_v.2 rfl)) (.cons ((is_v.2 rfl)) (.cons ((is_v.2 rfl)) (.cons ((is_v.2 rfl)) (.cons ((is_v.2 rfl)) (.cons ((is_v.2 rfl)) (.cons ((is_v.2 rfl)) (.cons ((is_v.2 rfl)) (.cons ((is_v.2 rfl)) (.cons ((is_v.2 rfl)) (.cons ((is_v.2 rfl)) .nil)))))))))))))))))⟩, rfl⟩⟩
instance : TyZD Go.Proofs.Tryz.prog 199 (.int .u64 0) [.v (.int .u64 0)] := ⟨inferInstance, (.cons ((is_v.2 rfl)) .nil)⟩
instance : TyZE Go.Proofs.Tryz.prog 199 (.v (.int .u64 0)) := ⟨⟨_, inferInstance, (is_v.2 rfl), rfl⟩⟩
instance : TyZD Go.Proofs.Tryz.prog 202 (.pointer none) [.v (.pointer none)] := ⟨inferInstance, (.cons ((is_v.2 rfl)) .nil)⟩
instance : TyZE Go.Proofs.Tryz.prog 202 (.v (.pointer none)) := ⟨⟨_, inferInstance, (is_v.2 rfl), rfl⟩⟩
instance : TyZD Go.Proofs.Tryz.prog 204 (.agg ⟨[.slice none 0 0, .slice none 0 0, .int .i64 0, .bool false]⟩) [.sl [], .sl [], .v (.int .i64 0), .v (.bool false)] := ⟨inferInstance, (.cons (isNilS _) (.cons (isNilS _) (.cons ((is_v.2 rfl)) (.cons ((is_v.2 rfl)) .nil))))⟩
instance : TyZE Go.Proofs.Tryz.prog 204 (.ag [.sl [], .sl [], .v (.int .i64 0), .v (.bool false)]) := ⟨⟨_, inferInstance, is_ag.2 ⟨_, rfl, (.cons (isNilS _) (.cons (isNilS _) (.cons ((is_v.2 rfl)) (.cons ((is_v.2 rfl)) .nil))))⟩, rfl⟩⟩
instance : TyZD Go.Proofs.Tryz.prog 215 (.slice none 0 0) [.sl []] := ⟨inferInstance, (.cons (isNilS _) .nil)⟩
instance : TyZE Go.Proofs.Tryz.prog 215 (.sl []) := ⟨⟨_, inferInstance, isNilS _, rfl⟩⟩
instance : TyZD Go.Proofs.Tryz.prog 217 (.slice none 0 0) [.sl []] := ⟨inferInstance, (.cons (isNilS _) .nil)⟩
instance : TyZE Go.Proofs.Tryz.prog 217 (.sl []) := ⟨⟨_, inferInstance, isNilS _, rfl⟩⟩
instance : TyZD Go.Proofs.Tryz.prog 224 (.int .u32 0) [.v (.int .u32 0)] := ⟨inferInstance, (.cons ((is_v.2 rfl)) .nil)⟩
instance : TyZE Go.Proofs.Tryz.prog 224 (.v (.int .u32 0)) := ⟨⟨_, inferInstance, (is_v.2 rfl), rfl⟩⟩
instance : TyZD Go.Proofs.Tryz.prog 235 (.int .u64 0) [.v (.int .u64 0)] := ⟨inferInstance, (.cons ((is_v.2 rfl)) .nil)⟩
instance : TyZE Go.Proofs.Tryz.prog 235 (.v (.int .u64 0)) := ⟨⟨_, inferInstance, (is_v.2 rfl), rfl⟩⟩
instance : TyZD Go.Proofs.Tryz.prog 253 (.agg ⟨[.int .i64 0, .int .i64 0, .pointer none, .int .i64 0, .int .i64 0, .pointer none]⟩) [.v (.int .i64 0), .v (.int .i64 0), .v (.pointer none), .v (.int .i64 0), .v (.int .i64 0), .v (.pointer none)] := ⟨inferInstance, (.cons ((is_v.2 rfl)) (.cons ((is_v.2 rfl)) (.cons ((is_v.2 rfl)) (.cons ((is_v.2 rfl)) (.cons ((is_v.2 rfl)) (.cons ((is_v.2 rfl)) .nil))))))⟩
instance : TyZE Go.Proofs.Tryz.prog 253 (.ag [.v (.int .i64 0), .v (.int .i64 0), .v (.pointer none), .v (.int .i64 0), .v (.int .i64 0), .v (.pointer none)]) := ⟨⟨_, inferInstance, is_ag.2 ⟨_, rfl, (.cons ((is_v.2 rfl)) (.cons ((is_v.2 rfl)) (.cons ((is_v.2 rfl)) (.cons ((is_v.2 rfl)) (.cons ((is_v.2 rfl)) (.cons ((is_v.2 rfl)) .nil))))))⟩, rfl⟩⟩
instance : TyZD Go.Proofs.Tryz.prog 255 (.nilFunc) [.v (.nilFunc)] := ⟨inferInstance, (.cons ((is_v.2 rfl)) .nil)⟩
instance : TyZE Go.Proofs.Tryz.prog 255 (.v (.nilFunc)) := ⟨⟨_, inferInstance, (is_v.2 rfl), rfl⟩⟩
instance : TyZD Go.Proofs.Tryz.prog 277 (.agg ⟨[.bool false, .slice none 0 0, .slice none 0 0]⟩) [.v (.bool false), .sl [], .sl []] := ⟨inferInstance, (.cons ((is_v.2 rfl)) (.cons (isNilS _) (.cons (isNilS _) .nil)))⟩
instance : TyZE Go.Proofs.Tryz.prog 277 (.ag [.v (.bool false), .sl [], .sl []]) := ⟨⟨_, inferInstance, is_ag.2 ⟨_, rfl, (.cons ((is_v.2 rfl)) (.cons (isNilS _) (.cons (isNilS _) .nil)))⟩, rfl⟩⟩
instance : TyZD Go.Proofs.Tryz.prog 292 (.nilFunc) [.v (.nilFunc)] := ⟨inferInstance, (.cons ((is_v.2 rfl)) .nil)⟩
instance : TyZE Go.Proofs.Tryz.prog 292 (.v (.nilFunc)) := ⟨⟨_, inferInstance, (is_v.2 rfl), rfl⟩⟩
end Go.Sx
end

section
set_option maxRecDepth 100000
namespace Go.Sx
open Go

def dU (d : Nat) : DV := .v (.int .u32 (d : Int))
def dL (ds : List Nat) : DV := .sl (ds.map dU)
def dN (n : Nat) : DV := .sl ((dg n).map dU)
/-- a denominator: 1 as no digits -/
def dD (n : Nat) : DV := .sl (if n = 1 then [] else (dg n).map dU)
def eI (m : Int) : DV := .ag [.v (.bool (decide (m < 0))), dN m.natAbs]
def eQ (q : Rat) : DV := .ag [.v (.bool (decide (q.num < 0))), dN q.num.natAbs, dD q.den]
def eP (p : PtQ) : DV := .ag [.v (.bool (decide (p.x.num < 0))), dN p.x.num.natAbs, dD p.x.den, .v (.bool (decide (p.y.num < 0))), dN p.y.num.natAbs, dD p.y.den]
def eL (l : LnQ) : DV := .ag [.v (.bool (decide (l.a < 0))), dN l.a.natAbs, .v (.bool (decide (l.b < 0))), dN l.b.natAbs, .v (.bool (decide (l.c < 0))), dN l.c.natAbs]
/-- a rational number of package api -/
def eR (q : Rat) : DV := .ag [.v (.bool (decide (q.num < 0))), dN q.num.natAbs, dN q.den]
def ePt (p : PtQ) : DV := .ag [.v (.bool (decide (p.x.num < 0))), dN p.x.num.natAbs, dN p.x.den, .v (.bool (decide (p.y.num < 0))), dN p.y.num.natAbs, dN p.y.den]
def vI (n : Int) : DV := .v (.int .i64 n)
def vB (b : Bool) : DV := .v (.bool b)

theorem dN_dg (n : Nat) : dN n = dL (dg n) := rfl
theorem dL_dv {ds : List Nat} (h : DOk ds) : dL (trimD ds) = dN (dv ds) := by unfold dL dN; rw [dg_trim h]
theorem mapU_get {ds : List Nat} {i : Nat} (h : i < ds.length) : (ds.map dU)[i]? = some (dU (ds.getD i 0)) := by
  rw [List.getElem?_map, List.getElem?_eq_getElem h, List.getD_eq_getElem?_getD, List.getElem?_eq_getElem h]; rfl
theorem mapU_getI {ds : List Nat} {i : Nat} (h : i < ds.length) : (ds.map dU)[(i : Int).toNat]? = some (dU (ds.getD i 0)) := by rw [Int.toNat_natCast]; exact mapU_get h
theorem slOkU (ds : List Nat) : slOk 1 (ds.map dU) := fun d hd => by
  obtain ⟨n, _, rfl⟩ := List.mem_map.1 hd; exact ⟨rfl, rfl⟩
theorem dg_zero : dg 0 = [] := by rw [dg, dif_pos rfl]
theorem dg_one : dg 1 = [1] := by rw [dg, dif_neg (by decide)]; simp [dg_zero]
theorem dg_len_zero {n : Nat} : (dg n).length = 0 ↔ n = 0 := by
  constructor
  · intro h
    have := (dg_spec n).1
    rw [List.eq_nil_of_length_eq_zero h] at this
    exact this.symm
  · rintro rfl; rw [dg_zero]; rfl
/-! ### bridges -/
theorem isl_mapU {G : Gh} : ∀ {ds : List Nat} {es : List Value}, IsLs G (ds.map dU) es ↔ es = ds.map dI
  | [], es => isl_nil
  | d :: t, es => by
    rw [List.map_cons, isl_cons]
    constructor
    · rintro ⟨y, n, rfl, h1, h2⟩
      rw [is_v.1 h1, isl_mapU.1 h2]; rfl
    · rintro rfl
      exact ⟨_, _, rfl, is_v.2 rfl, isl_mapU.2 rfl⟩
theorem is_dL {G : Gh} {ds : List Nat} {v : Value} : Is G (dL ds) v ↔ ∃ x : SV, v = .slice x.a x.n x.c ∧ IsSl G 1 x (ds.map dI) := by
  unfold dL
  rw [is_sl]
  constructor
  · rintro ⟨s, x, es, rfl, h1, h2⟩
    have := isl_mapU.1 h2
    subst this
    refine ⟨x, rfl, ?_⟩
    rcases sl_stride (s := 1) h1 h2 (slOkU ds) with h | h
    · rw [h] at h1 ⊢
      exact ⟨h1.len, h1.cap, .inl rfl⟩
    · subst h; exact h1
  · rintro ⟨x, rfl, h⟩
    exact ⟨1, x, _, rfl, h, isl_mapU.2 rfl⟩
theorem is_dN {G : Gh} {n k : Nat} {v : Value} (hk : n < 2 ^ k) : Is G (dN n) v ↔ ∃ x : SV, v = .slice x.a x.n x.c ∧ IsN k G x n := by
  rw [dN_dg, is_dL]
  constructor
  · rintro ⟨x, rfl, h⟩
    exact ⟨x, rfl, ⟨(dg_spec n).2.1, h⟩, hk⟩
  · rintro ⟨x, rfl, h⟩
    exact ⟨x, rfl, h.d.sl⟩

/-! ### spelled otherwise -/
theorem sd_eq (k : Nat) {GB : Gh} {C : Ctx} {n : Nat} {fr : FrF} {own : List OwnD} {bs : List BufD} {Φ : Act → World → Prop} {f : FV} (f' : FV) (hl : lookF fr k = some f) (e : f = f') (h : SD GB C n E0 ((k, f') :: fr) own bs Φ) : SD GB C n E0 fr own bs Φ :=
  sd_re k hl rfl (fun G y hy => e ▸ hy) h
theorem sd_bh {GB : Gh} {C : Ctx} {n : Nat} {E : Ext} {fr : FrF} {own : List OwnD} {bs : List BufD} {Φ : Act → World → Prop} {w : SV} {s : Nat} {ty : TypeId} {ds : List DV} {lo : Bool} (ds' : List DV) (e : ds = ds') (h : SD GB C n E fr own (⟨w, s, ty, ds', lo⟩ :: bs) Φ) : SD GB C n E fr own (⟨w, s, ty, ds, lo⟩ :: bs) Φ := e ▸ h
theorem sd_own {GB : Gh} {C : Ctx} {n : Nat} {E : Ext} {fr : FrF} {own : List OwnD} {bs : List BufD} {Φ : Act → World → Prop} (own' : List OwnD) (e : own = own') (h : SD GB C n E fr own' bs Φ) : SD GB C n E fr own bs Φ := e ▸ h
theorem mapU_getZ {ds : List Nat} {i : Int} {k : Nat} (hi : i = k) (h : k < ds.length) : (ds.map dU)[i.toNat]? = some (dU (ds.getD k 0)) := by subst hi; exact mapU_getI h

/-! ### bounds -/
class BN (n : Nat) (k : outParam Nat) : Prop where h : n < 2 ^ k
class BI (m : Int) (k : outParam Nat) : Prop where h : m.natAbs < 2 ^ k
class BQ (q : Rat) (k : outParam Nat) : Prop where
  hn : q.num.natAbs < 2 ^ k
  hd : q.den < 2 ^ k
theorem BN.mono {n k k' : Nat} (h : BN n k) (hk : k ≤ k') : BN n k' := ⟨Nat.lt_of_lt_of_le h.h (Nat.pow_le_pow_right (by decide) hk)⟩
theorem mul_lt_pow {a b i j : Nat} (h : a < 2 ^ i) (k : b < 2 ^ j) : a * b < 2 ^ (i + j) := by rw [Nat.pow_add]; exact Nat.mul_lt_mul'' h k
theorem add_lt_pow {a b i j : Nat} (h : a < 2 ^ i) (k : b < 2 ^ j) : a + b < 2 ^ (i + j + 1) := by
  have h1 : 2 ^ i ≤ 2 ^ (i + j) := Nat.pow_le_pow_right (by decide) (by omega)
  have h2 : 2 ^ j ≤ 2 ^ (i + j) := Nat.pow_le_pow_right (by decide) (by omega)
  rw [Nat.pow_succ]; omega
instance BN.mul (a b i j : Nat) [h : BN a i] [k : BN b j] : BN (a * b) (i + j) := ⟨mul_lt_pow h.h k.h⟩
instance BN.add (a b i j : Nat) [h : BN a i] [k : BN b j] : BN (a + b) (i + j + 1) := ⟨add_lt_pow h.h k.h⟩
instance BN.sub (a b i : Nat) [h : BN a i] : BN (a - b) i := ⟨by have := h.h; omega⟩
instance BN.div (a b i : Nat) [h : BN a i] : BN (a / b) i := ⟨Nat.lt_of_le_of_lt (Nat.div_le_self _ _) h.h⟩
instance BN.abs (m : Int) (i : Nat) [h : BI m i] : BN m.natAbs i := ⟨h.h⟩
instance BN.den (q : Rat) (i : Nat) [h : BQ q i] : BN q.den i := ⟨h.hd⟩
theorem gcd_lt' {a b i j : Nat} (h : a < 2 ^ i) (k : b < 2 ^ j) : Nat.gcd a b < 2 ^ (i + j) := by
  have h1 : 2 ^ i ≤ 2 ^ (i + j) := Nat.pow_le_pow_right (by decide) (by omega)
  have h2 : 2 ^ j ≤ 2 ^ (i + j) := Nat.pow_le_pow_right (by decide) (by omega)
  rcases Nat.eq_zero_or_pos a with h0 | h0
  · subst h0; rw [Nat.gcd_zero_left]; omega
  · have := Nat.gcd_le_left b h0; omega
instance BN.gcd (a b i j : Nat) [h : BN a i] [k : BN b j] : BN (Nat.gcd a b) (i + j) := ⟨gcd_lt' h.h k.h⟩
instance BN.one : BN 1 1 := ⟨by decide⟩
instance BN.zero : BN 0 0 := ⟨by decide⟩
instance BI.mul (a b : Int) (i j : Nat) [h : BI a i] [k : BI b j] : BI (a * b) (i + j) := ⟨by rw [Int.natAbs_mul]; exact mul_lt_pow h.h k.h⟩
instance BI.add (a b : Int) (i j : Nat) [h : BI a i] [k : BI b j] : BI (a + b) (i + j + 1) := ⟨Nat.lt_of_le_of_lt (Int.natAbs_add_le a b) (add_lt_pow h.h k.h)⟩
instance BI.sub (a b : Int) (i j : Nat) [h : BI a i] [k : BI b j] : BI (a - b) (i + j + 1) := ⟨Nat.lt_of_le_of_lt (Int.natAbs_sub_le a b) (add_lt_pow h.h k.h)⟩
instance BI.neg (a : Int) (i : Nat) [h : BI a i] : BI (-a) i := ⟨by rw [Int.natAbs_neg]; exact h.h⟩
instance BI.num (q : Rat) (i : Nat) [h : BQ q i] : BI q.num i := ⟨h.hn⟩
instance BI.nat (n : Nat) (i : Nat) [h : BN n i] : BI (n : Int) i := ⟨by rw [Int.natAbs_natCast]; exact h.h⟩
theorem den_pos' (q : Rat) : 0 < q.den := Nat.pos_of_ne_zero q.den_nz
theorem mkRat_bd {m : Int} {d i j : Nat} (hd : 0 < d) (h : m.natAbs < 2 ^ i) (k : d < 2 ^ j) : BQ (mkRat m d) (i + j) := by
  have h1 : 2 ^ i ≤ 2 ^ (i + j) := Nat.pow_le_pow_right (by decide) (by omega)
  have h2 : 2 ^ j ≤ 2 ^ (i + j) := Nat.pow_le_pow_right (by decide) (by omega)
  refine ⟨?_, ?_⟩
  · rw [Rat.num_mkRat, if_neg (by omega)]
    have := Int.natAbs_ediv_le_natAbs m (d.gcd m.natAbs : Nat)
    omega
  · rw [Rat.den_mkRat, if_neg (by omega)]
    have := Nat.div_le_self d (d.gcd m.natAbs)
    omega
theorem BQ.mono {q : Rat} {k k' : Nat} (h : BQ q k) (hk : k ≤ k') : BQ q k' := ⟨Nat.lt_of_lt_of_le h.hn (Nat.pow_le_pow_right (by decide) hk), Nat.lt_of_lt_of_le h.hd (Nat.pow_le_pow_right (by decide) hk)⟩
theorem rat_mul_mk (p q : Rat) : p * q = mkRat (p.num * q.num) (p.den * q.den) := by rw [Rat.mul_def, Rat.normalize_eq_mkRat]
theorem rat_add_mk (p q : Rat) : p + q = mkRat (p.num * q.den + q.num * p.den) (p.den * q.den) := by rw [Rat.add_def, Rat.normalize_eq_mkRat]
instance BQ.mul (p q : Rat) (i j : Nat) [h : BQ p i] [k : BQ q j] : BQ (p * q) (i + j + (i + j)) := by
  rw [rat_mul_mk]
  exact mkRat_bd (Nat.mul_pos (den_pos' p) (den_pos' q)) (BI.mul p.num q.num i j).h (mul_lt_pow h.hd k.hd)
instance BQ.add (p q : Rat) (i j : Nat) [h : BQ p i] [k : BQ q j] : BQ (p + q) (i + j + (j + i) + 1 + (i + j)) := by
  rw [rat_add_mk]
  exact mkRat_bd (Nat.mul_pos (den_pos' p) (den_pos' q)) (BI.add (p.num * q.den) (q.num * p.den) (i + j) (j + i)).h (mul_lt_pow h.hd k.hd)
instance BQ.neg (p : Rat) (i : Nat) [h : BQ p i] : BQ (-p) i := ⟨by rw [Rat.neg_num, Int.natAbs_neg]; exact h.hn, by rw [Rat.neg_den]; exact h.hd⟩
instance BQ.sub (p q : Rat) (i j : Nat) [h : BQ p i] [k : BQ q j] : BQ (p - q) (i + j + (j + i) + 1 + (i + j)) := by
  rw [Rat.sub_eq_add_neg]
  exact BQ.add p (-q) i j
instance BQ.ofInt (m : Int) (i : Nat) [h : BI m i] : BQ (m : Rat) (i + 1) := by
  refine ⟨?_, ?_⟩
  · rw [Rat.num_intCast]; have := h.h; rw [Nat.pow_succ]; omega
  · rw [Rat.den_intCast]; have : 0 < 2 ^ i := Nat.pow_pos (by decide); rw [Nat.pow_succ]; omega
end Go.Sx
end

section
set_option maxRecDepth 100000
namespace Go.Sx
open Go Go.Proofs

def cT : Tr → List DV
  | .leaf b => [.v (.bool true), .v (.bool b), .v (.bool false), .sl [], .v (.bool false), .sl [], .v (.bool false), .sl [], .v (.pointer none), .v (.pointer none)]
  | .node l x y => [.v (.bool false), .v (.bool false), .v (.bool (decide (l.a < 0))), dN l.a.natAbs, .v (.bool (decide (l.b < 0))), dN l.b.natAbs, .v (.bool (decide (l.c < 0))), dN l.c.natAbs, .pt (cT x), .pt (cT y)]
def eT (t : Tr) : DV := .pt (cT t)
/-- a node of package api -/
def eN (n : NQ) : DV := .ag [.v (.bool (decide (n.l.a < 0))), dN n.l.a.natAbs, .v (.bool (decide (n.l.b < 0))), dN n.l.b.natAbs, .v (.bool (decide (n.l.c < 0))), dN n.l.c.natAbs, .v (.int .i64 n.a), .v (.int .i64 n.b)]
/-- a tree of package api, its nodes in order -/
def eA (t : Tr) : DV := .ag [.v (.int .i64 (t.num 0)), .sl ((t.wr 0).map eN)]

theorem isI_to {G : Gh} {k : Nat} {z : IV} {m : Int} (h : IsI k G z m) : Is G (.v (.bool (decide (m < 0)))) (.bool z.neg) ∧ Is G (dN m.natAbs) (.slice z.a.a z.a.n z.a.c) :=
  ⟨is_v.2 (by rw [h.neg]), (is_dN h.abs.lt).2 ⟨_, rfl, h.abs⟩⟩
theorem isI_of {G : Gh} {k : Nat} {m : Int} {u v : Value} (hm : m.natAbs < 2 ^ k) (h1 : Is G (.v (.bool (decide (m < 0)))) u) (h2 : Is G (dN m.natAbs) v) : ∃ z : IV, u = .bool z.neg ∧ v = .slice z.a.a z.a.n z.a.c ∧ IsI k G z m := by
  obtain ⟨x, rfl, hx⟩ := (is_dN hm).1 h2
  exact ⟨⟨decide (m < 0), x⟩, is_v.1 h1, rfl, rfl, hx⟩
/-- coefficients of less than k bits -/
structure BL (l : LnQ) (k : Nat) : Prop where
  a : l.a.natAbs < 2 ^ k
  b : l.b.natAbs < 2 ^ k
  c : l.c.natAbs < 2 ^ k
theorem isL_of {G : Gh} {k : Nat} {l : LnQ} {v : Value} (hl : BL l k) (h : Is G (eL l) v) : ∃ a b c : IV, v = .agg ⟨[.bool a.neg, .slice a.a.a a.a.n a.a.c, .bool b.neg, .slice b.a.a b.a.n b.a.c, .bool c.neg, .slice c.a.a c.a.n c.a.c]⟩ ∧ IsI k G a l.a ∧ IsI k G b l.b ∧ IsI k G c l.c := by
  obtain ⟨m, rfl, g⟩ := is_ag.1 h
  clear h
  obtain ⟨v1, m, rfl, h1, h⟩ := isl_cons.1 g
  obtain ⟨v2, m, rfl, h2, h⟩ := isl_cons.1 h
  obtain ⟨v3, m, rfl, h3, h⟩ := isl_cons.1 h
  obtain ⟨v4, m, rfl, h4, h⟩ := isl_cons.1 h
  obtain ⟨v5, m, rfl, h5, h⟩ := isl_cons.1 h
  obtain ⟨v6, m, rfl, h6, h⟩ := isl_cons.1 h
  rw [isl_nil] at h; subst h
  obtain ⟨a, rfl, rfl, ha⟩ := isI_of hl.a h1 h2
  obtain ⟨b, rfl, rfl, hb⟩ := isI_of hl.b h3 h4
  obtain ⟨c, rfl, rfl, hc⟩ := isI_of hl.c h5 h6
  exact ⟨a, b, c, rfl, ha, hb, hc⟩
theorem isL_to {G : Gh} {k : Nat} {l : LnQ} {a b c : IV} (ha : IsI k G a l.a) (hb : IsI k G b l.b) (hc : IsI k G c l.c) : Is G (eL l) (.agg ⟨[.bool a.neg, .slice a.a.a a.a.n a.a.c, .bool b.neg, .slice b.a.a b.a.n b.a.c, .bool c.neg, .slice c.a.a c.a.n c.a.c]⟩) :=
  is_ag.2 ⟨_, rfl, .cons (isI_to ha).1 (.cons (isI_to ha).2 (.cons (isI_to hb).1 (.cons (isI_to hb).2 (.cons (isI_to hc).1 (.cons (isI_to hc).2 .nil)))))⟩
theorem isND_of {G : Gh} {k : Nat} {n : NQ} {v : Value} (hl : BL n.l k) (h : Is G (eN n) v) : ∃ z : ND, v = z.val ∧ IsND k G z n := by
  obtain ⟨m, rfl, g⟩ := is_ag.1 h
  clear h
  obtain ⟨v1, m, rfl, h1, h⟩ := isl_cons.1 g
  obtain ⟨v2, m, rfl, h2, h⟩ := isl_cons.1 h
  obtain ⟨v3, m, rfl, h3, h⟩ := isl_cons.1 h
  obtain ⟨v4, m, rfl, h4, h⟩ := isl_cons.1 h
  obtain ⟨v5, m, rfl, h5, h⟩ := isl_cons.1 h
  obtain ⟨v6, m, rfl, h6, h⟩ := isl_cons.1 h
  obtain ⟨v7, m, rfl, h7, h⟩ := isl_cons.1 h
  obtain ⟨v8, m, rfl, h8, h⟩ := isl_cons.1 h
  rw [isl_nil] at h; subst h
  obtain ⟨a, rfl, rfl, ha⟩ := isI_of hl.a h1 h2
  obtain ⟨b, rfl, rfl, hb⟩ := isI_of hl.b h3 h4
  obtain ⟨c, rfl, rfl, hc⟩ := isI_of hl.c h5 h6
  rw [is_v.1 h7, is_v.1 h8]
  exact ⟨⟨a, b, c, n.a, n.b⟩, rfl, ha, hb, hc, rfl, rfl⟩
theorem isND_to {G : Gh} {k : Nat} {n : NQ} {z : ND} (h : IsND k G z n) : Is G (eN n) z.val := by
  refine is_ag.2 ⟨_, rfl, .cons (isI_to h.a).1 (.cons (isI_to h.a).2 (.cons (isI_to h.b).1 (.cons (isI_to h.b).2 (.cons (isI_to h.c).1 (.cons (isI_to h.c).2 (.cons (is_v.2 ?_) (.cons (is_v.2 ?_) .nil)))))))⟩
  · rw [h.l]
  · rw [h.r]
theorem isNs_of {G : Gh} {k : Nat} : ∀ {ns : List NQ} {es : List Value}, (∀ n ∈ ns, BL n.l k) → IsLs G (ns.map eN) es → ∃ zs : List ND, es = zs.map ND.val ∧ All2 (IsND k G) zs ns
  | [], es, _, h => by rw [List.map_nil, isl_nil] at h; subst h; exact ⟨[], rfl, .nil⟩
  | n :: ns, es, hb, h => by
    rw [List.map_cons] at h
    obtain ⟨v, m, rfl, h1, h2⟩ := isl_cons.1 h
    obtain ⟨z, rfl, hz⟩ := isND_of (hb n List.mem_cons_self) h1
    obtain ⟨zs, rfl, hzs⟩ := isNs_of (fun n hn => hb n (List.mem_cons_of_mem _ hn)) h2
    exact ⟨z :: zs, rfl, .cons hz hzs⟩
theorem isNs_to {G : Gh} {k : Nat} : ∀ {ns : List NQ} {zs : List ND}, All2 (IsND k G) zs ns → IsLs G (ns.map eN) (zs.map ND.val)
  | _, _, .nil => .nil
  | _, _, .cons h t => .cons (isND_to h) (isNs_to t)
theorem slOkN (ns : List NQ) : slOk 8 (ns.map eN) := fun d hd => by
  obtain ⟨n, _, rfl⟩ := List.mem_map.1 hd; exact ⟨rfl, rfl⟩
theorem isA_of {G : Gh} {k : Nat} {t : Tr} {v : Value} (hb : ∀ n ∈ t.wr 0, BL n.l k) (h : Is G (eA t) v) : ∃ x : SV, v = .agg ⟨[.int .i64 (t.num 0), .slice x.a x.n x.c]⟩ ∧ IsNs k G x (t.wr 0) := by
  obtain ⟨m, rfl, g⟩ := is_ag.1 h
  clear h
  obtain ⟨v1, m, rfl, h1, h⟩ := isl_cons.1 g
  obtain ⟨v2, m, rfl, h2, h⟩ := isl_cons.1 h
  rw [isl_nil] at h; subst h
  rw [is_v.1 h1]
  obtain ⟨s, x, es, rfl, hs, hl⟩ := is_sl.1 h2
  obtain ⟨zs, rfl, hz⟩ := isNs_of hb hl
  refine ⟨x, rfl, zs, ?_, hz⟩
  rcases sl_stride hs hl (slOkN _) with h | h
  · rw [h] at hs ⊢; exact ⟨hs.len, hs.cap, .inl rfl⟩
  · subst h; exact hs
theorem isA_to {G : Gh} {k : Nat} {t : Tr} {x : SV} (h : IsNs k G x (t.wr 0)) : Is G (eA t) (.agg ⟨[.int .i64 (t.num 0), .slice x.a x.n x.c]⟩) := by
  obtain ⟨zs, h1, h2⟩ := h
  exact is_ag.2 ⟨_, rfl, .cons (is_v.2 rfl) (.cons (is_sl.2 ⟨8, x, _, rfl, h1, isNs_to h2⟩) .nil)⟩
theorem isRT_to {G : Gh} : ∀ {t : Tr} {p : Option Addr}, IsRT G t p → Is G (eT t) (.pointer p)
  | .leaf b, p, ⟨n, h1, h2⟩ => by
    subst h1
    exact is_pt.2 ⟨n, _, rfl, h2, .cons (is_v.2 rfl) (.cons (is_v.2 rfl) (.cons (is_v.2 rfl) (.cons (isNilS _) (.cons (is_v.2 rfl) (.cons (isNilS _) (.cons (is_v.2 rfl) (.cons (isNilS _) (.cons (is_v.2 rfl) (.cons (is_v.2 rfl) .nil)))))))))⟩
  | .node l x y, p, ⟨n, a, b, c, q, r, h1, h2, h3, h4, h5, h6, h7⟩ => by
    subst h1
    exact is_pt.2 ⟨n, _, rfl, h2, .cons (is_v.2 rfl) (.cons (is_v.2 rfl) (.cons (isI_to h3).1 (.cons (isI_to h3).2 (.cons (isI_to h4).1 (.cons (isI_to h4).2 (.cons (isI_to h5).1 (.cons (isI_to h5).2 (.cons (isRT_to h6) (.cons (isRT_to h7) .nil)))))))))⟩
theorem isRT_bl {G : Gh} : ∀ {t : Tr} {p : Option Addr}, IsRT G t p → t.all (fun l => BL l 32)
  | .leaf b, p, h => trivial
  | .node l x y, p, ⟨n, a, b, c, q, r, h1, h2, h3, h4, h5, h6, h7⟩ => ⟨⟨h3.abs.lt, h4.abs.lt, h5.abs.lt⟩, isRT_bl h6, isRT_bl h7⟩
theorem Tr.all_wr {p : LnQ → Prop} : ∀ {t : Tr} (n : Nat), t.all p → ∀ x ∈ t.wr n, p x.l
  | .leaf b, n, _, x, hx => by cases hx
  | .node l u v, n, ⟨h1, h2, h3⟩, x, hx => by
    simp only [Tr.wr, List.cons_append, List.mem_cons, List.mem_append] at hx
    rcases hx with rfl | hx | hx
    · exact h1
    · exact u.all_wr _ h2 x hx
    · exact v.all_wr _ h3 x hx
/-- a contract of before as one over deep values -/
theorem q_ToL {GB : Gh} {l : LnQ} (hl : BL l 32) : PF GB Tryz.prog 14 [eL l] (eL l) := by
  intro G vs hg hv
  obtain ⟨v, m, rfl, h1, h2⟩ := isl_cons.1 hv
  rw [isl_nil] at h2; subst h2
  obtain ⟨a, b, c, rfl, ha, hb, hc⟩ := isL_of hl h1
  refine (ref_ToL ha hb hc).mono ?_
  rintro _ G' hG ⟨x, y, w, rfl, hx, hy, hw⟩
  exact isL_to hx hy hw
end Go.Sx
end

section
set_option maxRecDepth 100000
namespace Go.Sx
open Go Go.Proofs

theorem eN_get (xs ys : List NQ) (n : NQ) : ((xs ++ (n :: ys)).map eN)[((xs.length : Nat) : Int).toNat]? = some (eN n) := by simp
theorem eN_set (xs ys : List NQ) (n m : NQ) (e : DV) (h : e = eN m) : ((xs ++ (n :: ys)).map eN).set ((xs.length : Nat) : Int).toNat e = (xs ++ (m :: ys)).map eN := by subst h; simp

theorem q_write_true {GB : Gh} {ns : List NQ} : PB GB Tryz.prog 50 (fun w => [eT (.leaf true), .v (.slice w.a w.n w.c)]) 8 60 (ns.map eN) (fun w => .tp [.v (.slice w.a w.n w.c), .v (.int .i64 (Tr.num (.leaf true) ns.length))]) ((ns ++ Tr.wr (.leaf true) ns.length).map eN) := by
  refine PB.intro Tryz.func50 rfl rfl Tryz.ntmps50 (fun _ => rfl) ?_
  intro C w0
  refine sd_bh ((ns ++ Tr.wr (.leaf true) ns.length).map eN) (by simp [Tr.wr]) ?_
  refine sd_seq <| sd_region <| tY (yq_assign rfl) rfl <| tY (yq_assign rfl) rfl <| sd_end <| sd_seq <| sd_seq <| sd_region <| tY (yq_move rfl) rfl <| tY (yq_nilT rfl) rfl <| tY (yq_faE rfl rfl) rfl <| ?_
  refine tY (yq_ldE1 rfl rfl) rfl <| sd_end <| sd_condT rfl <| sd_seq <| sd_seq <| sd_region <| tY (yq_move rfl) rfl <| tY (yq_nilT rfl) rfl <| tY (yq_faE rfl rfl) rfl <| tY (yq_ldE1 rfl rfl) rfl <| ?_
  refine sd_end <| sd_condT rfl <| sd_seq <| sd_region <| tY (yq_move rfl) rfl <| tY (yq_assign rfl) rfl <| tY (yq_assign rfl) rfl <| sd_end <| sd_ret <| ?_
  exact sd_doneB (w := w0) (.tmp rfl (.tmp rfl .nil)) rfl (by repeat (first | exact .hd .. | apply BRemD.tl))
theorem q_write_false {GB : Gh} {ns : List NQ} : PB GB Tryz.prog 50 (fun w => [eT (.leaf false), .v (.slice w.a w.n w.c)]) 8 60 (ns.map eN) (fun w => .tp [.v (.slice w.a w.n w.c), .v (.int .i64 (Tr.num (.leaf false) ns.length))]) ((ns ++ Tr.wr (.leaf false) ns.length).map eN) := by
  refine PB.intro Tryz.func50 rfl rfl Tryz.ntmps50 (fun _ => rfl) ?_
  intro C w0
  refine sd_bh ((ns ++ Tr.wr (.leaf false) ns.length).map eN) (by simp [Tr.wr]) ?_
  refine sd_seq <| sd_region <| tY (yq_assign rfl) rfl <| tY (yq_assign rfl) rfl <| sd_end <| sd_seq <| sd_seq <| sd_region <| tY (yq_move rfl) rfl <| tY (yq_nilT rfl) rfl <| tY (yq_faE rfl rfl) rfl <| ?_
  refine tY (yq_ldE1 rfl rfl) rfl <| sd_end <| sd_condT rfl <| sd_seq <| sd_seq <| sd_region <| tY (yq_move rfl) rfl <| tY (yq_nilT rfl) rfl <| tY (yq_faE rfl rfl) rfl <| tY (yq_ldE1 rfl rfl) rfl <| ?_
  refine sd_end <| sd_condF rfl <| sd_skipc <| sd_seq <| sd_region <| tY (yq_move rfl) rfl <| tY (yq_assign rfl) rfl <| tY (yq_assign rfl) rfl <| sd_end <| sd_ret <| ?_
  exact sd_doneB (w := w0) (.tmp rfl (.tmp rfl .nil)) rfl (by repeat (first | exact .hd .. | apply BRemD.tl))
theorem q_write_node {GB : Gh} {l : LnQ} {s u : Tr} {ns : List NQ} (hl : BL l 32) (hs : ns.length + (1 + s.size + u.size) ≤ 1000000) (ihs : ∀ {ns : List NQ}, ns.length + s.size ≤ 1000000 → PB GB Tryz.prog 50 (fun w => [eT s, .v (.slice w.a w.n w.c)]) 8 60 (ns.map eN) (fun w => .tp [.v (.slice w.a w.n w.c), .v (.int .i64 (Tr.num s ns.length))]) ((ns ++ Tr.wr s ns.length).map eN)) (ihu : ∀ {ns : List NQ}, ns.length + u.size ≤ 1000000 → PB GB Tryz.prog 50 (fun w => [eT u, .v (.slice w.a w.n w.c)]) 8 60 (ns.map eN) (fun w => .tp [.v (.slice w.a w.n w.c), .v (.int .i64 (Tr.num u ns.length))]) ((ns ++ Tr.wr u ns.length).map eN)) : PB GB Tryz.prog 50 (fun w => [eT (.node l s u), .v (.slice w.a w.n w.c)]) 8 60 (ns.map eN) (fun w => .tp [.v (.slice w.a w.n w.c), .v (.int .i64 (Tr.num (.node l s u) ns.length))]) ((ns ++ Tr.wr (.node l s u) ns.length).map eN) := by
  refine PB.intro Tryz.func50 rfl rfl Tryz.ntmps50 (fun _ => rfl) ?_
  intro C w0
  refine sd_seq <| sd_region <| tY (yq_assign rfl) rfl <| tY (yq_assign rfl) rfl <| sd_end <| sd_seq <| sd_seq <| sd_region <| tY (yq_move rfl) rfl <| tY (yq_nilT rfl) rfl <| tY (yq_faE rfl rfl) rfl <| ?_
  refine tY (yq_ldE1 rfl rfl) rfl <| sd_end <| sd_condF rfl <| sd_skipc <| sd_seq <| sd_region <| tY (yq_move rfl) rfl <| tY (yq_lenB rfl) rfl <| ?_
  refine sd_eq 20 (.d (.v (.int .i64 (ns.length : Nat)))) rfl (by simp) ?_
  refine tY (yq_assign rfl) rfl <| sd_end <| sd_seq <| sd_region <| tY (yq_move rfl) rfl <| tY (yq_move rfl) rfl <| tY (yq_nilT rfl) rfl <| tY (yq_faE rfl rfl) rfl <| tY (yq_ldE rfl rfl) rfl <| ?_
  refine tC (td_call rfl rfl (q_ToL hl) rfl) <| tY (yq_build rfl) rfl <| tF (tf_row rfl rfl rfl rfl rfl rfl rfl) <| ?_
  intro w1
  refine tF (tf_appendF (w := w0) rfl (by repeat (first | exact .hd .. | apply BRemD.tl)) (.bf rfl (okRow_spec rfl)) rfl (by simp only [List.length_map, List.length_cons, List.length_nil]; omega) rfl rfl) <| ?_
  intro w2
  refine sd_bh ((ns ++ [(⟨l, 0, 0⟩ : NQ)]).map eN) (by rw [List.map_append]; rfl) ?_
  refine tY (yq_assign rfl) rfl <| sd_end <| sd_seq <| sd_region <| tY (yq_assign rfl) rfl <| tY (yq_assign rfl) rfl <| sd_end <| sd_seq <| sd_region <| tY (yq_move rfl) rfl <| tY (yq_nilT rfl) rfl <| ?_
  refine tY (yq_faE rfl rfl) rfl <| tY (yq_ldE1 rfl rfl) rfl <| tY (yq_move rfl) rfl <| tF (tf_callB (w := w2) rfl rfl (ihs (ns := ns ++ [(⟨l, 0, 0⟩ : NQ)]) (by simp; omega)) (by repeat (first | exact .hd .. | apply BRemD.tl)) rfl) <| ?_
  intro w3
  refine tY (yq_move rfl) rfl <| tY (yq_ext rfl rfl) rfl <| tY (yq_ext rfl rfl) rfl <| tY (yq_assign rfl) rfl <| tY (yq_assign rfl) rfl <| sd_end <| sd_seq <| sd_region <| tY (yq_move rfl) rfl <| ?_
  refine tY (yq_nilT rfl) rfl <| tY (yq_faE rfl rfl) rfl <| tY (yq_ldE1 rfl rfl) rfl <| tY (yq_move rfl) rfl <| tF (tf_callB (w := w3) rfl rfl (ihu (ns := ns ++ [(⟨l, 0, 0⟩ : NQ)] ++ s.wr (ns ++ [(⟨l, 0, 0⟩ : NQ)]).length) (by simp [Tr.wr_len]; omega)) (by repeat (first | exact .hd .. | apply BRemD.tl)) rfl) <| ?_
  intro w4
  refine sd_bh ((ns ++ ((⟨l, 0, 0⟩ : NQ) :: (s.wr (ns.length + 1) ++ u.wr (ns.length + 1 + s.size)))).map eN) (by simp [Tr.wr_len, Nat.add_assoc, Nat.add_comm 1]) ?_
  refine tY (yq_move rfl) rfl <| tY (yq_ext rfl rfl) rfl <| tY (yq_ext rfl rfl) rfl <| tY (yq_assign rfl) rfl <| tY (yq_assign rfl) rfl <| sd_end <| sd_seq <| sd_region <| tY (yq_move rfl) rfl <| ?_
  refine tY (yq_move rfl) rfl <| tY (yq_move rfl) rfl <| tY (yq_move rfl) rfl <| tY (yq_move rfl) rfl <| tY (yq_move rfl) rfl <| tY (yq_ixB rfl rfl (by omega) (by simp; omega)) rfl <| ?_
  refine tY (yq_faB rfl) rfl <| tC (td_storeBs (d := eN ⟨l, 0, 0⟩) rfl rfl (by repeat (first | exact .hd .. | apply BRemD.tl)) (eN_get ns _ ⟨l, 0, 0⟩) rfl rfl rfl) <| ?_
  refine sd_bh ((ns ++ ((⟨l, s.num (ns.length + 1), 0⟩ : NQ) :: (s.wr (ns.length + 1) ++ u.wr (ns.length + 1 + s.size)))).map eN) (by rw [eN_set _ _ _ ⟨l, s.num (ns.length + 1), 0⟩ _ (by simp [eN, DV.cells])]) ?_
  refine tY (yq_ixB rfl rfl (by omega) (by simp; omega)) rfl <| tY (yq_faB rfl) rfl <| tC (td_storeBs (d := eN ⟨l, s.num (ns.length + 1), 0⟩) rfl rfl (by repeat (first | exact .hd .. | apply BRemD.tl)) (eN_get ns _ ⟨l, s.num (ns.length + 1), 0⟩) rfl rfl rfl) <| ?_
  refine sd_bh ((ns ++ Tr.wr (.node l s u) ns.length).map eN) (by rw [eN_set _ _ _ ⟨l, s.num (ns.length + 1), u.num (ns.length + 1 + s.size)⟩ _ (by simp [eN, DV.cells, Tr.wr_len, Nat.add_assoc, Nat.add_comm 1])]; simp [Tr.wr]) ?_
  refine sd_end <| sd_seq <| sd_region <| tY (yq_move rfl) rfl <| tY (yq_move rfl) rfl <| tY (yq_assign rfl) rfl <| tY (yq_assign rfl) rfl <| sd_end <| sd_ret <| ?_
  exact sd_doneB (w := w4) (.tmp rfl (.tmp rfl .nil)) rfl (by repeat (first | exact .hd .. | apply BRemD.tl))
theorem q_write {GB : Gh} : ∀ {t : Tr} {ns : List NQ}, t.all (fun l => BL l 32) → ns.length + t.size ≤ 1000000 → PB GB Tryz.prog 50 (fun w => [eT t, .v (.slice w.a w.n w.c)]) 8 60 (ns.map eN) (fun w => .tp [.v (.slice w.a w.n w.c), .v (.int .i64 (Tr.num t ns.length))]) ((ns ++ Tr.wr t ns.length).map eN)
  | .leaf true, ns, _, _ => q_write_true
  | .leaf false, ns, _, _ => q_write_false
  | .node l s u, ns, hb, hs => q_write_node hb.1 hs (fun h => q_write hb.2.1 h) (fun h => q_write hb.2.2 h)
theorem q_Write {GB : Gh} {t : Tr} (hb : t.all (fun l => BL l 32)) (hs : t.size ≤ 1000000) : PF GB Tryz.prog 13 [eT t] (eA t) := by
  refine PF.intro Tryz.func13 rfl rfl Tryz.ntmps13 rfl ?_
  intro C
  refine sd_seq <| sd_region <| tF (tf_alloc rfl) <| ?_
  intro b1
  refine sd_end <| sd_seq <| sd_region <| tF (tf_alloc rfl) <| ?_
  intro b2
  refine sd_end <| sd_seq <| sd_region <| tY (yq_move rfl) rfl <| ?_
  refine sd_newB 8 60 ?_
  refine tF (tf_callB (w := ⟨none, 0, 0⟩) rfl rfl (q_write (t := t) (ns := []) hb (by simpa using hs)) (by repeat (first | exact .hd .. | apply BRemD.tl)) rfl) <| ?_
  intro w3
  refine tY (yq_move rfl) rfl <| tY (yq_ext rfl rfl) rfl <| tY (yq_ext rfl rfl) rfl <| tY (yq_faP rfl) rfl <| ?_
  refine sd_freezeB [7] (w := w3) (by repeat (first | exact .hd .. | apply BRemD.tl)) (by simp only [List.forall_mem_cons, List.not_mem_nil, false_implies, implies_true, and_true]; exact rfl) ?_
  refine tC (td_store1 rfl rfl (by first | (dsimp only [DV.cells, ovD, List.set_cons_zero, List.set_cons_succ, Nat.reduceAdd, List.drop_succ_cons, List.drop_zero]; done) | exact rfl) (by repeat (first | exact .hd .. | apply OUpdD.tl)) rfl rfl rfl) <| ?_
  refine tY (yq_faP rfl) rfl <| tC (td_store1 rfl rfl (by first | (dsimp only [DV.cells, ovD, List.set_cons_zero, List.set_cons_succ, Nat.reduceAdd, List.drop_succ_cons, List.drop_zero]; done) | exact rfl) (by repeat (first | exact .hd .. | apply OUpdD.tl)) rfl rfl rfl) <| ?_
  refine sd_end <| sd_seq <| sd_region <| tY (yq_ldO rfl rfl) rfl <| tC (td_store rfl rfl (by first | (dsimp only [DV.cells, ovD, List.set_cons_zero, List.set_cons_succ, Nat.reduceAdd, List.drop_succ_cons, List.drop_zero]; done) | exact rfl) (by repeat (first | exact .hd .. | apply OUpdD.tl)) rfl rfl rfl rfl) <| ?_
  refine sd_end <| sd_ret <| ?_
  exact sd_done (.agg rfl inferInstance inferInstance rfl .nil) rfl
end Go.Sx
end

section
set_option maxRecDepth 100000
namespace Go.Sx
open Go Go.Proofs

theorem ref_Write {A G : Gh} {t : Tr} {p : Option Addr} (h : IsRT A t p) [GL A G] (hs : t.size ≤ 1000000) : Fn Tryz.prog 13 [.pointer p] G (fun v G' => ∃ x : SV, v = .agg ⟨[.int .i64 (t.num 0), .slice x.a x.n x.c]⟩ ∧ IsNs 32 G' x (t.wr 0)) :=
  (q_Write (GB := fun _ => none) (isRT_bl h) hs G _ (GLe.bot G) (.cons (isRT_to h.up) .nil)).mono fun _ _ _ k => isA_of (Tr.all_wr 0 (isRT_bl h)) k
theorem same_leaves (l : LnQ) (b : Bool) (c : CellQ) : (Tr.node l (.leaf b) (.leaf b)).restrict c = .leaf b := by
  unfold Tr.restrict
  split
  · rfl
  · split
    · rfl
    · simp [Tr.restrict, Tr.joinQ, Tr.isLeaf, Tr.code]
set_option maxHeartbeats 1000000 in
theorem law17_known {G : Gh} : Fn Tryz.prog 15 [] G (fun v _ => v = .bool true) := by
  refine Fn.intro Tryz.func15 rfl rfl Tryz.ntmps15 rfl ?_
  intro C _ _
  refine st_seq <| st_region <| sa rfl rfl <| st_end <| st_seq <| st_region <| ?_
  refine sc (ch_call rfl rfl (ref_Xy (m := 0) (n := 0) (by decide) (by decide) (by decide) (by decide)) rfl ?_)
  rintro _ G1 _ ⟨z0, w0, rfl, hz0, hw0⟩
  refine sc (ch_call rfl rfl (ref_Xy (m := 1) (n := 0) (by decide) (by decide) (by decide) (by decide)) rfl ?_)
  rintro _ G2 _ ⟨z1, w1, rfl, hz1, hw1⟩
  refine sc (ch_call rfl rfl (ref_Through hz0 hw0 hz1 hw1 (by decide) (by decide) (by decide) (by decide) (by decide)) rfl ?_)
  rintro _ G3 _ ⟨l, p, q, r, rfl, hl, hp, hq, hr⟩
  replace hl := hl.1
  refine sm rfl rfl <| sx rfl rfl rfl <| sx rfl rfl rfl <| ?_
  refine sc (ch_alloc rfl ?_)
  intro b4
  refine sc (ch_storeN (cs' := [.bool p.neg, .slice p.a.a p.a.n p.a.c, .bool q.neg, .slice q.a.a q.a.n q.a.c, .bool r.neg, .slice r.a.a r.a.n r.a.c]) rfl rfl (by first | (dsimp only [ovw, cellsL, List.set_cons_zero, List.set_cons_succ, Nat.reduceAdd, RV.v, LV.v, PV.v, IvV.v]; done) | exact rfl) (by repeat (first | exact .hd .. | apply OUpd.tl)) rfl (Nat.le_of_ble_eq_true rfl) rfl rfl ?_)
  refine sa rfl rfl <| st_end <| st_seq <| ?_
  refine drFS [⟨b4, [.bool p.neg, .slice p.a.a p.a.n p.a.c, .bool q.neg, .slice q.a.a q.a.n q.a.c, .bool r.neg, .slice r.a.a r.a.n r.a.c], 32, true⟩] 3 36 (.agg ⟨[.int .i64 0, .slice none 0 0]⟩) (fun _ => false) 10 [(0, true), (1, false), (2, false), (3, true), (4, false), (5, false), (6, false), (7, true), (8, true), (9, true)] [(11, false), (12, true)] follows (by kernel_rfl) (fun fl => ?_)
  refine dyF rfl (fun _ => yd_load_own rfl rfl) rfl rfl ((.cons_cons _ (List.nil_sublist _))) <| ?_
  apply dcF (fl := fl) (t := 36) (z := .agg ⟨[.int .i64 0, .slice none 0 0]⟩)
  case ho => exact rfl
  case hg => exact rfl
  case hk => exact rfl
  case hd => exact rfl
  case hF => intro b; repeat (first | exact .nil | refine .cons rfl ?_)
  case hO => exact fun _ => (List.perm_append_singleton _ _).symm
  case hs => exact (.cons_cons _ (List.nil_sublist _))
  intro fl
  refine ch_call rfl rfl ref_Code rfl ?_
  rintro _ G5 _ ⟨p1, rfl, hp1⟩
  refine dr_s' (own0 := [⟨b4, [.bool p.neg, .slice p.a.a p.a.n p.a.c, .bool q.neg, .slice q.a.a q.a.n q.a.c, .bool r.neg, .slice r.a.a r.a.n r.a.c], 32, true⟩]) ((.cons_cons _ (List.nil_sublist _))) <| ?_
  apply dcF (fl := fl) (t := 36) (z := .agg ⟨[.int .i64 0, .slice none 0 0]⟩)
  case ho => exact rfl
  case hg => exact rfl
  case hk => exact rfl
  case hd => exact rfl
  case hF => intro b; repeat (first | exact .nil | refine .cons rfl ?_)
  case hO => exact fun _ => (List.perm_append_singleton _ _).symm
  case hs => exact (.cons_cons _ (List.nil_sublist _))
  intro fl
  refine ch_call rfl rfl ref_Code rfl ?_
  rintro _ G6 _ ⟨p2, rfl, hp2⟩
  refine dr_s' (own0 := [⟨b4, [.bool p.neg, .slice p.a.a p.a.n p.a.c, .bool q.neg, .slice q.a.a q.a.n q.a.c, .bool r.neg, .slice r.a.a r.a.n r.a.c], 32, true⟩]) ((.cons_cons _ (List.nil_sublist _))) <| dyF rfl (fun _ => yd_build rfl) rfl rfl ((.cons_cons _ (List.nil_sublist _))) <| ?_
  apply dcF (fl := fl) (t := 36) (z := .agg ⟨[.int .i64 0, .slice none 0 0]⟩)
  case ho => exact rfl
  case hg => exact rfl
  case hk => exact rfl
  case hd => exact rfl
  case hF => intro b; repeat (first | exact .nil | refine .cons rfl ?_)
  case hO => exact fun _ => (List.perm_append_singleton _ _).symm
  case hs => exact (.cons_cons _ (List.nil_sublist _))
  intro fl
  refine ch_box rfl rfl ?_
  intro b7
  refine st_freeze b7 (.hd ..) ?_
  intro G7 _ hfz
  have hT : IsRT G7 (.node l (.leaf true) (.leaf true)) (some ⟨b7, 0, none⟩) := ⟨b7, p, q, r, p1, p2, rfl, hfz.h, hp.up, hq.up, hr.up, hp1.up, hp2.up⟩
  refine dr_s' (own0 := [⟨b4, [.bool p.neg, .slice p.a.a p.a.n p.a.c, .bool q.neg, .slice q.a.a q.a.n q.a.c, .bool r.neg, .slice r.a.a r.a.n r.a.c], 32, true⟩]) ((.cons_cons _ (List.nil_sublist _))) <| ?_
  apply dcF (fl := fl) (t := 36) (z := .agg ⟨[.int .i64 0, .slice none 0 0]⟩)
  case ho => exact rfl
  case hg => exact rfl
  case hk => exact rfl
  case hd => exact rfl
  case hF => intro b; repeat (first | exact .nil | refine .cons rfl ?_)
  case hO => exact fun _ => (List.perm_append_singleton _ _).symm
  case hs => exact (.cons_cons _ (List.nil_sublist _))
  intro fl
  refine ch_call rfl rfl (ref_Write hT (by simp [Tr.size])) rfl ?_
  rintro _ G8 _ ⟨y1, rfl, hy1⟩
  refine dr_s' (own0 := [⟨b4, [.bool p.neg, .slice p.a.a p.a.n p.a.c, .bool q.neg, .slice q.a.a q.a.n q.a.c, .bool r.neg, .slice r.a.a r.a.n r.a.c], 32, true⟩]) ((.cons_cons _ (List.nil_sublist _))) <| ?_
  apply dcF (fl := fl) (t := 36) (z := .agg ⟨[.int .i64 0, .slice none 0 0]⟩)
  case ho => exact rfl
  case hg => exact rfl
  case hk => exact rfl
  case hd => exact rfl
  case hF => intro b; repeat (first | exact .nil | refine .cons rfl ?_)
  case hO => exact fun _ => (List.perm_append_singleton _ _).symm
  case hs => exact (.cons_cons _ (List.nil_sublist _))
  intro fl
  refine ch_call rfl rfl (reduce_Reduce (k := 32) (by decide) (by decide) hy1 ⟨hl, trivial, trivial⟩ (by simp [Tr.size]) (by simp [Tr.depth]) (by rw [same_leaves]; decide)) rfl ?_
  rintro _ G9 _ ⟨y2, rfl, hy2⟩
  rw [same_leaves] at hy2
  rw [same_leaves]
  have hn2 : y2.n = 0 := by obtain ⟨zs, h1, h2⟩ := hy2; have := h1.len; have h3 := h2.len; simp [Tr.wr] at h3; subst h3; simpa using this
  refine dr_s' (own0 := [⟨b4, [.bool p.neg, .slice p.a.a p.a.n p.a.c, .bool q.neg, .slice q.a.a q.a.n q.a.c, .bool r.neg, .slice r.a.a r.a.n r.a.c], 32, true⟩]) ((.cons_cons _ (List.nil_sublist _))) <| dyF rfl (fun _ => yd_move rfl) rfl rfl ((.cons_cons _ (List.nil_sublist _))) <| dyF rfl (fun _ => yd_extract rfl rfl) rfl rfl ((.cons_cons _ (List.nil_sublist _))) <| ?_
  refine dyF rfl (fun _ => yd_extract rfl rfl) rfl rfl ((.cons_cons _ (List.nil_sublist _))) <| ?_
  apply dF_out (fl := fl) (t := 36) (z := .agg ⟨[.int .i64 0, .slice none 0 0]⟩)
  case hk => exact rfl
  case hd => exact rfl
  case hF => intro b; repeat (first | exact .nil | refine .cons rfl ?_)
  case hO => exact fun _ => List.perm_append_singleton _ _
  case hs => exact (.cons_cons _ (List.nil_sublist _))
  intro bF
  simp only [fO, fF, List.append_nil]
  refine dc rfl rfl (ch_storeN rfl rfl (by first | (dsimp only [ovw, cellsL, List.set_cons_zero, List.set_cons_succ, Nat.reduceAdd, RV.v, LV.v, PV.v, IvV.v]; done) | exact rfl) (by repeat (first | exact .hd .. | apply OUpd.tl)) rfl (Nat.le_of_ble_eq_true rfl) rfl rfl ?_)
  refine dr_s <| dy rfl (fun _ => yd_assign rfl) rfl rfl <| dn <| st_seq <| st_region <| sm rfl rfl <| sy (yd_eqN (by simp) rfl) rfl <| sm rfl rfl <| syg rfl rfl (yd_fieldAddr rfl) rfl <| syg rfl rfl (yd_load_own1 rfl rfl) rfl <| ?_
  refine syg rfl rfl (yd_eql rfl rfl) rfl <| sy (yd_pickT rfl rfl) rfl <| sm rfl rfl <| syg rfl rfl (yd_fieldAddr rfl) rfl <| syg rfl rfl (yd_load_own1 rfl rfl) rfl <| syg rfl rfl (yd_len rfl) rfl <| ?_
  refine syg rfl rfl (yd_eql rfl rfl) rfl <| sy (yd_pickT rfl rfl) rfl <| sa rfl rfl <| st_end <| st_ret <| ?_
  exact st_done (.tmp rfl .nil) (by show Value.bool _ = _; rw [hn2]; rfl)
end Go.Sx
end

section
set_option maxRecDepth 100000
namespace Go.Sx
open Go

section
variable {P : Program} {GB : Gh} {C : Ctx} {n : Nat} {E : Ext} {fr fr' : FrF} {own own' : List OwnD} {bs bs' bs1 : List BufD} {ops : Array Oper} {Q : Exit → Act → World → Prop} {r : List Oper} {Φ : Act → World → Prop}
variable {dst : Option Nat} {t t' ty' : TypeId} {pos : String} {af : Array Edge} {gd : Option (Nat × Bool)} {x y z : Operand} {e s by_ : Nat}

/-- a row, frozen at once -/
theorem TD.froze {o : Oper} {ι : Type} {fr2 : ι → FrF} {own2 : ι → List OwnD} {bs2 : ι → List BufD} (h : TF P GB C n fr own bs o ι fr2 own2 bs2)
    (k : ∀ (GB' : Gh) (E : Ext) (Φ : Act → World → Prop) x, GLe GB GB' → SD GB' C n E fr' own' bs' Φ → SD GB' C n E (fr2 x) (own2 x) (bs2 x) Φ) : TD P GB C n fr own bs o fr' own' bs' :=
  fun GB' E Φ hgb hs => h GB' E Φ hgb fun x => k GB' E Φ x hgb hs
theorem sd_freezeE {d : Nat} {w : SV} {s : Nat} {ty : TypeId} {ds : List DV} (h : SD GB C n E ((d, .d (.sl ds)) :: fr) own bs Φ) : SD GB C n E ((d, w.f) :: fr) own (⟨w, s, ty, ds, true⟩ :: bs) Φ := by
  refine ⟨fun G frv ov st => ?_⟩
  obtain ⟨p, q, rfl, hp, B, q1, rfl, ⟨vs, hB, hv, hvs, hlo⟩, hq1⟩ := st.ob
  simp only [] at hB hv hvs
  obtain ⟨y, m, rfl, hy, hfr⟩ := st.fr
  have hy' := isF_v.1 hy
  subst hy'
  have fin : ∀ G', GLe G G' → IsSl G' s w vs → St C n (((d, .slice w.a w.n w.c) :: m) ++ E.fr) ((p ++ q1) ++ E.own) G' Φ := by
    intro G' hg hsl
    exact h G' ((d, _) :: m) (p ++ q1) ⟨st.gb.trans hg, ⟨_, m, rfl, (show IsF G' (.d (.sl ds)) (.slice w.a w.n w.c) from is_sl.2 ⟨s, w, vs, rfl, hsl, hv.up hg⟩), FrIs.up hg hfr⟩, p, q1, rfl, hp.up hg, hq1.up hg⟩
  rcases hB with ⟨e1, e2, e3⟩ | ⟨b, rest, lo', h3, h4, h5, h6, h7⟩
  · subst e1 e2 e3
    exact fin G (GLe.refl _) (IsSl.nil _ _)
  · subst h4
    have hl : lo' = true := hlo rfl _ List.mem_cons_self
    subst hl
    refine st_freeze b (cs := flatL vs ++ rest) (ty := ty) (own' := (p ++ q1) ++ E.own) ?_ ?_
    · have := (ORem.mid (o := (⟨b, flatL vs ++ rest, ty, true⟩ : Own)) (r := q1 ++ E.own) p)
      simpa [List.append_assoc] using this
    · intro G' hG hg
      refine fin G' hG.le ?_
      rw [h3]
      exact IsSl.of_flat hvs hg.h h7
theorem td_rowF {d : Nat} [hT : TySl P t e s by_] {d0 : DV} [hz : TyZE P e d0] {len : Nat} {parts : Array (Nat × Operand)} {ds : List DV} (hs : Nat.beq d0.cells.length s = true) (hb : rowD fr 0 parts.toList = some ds) (hok : okRow s ds = true) (hlen : Nat.beq parts.toList.length len = true) (hsm : Nat.ble (len * s) 1000 = true) (hs0 : Nat.blt 0 (len * s) = true) (hd : dstOk n (some d) = true) :
    TD P GB C n fr own bs ⟨some d, .buildSlice t len parts, ty', pos, af, gd⟩ ((d, .d (.sl ds)) :: fr) own bs :=
  TD.froze (tf_row hs hb hok hlen hsm hs0 hd) fun _ _ _ _ _ h => sd_freezeE h
/-- append, the row frozen at once -/
theorem td_appendZ {d : Nat} [hT : TySl P t e s by_] [hN : TyN P t'] {d0 : DV} [hz : TyZE P e d0] {w : SV} {ds ds2 : List DV} (hx : opF fr x = some w.f) (hb : BRemD bs ⟨w, s, e, ds, true⟩ bs1) (hy : SrcD fr bs1 s y ds2)
    (hby : Nat.blt 0 by_ = true) (hbd : (ds.length + ds2.length) * by_ ≤ 140737488355328) (hzs : Nat.beq d0.cells.length s = true) (hd : dstOk n (some d) = true) :
    TD P GB C n fr own bs ⟨some d, .call ⟨.builtin .append, #[x, y], #[t, t']⟩, ty', pos, af, gd⟩ ((d, .d (.sl (ds ++ ds2))) :: fr) own bs1 :=
  TD.froze (tf_append hx hb hy hby hbd hzs hd) fun _ _ _ _ _ h => sd_freezeE h

/-! ### families of results -/
def PX (GB : Gh) (P : Program) (f : FuncId) (ds : List DV) (ι : Type) (r : ι → DV) : Prop :=
  ∀ G vs, GLe GB G → IsLs G ds vs → Fn P f vs G (fun v G' => ∃ x, Is G' (r x) v)
def PMX (GB : Gh) (P : Program) (f : FuncId) (ds : List DV) (b : Nat) (ty : TypeId) (cs : List DV) (ι : Type) (r : ι → DV) (cs' : ι → List DV) : Prop :=
  ∀ G vs m lo, GLe GB G → IsLs G ds vs → IsLs G cs m → FnM P f vs [⟨b, m, ty, lo⟩] G (fun v css G' => ∃ x, Is G' (r x) v ∧ ∃ m', css = [m'] ∧ IsLs G' (cs' x) m')
/-- A new block is handed back. -/
def PN (GB : Gh) (P : Program) (f : FuncId) (ds : List DV) (ty : TypeId) (ι : Type) (cs : ι → List DV) : Prop :=
  ∀ G vs, GLe GB G → IsLs G ds vs → FnO P f vs [] G (fun v own' G' => ∃ x b m, v = .pointer (some ⟨b, 0, none⟩) ∧ own' = [⟨b, m, ty, true⟩] ∧ IsLs G' (cs x) m)
theorem tf_callX {f : FuncId} {fo : Operand} {args : Array Operand} {tys : Array TypeId} {ds : List DV} {ι : Type} {r : ι → DV} (ho : opF fr fo = some (.d (.v (.func (.func f) #[] #[])))) (hv : opFs fr args.toList = some ds) (hF : PX GB P f ds ι r) (hd : dstOk n dst = true) :
    TF P GB C n fr own bs ⟨dst, .call ⟨.value fo, args, tys⟩, ty', pos, af, gd⟩ ι (fun x => putF fr dst (.d (r x))) (fun _ => own) (fun _ => bs) := by
  intro GB' E Φ hgb h G frv ov s
  obtain ⟨vs, h1, h2⟩ := s.fr.ops hv
  refine ch_call (opv_app (s.fr.opv ho)) (opvs_app h1) (hF G vs (hgb.trans s.gb) h2) hd ?_
  rintro v G' hG ⟨x, hK⟩
  rw [put_app]
  exact h x G' _ ov ⟨s.gb.trans hG.le, (s.fr.up hG.le).put (f := .d (r x)) hK _, s.ob.up hG.le⟩
inductive OSp : List OwnD → Nat → List DV → TypeId → Bool → List OwnD → List OwnD → Prop
  | hd (b : Nat) (cs : List DV) (ty : TypeId) (lo : Bool) (t : List OwnD) : OSp (⟨b, cs, ty, lo⟩ :: t) b cs ty lo [] t
  | tl (o : OwnD) (t : List OwnD) (b : Nat) (cs : List DV) (ty : TypeId) (lo : Bool) (L R : List OwnD) (h : OSp t b cs ty lo L R) : OSp (o :: t) b cs ty lo (o :: L) R
theorem OSp.eq {own : List OwnD} {b : Nat} {cs : List DV} {ty : TypeId} {lo : Bool} {L R : List OwnD} (h : OSp own b cs ty lo L R) : own = L ++ ⟨b, cs, ty, lo⟩ :: R := by
  induction h with
  | hd => rfl
  | tl o t b cs ty lo L R h ih => rw [ih]; rfl
theorem tf_callMX {f : FuncId} {fo : Operand} {args : Array Operand} {tys : Array TypeId} {ds : List DV} {ι : Type} {r : ι → DV} {b : Nat} {ty : TypeId} {lo : Bool} {cs : List DV} {cs' : ι → List DV} {L R : List OwnD} (ho : opF fr fo = some (.d (.v (.func (.func f) #[] #[])))) (hv : opFs fr args.toList = some ds) (hF : PMX GB P f ds b ty cs ι r cs') (hu : OSp own b cs ty lo L R) (hd : dstOk n dst = true) :
    TF P GB C n fr own bs ⟨dst, .call ⟨.value fo, args, tys⟩, ty', pos, af, gd⟩ ι (fun x => putF fr dst (.d (r x))) (fun x => L ++ ⟨b, cs' x, ty, lo⟩ :: R) (fun _ => bs) := by
  intro GB' E Φ hgb h G frv ov s
  obtain ⟨vs, h1, h2⟩ := s.fr.ops hv
  obtain ⟨p, q, rfl, hp, hq⟩ := s.ob
  have hlens : ∃ m a1 a2, p = a1 ++ ⟨b, m, ty, lo⟩ :: a2 ∧ IsLs G cs m ∧ ∀ x G' m', GLe G G' → IsLs G' (cs' x) m' → OwnsIs G' (L ++ ⟨b, cs' x, ty, lo⟩ :: R) (a1 ++ ⟨b, m', ty, lo⟩ :: a2) := by
    rw [hu.eq] at hp
    obtain ⟨a1, a2', rfl, h3, m, a2, rfl, h4, h5⟩ := hp.unapp
    exact ⟨m, a1, a2, rfl, h4, fun x G' m' hg hm' => (OwnsIs.up hg h3).app ⟨m', a2, rfl, hm', OwnsIs.up hg h5⟩⟩
  obtain ⟨m, a1, a2, rfl, hm, hk⟩ := hlens
  refine ch_callM (M := [⟨b, m, ty, lo⟩]) (rest := a1 ++ (a2 ++ (q ++ E.own))) (opv_app (s.fr.opv ho)) (opvs_app h1) ?_ (hF G vs m lo (hgb.trans s.gb) h2 hm) hd ?_
  · simp only [List.append_assoc, List.cons_append, List.nil_append]
    exact List.perm_middle
  · rintro v css G' hG _ ⟨x, hr, m', rfl, hm'⟩
    rw [put_app]
    refine st_perm (((a1 ++ ⟨b, m', ty, lo⟩ :: a2) ++ q) ++ E.own) ?_ (h x G' _ _ ⟨s.gb.trans hG.le, (s.fr.up hG.le).put (f := .d (r x)) hr _, _, _, rfl, hk x G' m' hG.le hm', hq.up hG.le⟩)
    simp only [reown, List.zip_cons_cons, List.zip_nil_right, List.map_cons, List.map_nil, List.append_assoc, List.cons_append, List.nil_append]
    exact List.perm_middle.symm
theorem tf_callN {f : FuncId} {fo : Operand} {args : Array Operand} {tys : Array TypeId} {ds : List DV} {ι : Type} {ty : TypeId} {cs : ι → List DV} (ho : opF fr fo = some (.d (.v (.func (.func f) #[] #[])))) (hv : opFs fr args.toList = some ds) (hF : PN GB P f ds ty ι cs) (hd : dstOk n dst = true) :
    TF P GB C n fr own bs ⟨dst, .call ⟨.value fo, args, tys⟩, ty', pos, af, gd⟩ (ι × Nat) (fun x => putF fr dst (.d (.v (.pointer (some ⟨x.2, 0, none⟩))))) (fun x => ⟨x.2, cs x.1, ty, true⟩ :: own) (fun _ => bs) := by
  intro GB' E Φ hgb h G frv ov s
  obtain ⟨vs, h1, h2⟩ := s.fr.ops hv
  obtain ⟨p, q, rfl, hp, hq⟩ := s.ob
  refine ch_callcO (c1 := []) (c2 := []) (M := []) (rest := (p ++ q) ++ E.own) (opv_app (s.fr.opv ho)) (opvs_app h1) (List.Perm.refl _) (by rw [List.nil_append, List.append_nil]; exact hF G vs (hgb.trans s.gb) h2) hd ?_
  rintro _ _ G' hG ⟨x, b, m, rfl, rfl, hm⟩
  rw [put_app]
  exact h (x, b) G' _ (⟨b, m, ty, true⟩ :: (p ++ q)) ⟨s.gb.trans hG.le, (s.fr.up hG.le).put (isF_v.2 rfl) _, ⟨b, m, ty, true⟩ :: p, q, rfl, ⟨m, p, rfl, hm, hp.up hG.le⟩, hq.up hG.le⟩
end
end Go.Sx
end

section
set_option maxRecDepth 100000
namespace Go.Sx
open Go Go.Proofs

theorem Tr.restrict_size : ∀ (t : Tr) (c : CellQ), (t.restrict c).size ≤ t.size
  | .leaf b, c => Nat.le_refl _
  | .node l x y, c => by
    unfold Tr.restrict
    split
    · have := x.restrict_size c; simp only [Tr.size]; omega
    · split
      · have := y.restrict_size c; simp only [Tr.size]; omega
      · have h1 := x.restrict_size (clipC c l)
        have h2 := y.restrict_size (clipC c l.rev)
        rcases Tr.joinQ_cases l (x.restrict (clipC c l)) (y.restrict (clipC c l.rev)) with ⟨h, _⟩ | ⟨h, _⟩
        · rw [h]; simp only [Tr.size]; omega
        · rw [h]; simp only [Tr.size]; omega
theorem isl_ints {G : Gh} : ∀ {ds : List Int} {es : List Value}, IsLs G (ds.map vI) es ↔ es = ds.map (Value.int .i64)
  | [], es => isl_nil
  | d :: t, es => by
    rw [List.map_cons, isl_cons]
    constructor
    · rintro ⟨y, n, rfl, h1, h2⟩
      rw [is_v.1 h1, isl_ints.1 h2]; rfl
    · rintro rfl
      exact ⟨_, _, rfl, is_v.2 rfl, isl_ints.2 rfl⟩
theorem slOkI (ds : List Int) : slOk 1 (ds.map vI) := fun d hd => by
  obtain ⟨n, _, rfl⟩ := List.mem_map.1 hd; exact ⟨rfl, rfl⟩
theorem is_ints {G : Gh} {ds : List Int} {v : Value} : Is G (.sl (ds.map vI)) v ↔ ∃ x : SV, v = .slice x.a x.n x.c ∧ IsSl G 1 x (ds.map (Value.int .i64)) := by
  rw [is_sl]
  constructor
  · rintro ⟨s, x, es, rfl, h1, h2⟩
    have := isl_ints.1 h2
    subst this
    refine ⟨x, rfl, ?_⟩
    rcases sl_stride (s := 1) h1 h2 (slOkI ds) with h | h
    · rw [h] at h1 ⊢
      exact ⟨h1.len, h1.cap, .inl rfl⟩
    · subst h; exact h1
  · rintro ⟨x, rfl, h⟩
    exact ⟨1, x, _, rfl, h, isl_ints.2 rfl⟩
theorem q_New {GB : Gh} {es : List Int} (hb : es.length ≤ 1125899906842624) : PN GB Tryz.prog 9 [.sl (es.map vI)] 93 {x : List Int // x.length ≤ 400} (fun x => [.sl (x.1.map vI), .v (.int .i64 (0 : Nat))]) := by
  intro G vs hg hv
  obtain ⟨v, m, rfl, h1, h2⟩ := isl_cons.1 hv
  rw [isl_nil] at h2; subst h2
  obtain ⟨x, rfl, hx⟩ := is_ints.1 h1
  refine (scene_New hx hb).mono ?_
  rintro _ _ G' hG ⟨b, y, es', rfl, rfl, hy, hl⟩
  exact ⟨⟨es', hl⟩, b, _, rfl, rfl, .cons (is_ints.2 ⟨y, rfl, hy⟩) (.cons (is_v.2 rfl) .nil)⟩
theorem q_Tree {GB : Gh} {es : List Int} (he : es.length ≤ 400) {a d b : Nat} (ha : a ≤ es.length) (hd : d ≤ 100) : PMX GB Tryz.prog 10 [.v (.pointer (some ⟨b, 0, none⟩)), .v (.int .i64 (d : Nat))] b 93 [.sl (es.map vI), .v (.int .i64 (a : Nat))]
    {x : Tr × Nat // x.1.depth ≤ d ∧ x.1.all LnQ.ok ∧ x.1.all (fun l => BL l 32) ∧ x.2 ≤ es.length} (fun x => eT x.1.1) (fun x => [.sl (es.map vI), .v (.int .i64 (x.1.2 : Nat))]) := by
  intro G vs m lo hg hv hm
  obtain ⟨v1, n, rfl, h1, h2⟩ := isl_cons.1 hv
  obtain ⟨v2, n, rfl, h3, h4⟩ := isl_cons.1 h2
  rw [isl_nil] at h4; subst h4
  rw [is_v.1 h1, is_v.1 h3]
  obtain ⟨u1, n, rfl, k1, k2⟩ := isl_cons.1 hm
  obtain ⟨u2, n, rfl, k3, k4⟩ := isl_cons.1 k2
  rw [isl_nil] at k4; subst k4
  rw [is_v.1 k3]
  obtain ⟨x, rfl, hx⟩ := is_ints.1 k1
  refine (Tape_Tree hx he (d := d) (lo := lo) ha hd).mono ?_
  rintro _ css G' hG _ ⟨t, p, a', rfl, hp, h5, h6, h7, rfl⟩
  have : GL G G' := ⟨hG⟩
  exact ⟨⟨(t, a'), h5, h6, isRT_bl hp, h7⟩, isRT_to hp, _, rfl, .cons (is_ints.2 ⟨x, rfl, hx.up⟩) (.cons (is_v.2 rfl) .nil)⟩
theorem q_known17 {GB : Gh} : PF GB Tryz.prog 15 [] (.v (.bool true)) := fun G vs hg hv => by
  rw [isl_nil] at hv; subst hv
  exact law17_known.mono fun v G' _ h => is_v.2 h
section
variable {P : Program} {GB : Gh} {C : Ctx} {n : Nat} {fr : FrF} {own : List OwnD} {bs : List BufD}
variable {dst : Option Nat} {t t' ty' : TypeId} {pos : String} {af : Array Edge} {gd : Option (Nat × Bool)} {x y z : Operand} {e s by_ : Nat}
end
theorem mapN_get {ns : List NQ} {i : Nat} (h : i < ns.length) : (ns.map eN)[(i : Int).toNat]? = some (eN ns[i]) := by simp [h]
end Go.Sx
end

section
set_option maxRecDepth 100000
namespace Go.Sx
open Go Go.Proofs

section
variable {P : Program} {GB : Gh} {C : Ctx} {n : Nat} {fr : FrF} {own : List OwnD} {bs : List BufD}
variable {dst : Option Nat} {t t' ty' : TypeId} {pos : String} {af : Array Edge} {gd : Option (Nat × Bool)} {x y z : Operand}
end
theorem trim_zero {ds : List Nat} {n : Nat} (h : 0 < n ∧ n ≤ ds.length) (hz : ds.getD (n - 1) 0 = 0) : trimD (ds.take n) = trimD (ds.take (n - 1)) := by
  obtain ⟨m, rfl⟩ : ∃ m, n = m + 1 := ⟨n - 1, by omega⟩
  rw [List.take_succ_eq_append_getElem (by omega), Nat.add_sub_cancel]
  rw [Nat.add_sub_cancel, List.getD_eq_getElem?_getD, List.getElem?_eq_getElem (by omega)] at hz
  simp only [Option.getD_some] at hz
  rw [hz, trimD_snoc0]
theorem trim_stop {ds : List Nat} {n : Nat} (h : n ≤ ds.length) (hz : 0 < n → ds.getD (n - 1) 0 ≠ 0) : trimD (ds.take n) = ds.take n := by
  rcases Nat.eq_zero_or_pos n with h0 | h0
  · subst h0; simp [trimD]
  · obtain ⟨m, rfl⟩ : ∃ m, n = m + 1 := ⟨n - 1, by omega⟩
    have hz := hz h0
    rw [List.take_succ_eq_append_getElem (by omega)]
    rw [Nat.add_sub_cancel, List.getD_eq_getElem?_getD, List.getElem?_eq_getElem (by omega)] at hz
    exact trimD_snoc (by simpa using hz)

theorem q_Trim {GB : Gh} {ds : List Nat} (hl : ds.length ≤ 1125899906842624) : PF GB Tryz.prog 138 [dL ds] (dL (trimD ds)) := by
  refine PF.intro Tryz.func138 rfl rfl Tryz.ntmps138 rfl ?_
  intro C
  refine sd_seq <| sd_region <| tY (yq_assign rfl) rfl <| sd_end <| sd_seq <| sd_region <| tY (yq_move rfl) rfl <| tY (yq_len rfl) rfl <| tY (yq_assign rfl) rfl <| sd_end <| sd_seq <| ?_
  refine sd_block <| ?_
  refine sd_loop (X := Nat) (fun x => [(0, .d (dL ds)), (3, .d (vI (x : Nat)))]) (fun x => []) (fun x => []) (fun x => x ≤ ds.length ∧ trimD ds = trimD (ds.take x)) (fun x => x) ds.length ⟨Nat.le_refl _, by rw [List.take_length]⟩ (by repeat (first | exact .nil | refine .cons rfl ?_ | refine .cons' rfl (by first | (simp [vI]; done) | (congr 3; omega) | (simp [vI]; omega)) ?_)) rfl rfl ?_
  rintro GB1 hGB1 n ⟨h1, h2⟩
  try dsimp only at *
  refine sd_seq <| sd_seq <| sd_region <| tY (yq_move rfl) rfl <| tY (yq_gtr rfl rfl) rfl <| tY (yq_move rfl) rfl <| ?_
  refine sd_caseP 8 rfl (fun hg8 => ?_) (fun hg8 => ?_)
  ·
    refine tYg rfl rfl (yq_move rfl) rfl <| tYg rfl rfl (yq_move rfl) rfl <| tYg rfl rfl (yq_sub64 rfl rfl (by omega) (by omega)) rfl <| tYg rfl rfl (yq_ix rfl rfl (by omega) (mapU_getZ (k := n - 1) (by omega) (by omega)) rfl rfl) rfl <| ?_
    refine tYg rfl rfl (yq_ldE1 rfl rfl) rfl <| tYg rfl rfl (yq_eql rfl rfl) rfl <| tY (yq_pickT rfl rfl) rfl <| sd_end <| ?_
    refine sd_condP rfl (fun hc15 => ?_) (fun hc15 => ?_)
    ·
      have hz : ds.getD (n - 1) 0 = 0 := by omega
      refine sd_skipc <| sd_block <| sd_region <| tY (yq_move rfl) rfl <| tY (yq_sub64 rfl rfl (by omega) (by omega)) rfl <| tY (yq_assign rfl) rfl <| sd_end <| ?_
      exact sd_again (n - 1) ⟨by omega, by rw [h2, trim_zero (by omega) hz]⟩ (by omega) (by repeat (first | exact .nil | refine .cons rfl ?_ | refine .cons' rfl (by first | (simp [vI]; done) | (congr 3; omega) | (simp [vI]; omega)) ?_)) rfl rfl
    ·
      refine sd_exit <| sd_ts <| sd_te <| sd_inBlock_eq <| sd_seq <| sd_region <| tY (yq_move rfl) rfl <| tY (yq_move rfl) rfl <| tY (yq_slice (nlo := 0) (nhi := n) rfl (slOkU _) rfl rfl trivial (by omega) (by simp; omega)) rfl <| ?_
      refine tY (yq_assign rfl) rfl <| sd_end <| sd_ret <| ?_
      exact sd_done (.tmp rfl .nil) (by have := trim_stop h1 (fun _ h => hc15 (by omega)); rw [← h2] at this; show DV.sl _ = _; simp [dL, this])
  refine tS rfl rfl rfl rfl <| tS rfl rfl rfl rfl <| tS rfl rfl rfl rfl <| tS rfl rfl rfl rfl <| tS rfl rfl rfl rfl <| tS rfl rfl rfl rfl <| tY (yq_pickF rfl rfl) rfl <| sd_end <| sd_condF rfl <| ?_
  refine sd_exit <| sd_ts <| sd_te <| sd_inBlock_eq <| sd_seq <| sd_region <| tY (yq_move rfl) rfl <| tY (yq_move rfl) rfl <| tY (yq_slice (nlo := 0) (nhi := n) rfl (slOkU _) rfl rfl trivial (by omega) (by simp; omega)) rfl <| ?_
  refine tY (yq_assign rfl) rfl <| sd_end <| sd_ret <| ?_
  exact sd_done (.tmp rfl .nil) (by obtain rfl : n = 0 := (by omega); show DV.sl _ = _; simp [dL, h2, trimD])
end Go.Sx
end

section
set_option maxRecDepth 100000
namespace Go.Sx
open Go Go.Proofs

theorem dv_dg (a : Nat) : dv (dg a) = a := (dg_spec a).1
theorem dg_ok (a : Nat) : DOk (dg a) := (dg_spec a).2.1
theorem mapU_len (ds : List Nat) : (ds.map dU).length = ds.length := List.length_map ..
theorem dL_trim {ds : List Nat} {n : Nat} (h : DOk ds) (e : dv ds = n) : dL (trimD ds) = dN n := by rw [dL_dv h, e]
theorem cmpN_lt {a b : Nat} (h : a < b) : cmpN a b = -1 := by unfold cmpN; rw [if_pos h]
theorem cmpN_gt {a b : Nat} (h : b < a) : cmpN a b = 1 := by unfold cmpN; rw [if_neg (by omega), if_neg (by omega)]
theorem cmpN_eq {a b : Nat} (h : a = b) : cmpN a b = 0 := by unfold cmpN; rw [if_neg (by omega), if_pos h]
theorem sign_subN (m n : Nat) : Int.sign ((m : Int) - n) = cmpN m n := by
  unfold cmpN
  split
  · exact Int.sign_eq_neg_one_of_neg (by omega)
  · split
    · rw [show (m : Int) - n = 0 by omega]; rfl
    · exact Int.sign_eq_one_of_pos (by omega)
theorem cmpN_len {a b : Nat} (h : (dg a).length ≠ (dg b).length) : cmpN (dg a).length (dg b).length = cmpN a b := by
  rcases Nat.lt_or_gt_of_ne h with h | h
  · have := dv_len_lt (dg_ok a) (dg_spec b).2.2 h
    rw [dv_dg, dv_dg] at this
    rw [cmpN_lt h, cmpN_lt this]
  · have := dv_len_lt (dg_ok b) (dg_spec a).2.2 h
    rw [dv_dg, dv_dg] at this
    rw [cmpN_gt h, cmpN_gt this]
theorem cmp_dig {a b i : Nat} (hl : (dg a).length = (dg b).length) (hi : i < (dg a).length) (hs : (dg a).drop (i + 1) = (dg b).drop (i + 1)) :
    ((dg a).getD i 0 < (dg b).getD i 0 → a < b) ∧ ((dg b).getD i 0 < (dg a).getD i 0 → b < a) ∧ ((dg a).getD i 0 = (dg b).getD i 0 → (dg a).drop i = (dg b).drop i) := by
  refine ⟨fun h => ?_, fun h => ?_, fun h => ?_⟩
  · have := dv_cmp (dg_ok a) (dg_ok b) i hi (by omega) hl hs h
    rwa [dv_dg, dv_dg] at this
  · have := dv_cmp (dg_ok b) (dg_ok a) i (by omega) hi hl.symm hs.symm h
    rwa [dv_dg, dv_dg] at this
  · rw [List.drop_eq_getElem_cons hi, List.drop_eq_getElem_cons (by omega : i < (dg b).length), hs]
    rw [List.getD_eq_getElem?_getD, List.getD_eq_getElem?_getD, List.getElem?_eq_getElem hi, List.getElem?_eq_getElem (by omega : i < (dg b).length)] at h
    simp only [Option.getD_some] at h
    rw [h]

theorem q_sign {GB : Gh} {z : Int} : PF GB Tryz.prog 122 [vI z] (vI z.sign) := by
  refine PF.intro Tryz.func122 rfl rfl Tryz.ntmps122 rfl ?_
  intro C
  refine sd_seq <| sd_region <| tY (yq_assign rfl) rfl <| sd_end <| sd_seq <| sd_seq <| sd_region <| tY (yq_move rfl) rfl <| tY (yq_gtr rfl rfl) rfl <| sd_end <| ?_
  refine sd_condP rfl (fun hc4 => ?_) (fun hc4 => ?_)
  ·
    refine sd_seq <| sd_region <| tY (yq_assign rfl) rfl <| sd_end <| sd_ret <| ?_
    exact sd_done (.tmp rfl .nil) (by show DV.v (.int _ 1) = DV.v (.int _ _); rw [Int.sign_eq_one_of_pos (by omega)])
  ·
    refine sd_skipc <| sd_seq <| sd_seq <| sd_region <| tY (yq_move rfl) rfl <| tY (yq_lss rfl rfl) rfl <| sd_end <| ?_
    refine sd_condP rfl (fun hc6 => ?_) (fun hc6 => ?_)
    ·
      refine sd_seq <| sd_region <| tY (yq_assign rfl) rfl <| sd_end <| sd_ret <| ?_
      exact sd_done (.tmp rfl .nil) (by show DV.v (.int _ (-1)) = DV.v (.int _ _); rw [Int.sign_eq_neg_one_of_neg (by omega)])
    ·
      refine sd_skipc <| sd_seq <| sd_region <| tY (yq_assign rfl) rfl <| sd_end <| sd_ret <| ?_
      exact sd_done (.tmp rfl .nil) (by show DV.v (.int _ 0) = DV.v (.int _ _); rw [show z = 0 by omega]; rfl)
theorem u64_split (u : Nat) : dv [u % 4294967296, u / 4294967296] = u := by simp only [dv]; omega
theorem u64_ok {u : Nat} (h : u < 18446744073709551616) : DOk [u % 4294967296, u / 4294967296] := .cons (by omega) (.cons (by omega) .nil)
theorem fdiv32 (u : Nat) : (u : Int).fdiv (2 ^ min (32 : Int).toNat IntKind.u64.bits) = ((u / 4294967296 : Nat) : Int) := by
  rw [show (2 : Int) ^ min (32 : Int).toNat IntKind.u64.bits = ((4294967296 : Nat) : Int) from rfl, Int.fdiv_eq_ediv_of_nonneg _ (by decide)]; rfl

theorem q_Word {GB : Gh} {u : Nat} (hu : u < 18446744073709551616) : PF GB Tryz.prog 114 [.v (.int .u64 (u : Int))] (dN u) := by
  refine PF.intro Tryz.func114 rfl rfl Tryz.ntmps114 rfl ?_
  intro C
  refine sd_seq <| sd_region <| tY (yq_assign rfl) rfl <| sd_end <| sd_seq <| sd_region <| tY (yq_move rfl) rfl <| tY (yq_toU32 rfl) rfl <| tY (yq_move rfl) rfl <| tY (yq_shr rfl rfl (by decide)) rfl <| ?_
  refine sd_eq 6 (.d (.v (.int .u64 (u / 4294967296 : Nat)))) rfl (by rw [fdiv32]) ?_
  refine tY (yq_toU32 rfl) rfl <| tC (td_rowF rfl rfl rfl rfl rfl rfl rfl) <| ?_
  refine sd_eq 8 (.d (dL [u % 4294967296, u / 4294967296])) rfl (by show FV.d (.sl [.v (.int _ _), .v (.int _ _)]) = .d (.sl [.v (.int _ _), .v (.int _ _)]); congr 6; omega) ?_
  refine tC (td_call rfl rfl (q_Trim (ds := [u % 4294967296, u / 4294967296]) (by simp)) rfl) <| tY (yq_assign rfl) rfl <| sd_end <| sd_ret <| ?_
  exact sd_done (.tmp rfl .nil) (dL_trim (u64_ok hu) (u64_split u))
theorem q_One {GB : Gh}  : PF GB Tryz.prog 75 [] (dN 1) := by
  refine PF.intro Tryz.func75 rfl rfl Tryz.ntmps75 rfl ?_
  intro C
  refine sd_seq <| sd_region <| tY (yq_assign rfl) rfl <| sd_end <| sd_seq <| sd_region <| tC (td_rowF rfl rfl rfl rfl rfl rfl rfl) <| tY (yq_assign rfl) rfl <| sd_end <| sd_ret <| ?_
  exact sd_done (.tmp rfl .nil) (by unfold dN; rw [dg_one]; rfl)
theorem q_Cmp {GB : Gh} {a b : Nat} (ha : (dg a).length ≤ 100000000) (hb : (dg b).length ≤ 100000000) : PF GB Tryz.prog 74 [dN a, dN b] (vI (cmpN a b)) := by
  refine PF.intro Tryz.func74 rfl rfl Tryz.ntmps74 rfl ?_
  intro C
  have hla := mapU_len (dg a)
  have hlb := mapU_len (dg b)
  refine sd_seq <| sd_region <| tY (yq_assign rfl) rfl <| sd_end <| sd_seq <| sd_seq <| sd_region <| tY (yq_move rfl) rfl <| tY (yq_len rfl) rfl <| tY (yq_move rfl) rfl <| tY (yq_len rfl) rfl <| ?_
  refine tY (yq_neq rfl rfl) rfl <| sd_end <| ?_
  refine sd_condP rfl (fun hc10 => ?_) (fun hc10 => ?_)
  ·
    refine sd_seq <| sd_region <| tY (yq_move rfl) rfl <| tY (yq_len rfl) rfl <| tY (yq_move rfl) rfl <| tY (yq_len rfl) rfl <| tY (yq_sub64 rfl rfl (by omega) (by omega)) rfl <| tC (td_call rfl rfl (q_sign) rfl) <| ?_
    refine tY (yq_assign rfl) rfl <| sd_end <| sd_ret <| ?_
    exact sd_done (.tmp rfl .nil) (by show DV.v (.int _ _) = DV.v (.int _ _); rw [hla, hlb, sign_subN, cmpN_len (by omega)])
  ·
    have hl : (dg a).length = (dg b).length := by omega
    refine sd_skipc <| sd_seq <| sd_seq <| sd_region <| tY (yq_move rfl) rfl <| tY (yq_len rfl) rfl <| tY (yq_sub64 rfl rfl (by omega) (by omega)) rfl <| tY (yq_assign rfl) rfl <| sd_end <| ?_
    refine sd_block <| ?_
    refine sd_loop (X := Nat) (fun x => [(0, .d (dN a)), (1, .d (dN b)), (5, .d (vI ((x : Nat) - 1)))]) (fun x => []) (fun x => []) (fun x => x ≤ (dg a).length ∧ (dg a).drop x = (dg b).drop x) (fun x => x) (dg a).length ⟨Nat.le_refl _, by rw [List.drop_length, hl, List.drop_length]⟩ (by repeat (first | exact .nil | refine .cons rfl ?_ | refine .cons' rfl (by first | (simp [vI]; done) | (congr 3; omega) | (simp [vI]; omega)) ?_)) rfl rfl ?_
    rintro GB1 hGB1 k ⟨h1, h2⟩
    try dsimp only at *
    refine sd_seq <| sd_seq <| sd_region <| tY (yq_move rfl) rfl <| tY (yq_geq rfl rfl) rfl <| sd_end <| ?_
    refine sd_condP rfl (fun hc21 => ?_) (fun hc21 => ?_)
    ·
      obtain ⟨k, rfl⟩ : ∃ m, k = m + 1 := ⟨k - 1, by omega⟩
      refine sd_skipc <| sd_seq <| sd_block <| sd_seq <| sd_seq <| ?_
      refine drX (own0 := _) (own1 := []) (bs0 := []) (bs1 := _) [] [(0, true), (1, true), (2, true), (3, true), (4, true), (5, true), (6, true), (7, true), (8, true)] [] follows (by rw [List.append_nil]) (List.Perm.refl _) (by kernel_rfl) ?_
      refine dyX rfl (yq_move rfl) rfl <| ?_
      refine dyX rfl (yq_move rfl) rfl <| ?_
      refine dyX rfl (yq_ix rfl rfl (by omega) (mapU_getZ (k := k) (by omega) (by omega)) rfl rfl) rfl <| ?_
      refine dyX rfl (yq_ldE1 rfl rfl) rfl <| ?_
      refine dyX rfl (yq_move rfl) rfl <| ?_
      refine dyX rfl (yq_move rfl) rfl <| ?_
      refine dyX rfl (yq_ix rfl rfl (by omega) (mapU_getZ (k := k) (by omega) (by omega)) rfl rfl) rfl <| ?_
      refine dyX rfl (yq_ldE1 rfl rfl) rfl <| ?_
      refine dyX rfl (yq_gtr rfl rfl) rfl <| ?_
      refine outX0 <| onX <| outX0 <| dnX <| ?_
      simp only [List.nil_append, List.append_nil, List.cons_append]
      refine sd_condP rfl (fun hc32 => ?_) (fun hc32 => ?_)
      ·
        refine sd_seq <| sd_region <| tY (yq_assign rfl) rfl <| sd_end <| sd_ret <| ?_
        exact sd_done (.tmp rfl .nil) (by show DV.v (.int _ 1) = DV.v (.int _ _); rw [cmpN_gt ((cmp_dig hl (by omega) h2).2.1 (by omega))])
      ·
        refine sd_skipc <| sd_seq <| ?_
        refine drX (own0 := _) (own1 := []) (bs0 := []) (bs1 := _) [] [(0, true), (1, true), (2, true), (3, true), (4, true), (5, true), (6, true), (7, true), (8, true)] [] follows (by rw [List.append_nil]) (List.Perm.refl _) (by kernel_rfl) ?_
        refine dyX rfl (yq_move rfl) rfl <| ?_
        refine dyX rfl (yq_move rfl) rfl <| ?_
        refine dyX rfl (yq_ix rfl rfl (by omega) (mapU_getZ (k := k) (by omega) (by omega)) rfl rfl) rfl <| ?_
        refine dyX rfl (yq_ldE1 rfl rfl) rfl <| ?_
        refine dyX rfl (yq_move rfl) rfl <| ?_
        refine dyX rfl (yq_move rfl) rfl <| ?_
        refine dyX rfl (yq_ix rfl rfl (by omega) (mapU_getZ (k := k) (by omega) (by omega)) rfl rfl) rfl <| ?_
        refine dyX rfl (yq_ldE1 rfl rfl) rfl <| ?_
        refine dyX rfl (yq_lss rfl rfl) rfl <| ?_
        refine outX0 <| onX <| outX0 <| dnX <| ?_
        simp only [List.nil_append, List.append_nil, List.cons_append]
        refine sd_condP rfl (fun hc41 => ?_) (fun hc41 => ?_)
        ·
          refine sd_seq <| sd_region <| tY (yq_assign rfl) rfl <| sd_end <| sd_ret <| ?_
          exact sd_done (.tmp rfl .nil) (by show DV.v (.int _ (-1)) = DV.v (.int _ _); rw [cmpN_lt ((cmp_dig hl (by omega) h2).1 (by omega))])
        ·
          refine sd_skipc <| sd_region <| tY (yq_move rfl) rfl <| tY (yq_sub64 rfl rfl (by omega) (by omega)) rfl <| tY (yq_assign rfl) rfl <| sd_end <| ?_
          exact sd_again k ⟨by omega, (cmp_dig (i := k) hl (by omega) h2).2.2 (by omega)⟩ (by omega) (by repeat (first | exact .nil | refine .cons rfl ?_ | refine .cons' rfl (by first | (simp [vI]; done) | (congr 3; omega) | (simp [vI]; omega)) ?_)) rfl rfl
    ·
      refine sd_exit <| sd_ts <| sd_te <| sd_inBlock_eq <| sd_seq <| sd_region <| tY (yq_assign rfl) rfl <| sd_end <| sd_ret <| ?_
      exact sd_done (.tmp rfl .nil) (by show DV.v (.int _ 0) = DV.v (.int _ _); rw [cmpN_eq]; obtain rfl : k = 0 := (by omega); rw [List.drop_zero, List.drop_zero] at h2; rw [← dv_dg a, h2, dv_dg])
end Go.Sx
end
