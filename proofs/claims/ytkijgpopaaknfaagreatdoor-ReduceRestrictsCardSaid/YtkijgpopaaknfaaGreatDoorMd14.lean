/-
  Package bsp: trees in memory; Leaf, New, Join, Restrict, Reduce, Depth. Package bsp: the reader of trees. Package bsp: Of, and lines in the form of package api. Package bsp: trees written for package api. Package bsp: Parts; package reduce: read, Reduce; package cells: parts. Package cells: All. Trees, nodes and lines as deep values; bridges to what was shown before. Package bsp: Of, for nodes in any order.
-/
import Derived.Test.YtkijgpopaaknfaaGreatDoorMd13
set_option linter.unusedSimpArgs false
set_option linter.unusedVariables false
section
set_option maxRecDepth 100000
namespace Go.Sx
open Go Go.Proofs
def IsT (k : Nat) (G : Gh) : Tr → Option Addr → Prop
 | .leaf b, p => ∃ n, p = some ⟨n, 0, none⟩ ∧ G n = some [.int .i64 0, .int .i64 0, .pointer none, .int .i64 0, .int .i64 0, .pointer none, .int .i64 0, .int .i64 0, .pointer none, .pointer none, .pointer none, .bool b]
 | .node l x y, p => ∃ (n : Nat) (z : LV) (q r : Option Addr), p = some ⟨n, 0, none⟩ ∧ G n = some [.int .i64 z.a.n, .int .i64 z.a.d, .pointer z.a.p, .int .i64 z.b.n, .int .i64 z.b.d, .pointer z.b.p, .int .i64 z.c.n, .int .i64 z.c.d, .pointer z.c.p, .pointer q, .pointer r, .bool false] ∧ IsL k G z l ∧ IsT k G x q ∧ IsT k G y r
theorem IsT.up {k : Nat} {A G : Gh} [hl : GL A G] : ∀ {t : Tr} {p : Option Addr}, IsT k A t p → IsT k G t p
 | .leaf b, p, ⟨n, h1, h2⟩ => ⟨n, h1, hl.le _ _ h2⟩
 | .node l x y, p, ⟨n, z, q, r, h1, h2, h3, h4, h5⟩ => ⟨n, z, q, r, h1, hl.le _ _ h2, h3.up, h4.up, h5.up⟩
theorem IsT.some {k : Nat} {G : Gh} : ∀ {t : Tr} {p : Option Addr}, IsT k G t p → ∃ n, p = some ⟨n, 0, none⟩
 | .leaf _, _, ⟨n, h, _⟩ => ⟨n, h⟩
 | .node .., _, ⟨n, _, _, _, h, _⟩ => ⟨n, h⟩
theorem T_IsLeaf {A G : Gh} {t : Tr} {p : Option Addr} {k : Nat} (h : IsT k A t p) [hl : GL A G] : Fn Tryz.prog 105 [.pointer p] G (fun v _ => v = .bool t.isLeaf) := by
 cases t with
 | leaf b =>
   obtain ⟨n, rfl, hg⟩ := h
   have hG : GHas A n _ := ⟨hg⟩
   refine Fn.intro Tryz.func105 rfl rfl Tryz.ntmps105 rfl ?_
   intro C _ _
   refine sR <| sa rfl rfl <| zE <| sR <| sm rfl rfl <| sn rfl rfl <| sf rfl rfl <| slg1 rfl rfl rfl <| sy (yd_eqP rfl rfl) rfl <| sa rfl rfl <| zE <| st_ret <| ?_
   exact zD (.tmp rfl .nil) rfl
 | node l x y =>
   obtain ⟨n, z, q, r, rfl, hg, hz, hx, hy⟩ := h
   obtain ⟨m, rfl⟩ := hx.some
   have hG : GHas A n _ := ⟨hg⟩
   refine Fn.intro Tryz.func105 rfl rfl Tryz.ntmps105 rfl ?_
   intro C _ _
   refine sR <| sa rfl rfl <| zE <| sR <| sm rfl rfl <| sn rfl rfl <| sf rfl rfl <| slg1 rfl rfl rfl <| sy (yd_eqP rfl rfl) rfl <| sa rfl rfl <| zE <| st_ret <| ?_
   exact zD (.tmp rfl .nil) rfl
theorem T_Leaf {G : Gh} {b : Bool} {k : Nat} : Fn Tryz.prog 133 [.bool b] G (fun v G' => ∃ p, v = .pointer p ∧ IsT k G' (.leaf b) p) := by
 refine Fn.intro Tryz.func133 rfl rfl Tryz.ntmps133 rfl ?_
 intro C _ _
 refine sR <| sa rfl rfl <| zE <| sR <| sm rfl rfl <| sy (yd_build rfl) rfl <| ?_
 refine sc (ch_box rfl rfl ?_)
 intro b1
 refine sa rfl rfl <| zE <| st_ret <| ?_
 refine st_freeze b1 (.hd ..) ?_
 intro G9 _ hfz
 exact zD (.tmp rfl .nil) ⟨_, rfl, b1, rfl, hfz.h⟩
theorem T_New {A B D G : Gh} {z : LV} {l : LnQ} {x y : Tr} {q r : Option Addr} {k : Nat} (hz : IsL k A z l) (hx : IsT k B x q) (hy : IsT k D y r) [GL A G] [GL B G] [GL D G] : Fn Tryz.prog 134 [.agg ⟨[.int .i64 z.a.n, .int .i64 z.a.d, .pointer z.a.p, .int .i64 z.b.n, .int .i64 z.b.d, .pointer z.b.p, .int .i64 z.c.n, .int .i64 z.c.d, .pointer z.c.p]⟩, .pointer q, .pointer r] G (fun v G' => ∃ p, v = .pointer p ∧ IsT k G' (.node l x y) p) := by
 refine Fn.intro Tryz.func134 rfl rfl Tryz.ntmps134 rfl ?_
 intro C _ _
 refine sR <| ?_
 refine sc (ch_box rfl rfl ?_)
 intro b1
 refine sa rfl rfl <| zE <| sR <| slo rfl rfl rfl <| sm rfl rfl <| sm rfl rfl <| sy (yd_build rfl) rfl <| ?_
 refine sc (ch_box rfl rfl ?_)
 intro b2
 refine sa rfl rfl <| zE <| st_ret <| ?_
 refine st_freeze b2 (.hd ..) ?_
 intro G9 _ hfz
 exact zD (.tmp rfl .nil) ⟨_, rfl, b2, z, q, r, rfl, hfz.h, hz.up, hx.up, hy.up⟩
set_option maxHeartbeats 1000000 in
theorem T_Join {A B D G : Gh} {z : LV} {l : LnQ} {x y : Tr} {q r : Option Addr} {k : Nat} (hz : IsL k A z l) (hx : IsT k B x q) (hy : IsT k D y r) [GL A G] [GL B G] [GL D G] : Fn Tryz.prog 106 [.agg ⟨[.int .i64 z.a.n, .int .i64 z.a.d, .pointer z.a.p, .int .i64 z.b.n, .int .i64 z.b.d, .pointer z.b.p, .int .i64 z.c.n, .int .i64 z.c.d, .pointer z.c.p]⟩, .pointer q, .pointer r] G (fun v G' => ∃ p, v = .pointer p ∧ IsT k G' (Tr.joinQ l x y) p) := by
 have hx0 := hx
 cases x with
 | node l1 x1 y1 =>
   refine Fn.intro Tryz.func106 rfl rfl Tryz.ntmps106 rfl ?_
   intro C _ _
   refine sR <| ?_
   refine sc (ch_box rfl rfl ?_)
   intro b1
   refine sa rfl rfl <| zE <| st_seq <| st_seq <| dr (fun _ => false) [(0, true), (1, false), (2, true), (3, true), (4, false), (5, true), (6, true), (7, true), (8, true), (9, true), (10, true), (11, true), (12, true), (13, true), (14, true), (15, true), (16, true)] follows (by kernel_rfl) <| ?_
   refine dM rfl rfl rfl <| ?_
   refine dc rfl rfl (zC rfl rfl (T_IsLeaf hx) rfl ?_)
   rintro _ G2 _ rfl
   refine dr_s <| dM rfl rfl rfl <| dys rfl rfl rfl rfl rfl rfl <| dcs rfl rfl rfl rfl rfl rfl <| dr_s <| dy rfl (fun _ => yd_pickF rfl rfl) rfl rfl <| dM rfl rfl rfl <| ?_
   refine dys rfl rfl rfl rfl rfl rfl <| dys rfl rfl rfl rfl rfl rfl <| dys rfl rfl rfl rfl rfl rfl <| dys rfl rfl rfl rfl rfl rfl <| dys rfl rfl rfl rfl rfl rfl <| dys rfl rfl rfl rfl rfl rfl <| ?_
   refine dys rfl rfl rfl rfl rfl rfl <| dys rfl rfl rfl rfl rfl rfl <| dys rfl rfl rfl rfl rfl rfl <| dy rfl (fun _ => yd_pickF rfl rfl) rfl rfl <| dn <| st_condF rfl <| zK <| sR <| ?_
   refine slo rfl rfl rfl <| sm rfl rfl <| sm rfl rfl <| ?_
   refine sc (zC rfl rfl (T_New hz hx hy) rfl ?_)
   rintro _ G3 _ ⟨p, rfl, hp⟩
   refine sa rfl rfl <| zE <| st_ret <| ?_
   exact zD (.tmp rfl .nil) ⟨p, rfl, hp⟩
 | leaf a =>
   cases y with
   | node l1 x1 y1 =>
     refine Fn.intro Tryz.func106 rfl rfl Tryz.ntmps106 rfl ?_
     intro C _ _
     refine sR <| ?_
     refine sc (ch_box rfl rfl ?_)
     intro b1
     refine sa rfl rfl <| zE <| st_seq <| st_seq <| dr (fun _ => false) [(0, true), (1, false), (2, true), (3, true), (4, false), (5, true), (6, true), (7, true), (8, true), (9, true), (10, true), (11, true), (12, true), (13, true), (14, true), (15, true), (16, true)] follows (by kernel_rfl) <| ?_
     refine dM rfl rfl rfl <| ?_
     refine dc rfl rfl (zC rfl rfl (T_IsLeaf hx) rfl ?_)
     rintro _ G2 _ rfl
     refine dr_s <| dM rfl rfl rfl <| dyg rfl rfl rfl rfl (fun _ => yd_move rfl) rfl <| ?_
     refine dcg rfl rfl rfl rfl (zC rfl rfl (T_IsLeaf hy) rfl ?_)
     rintro _ G3 _ rfl
     refine dr_s <| dy rfl (fun _ => yd_pickT rfl rfl) rfl rfl <| dM rfl rfl rfl <| dys rfl rfl rfl rfl rfl rfl <| dys rfl rfl rfl rfl rfl rfl <| dys rfl rfl rfl rfl rfl rfl <| ?_
     refine dys rfl rfl rfl rfl rfl rfl <| dys rfl rfl rfl rfl rfl rfl <| dys rfl rfl rfl rfl rfl rfl <| dys rfl rfl rfl rfl rfl rfl <| dys rfl rfl rfl rfl rfl rfl <| dys rfl rfl rfl rfl rfl rfl <| ?_
     refine dy rfl (fun _ => yd_pickF rfl rfl) rfl rfl <| dn <| st_condF rfl <| zK <| sR <| slo rfl rfl rfl <| sm rfl rfl <| sm rfl rfl <| ?_
     refine sc (zC rfl rfl (T_New hz hx hy) rfl ?_)
     rintro _ G4 _ ⟨p, rfl, hp⟩
     refine sa rfl rfl <| zE <| st_ret <| ?_
     exact zD (.tmp rfl .nil) ⟨p, rfl, hp⟩
   | leaf b =>
     obtain ⟨n, rfl, hg⟩ := hx0
     obtain ⟨m, rfl, hg2⟩ := id hy
     have hG : GHas B n _ := ⟨hg⟩
     have hG2 : GHas D m _ := ⟨hg2⟩
     cases a <;> cases b
     case leaf.leaf.false.false =>
       refine Fn.intro Tryz.func106 rfl rfl Tryz.ntmps106 rfl ?_
       intro C _ _
       refine sR <| ?_
       refine sc (ch_box rfl rfl ?_)
       intro b1
       refine sa rfl rfl <| zE <| st_seq <| st_seq <| dr (fun _ => false) [(0, true), (1, false), (2, true), (3, true), (4, false), (5, true), (6, true), (7, true), (8, true), (9, true), (10, true), (11, true), (12, true), (13, true), (14, true), (15, true), (16, true)] follows (by kernel_rfl) <| ?_
       refine dM rfl rfl rfl <| ?_
       refine dc rfl rfl (zC rfl rfl (T_IsLeaf hx) rfl ?_)
       rintro _ G2 _ rfl
       refine dr_s <| dM rfl rfl rfl <| dyg rfl rfl rfl rfl (fun _ => yd_move rfl) rfl <| ?_
       refine dcg rfl rfl rfl rfl (zC rfl rfl (T_IsLeaf hy) rfl ?_)
       rintro _ G3 _ rfl
       refine dr_s <| dy rfl (fun _ => yd_pickT rfl rfl) rfl rfl <| dM rfl rfl rfl <| dyg rfl rfl rfl rfl (fun _ => yd_move rfl) rfl <| dyg rfl rfl rfl rfl (fun _ => yd_nilCheck rfl) rfl <| ?_
       refine dyg rfl rfl rfl rfl (fun _ => yd_fieldAddr rfl) rfl <| dyg rfl rfl rfl rfl (fun _ => yd_load_gh1 rfl ghi rfl) rfl <| dyg rfl rfl rfl rfl (fun _ => yd_move rfl) rfl <| dyg rfl rfl rfl rfl (fun _ => yd_nilCheck rfl) rfl <| ?_
       refine dyg rfl rfl rfl rfl (fun _ => yd_fieldAddr rfl) rfl <| dyg rfl rfl rfl rfl (fun _ => yd_load_gh1 rfl ghi rfl) rfl <| dyg rfl rfl rfl rfl (fun _ => yd_eqB rfl rfl) rfl <| dy rfl (fun _ => yd_pickT rfl rfl) rfl rfl <| ?_
       refine dn <| st_condT rfl <| sR <| sm rfl rfl <| sa rfl rfl <| zE <| st_ret <| ?_
       exact zD (.tmp rfl .nil) ⟨_, rfl, hx.up⟩
     case leaf.leaf.false.true =>
       refine Fn.intro Tryz.func106 rfl rfl Tryz.ntmps106 rfl ?_
       intro C _ _
       refine sR <| ?_
       refine sc (ch_box rfl rfl ?_)
       intro b1
       refine sa rfl rfl <| zE <| st_seq <| st_seq <| dr (fun _ => false) [(0, true), (1, false), (2, true), (3, true), (4, false), (5, true), (6, true), (7, true), (8, true), (9, true), (10, true), (11, true), (12, true), (13, true), (14, true), (15, true), (16, true)] follows (by kernel_rfl) <| ?_
       refine dM rfl rfl rfl <| ?_
       refine dc rfl rfl (zC rfl rfl (T_IsLeaf hx) rfl ?_)
       rintro _ G2 _ rfl
       refine dr_s <| dM rfl rfl rfl <| dyg rfl rfl rfl rfl (fun _ => yd_move rfl) rfl <| ?_
       refine dcg rfl rfl rfl rfl (zC rfl rfl (T_IsLeaf hy) rfl ?_)
       rintro _ G3 _ rfl
       refine dr_s <| dy rfl (fun _ => yd_pickT rfl rfl) rfl rfl <| dM rfl rfl rfl <| dyg rfl rfl rfl rfl (fun _ => yd_move rfl) rfl <| dyg rfl rfl rfl rfl (fun _ => yd_nilCheck rfl) rfl <| ?_
       refine dyg rfl rfl rfl rfl (fun _ => yd_fieldAddr rfl) rfl <| dyg rfl rfl rfl rfl (fun _ => yd_load_gh1 rfl ghi rfl) rfl <| dyg rfl rfl rfl rfl (fun _ => yd_move rfl) rfl <| dyg rfl rfl rfl rfl (fun _ => yd_nilCheck rfl) rfl <| ?_
       refine dyg rfl rfl rfl rfl (fun _ => yd_fieldAddr rfl) rfl <| dyg rfl rfl rfl rfl (fun _ => yd_load_gh1 rfl ghi rfl) rfl <| dyg rfl rfl rfl rfl (fun _ => yd_eqB rfl rfl) rfl <| dy rfl (fun _ => yd_pickT rfl rfl) rfl rfl <| ?_
       refine dn <| st_condF rfl <| zK <| sR <| slo rfl rfl rfl <| sm rfl rfl <| sm rfl rfl <| ?_
       refine sc (zC rfl rfl (T_New hz hx hy) rfl ?_)
       rintro _ G4 _ ⟨p, rfl, hp⟩
       refine sa rfl rfl <| zE <| st_ret <| ?_
       exact zD (.tmp rfl .nil) ⟨p, rfl, hp⟩
     case leaf.leaf.true.false =>
       refine Fn.intro Tryz.func106 rfl rfl Tryz.ntmps106 rfl ?_
       intro C _ _
       refine sR <| ?_
       refine sc (ch_box rfl rfl ?_)
       intro b1
       refine sa rfl rfl <| zE <| st_seq <| st_seq <| dr (fun _ => false) [(0, true), (1, false), (2, true), (3, true), (4, false), (5, true), (6, true), (7, true), (8, true), (9, true), (10, true), (11, true), (12, true), (13, true), (14, true), (15, true), (16, true)] follows (by kernel_rfl) <| ?_
       refine dM rfl rfl rfl <| ?_
       refine dc rfl rfl (zC rfl rfl (T_IsLeaf hx) rfl ?_)
       rintro _ G2 _ rfl
       refine dr_s <| dM rfl rfl rfl <| dyg rfl rfl rfl rfl (fun _ => yd_move rfl) rfl <| ?_
       refine dcg rfl rfl rfl rfl (zC rfl rfl (T_IsLeaf hy) rfl ?_)
       rintro _ G3 _ rfl
       refine dr_s <| dy rfl (fun _ => yd_pickT rfl rfl) rfl rfl <| dM rfl rfl rfl <| dyg rfl rfl rfl rfl (fun _ => yd_move rfl) rfl <| dyg rfl rfl rfl rfl (fun _ => yd_nilCheck rfl) rfl <| ?_
       refine dyg rfl rfl rfl rfl (fun _ => yd_fieldAddr rfl) rfl <| dyg rfl rfl rfl rfl (fun _ => yd_load_gh1 rfl ghi rfl) rfl <| dyg rfl rfl rfl rfl (fun _ => yd_move rfl) rfl <| dyg rfl rfl rfl rfl (fun _ => yd_nilCheck rfl) rfl <| ?_
       refine dyg rfl rfl rfl rfl (fun _ => yd_fieldAddr rfl) rfl <| dyg rfl rfl rfl rfl (fun _ => yd_load_gh1 rfl ghi rfl) rfl <| dyg rfl rfl rfl rfl (fun _ => yd_eqB rfl rfl) rfl <| dy rfl (fun _ => yd_pickT rfl rfl) rfl rfl <| ?_
       refine dn <| st_condF rfl <| zK <| sR <| slo rfl rfl rfl <| sm rfl rfl <| sm rfl rfl <| ?_
       refine sc (zC rfl rfl (T_New hz hx hy) rfl ?_)
       rintro _ G4 _ ⟨p, rfl, hp⟩
       refine sa rfl rfl <| zE <| st_ret <| ?_
       exact zD (.tmp rfl .nil) ⟨p, rfl, hp⟩
     case leaf.leaf.true.true =>
       refine Fn.intro Tryz.func106 rfl rfl Tryz.ntmps106 rfl ?_
       intro C _ _
       refine sR <| ?_
       refine sc (ch_box rfl rfl ?_)
       intro b1
       refine sa rfl rfl <| zE <| st_seq <| st_seq <| dr (fun _ => false) [(0, true), (1, false), (2, true), (3, true), (4, false), (5, true), (6, true), (7, true), (8, true), (9, true), (10, true), (11, true), (12, true), (13, true), (14, true), (15, true), (16, true)] follows (by kernel_rfl) <| ?_
       refine dM rfl rfl rfl <| ?_
       refine dc rfl rfl (zC rfl rfl (T_IsLeaf hx) rfl ?_)
       rintro _ G2 _ rfl
       refine dr_s <| dM rfl rfl rfl <| dyg rfl rfl rfl rfl (fun _ => yd_move rfl) rfl <| ?_
       refine dcg rfl rfl rfl rfl (zC rfl rfl (T_IsLeaf hy) rfl ?_)
       rintro _ G3 _ rfl
       refine dr_s <| dy rfl (fun _ => yd_pickT rfl rfl) rfl rfl <| dM rfl rfl rfl <| dyg rfl rfl rfl rfl (fun _ => yd_move rfl) rfl <| dyg rfl rfl rfl rfl (fun _ => yd_nilCheck rfl) rfl <| ?_
       refine dyg rfl rfl rfl rfl (fun _ => yd_fieldAddr rfl) rfl <| dyg rfl rfl rfl rfl (fun _ => yd_load_gh1 rfl ghi rfl) rfl <| dyg rfl rfl rfl rfl (fun _ => yd_move rfl) rfl <| dyg rfl rfl rfl rfl (fun _ => yd_nilCheck rfl) rfl <| ?_
       refine dyg rfl rfl rfl rfl (fun _ => yd_fieldAddr rfl) rfl <| dyg rfl rfl rfl rfl (fun _ => yd_load_gh1 rfl ghi rfl) rfl <| dyg rfl rfl rfl rfl (fun _ => yd_eqB rfl rfl) rfl <| dy rfl (fun _ => yd_pickT rfl rfl) rfl rfl <| ?_
       refine dn <| st_condT rfl <| sR <| sm rfl rfl <| sa rfl rfl <| zE <| st_ret <| ?_
       exact zD (.tmp rfl .nil) ⟨_, rfl, hx.up⟩
theorem T_Depth {k : Nat} : ∀ {t : Tr} {A G : Gh} {p : Option Addr}, IsT k A t p → [GL A G] → t.depth ≤ 1000000 → Fn Tryz.prog 66 [.pointer p] G (fun v _ => v = .int .i64 (t.depth : Nat))
 | .leaf b, A, G, p, h, _, hd => by
   refine Fn.intro Tryz.func66 rfl rfl Tryz.ntmps66 rfl ?_
   intro C _ _
   refine sR <| sa rfl rfl <| zE <| st_seq <| sR <| sm rfl rfl <| ?_
   refine sc (zC rfl rfl (T_IsLeaf h) rfl ?_)
   rintro _ G1 _ rfl
   refine zE <| st_condT rfl <| sR <| sa rfl rfl <| zE <| st_ret <| ?_
   exact zD (.tmp rfl .nil) rfl
 | .node l x y, A, G, p, h, _, hd => by
   obtain ⟨n, z, q, r, rfl, hg, hz, hx, hy⟩ := id h
   have hG : GHas A n _ := ⟨hg⟩
   simp only [Tr.depth] at hd
   refine Fn.intro Tryz.func66 rfl rfl Tryz.ntmps66 rfl ?_
   intro C _ _
   refine sR <| sa rfl rfl <| zE <| st_seq <| sR <| sm rfl rfl <| ?_
   refine sc (zC rfl rfl (T_IsLeaf h) rfl ?_)
   rintro _ G1 _ rfl
   refine zE <| st_condF rfl <| zK <| st_seq <| dr (fun _ => false) [(0, true), (1, true), (2, true), (3, true), (5, true), (6, true), (7, true), (8, true), (4, false), (9, false), (10, true), (11, true), (12, true)] follows (by kernel_rfl) <| ?_
   refine dM rfl rfl rfl <| dy rfl (fun _ => yd_nilCheck rfl) rfl rfl <| dF rfl rfl rfl <| dy rfl (fun _ => yd_load_gh1 rfl ghi rfl) rfl rfl <| ?_
   refine dM rfl rfl rfl <| dy rfl (fun _ => yd_nilCheck rfl) rfl rfl <| dF rfl rfl rfl <| dy rfl (fun _ => yd_load_gh1 rfl ghi rfl) rfl rfl <| ?_
   refine dc rfl rfl (zC rfl rfl (T_Depth hx (by omega)) rfl ?_)
   rintro _ G2 _ rfl
   refine dr_s <| ?_
   refine dc rfl rfl (zC rfl rfl (T_Depth hy (by omega)) rfl ?_)
   rintro _ G3 _ rfl
   refine dr_s <| dy rfl (fun _ => yd_max rfl rfl) rfl rfl <| dy rfl (fun _ => yd_add64 rfl rfl (by omega) (by omega)) rfl rfl <| dA rfl rfl rfl <| dn <| st_ret <| ?_
   exact zD (.tmp rfl .nil) (by show Value.int .i64 (1 + if (y.depth : Int) > (x.depth : Int) then (y.depth : Int) else (x.depth : Int)) = .int .i64 ((1 + max x.depth y.depth : Nat) : Int); congr 1; split <;> omega)
set_option maxHeartbeats 1000000 in
theorem T_Restrict {k : Nat} (hk : k ≤ 100000000) : ∀ {t : Tr} {A B G : Gh} {p : Option Addr} {x : SV} {c : CellQ}, IsT k A t p → IsC k B x c → [GL A G] → [GL B G] → c.length + t.depth ≤ 1000000 → Fn Tryz.prog 48 [.pointer p, .slice x.a x.n x.c] G (fun v G' => ∃ p, v = .pointer p ∧ IsT k G' (t.restrict c) p)
 | .leaf b, A, B, G, p, x, c, h, hc, _, _, hd => by
   refine Fn.intro Tryz.func48 rfl rfl Tryz.ntmps48 rfl ?_
   intro C _ _
   refine sR <| sa rfl rfl <| zE <| st_seq <| sR <| sm rfl rfl <| ?_
   refine sc (zC rfl rfl (T_IsLeaf h) rfl ?_)
   rintro _ G1 _ rfl
   refine zE <| st_condT rfl <| sR <| sm rfl rfl <| sa rfl rfl <| zE <| st_ret <| ?_
   exact zD (.tmp rfl .nil) ⟨_, rfl, h.up⟩
 | .node l s u, A, B, G, p, x, c, h, hc, _, _, hd => by
   obtain ⟨n, z, q, r, rfl, hg, hz, hs, hu⟩ := id h
   have hG : GHas A n _ := ⟨hg⟩
   simp only [Tr.depth] at hd
   have hl1 := clipC_len c l
   have hl2 := clipC_len c l.rev
   cases hR : clipB c l.rev
   case false =>
     have e : (Tr.node l s u).restrict c = s.restrict c := by rw [Tr.restrict, hR]; rfl
     rw [e]
     refine Fn.intro Tryz.func48 rfl rfl Tryz.ntmps48 rfl ?_
     intro C _ _
     refine sR <| sa rfl rfl <| zE <| st_seq <| sR <| sm rfl rfl <| ?_
     refine sc (zC rfl rfl (T_IsLeaf h) rfl ?_)
     rintro _ G1 _ rfl
     refine zE <| st_condF rfl <| zK <| sR <| sm rfl rfl <| sm rfl rfl <| sn rfl rfl <| sf rfl rfl <| slg rfl rfl rfl <| ?_
     refine sc (zC rfl rfl (Cell_Divide hc hz hk (by omega)) rfl ?_)
     rintro _ G2 _ ⟨y1, y2, rfl, hy1, hy2⟩
     rw [hR]
     refine sm rfl rfl <| sx rfl rfl rfl <| sx rfl rfl rfl <| sx rfl rfl rfl <| sx rfl rfl rfl <| sa rfl rfl <| sa rfl rfl <| sa rfl rfl <| sa rfl rfl <| zE <| st_seq <| st_block <| sR <| ?_
     refine sm rfl rfl <| sy (yd_not rfl) rfl <| sa rfl rfl <| zE <| st_condT rfl <| sR <| sm rfl rfl <| sn rfl rfl <| sf rfl rfl <| slg1 rfl rfl rfl <| sm rfl rfl <| ?_
     refine sc (zC rfl rfl (T_Restrict hk hs hc (by omega)) rfl ?_)
     rintro _ G3 _ ⟨p, rfl, hp⟩
     refine sa rfl rfl <| zE <| st_ret <| ?_
     exact zD (.tmp rfl .nil) ⟨p, rfl, hp⟩
   cases hL : clipB c l
   case false =>
     have e : (Tr.node l s u).restrict c = u.restrict c := by rw [Tr.restrict, hR, hL]; rfl
     rw [e]
     refine Fn.intro Tryz.func48 rfl rfl Tryz.ntmps48 rfl ?_
     intro C _ _
     refine sR <| sa rfl rfl <| zE <| st_seq <| sR <| sm rfl rfl <| ?_
     refine sc (zC rfl rfl (T_IsLeaf h) rfl ?_)
     rintro _ G1 _ rfl
     refine zE <| st_condF rfl <| zK <| sR <| sm rfl rfl <| sm rfl rfl <| sn rfl rfl <| sf rfl rfl <| slg rfl rfl rfl <| ?_
     refine sc (zC rfl rfl (Cell_Divide hc hz hk (by omega)) rfl ?_)
     rintro _ G2 _ ⟨y1, y2, rfl, hy1, hy2⟩
     rw [hR, hL]
     refine sm rfl rfl <| sx rfl rfl rfl <| sx rfl rfl rfl <| sx rfl rfl rfl <| sx rfl rfl rfl <| sa rfl rfl <| sa rfl rfl <| sa rfl rfl <| sa rfl rfl <| zE <| st_seq <| st_block <| sR <| ?_
     refine sm rfl rfl <| sy (yd_not rfl) rfl <| sa rfl rfl <| zE <| st_condF rfl <| sR <| sm rfl rfl <| sy (yd_not rfl) rfl <| sa rfl rfl <| zE <| st_condT rfl <| st_seq <| ?_
     refine st_region <| sm rfl rfl <| sn rfl rfl <| sf rfl rfl <| slg1 rfl rfl rfl <| sm rfl rfl <| ?_
     refine sc (zC rfl rfl (T_Restrict hk hu hc (by omega)) rfl ?_)
     rintro _ G3 _ ⟨p, rfl, hp⟩
     refine sa rfl rfl <| zE <| st_ret <| ?_
     exact zD (.tmp rfl .nil) ⟨p, rfl, hp⟩
   have e : (Tr.node l s u).restrict c = Tr.joinQ l (s.restrict (clipC c l)) (u.restrict (clipC c l.rev)) := by rw [Tr.restrict, hR, hL]; rfl
   rw [e]
   refine Fn.intro Tryz.func48 rfl rfl Tryz.ntmps48 rfl ?_
   intro C _ _
   refine sR <| sa rfl rfl <| zE <| st_seq <| sR <| sm rfl rfl <| ?_
   refine sc (zC rfl rfl (T_IsLeaf h) rfl ?_)
   rintro _ G1 _ rfl
   refine zE <| st_condF rfl <| zK <| sR <| sm rfl rfl <| sm rfl rfl <| sn rfl rfl <| sf rfl rfl <| slg rfl rfl rfl <| ?_
   refine sc (zC rfl rfl (Cell_Divide hc hz hk (by omega)) rfl ?_)
   rintro _ G2 _ ⟨y1, y2, rfl, hy1, hy2⟩
   rw [hR, hL]
   refine sm rfl rfl <| sx rfl rfl rfl <| sx rfl rfl rfl <| sx rfl rfl rfl <| sx rfl rfl rfl <| sa rfl rfl <| sa rfl rfl <| sa rfl rfl <| sa rfl rfl <| zE <| st_seq <| st_block <| sR <| ?_
   refine sm rfl rfl <| sy (yd_not rfl) rfl <| sa rfl rfl <| zE <| st_condF rfl <| sR <| sm rfl rfl <| sy (yd_not rfl) rfl <| sa rfl rfl <| zE <| st_condF rfl <| zK <| ?_
   refine st_seq <| dr (fun _ => false) [(0, true), (1, true), (2, true), (3, true), (4, true), (5, true), (6, true), (7, true), (8, true), (10, true), (11, true), (12, true), (13, true), (14, true), (9, false), (15, false), (16, false), (17, true)] follows (by kernel_rfl) <| ?_
   refine dM rfl rfl rfl <| dy rfl (fun _ => yd_nilCheck rfl) rfl rfl <| dF rfl rfl rfl <| dy rfl (fun _ => yd_load_gh rfl ghi rfl) rfl rfl <| dM rfl rfl rfl <| ?_
   refine dy rfl (fun _ => yd_nilCheck rfl) rfl rfl <| dF rfl rfl rfl <| dy rfl (fun _ => yd_load_gh1 rfl ghi rfl) rfl rfl <| dM rfl rfl rfl <| ?_
   refine dM rfl rfl rfl <| dy rfl (fun _ => yd_nilCheck rfl) rfl rfl <| dF rfl rfl rfl <| dy rfl (fun _ => yd_load_gh1 rfl ghi rfl) rfl rfl <| ?_
   refine dM rfl rfl rfl <| ?_
   refine dc rfl rfl (zC rfl rfl (T_Restrict hk hs hy1 (by omega)) rfl ?_)
   rintro _ G3 _ ⟨p1, rfl, hp1⟩
   refine dr_s <| ?_
   refine dc rfl rfl (zC rfl rfl (T_Restrict hk hu hy2 (by omega)) rfl ?_)
   rintro _ G4 _ ⟨p2, rfl, hp2⟩
   refine dr_s <| ?_
   refine dc rfl rfl (zC rfl rfl (T_Join hz hp1 hp2) rfl ?_)
   rintro _ G5 _ ⟨p, rfl, hp⟩
   refine dr_s <| dA rfl rfl rfl <| dn <| st_ret <| ?_
   exact zD (.tmp rfl .nil) ⟨p, rfl, hp⟩
theorem T_Reduce {A G : Gh} {t : Tr} {p : Option Addr} {k : Nat} (hk : k ≤ 100000000) (h : IsT k A t p) [GL A G] (hd : t.depth ≤ 1000000) : Fn Tryz.prog 57 [.pointer p] G (fun v G' => ∃ p, v = .pointer p ∧ IsT k G' (t.restrict []) p) := by
 refine Fn.intro Tryz.func57 rfl rfl Tryz.ntmps57 rfl ?_
 intro C _ _
 refine sR <| sa rfl rfl <| zE <| sR <| sm rfl rfl <| ?_
 refine sc (zC rfl rfl (T_Restrict (x := ⟨none, 0, 0⟩) (B := G) hk h (IsC.nil k G) (by simpa using hd)) rfl ?_)
 rintro _ G1 _ ⟨p, rfl, hp⟩
 refine sa rfl rfl <| zE <| st_ret <| ?_
 exact zD (.tmp rfl .nil) ⟨p, rfl, hp⟩
end Go.Sx
end

section
set_option maxRecDepth 100000
namespace Go.Sx
open Go Go.Proofs
structure ND where
 a : IV
 b : IV
 c : IV
 l : Int
 r : Int
def ND.val (z : ND) : Value := .agg ⟨[.bool z.a.neg, .slice z.a.a.a z.a.a.n z.a.a.c, .bool z.b.neg, .slice z.b.a.a z.b.a.n z.b.a.c, .bool z.c.neg, .slice z.c.a.a z.c.a.n z.c.a.c, .int .i64 z.l, .int .i64 z.r]⟩
structure IsND (k : Nat) (G : Gh) (z : ND) (n : NQ) : Prop where
 a : IsI k G z.a n.l.a
 b : IsI k G z.b n.l.b
 c : IsI k G z.c n.l.c
 l : z.l = n.a
 r : z.r = n.b
theorem IsND.up {k : Nat} {A G : Gh} {z : ND} {n : NQ} (h : IsND k A z n) [GL A G] : IsND k G z n := ⟨h.a.up, h.b.up, h.c.up, h.l, h.r⟩
structure IsNs (k : Nat) (G : Gh) (x : SV) (ns : List NQ) : Prop where
 ex : ∃ zs : List ND, IsSl G 8 x (zs.map ND.val) ∧ All2 (IsND k G) zs ns
theorem IsNs.len {k : Nat} {G : Gh} {x : SV} {ns : List NQ} (h : IsNs k G x ns) : x.n = ns.length := by
 obtain ⟨zs, h1, h2⟩ := h.ex
 rw [h1.len, List.length_map, h2.len]
theorem IsI.ok {k : Nat} {G : Gh} {z : IV} {m : Int} (h : IsI k G z m) : okI z.neg (dg m.natAbs) := by
 refine ⟨(dg_spec _).2.2, fun hn => ?_⟩
 rw [h.neg] at hn
 have hm : m < 0 := by simpa using hn
 intro e
 have h1 := (dg_spec m.natAbs).1
 rw [e] at h1
 have : m.natAbs = 0 := h1.symm
 omega
theorem geo_LnOfQ {A B D G : Gh} {za zb zc : IV} {l : LnQ} {k : Nat} (ha : IsI k A za l.a) (hb : IsI k B zb l.b) (hc : IsI k D zc l.c) [GL A G] [GL B G] [GL D G] (hok : l.ok) (hk1 : 1 ≤ k) (hk : k ≤ 100000000) :
   Fn Tryz.prog 45 [.agg ⟨[.bool za.neg, .slice za.a.a za.a.n za.a.c, .bool zb.neg, .slice zb.a.a zb.a.n zb.a.c, .bool zc.neg, .slice zc.a.a zc.a.n zc.a.c]⟩] G (fun v G' => ∃ z : LV, v = .tuple #[z.v, .bool true] ∧ IsL k G' z l) := by
 have la := ha.len; have lb := hb.len; have lc := hc.len
 have h := geo_LnOf (G := G) (an := za.neg) (bn := zb.neg) (cn := zc.neg) (k := k) ha.abs.d hb.abs.d hc.abs.d (by rw [ha.dvl]; exact ha.abs.lt) (by rw [hb.dvl]; exact hb.abs.lt) (by rw [hc.dvl]; exact hc.abs.lt) hk1 (by omega) (by omega) (by omega) (by omega)
 rw [ha.dvl, hb.dvl, hc.dvl, ha.zv, hb.zv, hc.zv] at h
 refine h.mono fun v G' _ hK => ?_
 rcases hK with ⟨_, h1⟩ | ⟨hn, _⟩
 · exact h1
 · exact absurd ⟨ha.ok, hb.ok, hc.ok, hok⟩ hn
def seenL (n i : Nat) : List Value := (List.range n).map fun j => .bool (decide (j < i))
theorem seenL_len (n i : Nat) : (seenL n i).length = n := by simp [seenL]
theorem seenL_get {n i : Nat} (h : i < n) : (seenL n i)[i]? = some (.bool false) := by simp [seenL, h]
theorem seenL_set (n i : Nat) : (seenL n i).set i (.bool true) = seenL n (i + 1) := by
 apply List.ext_getElem?
 intro j
 rw [List.getElem?_set]
 simp only [seenL, List.length_map, List.length_range, List.getElem?_map]
 by_cases hj : j < n
 · rw [List.getElem?_range hj]
   simp only [Option.map_some]
   by_cases e : i = j
   · subst e; simp [hj]
   · have : decide (j < i + 1) = decide (j < i) := decide_eq_decide.2 (by omega)
     simp [e, this]
 · rw [List.getElem?_eq_none (by simpa using hj)]
   by_cases e : i = j
   · subst e; simp [hj]
   · simp [e]
theorem NQ_at {k : Nat} {G : Gh} {zs : List ND} {ns : List NQ} (h : All2 (IsND k G) zs ns) {i : Nat} {n : NQ} (hi : ns[i]? = some n) : ∃ z, (zs.map ND.val)[i]? = some (.agg ⟨[.bool z.a.neg, .slice z.a.a.a z.a.a.n z.a.a.c, .bool z.b.neg, .slice z.b.a.a z.b.a.n z.b.a.c, .bool z.c.neg, .slice z.c.a.a z.c.a.n z.c.a.c, .int .i64 z.l, .int .i64 z.r]⟩) ∧ IsND k G z n := by
 obtain ⟨z, hz, hr⟩ := h.get hi
 exact ⟨z, by rw [List.getElem?_map, hz]; rfl, hr⟩
set_option maxHeartbeats 2000000 in
theorem reader_part {k : Nat} (hk1 : 1 ≤ k) (hk : k ≤ 100000000) {A : Gh} {ns : List NQ} {x : SV} (hx : IsNs k A x ns) (hn : ns.length ≤ 1000000) : ∀ {t : Tr} {G : Gh} {base rb sb : Nat} {lo lo2 : Bool}, [GL A G] → (∀ i, i < t.size → ns[base + i]? = (t.wr base)[i]?) → base + t.size ≤ ns.length → t.all LnQ.ok →
   FnM Tryz.prog 117 [.pointer (some ⟨rb, 0, none⟩), .int .i64 (t.num base)] [⟨rb, [.slice x.a x.n x.c, .slice (some ⟨sb, 0, none⟩) ns.length ns.length, .int .i64 base, .bool false], 204, lo⟩, ⟨sb, seenL ns.length base, 4, lo2⟩] G
     (fun v css G' => ∃ p, v = .pointer p ∧ IsT k G' t p ∧ css = [[.slice x.a x.n x.c, .slice (some ⟨sb, 0, none⟩) ns.length ns.length, .int .i64 (base + t.size : Nat), .bool false], seenL ns.length (base + t.size)])
 | .leaf bb, G, base, rb, sb, lo, lo2, _, hsub, hle, hok => by
   refine FnM.intro Tryz.func117 rfl rfl Tryz.ntmps117 rfl ?_
   intro C _ _
   show St C _ _ [⟨rb, _, _, false⟩, ⟨sb, _, _, false⟩] _ _
   cases bb
   case true =>
     refine sR <| sa rfl rfl <| zE <| st_seq <| st_block <| sR <| sm rfl rfl <| sy (yd_eql rfl rfl) rfl <| sm rfl rfl <| ss rfl rfl rfl rfl <| ss rfl rfl rfl rfl <| ?_
     refine sy (yd_pickT rfl rfl) rfl <| sa rfl rfl <| zE <| st_condT rfl <| sR <| sm rfl rfl <| sy (yd_eql rfl rfl) rfl <| ?_
     refine sc (zC rfl rfl (T_Leaf (k := k)) rfl ?_)
     rintro _ G1 _ ⟨p, rfl, hp⟩
     refine sa rfl rfl <| zE <| st_ret <| ?_
     exact st_doneM (css := [_, _]) (.tmp rfl .nil) rfl _ (List.Perm.refl _) (List.Sublist.refl _) ⟨p, rfl, hp, rfl⟩
   refine sR <| sa rfl rfl <| zE <| st_seq <| st_block <| sR <| sm rfl rfl <| sy (yd_eql rfl rfl) rfl <| sm rfl rfl <| syg rfl rfl (yd_move rfl) rfl <| syg rfl rfl (yd_eql rfl rfl) rfl <| ?_
   refine sy (yd_pickF rfl rfl) rfl <| sa rfl rfl <| zE <| st_condT rfl <| sR <| sm rfl rfl <| sy (yd_eql rfl rfl) rfl <| ?_
   refine sc (zC rfl rfl (T_Leaf (k := k)) rfl ?_)
   rintro _ G1 _ ⟨p, rfl, hp⟩
   refine sa rfl rfl <| zE <| st_ret <| ?_
   exact st_doneM (css := [_, _]) (.tmp rfl .nil) rfl _ (List.Perm.refl _) (List.Sublist.refl _) ⟨p, rfl, hp, rfl⟩
 | .node l s u, G, base, rb, sb, lo, lo2, _, hsub, hle, hok => by
   have hlen := hx.len
   obtain ⟨zs, hs, hzs⟩ := id hx.ex
   obtain ⟨hokl, hoks, hoku⟩ := hok
   simp only [Tr.size] at hle
   have h0 : ns[base]? = some ⟨l, s.num (base + 1), u.num (base + 1 + s.size)⟩ := by
     have := hsub 0 (by simp only [Tr.size]; omega)
     simpa [Tr.wr] using this
   have hsS : ∀ i, i < s.size → ns[base + 1 + i]? = (s.wr (base + 1))[i]? := fun i hi => by
     have := hsub (i + 1) (by simp only [Tr.size]; omega)
     rw [show base + (i + 1) = base + 1 + i by omega] at this
     rw [this]
     simp only [Tr.wr, List.cons_append, List.getElem?_cons_succ]
     rw [List.getElem?_append_left (by rw [Tr.wr_len]; exact hi)]
   have hsU : ∀ i, i < u.size → ns[base + 1 + s.size + i]? = (u.wr (base + 1 + s.size))[i]? := fun i hi => by
     have := hsub (i + 1 + s.size) (by simp only [Tr.size]; omega)
     rw [show base + (i + 1 + s.size) = base + 1 + s.size + i by omega] at this
     rw [this, show i + 1 + s.size = s.size + i + 1 by omega]
     simp only [Tr.wr, List.cons_append, List.getElem?_cons_succ]
     rw [List.getElem?_append_right (by rw [Tr.wr_len]; omega), Tr.wr_len]
     congr 1
     omega
   obtain ⟨z, hzi, hz⟩ := NQ_at hzs h0
   have hbn : base < ns.length := by omega
   have hzl := hz.l
   have hzr := hz.r
   simp only [] at hzl hzr
   obtain ⟨xa, xn, xc⟩ := x
   simp only [] at hlen
   subst hlen
   refine FnM.intro Tryz.func117 rfl rfl Tryz.ntmps117 rfl ?_
   intro C _ _
   show St C _ [(0, .pointer (some ⟨rb, 0, none⟩)), (1, .int .i64 (base : Int))] [⟨rb, [.slice xa ns.length xc, .slice (some ⟨sb, 0, none⟩) ns.length ns.length, .int .i64 base, .bool false], _, false⟩, ⟨sb, seenL ns.length base, _, false⟩] _ _
   refine sR <| sa rfl rfl <| zE <| st_seq <| st_block <| sR <| sm rfl rfl <| sy (yd_eql rfl rfl) rfl <| sm rfl rfl <| ?_
   refine st_caseP 12 rfl (fun hg => absurd hg (by omega)) (fun hg => ?_)
   refine syg rfl rfl (yd_move rfl) rfl <| syg rfl rfl (yd_eql rfl rfl) rfl <| sy (yd_pickF rfl rfl) rfl <| sa rfl rfl <| zE <| ?_
   refine st_condP rfl (fun hc => absurd hc (by omega)) (fun _ => ?_)
   refine sR <| sm rfl rfl <| sy (yd_lss rfl rfl) rfl <| sm rfl rfl <| ?_
   refine st_caseP 22 rfl (fun hg => absurd hg (by omega)) (fun hg => ?_)
   refine syg rfl rfl (yd_move rfl) rfl <| syg rfl rfl (yd_move rfl) rfl <| syg rfl rfl (yd_nilCheck rfl) rfl <| syg rfl rfl (yd_fieldAddr rfl) rfl <| syg rfl rfl (yd_load_own1 rfl rfl) rfl <| syg rfl rfl (yd_len rfl) rfl <| syg rfl rfl (yd_geq rfl rfl) rfl <| sy (yd_pickF rfl rfl) rfl <| sm rfl rfl <| ?_
   refine st_caseP 31 rfl (fun hg => absurd hg (by omega)) (fun hg => ?_)
   refine syg rfl rfl (yd_move rfl) rfl <| syg rfl rfl (yd_nilCheck rfl) rfl <| syg rfl rfl (yd_fieldAddr rfl) rfl <| syg rfl rfl (yd_load_own1 rfl rfl) rfl <| syg rfl rfl (yd_move rfl) rfl <| syg rfl rfl (yd_ixO rfl rfl (by omega) (by omega)) rfl <| ?_
   refine syg rfl rfl (yd_load_own1 (v := .bool false) rfl (by rw [Int.toNat_natCast, Nat.mul_one]; exact seenL_get hbn)) rfl <| sy (yd_pickF rfl rfl) rfl <| sa rfl rfl <| zE <| st_condF rfl <| zK <| ?_
   refine sR <| sm rfl rfl <| sn rfl rfl <| sf rfl rfl <| slo1 rfl rfl rfl <| sm rfl rfl <| sy (yd_ixO rfl rfl (by omega) (by omega)) rfl <| ?_
   refine sc (ch_store1 rfl rfl (.tl _ _ _ _ _ _ _ _ (.hd ..)) (by rw [seenL_len, Int.toNat_natCast, Nat.mul_one]; exact hbn) rfl rfl ?_)
   rw [Int.toNat_natCast, Nat.mul_one, seenL_set]
   refine zE <| sR <| sm rfl rfl <| sn rfl rfl <| sf rfl rfl <| slo1 rfl rfl rfl <| sy (yd_add64 rfl rfl) rfl <| sn rfl rfl <| sf rfl rfl <| ?_
   refine sc (ch_storeN1 rfl rfl (by first | (dsimp only [ovw, cellsL, zs1, zs2, Nat.reduceAdd, RV.v, LV.v, PV.v, IvV.v, FrV.val]; done) | exact rfl) (by repeat (first | exact .hd .. | apply OUpd.tl)) (nb rfl) rfl rfl ?_)
   rw [show (base : Int) + 1 = ((base + 1 : Nat) : Int) by omega]
   refine zE <| sR <| sm rfl rfl <| sn rfl rfl <| sf rfl rfl <| slo1 rfl rfl rfl <| sm rfl rfl <| sy (yd_ix (z := ⟨xa, ns.length, xc⟩) hs rfl rfl (by omega) (by show (base : Int) < (ns.length : Int); omega)) rfl <| ?_
   rw [Int.toNat_natCast]
   refine sy (yd_ldA (i := base) hs rfl (by rw [List.length_map, hzs.len]; exact hbn) hzi) rfl <| ?_
   refine sc (ch_alloc rfl ?_)
   intro b5
   refine sc (ch_storeN rfl rfl (by first | (dsimp only [ovw, cellsL, zs1, zs2, Nat.reduceAdd, RV.v, LV.v, PV.v, IvV.v, FrV.val]; done) | exact rfl) (by repeat (first | exact .hd .. | apply OUpd.tl)) rfl (nb rfl) rfl rfl ?_)
   refine zE <| sR <| sf rfl rfl <| slo rfl rfl rfl <| ?_
   refine sc (zC rfl rfl (geo_LnOfQ hz.a hz.b hz.c hokl hk1 hk) rfl ?_)
   rintro _ G6 _ ⟨w, rfl, hw⟩
   refine sm rfl rfl <| sx rfl rfl rfl <| sx rfl rfl rfl <| ?_
   refine sc (ch_alloc rfl ?_)
   intro b6
   refine sc (ch_storeN rfl rfl (by first | (dsimp only [ovw, cellsL, zs1, zs2, Nat.reduceAdd, RV.v, LV.v, PV.v, IvV.v, FrV.val]; done) | exact rfl) (by repeat (first | exact .hd .. | apply OUpd.tl)) rfl (nb rfl) rfl rfl ?_)
   refine sa rfl rfl <| zE <| st_seq <| sR <| sm rfl rfl <| sy (yd_not rfl) rfl <| zE <| st_condF rfl <| zK <| ?_
   refine sR <| sm rfl rfl <| sf rfl rfl <| slo1 rfl rfl rfl <| ?_
   have hrp := reader_part hk1 hk hx hn (t := s) (G := G6) (base := base + 1) (rb := rb) (sb := sb) (lo := false) (lo2 := false) hsS (by omega) hoks
   rw [← hzl] at hrp
   refine sc (ch_callM rfl rfl (List.perm_append_comm (l₁ := [_, _]) (l₂ := [_, _])) hrp rfl ?_)
   rintro _ css G7 _ _ ⟨p1, rfl, hp1, rfl⟩
   show St C _ _ [⟨rb, [.slice xa ns.length xc, .slice (some ⟨sb, 0, none⟩) ns.length ns.length, .int .i64 (base + 1 + s.size : Nat), .bool false], 204, false⟩, ⟨sb, seenL ns.length (base + 1 + s.size), 4, false⟩, ⟨b6, [.int .i64 w.a.n, .int .i64 w.a.d, .pointer w.a.p, .int .i64 w.b.n, .int .i64 w.b.d, .pointer w.b.p, .int .i64 w.c.n, .int .i64 w.c.d, .pointer w.c.p], 105, true⟩, ⟨b5, [.bool z.a.neg, .slice z.a.a.a z.a.a.n z.a.a.c, .bool z.b.neg, .slice z.b.a.a z.b.a.n z.b.a.c, .bool z.c.neg, .slice z.c.a.a z.c.a.n z.c.a.c, .int .i64 z.l, .int .i64 z.r], 60, true⟩] _ _
   refine sa rfl rfl <| zE <| st_seq <| ?_
   refine drS [⟨b6, [.int .i64 w.a.n, .int .i64 w.a.d, .pointer w.a.p, .int .i64 w.b.n, .int .i64 w.b.d, .pointer w.b.p, .int .i64 w.c.n, .int .i64 w.c.d, .pointer w.c.p], 105, true⟩, ⟨b5, [.bool z.a.neg, .slice z.a.a.a z.a.a.n z.a.a.c, .bool z.b.neg, .slice z.b.a.a z.b.a.n z.b.a.c, .bool z.c.neg, .slice z.c.a.a z.c.a.n z.c.a.c, .int .i64 z.l, .int .i64 z.r], 60, true⟩] (fun _ => false) [(0, true), (1, true), (2, true), (3, true), (4, true), (5, false), (6, false), (7, true)] follows (by kernel_rfl) <| ?_
   refine dL rfl rfl rfl rfl <| dM rfl rfl rfl <| dM rfl rfl rfl <| dF rfl rfl rfl <| dL1 rfl rfl rfl rfl <| ?_
   have hrp := reader_part hk1 hk hx hn (t := u) (G := G7) (base := base + 1 + s.size) (rb := rb) (sb := sb) (lo := false) (lo2 := false) hsU (by omega) hoku
   rw [← hzr] at hrp
   refine dc rfl rfl (ch_callM rfl rfl (M := [_, _]) (rest := [_, _]) (List.Perm.refl _) hrp rfl ?_)
   rintro _ css G8 _ _ ⟨p2, rfl, hp2, rfl⟩
   show St C _ _ [⟨rb, [.slice xa ns.length xc, .slice (some ⟨sb, 0, none⟩) ns.length ns.length, .int .i64 (base + 1 + s.size + u.size : Nat), .bool false], 204, false⟩, ⟨sb, seenL ns.length (base + 1 + s.size + u.size), 4, false⟩, ⟨b6, [.int .i64 w.a.n, .int .i64 w.a.d, .pointer w.a.p, .int .i64 w.b.n, .int .i64 w.b.d, .pointer w.b.p, .int .i64 w.c.n, .int .i64 w.c.d, .pointer w.c.p], 105, true⟩, ⟨b5, [.bool z.a.neg, .slice z.a.a.a z.a.a.n z.a.a.c, .bool z.b.neg, .slice z.b.a.a z.b.a.n z.b.a.c, .bool z.c.neg, .slice z.c.a.a z.c.a.n z.c.a.c, .int .i64 z.l, .int .i64 z.r], 60, true⟩] _ _
   refine dr_s <| ?_
   refine dc rfl rfl (zC rfl rfl (T_New hw hp1 hp2) rfl ?_)
   rintro _ G9 _ ⟨p, rfl, hp⟩
   refine dr_s <| dA rfl rfl rfl <| dn <| st_ret <| ?_
   refine st_doneM (css := [[.slice xa ns.length xc, .slice (some ⟨sb, 0, none⟩) ns.length ns.length, .int .i64 (base + 1 + s.size + u.size : Nat), .bool false], seenL ns.length (base + 1 + s.size + u.size)]) (.tmp rfl .nil) rfl _ (List.Perm.refl _) (.cons_cons _ (.cons_cons _ (List.nil_sublist _))) ⟨p, rfl, hp, ?_⟩
   rw [show base + (Tr.node l s u).size = base + 1 + s.size + u.size by simp only [Tr.size]; omega]
end Go.Sx
end

section
set_option maxRecDepth 100000
namespace Go.Sx
open Go Go.Proofs
theorem zeros_seen (n : Nat) : zeros (.bool false) n = seenL n 0 := by
 apply List.ext_getElem?
 intro i
 by_cases h : i < n
 · rw [show (seenL n 0)[i]? = some (.bool false) by simp [seenL, h]]
   unfold zeros
   rw [flat_rep_get (cellsL (.bool false)) n i (by simpa [cellsL] using h)]
   simp [cellsL, Nat.mod_one]
 · rw [List.getElem?_eq_none (by rw [zeros_len]; simp [cellsL]; omega), List.getElem?_eq_none (by rw [seenL_len]; omega)]
set_option maxHeartbeats 1000000 in
theorem T_Of {k : Nat} (hk1 : 1 ≤ k) (hk : k ≤ 100000000) {A G : Gh} {x : SV} {t : Tr} (hx : IsNs k A x (t.wr 0)) [GL A G] (hok : t.all LnQ.ok) (hs : t.size ≤ 65536) :
  Fn Tryz.prog 63 [.agg ⟨[.int .i64 (t.num 0), .slice x.a x.n x.c]⟩] G (fun v G' => ∃ p, v = .tuple #[.pointer p, .bool true] ∧ IsT k G' t p) := by
 have hlen := hx.len
 have hwl : (t.wr 0).length = t.size := t.wr_len 0
 have hsub : ∀ i, i < t.size → (t.wr 0)[0 + i]? = (t.wr 0)[i]? := fun i _ => by rw [Nat.zero_add]
 generalize hns : t.wr 0 = ns at *
 obtain ⟨xa, xn, xc⟩ := x
 simp only [] at hlen
 subst hlen
 show Fn _ _ [.agg ⟨[_, .slice xa ns.length xc]⟩] _ _
 refine Fn.intro Tryz.func63 rfl rfl Tryz.ntmps63 rfl ?_
 intro C _ _
 refine sR <| ?_
 refine sc (ch_box rfl rfl ?_)
 intro b1
 refine sa rfl rfl <| sa rfl rfl <| zE <| st_seq <| sR <| sf rfl rfl <| slo1 rfl rfl rfl <| slen rfl rfl <| sy (yd_gtr rfl rfl) rfl <| zE <| ?_
 refine st_condP rfl (fun hc => absurd hc (by omega)) (fun _ => ?_) -- slot 9
 refine zK <| st_seq <| dr (fun _ => false) [(0, true), (1, true), (2, true), (3, true), (4, true), (5, false), (6, true), (7, false), (8, true)] follows (by kernel_rfl) <| dF rfl rfl rfl <| ?_
 refine dL1 rfl rfl rfl rfl <| dF rfl rfl rfl <| dL1 rfl rfl rfl rfl <| dy rfl (fun _ => yd_len rfl) rfl rfl <| ?_
 refine dc rfl rfl (ch_make rfl rfl (by omega) (by omega) (by omega) (by rfl) rfl ?_)
 intro b2
 rw [Int.toNat_natCast, zeros_seen]
 refine dr_s <| dy rfl (fun _ => yd_build rfl) rfl rfl <| ?_
 refine dc rfl rfl (ch_box rfl rfl ?_)
 intro b3
 refine dr_s <| dA rfl rfl rfl <| dn <| sR <| sm rfl rfl <| sf rfl rfl <| slo1 rfl rfl rfl <| ?_
 have hrp := reader_part hk1 hk hx (by omega) (t := t) (G := G) (base := 0) (rb := b3) (sb := b2) (lo := true) (lo2 := true) (by rw [hns]; exact hsub) (by omega) hok
 refine sc (ch_callM rfl rfl (M := [_, _]) (rest := [_]) (List.Perm.refl _) hrp rfl ?_)
 rintro _ css G4 _ _ ⟨p, rfl, hp, rfl⟩
 show St C _ _ [⟨b3, [.slice xa ns.length xc, .slice (some ⟨b2, 0, none⟩) ns.length ns.length, .int .i64 (0 + t.size : Nat), .bool false], 204, true⟩, ⟨b2, seenL ns.length (0 + t.size), 4, true⟩, ⟨b1, [.int .i64 (t.num 0), .slice xa ns.length xc], 36, true⟩] _ _
 refine sa rfl rfl <| zE <| st_seq <| st_seq <| dr (fun _ => false) [(0, true), (1, true), (2, true), (3, true), (4, true), (5, true), (6, true), (7, true), (8, true), (9, true), (10, true), (11, true), (12, true), (13, true)] follows (by kernel_rfl) <| ?_
 refine dM rfl rfl rfl <| dy rfl (fun _ => yd_nilCheck rfl) rfl rfl <| dF rfl rfl rfl <| dL1 rfl rfl rfl rfl <| dM rfl rfl rfl <| ?_
 refine dyg rfl rfl rfl rfl (fun _ => yd_move rfl) rfl <| dyg rfl rfl rfl rfl (fun _ => yd_nilCheck rfl) rfl <| dyg rfl rfl rfl rfl (fun _ => yd_fieldAddr rfl) rfl <| dyg rfl rfl rfl rfl (fun _ => yd_load_own1 rfl rfl) rfl <| ?_
 refine dyg rfl rfl rfl rfl (fun _ => yd_fieldAddr rfl) rfl <| dyg rfl rfl rfl rfl (fun _ => yd_load_own1 rfl rfl) rfl <| dyg rfl rfl rfl rfl (fun _ => yd_len rfl) rfl <| dyg rfl rfl rfl rfl (fun _ => yd_neq rfl rfl) rfl <| ?_
 refine dy rfl (fun _ => yd_pickF rfl rfl) rfl rfl <| dn <| ?_
 refine st_condP rfl (fun hc => absurd hc (by omega)) (fun _ => ?_) -- slot 35
 refine zK <| sR <| sm rfl rfl <| sa rfl rfl <| sa rfl rfl <| zE <| st_ret <| ?_
 exact zD (.tmp rfl (.tmp rfl .nil)) ⟨p, rfl, hp⟩
theorem Ln_API {A G : Gh} {z : LV} {l : LnQ} {k : Nat} (hl : IsL k A z l) [GL A G] (hk : k ≤ 1099511627776) :
  Fn Tryz.prog 108 [.agg ⟨[.int .i64 z.a.n, .int .i64 z.a.d, .pointer z.a.p, .int .i64 z.b.n, .int .i64 z.b.d, .pointer z.b.p, .int .i64 z.c.n, .int .i64 z.c.d, .pointer z.c.p]⟩] G (fun v G' => ∃ a b c : IV, v = .agg ⟨[.bool a.neg, .slice a.a.a a.a.n a.a.c, .bool b.neg, .slice b.a.a b.a.n b.a.c, .bool c.neg, .slice c.a.a c.a.n c.a.c]⟩ ∧ IsI k G' a l.a ∧ IsI k G' b l.b ∧ IsI k G' c l.c) := by
 refine Fn.intro Tryz.func108 rfl rfl Tryz.ntmps108 rfl ?_
 intro C _ _
 refine sR <| ?_
 refine sc (ch_box rfl rfl ?_)
 intro b1
 refine sc (ch_alloc rfl ?_)
 intro b2
 refine zE <| st_seq <| dr (fun i => Nat.beq i 10) [(0, true), (1, true), (3, true), (4, true), (6, true), (7, true), (2, false), (5, false), (8, false), (9, true), (10, false)] follows (by kernel_rfl) <| ?_
 refine dF rfl rfl rfl <| dL rfl rfl rfl rfl <| dF rfl rfl rfl <| dL rfl rfl rfl rfl <| ?_
 refine dF rfl rfl rfl <| dL rfl rfl rfl rfl <| ?_
 refine dc rfl rfl (zC rfl rfl (R_Num hl.a (by omega)) rfl ?_)
 rintro _ G3 _ ⟨x4, rfl, h5⟩
 refine dr_s <| ?_
 refine dc rfl rfl (zC rfl rfl (R_Num hl.b (by omega)) rfl ?_)
 rintro _ G6 _ ⟨x7, rfl, h8⟩
 refine dr_s <| ?_
 refine dc rfl rfl (zC rfl rfl (R_Num hl.c (by omega)) rfl ?_)
 rintro _ G9 _ ⟨x10, rfl, h11⟩
 refine dr_s <| dy rfl (fun _ => yd_build rfl) rfl rfl <| ?_
 refine dc rfl rfl (ch_storeN rfl rfl (by first | (dsimp only [ovw, cellsL, zs1, zs2, Nat.reduceAdd, IV.v, RV.v, LV.v, PV.v, IvV.v]; done) | exact rfl) (by repeat (first | exact .hd .. | apply OUpd.tl)) rfl (nb rfl) rfl rfl ?_)
 refine dr_f rfl <| dn <| st_ret <| ?_
 exact zD (.agg rfl ii ii rfl .nil) ⟨x4, x7, x10, rfl, h5.up, h8.up, h11.up⟩
end Go.Sx
end

section
set_option maxRecDepth 100000
namespace Go.Sx
open Go Go.Proofs
theorem ND.len8 (zs : List ND) : ∀ v ∈ zs.map ND.val, (cellsL v).length = 8 := fun v hv => by
 obtain ⟨f, _, rfl⟩ := List.mem_map.1 hv; rfl
theorem ND.flat (zs : List ND) : ∀ v ∈ zs.map ND.val, ∀ c ∈ cellsL v, Sx.flat c = true := fun v hv c hc => by
 obtain ⟨f, _, rfl⟩ := List.mem_map.1 hv
 simp only [ND.val, cellsL, List.mem_cons, List.not_mem_nil, or_false] at hc
 rcases hc with rfl | rfl | rfl | rfl | rfl | rfl | rfl | rfl <;> rfl
theorem All2.set {α β : Type} {R : α → β → Prop} {us : List α} {bs : List β} (h : All2 R us bs) {a : α} {b : β} (hr : R a b) (i : Nat) : All2 R (us.set i a) (bs.set i b) := by
 induction h generalizing i with
 | nil => simp; exact .nil
 | cons h t ih =>
   cases i with
   | zero => exact .cons hr t
   | succ i => exact .cons h (ih i)
theorem nodes_set (zs : List ND) (rest : List Value) (i j : Nat) (x : Value) (z : ND) (hi : i < zs.length) (hj : j < 8) (hz : cellsL z.val = (cellsL (zs[i]).val).set j x) :
  (flatL (zs.map ND.val) ++ rest).set (i * 8 + j) x = flatL ((zs.set i z).map ND.val) ++ rest := by
 have hi' : i < (zs.map ND.val).length := by simpa using hi
 rw [flat_set hj _ i hi' (ND.len8 zs), List.getElem_map, ← hz, List.map_set, List.set_eq_take_append_cons_drop, if_pos hi', flatL_app]
 have e : flatL (z.val :: (zs.map ND.val).drop (i + 1)) = cellsL z.val ++ flatL ((zs.map ND.val).drop (i + 1)) := by simp [flatL]
 rw [e]
 simp [List.append_assoc]
def apiClo (ob wb : Nat) : Value := .func (.func 107) #[] #[.pointer (some ⟨ob, 0, none⟩), .pointer (some ⟨wb, 0, none⟩)]
set_option maxHeartbeats 2000000 in
theorem T_write {k : Nat} (hk : k ≤ 100000000) : ∀ {t : Tr} {A A2 G : Gh} {p : Option Addr} {ob wb : Nat} {lo lo2 : Bool} {x : SV} {zs : List ND} {ns : List NQ} {B : List Own}, IsT k A t p → [GL A G] → [GL A2 G] → Buf 8 60 x (zs.map ND.val) B → All2 (IsND k A2) zs ns → zs.length + t.size ≤ 1000000 →
   FnO Tryz.prog 107 [.pointer p, .pointer (some ⟨ob, 0, none⟩), .pointer (some ⟨wb, 0, none⟩)] (⟨ob, [.int .i64 0, .slice x.a x.n x.c], 36, lo⟩ :: ⟨wb, [apiClo ob wb], 186, lo2⟩ :: B) G
     (fun v own' G' => ∃ x' zs' B', v = .int .i64 (t.num zs.length) ∧ own' = ⟨ob, [.int .i64 0, .slice x'.a x'.n x'.c], 36, false⟩ :: ⟨wb, [apiClo ob wb], 186, false⟩ :: B' ∧ Buf 8 60 x' (zs'.map ND.val) B' ∧ All2 (IsND k G') zs' (ns ++ t.wr zs.length))
 | .leaf bb, A, A2, G, p, ob, wb, lo, lo2, x, zs, ns, B, h, _, _, hB, hz, hle => by
   obtain ⟨n, rfl, hg⟩ := id h
   have hG : GHas A n _ := ⟨hg⟩
   have hz' : All2 (IsND k G) zs (ns ++ []) := by rw [List.append_nil]; exact hz.imp fun _ _ h => h.up
   refine FnO.intro Tryz.func107 rfl rfl Tryz.ntmps107 rfl ?_
   intro C _ _
   show St C _ _ (⟨ob, [.int .i64 0, .slice x.a x.n x.c], 36, false⟩ :: ⟨wb, [apiClo ob wb], 186, false⟩ :: asB B) _ _
   refine sR <| sa rfl rfl <| zE <| st_seq <| sR <| sm rfl rfl <| ?_
   refine sc (zC rfl rfl (T_IsLeaf h) rfl ?_)
   rintro _ G1 _ rfl
   refine zE <| st_condT rfl <| ?_
   refine st_seq <| sR <| sm rfl rfl <| sn rfl rfl <| sf rfl rfl <| slg1 rfl rfl rfl <| zE <| ?_
   cases bb
   case true =>
     refine st_condT rfl <| sR <| sa rfl rfl <| zE <| st_ret <| ?_
     exact st_doneO (.tmp rfl .nil) _ _ (List.Perm.refl _) (List.Sublist.refl _) ⟨x, zs, _, rfl, rfl, hB.asB, hz'.imp fun _ _ h => h.up⟩
   refine st_condF rfl <| zK <| sR <| sa rfl rfl <| zE <| st_ret <| ?_
   exact st_doneO (.tmp rfl .nil) _ _ (List.Perm.refl _) (List.Sublist.refl _) ⟨x, zs, _, rfl, rfl, hB.asB, hz'.imp fun _ _ h => h.up⟩
 | .node l s u, A, A2, G, p, ob, wb, lo, lo2, x, zs, ns, B, h, _, _, hB, hz, hle => by
   obtain ⟨n, z, q, r, rfl, hg, hzl, hs, hu⟩ := id h
   have hG : GHas A n _ := ⟨hg⟩
   have hxn := hB.len
   have hzn := hz.len
   simp only [Tr.size] at hle
   obtain ⟨xa, xn, xc⟩ := x
   rw [List.length_map] at hxn
   simp only [] at hxn
   subst hxn
   refine FnO.intro Tryz.func107 rfl rfl Tryz.ntmps107 rfl ?_
   intro C _ _
   show St C _ _ (⟨ob, [.int .i64 0, .slice xa zs.length xc], 36, false⟩ :: ⟨wb, [apiClo ob wb], 186, false⟩ :: asB B) _ _
   replace hB := hB.asB
   generalize asB B = B at hB
   refine sR <| sa rfl rfl <| zE <| st_seq <| sR <| sm rfl rfl <| ?_
   refine sc (zC rfl rfl (T_IsLeaf h) rfl ?_)
   rintro _ G1 _ rfl
   refine zE <| st_condF rfl <| ?_
   refine zK <| sR <| sf rfl rfl <| slo1 rfl rfl rfl <| slen rfl rfl <| sa rfl rfl <| zE <| st_seq <| ?_
   refine drS [⟨ob, [.int .i64 0, .slice xa zs.length xc], 36, false⟩] (fun i => Nat.beq i 11) [(0, true), (1, true), (2, true), (3, true), (4, true), (5, true), (6, false), (7, true), (8, false), (9, false), (10, true), (11, false)] follows (by kernel_rfl) <| ?_
   refine dF rfl rfl rfl <| dL1 rfl rfl rfl rfl <| dM rfl rfl rfl <| dy rfl (fun _ => yd_nilCheck rfl) rfl rfl <| ?_
   refine dF rfl rfl rfl <| dy rfl (fun _ => yd_load_gh rfl ghi rfl) rfl rfl <| ?_
   refine dc rfl rfl (zC rfl rfl (Ln_API hzl (by omega)) rfl ?_)
   rintro _ G2 _ ⟨ia, ib, ic, rfl, hia, hib, hic⟩
   refine dr_s <| dy rfl (fun _ => yd_build rfl) rfl rfl <| ?_
   refine dc rfl rfl (ch_slice1 rfl (by rfl) (by rfl) (by decide) (by decide) rfl ?_)
   intro b3
   refine dr_s <| ?_
   refine dc rfl rfl (ch_append_buf (v := ND.val ⟨ia, ib, ic, 0, 0⟩) (vs := zs.map ND.val) [_, _, _] rfl hB rfl rfl (src_own inferInstance rfl) rfl (ND.flat [⟨ia, ib, ic, 0, 0⟩] _ List.mem_cons_self) (by decide) (by rw [List.length_map]; omega) rfl rfl ?_)
   intro x1 B1 hB1
   rw [show zs.map ND.val ++ [ND.val ⟨ia, ib, ic, 0, 0⟩] = (zs ++ [(⟨ia, ib, ic, 0, 0⟩ : ND)]).map ND.val by simp] at hB1
   show St C _ _ (⟨b3, _, _, true⟩ :: ⟨ob, [.int .i64 0, .slice xa zs.length xc], 36, false⟩ :: ⟨wb, [apiClo ob wb], 186, false⟩ :: B1) _ _
   refine dr_s <| dF rfl rfl rfl <| ?_
   refine dc rfl rfl (ch_storeN1 (cs' := [.int .i64 0, .slice x1.a x1.n x1.c]) rfl rfl rfl (.tl _ _ _ _ _ _ _ _ (.hd ..)) (nb rfl) rfl rfl ?_)
   refine dr_f rfl <| dn <| ?_
   refine st_drop _ (List.sublist_cons_self _ _) ?_
   have hz1 : All2 (IsND k G2) (zs ++ [(⟨ia, ib, ic, 0, 0⟩ : ND)]) (ns ++ [⟨l, 0, 0⟩]) := (hz.imp fun _ _ h => h.up).app (.cons ⟨hia, hib, hic, rfl, rfl⟩ .nil)
   refine st_seq <| drS [⟨wb, [apiClo ob wb], 186, false⟩] (fun _ => false) [(0, true), (1, true), (2, true), (3, true), (4, true), (5, false), (6, true)] follows (by kernel_rfl) <| ?_
   refine dL1 rfl rfl rfl rfl <| dM rfl rfl rfl <| dy rfl (fun _ => yd_nilCheck rfl) rfl rfl <| dF rfl rfl rfl <| dy rfl (fun _ => yd_load_gh1 rfl ghi rfl) rfl rfl <| ?_
   refine dc rfl rfl (ch_callcO' (c1 := []) (M := _ :: _ :: B1) (rest := []) rfl rfl (by rw [List.append_nil]) (T_write hk (lo := false) (lo2 := false) hs hB1 hz1 (by simp; omega)) rfl ?_)
   rintro _ _ G3 fl _ hf _ ⟨x2, zs2, B2, rfl, rfl, hB2, hz2⟩
   have e1 : fl ob = false := hf _ List.mem_cons_self rfl
   have e2 : fl wb = false := hf _ (List.mem_cons_of_mem _ List.mem_cons_self) rfl
   replace hB2 := hB2.relo fl
   refine st_ownE (own' := ⟨ob, [.int .i64 0, .slice x2.a x2.n x2.c], 36, false⟩ :: ⟨wb, [apiClo ob wb], 186, false⟩ :: B2.map (relo fl)) (by simp only [List.map_cons, relo, e1, e2, List.append_nil]) ?_
   generalize B2.map (relo fl) = B2 at hB2
   have hl2 := hz2.len
   simp only [List.length_append, Tr.wr_len, List.length_singleton] at hl2
   refine dr_s <| dA rfl rfl rfl <| dn <| st_seq <| drS [⟨wb, [apiClo ob wb], 186, false⟩] (fun _ => false) [(0, true), (1, true), (2, true), (3, true), (4, true), (5, false), (6, true)] follows (by kernel_rfl) <| ?_
   refine dL1 rfl rfl rfl rfl <| dM rfl rfl rfl <| dy rfl (fun _ => yd_nilCheck rfl) rfl rfl <| dF rfl rfl rfl <| dy rfl (fun _ => yd_load_gh1 rfl ghi rfl) rfl rfl <| ?_
   refine dc rfl rfl (ch_callcO' (c1 := []) (M := _ :: _ :: B2) (rest := []) rfl rfl (by rw [List.append_nil]) (T_write hk (lo := false) (lo2 := false) hu hB2 hz2 (by omega)) rfl ?_)
   rintro _ _ G4 fl _ hf _ ⟨x3, zs3, B3, rfl, rfl, hB3, hz3⟩
   have e3 : fl ob = false := hf _ List.mem_cons_self rfl
   have e4 : fl wb = false := hf _ (List.mem_cons_of_mem _ List.mem_cons_self) rfl
   replace hB3 := hB3.relo fl
   refine st_ownE (own' := ⟨ob, [.int .i64 0, .slice x3.a x3.n x3.c], 36, false⟩ :: ⟨wb, [apiClo ob wb], 186, false⟩ :: B3.map (relo fl)) (by simp only [List.map_cons, relo, e3, e4, List.append_nil]) ?_
   generalize B3.map (relo fl) = B3 at hB3
   have hl3 := hz3.len
   simp only [List.length_append, Tr.wr_len, List.length_singleton] at hl3
   have hn3 : zs.length < zs3.length := by omega
   rcases hB3 with ⟨h1, _, _⟩ | ⟨nb, rest, lo3, hx3, rfl, hf1, hf2, hf3⟩
   · have := congrArg List.length h1; rw [List.length_map, List.length_nil] at this; omega
   obtain ⟨x3a, x3n, x3c⟩ := x3
   simp only [SV.mk.injEq] at hx3
   obtain ⟨rfl, rfl, _⟩ := hx3
   rw [List.length_map] at hf3
   have hzz : ns.length = zs.length := hzn.symm
   obtain ⟨zn, hzn1, hzn2⟩ := hz3.get (i := zs.length) (b := ⟨l, 0, 0⟩) (by rw [List.append_assoc, List.append_assoc, ← hzz, List.getElem?_append_right (Nat.le_refl _), Nat.sub_self]; rfl)
   obtain ⟨_, hzn3⟩ := List.getElem?_eq_some_iff.1 hzn1
   have hL1 : (zs ++ [(⟨ia, ib, ic, 0, 0⟩ : ND)]).length = zs.length + 1 := by simp
   have hL2 : zs2.length = zs.length + 1 + s.size := by omega
   rw [hL1] at hz3
   rw [hL1, hL2]
   rw [hL2] at hz3
   refine dr_s <| dA rfl rfl rfl <| dn <| ?_
   refine st_seq <| drS [⟨ob, [.int .i64 0, .slice (some ⟨nb, 0, none⟩) (zs3.map ND.val).length x3c], 36, false⟩] (fun _ => false) [(0, true), (1, true), (2, true), (3, true), (4, true), (5, true), (6, true), (7, true), (8, true), (9, true), (10, false), (11, true), (12, true), (13, false)] follows (by kernel_rfl) <| ?_
   refine dF rfl rfl rfl <| dL1 rfl rfl rfl rfl <| dM rfl rfl rfl <| dF rfl rfl rfl <| ?_
   refine dL1 rfl rfl rfl rfl <| dM rfl rfl rfl <| dM rfl rfl rfl <| dM rfl rfl rfl <| dy rfl (fun _ => yd_ixO rfl rfl (by omega) (by rw [List.length_map]; omega)) rfl rfl <| ?_
   refine dF rfl rfl rfl <| ?_
   refine dc rfl rfl (ch_store1 rfl rfl (.tl _ _ _ _ _ _ _ _ (.tl _ _ _ _ _ _ _ _ (.hd ..))) (by rw [List.length_append, hf1, List.length_map, Int.toNat_natCast]; omega) rfl rfl ?_)
   rw [Int.toNat_natCast, nodes_set zs3 rest zs.length 6 _ { zn with l := s.num (zs.length + 1) } hn3 (by decide) (by rw [hzn3]; rfl)]
   refine dr_s <| dy rfl (fun _ => yd_ixO rfl rfl (by omega) (by rw [List.length_map]; omega)) rfl rfl <| dF rfl rfl rfl <| ?_
   refine dc rfl rfl (ch_store1 rfl rfl (.tl _ _ _ _ _ _ _ _ (.tl _ _ _ _ _ _ _ _ (.hd ..))) (by rw [List.length_append, flatL_len (s := 8) _ (ND.len8 _), List.length_map, List.length_set, Int.toNat_natCast]; omega) rfl rfl ?_)
   rw [Int.toNat_natCast, nodes_set (zs3.set zs.length _) rest zs.length 7 _ { zn with l := s.num (zs.length + 1), r := u.num (zs.length + 1 + s.size) } (by rw [List.length_set]; exact hn3) (by decide) (by rw [List.getElem_set_self]; rfl)]
   refine dr_s <| dn <| sR <| sm rfl rfl <| sa rfl rfl <| zE <| st_ret <| ?_
   have hfin := hz3.set (a := { zn with l := s.num (zs.length + 1), r := u.num (zs.length + 1 + s.size) }) (b := ⟨l, s.num (zs.length + 1), u.num (zs.length + 1 + s.size)⟩) ⟨hzn2.a, hzn2.b, hzn2.c, rfl, rfl⟩ zs.length
   have hns : (ns ++ [(⟨l, 0, 0⟩ : NQ)] ++ s.wr (zs.length + 1) ++ u.wr (zs.length + 1 + s.size)).set zs.length ⟨l, s.num (zs.length + 1), u.num (zs.length + 1 + s.size)⟩ = ns ++ (Tr.node l s u).wr zs.length := by
     rw [List.append_assoc, List.append_assoc, List.set_append_right _ _ (by omega), hzz, Nat.sub_self]
     simp [Tr.wr]
   rw [hns] at hfin
   refine st_doneO (.tmp rfl .nil) _ _ (List.Perm.refl _) (List.Sublist.refl _) ⟨⟨some ⟨nb, 0, none⟩, (zs3.map ND.val).length, x3c⟩, _, _, rfl, rfl, ?_, hfin⟩
   refine .inr ⟨nb, rest, lo3, by simp, by rw [List.set_set], ?_, ?_, ?_⟩
   · rw [flatL_len (s := 8) _ (ND.len8 _)]
   · rw [flatL_len (s := 8) _ (ND.len8 _), List.length_map, List.length_set]; rw [hf1, List.length_map] at hf2; exact hf2
   · rw [List.length_map, List.length_set]; exact hf3
theorem T_API {A G : Gh} {t : Tr} {p : Option Addr} {k : Nat} (hk : k ≤ 100000000) (h : IsT k A t p) [GL A G] (hs : t.size ≤ 1000000) : Fn Tryz.prog 49 [.pointer p] G (fun v G' => ∃ x : SV, v = .agg ⟨[.int .i64 (t.num 0), .slice x.a x.n x.c]⟩ ∧ IsNs k G' x (t.wr 0)) := by
 refine Fn.intro Tryz.func49 rfl rfl Tryz.ntmps49 rfl ?_
 intro C _ hC
 refine sR <| ?_
 refine sc (ch_alloc rfl ?_)
 intro b1
 refine zE <| sR <| ?_
 refine sc (ch_alloc rfl ?_)
 intro b2
 refine zE <| sR <| ?_
 refine sc (ch_alloc rfl ?_)
 intro b3
 refine zE <| sR <| sy (yd_makeFunc rfl rfl) rfl <| ?_
 refine sc (ch_storeN1 (cs' := [apiClo b2 b3]) rfl rfl rfl (.hd ..) (nb rfl) rfl rfl ?_)
 refine zE <| sR <| slo1 rfl rfl rfl <| sm rfl rfl <| ?_
 refine sc (ch_callcO' (c1 := []) (M := [⟨b2, [.int .i64 0, .slice none 0 0], 36, true⟩, ⟨b3, [apiClo b2 b3], 186, true⟩]) (rest := [⟨b1, [.int .i64 0, .slice none 0 0], 36, true⟩]) rfl rfl (List.Perm.swap ..) (T_write hk (A2 := G) (x := ⟨none, 0, 0⟩) (zs := []) (ns := []) (B := []) h (Buf.nil ..) .nil (by simpa using hs)) rfl ?_)
 rintro _ _ G4 fl _ _ hf ⟨x, zs, B, rfl, rfl, hB, hz⟩
 have e1 := hf (by simp) b2
 have e2 := hf (by simp) b3
 replace hB := hB.relo fl
 refine st_ownE (own' := ⟨b2, [.int .i64 0, .slice x.a x.n x.c], 36, true⟩ :: ⟨b3, [apiClo b2 b3], 186, true⟩ :: (B.map (relo fl) ++ [⟨b1, [.int .i64 0, .slice none 0 0], 36, true⟩])) (by simp only [List.map_cons, relo, e1, e2, List.cons_append]) ?_
 generalize B.map (relo fl) = B at hB
 refine st_perm (⟨b2, [.int .i64 0, .slice x.a x.n x.c], 36, true⟩ :: ⟨b3, [apiClo b2 b3], 186, true⟩ :: ⟨b1, [.int .i64 0, .slice none 0 0], 36, true⟩ :: B) ((List.perm_append_comm (l₁ := B) (l₂ := [_])).cons _ |>.cons _) ?_
 refine sf rfl rfl <| ?_
 refine sc (ch_storeN1 (cs' := [.int .i64 (t.num 0), .slice x.a x.n x.c]) rfl rfl rfl (.hd ..) (nb rfl) rfl rfl ?_)
 refine zE <| sR <| slo rfl rfl rfl <| ?_
 refine sc (ch_storeN (cs' := [.int .i64 (t.num 0), .slice x.a x.n x.c]) rfl rfl rfl (.tl _ _ _ _ _ _ _ _ (.tl _ _ _ _ _ _ _ _ (.hd ..))) rfl (nb rfl) rfl rfl ?_)
 refine zE <| ?_
 refine st_bufFreeze (L := [_, _, _]) hC hB (ND.len8 _) ?_
 intro G5 _ hsl
 show St C _ _ [⟨b2, _, _, true⟩, ⟨b3, _, _, true⟩, ⟨b1, [.int .i64 (t.num 0), .slice x.a x.n x.c], 36, true⟩] _ _
 refine st_ret <| ?_
 exact zD (.agg rfl ii ii rfl .nil) ⟨x, rfl, zs, hsl, by rw [List.nil_append] at hz; exact hz.imp fun _ _ h => h.up⟩
end Go.Sx
end

section
set_option maxRecDepth 100000
namespace Go.Sx
open Go Go.Proofs
structure PtV where
 x : SV
 p : Option Addr
def PtV.val (z : PtV) : Value := .agg ⟨[.slice z.x.a z.x.n z.x.c, .pointer z.p]⟩
structure IsPt (k : Nat) (G : Gh) (z : PtV) (b : Bool × CellQ) : Prop where
 c : IsC k G z.x b.2
 t : IsT k G (.leaf b.1) z.p
structure IsPs (k : Nat) (G : Gh) (w : SV) (ps : List (Bool × CellQ)) : Prop where
 ex : ∃ zs : List PtV, IsSl G 2 w (zs.map PtV.val) ∧ All2 (IsPt k G) zs ps
theorem reduce_read {k : Nat} (hk1 : 1 ≤ k) (hk : k ≤ 100000000) {A G : Gh} {x : SV} {t : Tr} (hx : IsNs k A x (t.wr 0)) [GL A G] (hok : t.all LnQ.ok) (hs : t.size ≤ 65536) (hd : t.depth ≤ 1024) :
  Fn Tryz.prog 46 [.agg ⟨[.int .i64 (t.num 0), .slice x.a x.n x.c]⟩, .int .i64 0] G (fun v G' => ∃ p, v = .tuple #[.pointer p, .nilIface] ∧ IsT k G' t p) := by
 refine Fn.intro Tryz.func46 rfl rfl Tryz.ntmps46 rfl ?_
 intro C _ _
 refine sR <| ?_
 refine sc (ch_box rfl rfl ?_)
 intro b1
 refine sa rfl rfl <| sa rfl rfl <| zE <| sR <| slo rfl rfl rfl <| ?_
 refine sc (zC rfl rfl (T_Of hk1 hk hx hok hs) rfl ?_)
 rintro _ G2 _ ⟨p, rfl, hp⟩
 refine sm rfl rfl <| sx rfl rfl rfl <| sx rfl rfl rfl <| sa rfl rfl <| sa rfl rfl <| zE <| st_seq <| st_block <| sR <| sm rfl rfl <| sy (yd_not rfl) rfl <| sa rfl rfl <| zE <| ?_
 refine st_condF rfl <| sR <| sm rfl rfl <| ?_
 refine sc (zC rfl rfl (T_Depth hp (by omega)) rfl ?_)
 rintro _ G3 _ rfl
 refine sm rfl rfl <| sy (yd_add64 rfl rfl) rfl <| sy (yd_gtr rfl rfl) rfl <| sa rfl rfl <| zE <| ?_
 refine st_condP rfl (fun hc => absurd hc (by omega)) (fun _ => ?_)
 refine zK <| sR <| sm rfl rfl <| sa rfl rfl <| ?_
 refine sa rfl rfl <| zE <| st_ret <| ?_
 exact zD (.tmp rfl (.tmp rfl .nil)) ⟨p, rfl, hp.up⟩
theorem reduce_Reduce {k : Nat} (hk1 : 1 ≤ k) (hk : k ≤ 100000000) {A G : Gh} {x : SV} {t : Tr} (hx : IsNs k A x (t.wr 0)) [GL A G] (hok : t.all LnQ.ok) (hs : t.size ≤ 65536) (hd : t.depth ≤ 1024) (hsz : (t.restrict []).size ≤ 1000000) :
  Fn Tryz.prog 19 [.agg ⟨[.int .i64 (t.num 0), .slice x.a x.n x.c]⟩] G (fun v G' => ∃ y : SV, v = .tuple #[.agg ⟨[.int .i64 ((t.restrict []).num 0), .slice y.a y.n y.c]⟩, .nilIface] ∧ IsNs k G' y ((t.restrict []).wr 0)) := by
 refine Fn.intro Tryz.func19 rfl rfl Tryz.ntmps19 rfl ?_
 intro C _ _
 refine sR <| ?_
 refine sc (ch_box rfl rfl ?_)
 intro b1
 refine sc (ch_alloc rfl ?_)
 intro b2
 refine sa rfl rfl <| zE <| sR <| slo rfl rfl rfl <| ?_
 refine sc (zC rfl rfl (reduce_read hk1 hk hx hok hs hd) rfl ?_)
 rintro _ G3 _ ⟨p, rfl, hp⟩
 refine sm rfl rfl <| sx rfl rfl rfl <| sx rfl rfl rfl <| sa rfl rfl <| sa rfl rfl <| zE <| st_seq <| sR <| sm rfl rfl <| sy (yd_neN (by simp) rfl) rfl <| zE <| st_condF rfl <| ?_
 refine zK <| sR <| sm rfl rfl <| ?_
 refine sc (zC rfl rfl (T_Reduce hk hp (by omega)) rfl ?_)
 rintro _ G4 _ ⟨p2, rfl, hp2⟩
 refine sc (zC rfl rfl (T_API hk hp2 hsz) rfl ?_)
 rintro _ G5 _ ⟨y, rfl, hy⟩
 refine sc (chS rfl rfl rfl (nb rfl) rfl rfl ?_)
 refine sa rfl rfl <| zE <| st_ret <| ?_
 exact zD (.agg rfl ii ii rfl (.tmp rfl .nil)) ⟨y, rfl, hy⟩
end Go.Sx
end

section
set_option maxRecDepth 100000
namespace Go.Sx
open Go Go.Proofs
end Go.Sx
end

section
set_option maxRecDepth 100000
namespace Go.Sx
open Go Go.Proofs
def cT : Tr → List DV
 | .leaf b => [.v (.bool true), .v (.bool b), .v (.bool false), .sl [], .v (.bool false), .sl [], .v (.bool false), .sl [], .v (.pointer none), .v (.pointer none)]
 | .node l x y => [.v (.bool false), .v (.bool false), .v (.bool (decide (l.a < 0))), dN l.a.natAbs, .v (.bool (decide (l.b < 0))), dN l.b.natAbs, .v (.bool (decide (l.c < 0))), dN l.c.natAbs, .pt (cT x), .pt (cT y)]
def eT (t : Tr) : DV := .pt (cT t)
def eN (n : NQ) : DV := .ag [.v (.bool (decide (n.l.a < 0))), dN n.l.a.natAbs, .v (.bool (decide (n.l.b < 0))), dN n.l.b.natAbs, .v (.bool (decide (n.l.c < 0))), dN n.l.c.natAbs, .v (.int .i64 n.a), .v (.int .i64 n.b)]
def eA (t : Tr) : DV := .ag [.v (.int .i64 (t.num 0)), .sl ((t.wr 0).map eN)]
theorem isI_to {G : Gh} {k : Nat} {z : IV} {m : Int} (h : IsI k G z m) : Is G (.v (.bool (decide (m < 0)))) (.bool z.neg) ∧ Is G (dN m.natAbs) (.slice z.a.a z.a.n z.a.c) :=
 ⟨is_v.2 (by rw [h.neg]), (is_dN h.abs.lt).2 ⟨_, rfl, h.abs⟩⟩
theorem isI_of {G : Gh} {k : Nat} {m : Int} {u v : Value} (hm : m.natAbs < 2 ^ k) (h1 : Is G (.v (.bool (decide (m < 0)))) u) (h2 : Is G (dN m.natAbs) v) : ∃ z : IV, u = .bool z.neg ∧ v = .slice z.a.a z.a.n z.a.c ∧ IsI k G z m := by
 obtain ⟨x, rfl, hx⟩ := (is_dN hm).1 h2
 exact ⟨⟨decide (m < 0), x⟩, is_v.1 h1, rfl, rfl, hx⟩
structure BL (l : LnQ) (k : Nat) : Prop where
 a : l.a.natAbs < 2 ^ k
 b : l.b.natAbs < 2 ^ k
 c : l.c.natAbs < 2 ^ k
theorem isL_of {G : Gh} {k : Nat} {l : LnQ} {v : Value} (hl : BL l k) (h : Is G (eL l) v) : ∃ a b c : IV, v = .agg ⟨[.bool a.neg, .slice a.a.a a.a.n a.a.c, .bool b.neg, .slice b.a.a b.a.n b.a.c, .bool c.neg, .slice c.a.a c.a.n c.a.c]⟩ ∧ IsI k G a l.a ∧ IsI k G b l.b ∧ IsI k G c l.c := by
 obtain ⟨m, rfl, g⟩ := is_ag.1 h
 clear h
 obtain ⟨v1, m, rfl, h1, h⟩ := isl_cons.1 g
 obtain ⟨v2, m, rfl, h2, h⟩ := isl_cons.1 h
 obtain ⟨v3, m, rfl, h3, h⟩ := isl_cons.1 h
 obtain ⟨v4, m, rfl, h4, h⟩ := isl_cons.1 h
 obtain ⟨v5, m, rfl, h5, h⟩ := isl_cons.1 h
 obtain ⟨v6, m, rfl, h6, h⟩ := isl_cons.1 h
 rw [isl_nil] at h; subst h
 obtain ⟨a, rfl, rfl, ha⟩ := isI_of hl.a h1 h2
 obtain ⟨b, rfl, rfl, hb⟩ := isI_of hl.b h3 h4
 obtain ⟨c, rfl, rfl, hc⟩ := isI_of hl.c h5 h6
 exact ⟨a, b, c, rfl, ha, hb, hc⟩
theorem isND_of {G : Gh} {k : Nat} {n : NQ} {v : Value} (hl : BL n.l k) (h : Is G (eN n) v) : ∃ z : ND, v = z.val ∧ IsND k G z n := by
 obtain ⟨m, rfl, g⟩ := is_ag.1 h
 clear h
 obtain ⟨v1, m, rfl, h1, h⟩ := isl_cons.1 g
 obtain ⟨v2, m, rfl, h2, h⟩ := isl_cons.1 h
 obtain ⟨v3, m, rfl, h3, h⟩ := isl_cons.1 h
 obtain ⟨v4, m, rfl, h4, h⟩ := isl_cons.1 h
 obtain ⟨v5, m, rfl, h5, h⟩ := isl_cons.1 h
 obtain ⟨v6, m, rfl, h6, h⟩ := isl_cons.1 h
 obtain ⟨v7, m, rfl, h7, h⟩ := isl_cons.1 h
 obtain ⟨v8, m, rfl, h8, h⟩ := isl_cons.1 h
 rw [isl_nil] at h; subst h
 obtain ⟨a, rfl, rfl, ha⟩ := isI_of hl.a h1 h2
 obtain ⟨b, rfl, rfl, hb⟩ := isI_of hl.b h3 h4
 obtain ⟨c, rfl, rfl, hc⟩ := isI_of hl.c h5 h6
 rw [is_v.1 h7, is_v.1 h8]
 exact ⟨⟨a, b, c, n.a, n.b⟩, rfl, ha, hb, hc, rfl, rfl⟩
theorem isND_to {G : Gh} {k : Nat} {n : NQ} {z : ND} (h : IsND k G z n) : Is G (eN n) z.val := by
 refine is_ag.2 ⟨_, rfl, .cons (isI_to h.a).1 (.cons (isI_to h.a).2 (.cons (isI_to h.b).1 (.cons (isI_to h.b).2 (.cons (isI_to h.c).1 (.cons (isI_to h.c).2 (.cons (is_v.2 ?_) (.cons (is_v.2 ?_) .nil)))))))⟩
 · rw [h.l]
 · rw [h.r]
theorem isNs_of {G : Gh} {k : Nat} : ∀ {ns : List NQ} {es : List Value}, (∀ n ∈ ns, BL n.l k) → IsLs G (ns.map eN) es → ∃ zs : List ND, es = zs.map ND.val ∧ All2 (IsND k G) zs ns
 | [], es, _, h => by rw [List.map_nil, isl_nil] at h; subst h; exact ⟨[], rfl, .nil⟩
 | n :: ns, es, hb, h => by
   rw [List.map_cons] at h
   obtain ⟨v, m, rfl, h1, h2⟩ := isl_cons.1 h
   obtain ⟨z, rfl, hz⟩ := isND_of (hb n List.mem_cons_self) h1
   obtain ⟨zs, rfl, hzs⟩ := isNs_of (fun n hn => hb n (List.mem_cons_of_mem _ hn)) h2
   exact ⟨z :: zs, rfl, .cons hz hzs⟩
theorem isNs_to {G : Gh} {k : Nat} : ∀ {ns : List NQ} {zs : List ND}, All2 (IsND k G) zs ns → IsLs G (ns.map eN) (zs.map ND.val)
 | _, _, .nil => .nil
 | _, _, .cons h t => .cons (isND_to h) (isNs_to t)
theorem slOkN (ns : List NQ) : slOk 8 (ns.map eN) := fun d hd => by
 obtain ⟨n, _, rfl⟩ := List.mem_map.1 hd; exact ⟨rfl, rfl⟩
theorem isA_of {G : Gh} {k : Nat} {t : Tr} {v : Value} (hb : ∀ n ∈ t.wr 0, BL n.l k) (h : Is G (eA t) v) : ∃ x : SV, v = .agg ⟨[.int .i64 (t.num 0), .slice x.a x.n x.c]⟩ ∧ IsNs k G x (t.wr 0) := by
 obtain ⟨m, rfl, g⟩ := is_ag.1 h
 clear h
 obtain ⟨v1, m, rfl, h1, h⟩ := isl_cons.1 g
 obtain ⟨v2, m, rfl, h2, h⟩ := isl_cons.1 h
 rw [isl_nil] at h; subst h
 rw [is_v.1 h1]
 obtain ⟨s, x, es, rfl, hs, hl⟩ := is_sl.1 h2
 obtain ⟨zs, rfl, hz⟩ := isNs_of hb hl
 refine ⟨x, rfl, zs, ?_, hz⟩
 rcases sl_stride hs hl (slOkN _) with h | h
 · rw [h] at hs ⊢; exact ⟨hs.len, hs.cap, .inl rfl⟩
 · subst h; exact hs
theorem isA_to {G : Gh} {k : Nat} {t : Tr} {x : SV} (h : IsNs k G x (t.wr 0)) : Is G (eA t) (.agg ⟨[.int .i64 (t.num 0), .slice x.a x.n x.c]⟩) := by
 obtain ⟨zs, h1, h2⟩ := h
 exact is_ag.2 ⟨_, rfl, .cons (is_v.2 rfl) (.cons (is_sl.2 ⟨8, x, _, rfl, h1, isNs_to h2⟩) .nil)⟩
theorem Tr.all_wr {p : LnQ → Prop} : ∀ {t : Tr} (n : Nat), t.all p → ∀ x ∈ t.wr n, p x.l
 | .leaf b, n, _, x, hx => by cases hx
 | .node l u v, n, ⟨h1, h2, h3⟩, x, hx => by
   simp only [Tr.wr, List.cons_append, List.mem_cons, List.mem_append] at hx
   rcases hx with rfl | hx | hx
   · exact h1
   · exact u.all_wr _ h2 x hx
   · exact v.all_wr _ h3 x hx
end Go.Sx
end

section
set_option maxRecDepth 100000
namespace Go.Sx
open Go Go.Proofs
def seenF (n : Nat) (f : Nat → Bool) : List Value := (List.range n).map fun j => .bool (f j)
def setF (f : Nat → Bool) (i : Nat) : Nat → Bool := fun j => f j || Nat.beq j i
def setL (f : Nat → Bool) (L : List Nat) : Nat → Bool := fun j => f j || L.contains j
theorem seenF_len (n : Nat) (f : Nat → Bool) : (seenF n f).length = n := by simp [seenF]
theorem seenF_get {n i : Nat} {f : Nat → Bool} (h : i < n) (hf : f i = false) : (seenF n f)[i]? = some (.bool false) := by simp [seenF, h, hf]
theorem setF_ne {f : Nat → Bool} {i j : Nat} (h : f j = false) (e : j ≠ i) : setF f i j = false := by
 unfold setF
 rw [h, Bool.false_or]
 cases hb : Nat.beq j i with
 | false => rfl
 | true => exact absurd (Nat.eq_of_beq_eq_true hb) e
theorem setL_ne {f : Nat → Bool} {L : List Nat} {j : Nat} (h : f j = false) (e : j ∉ L) : setL f L j = false := by
 unfold setL
 rw [h, Bool.false_or]
 simpa using e
theorem setL_nil (f : Nat → Bool) : setL f [] = f := by funext j; simp [setL]
theorem setL_node (f : Nat → Bool) (i : Nat) (L M : List Nat) : setL (setL (setF f i) L) M = setL f (i :: (L ++ M)) := by
 funext j
 simp only [setL, setF, List.contains_cons, List.contains_append]
 rw [show (j == i) = Nat.beq j i by rw [Bool.eq_iff_iff, Nat.beq_eq]; simp]
 cases f j <;> cases Nat.beq j i <;> cases L.contains j <;> cases M.contains j <;> rfl
theorem seenF_set (n i : Nat) (f : Nat → Bool) : (seenF n f).set i (.bool true) = seenF n (setF f i) := by
 apply List.ext_getElem?
 intro j
 rw [List.getElem?_set]
 simp only [seenF, List.length_map, List.length_range, List.getElem?_map]
 by_cases hj : j < n
 · rw [List.getElem?_range hj]
   simp only [Option.map_some]
   by_cases e : i = j
   · subst e; simp [hj, setF]
   · have : setF f i j = f j := by
       unfold setF
       cases hb : Nat.beq j i with
       | false => rw [Bool.or_false]
       | true => exact absurd (Nat.eq_of_beq_eq_true hb) (fun h => e h.symm)
     simp [e, this]
 · rw [List.getElem?_eq_none (by simpa using hj)]
   by_cases e : i = j
   · subst e; simp [hj]
   · simp [e]
theorem zeros_seenF (n : Nat) : zeros (.bool false) n = seenF n (fun _ => false) := by
 rw [zeros_seen]
 unfold seenL seenF
 simp
def RT (ns : List NQ) : Tr → Int → List Nat → Prop
 | .leaf b, rt, L => rt = leafCode b ∧ L = []
 | .node l x y, rt, L => ∃ (k : Nat) (a b : Int) (L1 L2 : List Nat), rt = (k : Int) ∧ ns[k]? = some ⟨l, a, b⟩ ∧ RT ns x a L1 ∧ RT ns y b L2 ∧ L = k :: (L1 ++ L2)
theorem RT.size {ns : List NQ} : ∀ {t : Tr} {rt : Int} {L : List Nat}, RT ns t rt L → L.length = t.size
 | .leaf _, _, _, ⟨_, h⟩ => by rw [h]; rfl
 | .node l x y, _, _, ⟨k, a, b, L1, L2, _, _, h1, h2, h⟩ => by
   rw [h, List.length_cons, List.length_append, RT.size h1, RT.size h2]
   simp only [Tr.size]
   omega
def RD (ns : List NQ) (t : Tr) (rt : Int) : Prop := ∃ L, RT ns t rt L ∧ L.Nodup ∧ L.length = ns.length
set_option maxHeartbeats 2000000 in
theorem reader_partR {k : Nat} (hk1 : 1 ≤ k) (hk : k ≤ 100000000) {A : Gh} {ns : List NQ} {x : SV} (hx : IsNs k A x ns) (hn : ns.length ≤ 1000000) : ∀ {t : Tr} {G : Gh} {rt : Int} {L : List Nat} {f : Nat → Bool} {c rb sb : Nat} {lo lo2 : Bool}, [GL A G] → RT ns t rt L → L.Nodup → (∀ j ∈ L, f j = false) → c + t.size ≤ 1000000 → t.all LnQ.ok →
   FnM Tryz.prog 117 [.pointer (some ⟨rb, 0, none⟩), .int .i64 rt] [⟨rb, [.slice x.a x.n x.c, .slice (some ⟨sb, 0, none⟩) ns.length ns.length, .int .i64 c, .bool false], 204, lo⟩, ⟨sb, seenF ns.length f, 4, lo2⟩] G
     (fun v css G' => ∃ p, v = .pointer p ∧ IsT k G' t p ∧ css = [[.slice x.a x.n x.c, .slice (some ⟨sb, 0, none⟩) ns.length ns.length, .int .i64 (c + t.size : Nat), .bool false], seenF ns.length (setL f L)])
 | .leaf bb, G, rt, L, f, c, rb, sb, lo, lo2, _, hr, hnd, hf, hle, hok => by
   obtain ⟨rfl, rfl⟩ := hr
   rw [setL_nil]
   refine FnM.intro Tryz.func117 rfl rfl Tryz.ntmps117 rfl ?_
   intro C _ _
   show St C _ _ [⟨rb, _, _, false⟩, ⟨sb, _, _, false⟩] _ _
   cases bb
   case true =>
     refine sR <| sa rfl rfl <| zE <| st_seq <| st_block <| sR <| sm rfl rfl <| sy (yd_eql rfl rfl) rfl <| sm rfl rfl <| ss rfl rfl rfl rfl <| ss rfl rfl rfl rfl <| ?_
     refine sy (yd_pickT rfl rfl) rfl <| sa rfl rfl <| zE <| st_condT rfl <| sR <| sm rfl rfl <| sy (yd_eql rfl rfl) rfl <| ?_
     refine sc (zC rfl rfl (T_Leaf (k := k)) rfl ?_)
     rintro _ G1 _ ⟨p, rfl, hp⟩
     refine sa rfl rfl <| zE <| st_ret <| ?_
     exact st_doneM (css := [_, _]) (.tmp rfl .nil) rfl _ (List.Perm.refl _) (List.Sublist.refl _) ⟨p, rfl, hp, rfl⟩
   refine sR <| sa rfl rfl <| zE <| st_seq <| st_block <| sR <| sm rfl rfl <| sy (yd_eql rfl rfl) rfl <| sm rfl rfl <| syg rfl rfl (yd_move rfl) rfl <| syg rfl rfl (yd_eql rfl rfl) rfl <| ?_
   refine sy (yd_pickF rfl rfl) rfl <| sa rfl rfl <| zE <| st_condT rfl <| sR <| sm rfl rfl <| sy (yd_eql rfl rfl) rfl <| ?_
   refine sc (zC rfl rfl (T_Leaf (k := k)) rfl ?_)
   rintro _ G1 _ ⟨p, rfl, hp⟩
   refine sa rfl rfl <| zE <| st_ret <| ?_
   exact st_doneM (css := [_, _]) (.tmp rfl .nil) rfl _ (List.Perm.refl _) (List.Sublist.refl _) ⟨p, rfl, hp, rfl⟩
 | .node l s u, G, rt, L, f, c, rb, sb, lo, lo2, _, hr, hnd, hf, hle, hok => by
   have hlen := hx.len
   obtain ⟨zs, hs, hzs⟩ := id hx.ex
   obtain ⟨hokl, hoks, hoku⟩ := hok
   simp only [Tr.size] at hle
   obtain ⟨base, ra, rb', L1, L2, rfl, h0, hr1, hr2, rfl⟩ := hr
   obtain ⟨hnb, hnd⟩ := List.nodup_cons.1 hnd
   obtain ⟨hnd1, hnd2, hdis⟩ := List.nodup_append.1 hnd
   have hbn : base < ns.length := (List.getElem?_eq_some_iff.1 h0).1
   have hfb : f base = false := hf base List.mem_cons_self
   have hf1 : ∀ j ∈ L1, setF f base j = false := fun j hj => setF_ne (hf j (List.mem_cons_of_mem _ (List.mem_append_left _ hj))) (fun e => hnb (e ▸ List.mem_append_left _ hj))
   have hf2 : ∀ j ∈ L2, setL (setF f base) L1 j = false := fun j hj => setL_ne (setF_ne (hf j (List.mem_cons_of_mem _ (List.mem_append_right _ hj))) (fun e => hnb (e ▸ List.mem_append_right _ hj))) (fun h => hdis _ h _ hj rfl)
   obtain ⟨z, hzi, hz⟩ := NQ_at hzs h0
   have hzl := hz.l
   have hzr := hz.r
   simp only [] at hzl hzr
   obtain ⟨xa, xn, xc⟩ := x
   simp only [] at hlen
   subst hlen
   refine FnM.intro Tryz.func117 rfl rfl Tryz.ntmps117 rfl ?_
   intro C _ _
   show St C _ [(0, .pointer (some ⟨rb, 0, none⟩)), (1, .int .i64 (base : Int))] [⟨rb, [.slice xa ns.length xc, .slice (some ⟨sb, 0, none⟩) ns.length ns.length, .int .i64 c, .bool false], _, false⟩, ⟨sb, seenF ns.length f, _, false⟩] _ _
   refine sR <| sa rfl rfl <| zE <| st_seq <| st_block <| sR <| sm rfl rfl <| sy (yd_eql rfl rfl) rfl <| sm rfl rfl <| ?_
   refine st_caseP 12 rfl (fun hg => absurd hg (by omega)) (fun hg => ?_)
   refine syg rfl rfl (yd_move rfl) rfl <| syg rfl rfl (yd_eql rfl rfl) rfl <| sy (yd_pickF rfl rfl) rfl <| sa rfl rfl <| zE <| ?_
   refine st_condP rfl (fun hc => absurd hc (by omega)) (fun _ => ?_)
   refine sR <| sm rfl rfl <| sy (yd_lss rfl rfl) rfl <| sm rfl rfl <| ?_
   refine st_caseP 22 rfl (fun hg => absurd hg (by omega)) (fun hg => ?_)
   refine syg rfl rfl (yd_move rfl) rfl <| syg rfl rfl (yd_move rfl) rfl <| syg rfl rfl (yd_nilCheck rfl) rfl <| syg rfl rfl (yd_fieldAddr rfl) rfl <| syg rfl rfl (yd_load_own1 rfl rfl) rfl <| syg rfl rfl (yd_len rfl) rfl <| syg rfl rfl (yd_geq rfl rfl) rfl <| sy (yd_pickF rfl rfl) rfl <| sm rfl rfl <| ?_
   refine st_caseP 31 rfl (fun hg => absurd hg (by omega)) (fun hg => ?_)
   refine syg rfl rfl (yd_move rfl) rfl <| syg rfl rfl (yd_nilCheck rfl) rfl <| syg rfl rfl (yd_fieldAddr rfl) rfl <| syg rfl rfl (yd_load_own1 rfl rfl) rfl <| syg rfl rfl (yd_move rfl) rfl <| syg rfl rfl (yd_ixO rfl rfl (by omega) (by omega)) rfl <| ?_
   refine syg rfl rfl (yd_load_own1 (v := .bool false) rfl (by rw [Int.toNat_natCast, Nat.mul_one]; exact seenF_get hbn hfb)) rfl <| sy (yd_pickF rfl rfl) rfl <| sa rfl rfl <| zE <| st_condF rfl <| zK <| ?_
   refine sR <| sm rfl rfl <| sn rfl rfl <| sf rfl rfl <| slo1 rfl rfl rfl <| sm rfl rfl <| sy (yd_ixO rfl rfl (by omega) (by omega)) rfl <| ?_
   refine sc (ch_store1 rfl rfl (.tl _ _ _ _ _ _ _ _ (.hd ..)) (by rw [seenF_len, Int.toNat_natCast, Nat.mul_one]; exact hbn) rfl rfl ?_)
   rw [Int.toNat_natCast, Nat.mul_one, seenF_set]
   refine zE <| sR <| sm rfl rfl <| sn rfl rfl <| sf rfl rfl <| slo1 rfl rfl rfl <| sy (yd_add64 rfl rfl) rfl <| sn rfl rfl <| sf rfl rfl <| ?_
   refine sc (ch_storeN1 rfl rfl (by first | (dsimp only [ovw, cellsL, zs1, zs2, Nat.reduceAdd, RV.v, LV.v, PV.v, IvV.v, FrV.val]; done) | exact rfl) (by repeat (first | exact .hd .. | apply OUpd.tl)) (nb rfl) rfl rfl ?_)
   rw [show (c : Int) + 1 = ((c + 1 : Nat) : Int) by omega]
   refine zE <| sR <| sm rfl rfl <| sn rfl rfl <| sf rfl rfl <| slo1 rfl rfl rfl <| sm rfl rfl <| sy (yd_ix (z := ⟨xa, ns.length, xc⟩) hs rfl rfl (by omega) (by show (base : Int) < (ns.length : Int); omega)) rfl <| ?_
   rw [Int.toNat_natCast]
   refine sy (yd_ldA (i := base) hs rfl (by rw [List.length_map, hzs.len]; exact hbn) hzi) rfl <| ?_
   refine sc (ch_alloc rfl ?_)
   intro b5
   refine sc (ch_storeN rfl rfl (by first | (dsimp only [ovw, cellsL, zs1, zs2, Nat.reduceAdd, RV.v, LV.v, PV.v, IvV.v, FrV.val]; done) | exact rfl) (by repeat (first | exact .hd .. | apply OUpd.tl)) rfl (nb rfl) rfl rfl ?_)
   refine zE <| sR <| sf rfl rfl <| slo rfl rfl rfl <| ?_
   refine sc (zC rfl rfl (geo_LnOfQ hz.a hz.b hz.c hokl hk1 hk) rfl ?_)
   rintro _ G6 _ ⟨w, rfl, hw⟩
   refine sm rfl rfl <| sx rfl rfl rfl <| sx rfl rfl rfl <| ?_
   refine sc (ch_alloc rfl ?_)
   intro b6
   refine sc (ch_storeN rfl rfl (by first | (dsimp only [ovw, cellsL, zs1, zs2, Nat.reduceAdd, RV.v, LV.v, PV.v, IvV.v, FrV.val]; done) | exact rfl) (by repeat (first | exact .hd .. | apply OUpd.tl)) rfl (nb rfl) rfl rfl ?_)
   refine sa rfl rfl <| zE <| st_seq <| sR <| sm rfl rfl <| sy (yd_not rfl) rfl <| zE <| st_condF rfl <| zK <| ?_
   refine sR <| sm rfl rfl <| sf rfl rfl <| slo1 rfl rfl rfl <| ?_
   have hrp := reader_partR hk1 hk hx hn (t := s) (G := G6) (f := setF f base) (c := c + 1) (rb := rb) (sb := sb) (lo := false) (lo2 := false) hr1 hnd1 hf1 (by omega) hoks
   rw [← hzl] at hrp
   refine sc (ch_callM rfl rfl (List.perm_append_comm (l₁ := [_, _]) (l₂ := [_, _])) hrp rfl ?_)
   rintro _ css G7 _ _ ⟨p1, rfl, hp1, rfl⟩
   show St C _ _ [⟨rb, [.slice xa ns.length xc, .slice (some ⟨sb, 0, none⟩) ns.length ns.length, .int .i64 (c + 1 + s.size : Nat), .bool false], 204, false⟩, ⟨sb, seenF ns.length (setL (setF f base) L1), 4, false⟩, ⟨b6, [.int .i64 w.a.n, .int .i64 w.a.d, .pointer w.a.p, .int .i64 w.b.n, .int .i64 w.b.d, .pointer w.b.p, .int .i64 w.c.n, .int .i64 w.c.d, .pointer w.c.p], 105, true⟩, ⟨b5, [.bool z.a.neg, .slice z.a.a.a z.a.a.n z.a.a.c, .bool z.b.neg, .slice z.b.a.a z.b.a.n z.b.a.c, .bool z.c.neg, .slice z.c.a.a z.c.a.n z.c.a.c, .int .i64 z.l, .int .i64 z.r], 60, true⟩] _ _
   refine sa rfl rfl <| zE <| st_seq <| ?_
   refine drS [⟨b6, [.int .i64 w.a.n, .int .i64 w.a.d, .pointer w.a.p, .int .i64 w.b.n, .int .i64 w.b.d, .pointer w.b.p, .int .i64 w.c.n, .int .i64 w.c.d, .pointer w.c.p], 105, true⟩, ⟨b5, [.bool z.a.neg, .slice z.a.a.a z.a.a.n z.a.a.c, .bool z.b.neg, .slice z.b.a.a z.b.a.n z.b.a.c, .bool z.c.neg, .slice z.c.a.a z.c.a.n z.c.a.c, .int .i64 z.l, .int .i64 z.r], 60, true⟩] (fun _ => false) [(0, true), (1, true), (2, true), (3, true), (4, true), (5, false), (6, false), (7, true)] follows (by kernel_rfl) <| ?_
   refine dL rfl rfl rfl rfl <| dM rfl rfl rfl <| dM rfl rfl rfl <| dF rfl rfl rfl <| dL1 rfl rfl rfl rfl <| ?_
   have hrp := reader_partR hk1 hk hx hn (t := u) (G := G7) (f := setL (setF f base) L1) (c := c + 1 + s.size) (rb := rb) (sb := sb) (lo := false) (lo2 := false) hr2 hnd2 hf2 (by omega) hoku
   rw [← hzr] at hrp
   refine dc rfl rfl (ch_callM rfl rfl (M := [_, _]) (rest := [_, _]) (List.Perm.refl _) hrp rfl ?_)
   rintro _ css G8 _ _ ⟨p2, rfl, hp2, rfl⟩
   show St C _ _ [⟨rb, [.slice xa ns.length xc, .slice (some ⟨sb, 0, none⟩) ns.length ns.length, .int .i64 (c + 1 + s.size + u.size : Nat), .bool false], 204, false⟩, ⟨sb, seenF ns.length (setL (setL (setF f base) L1) L2), 4, false⟩, ⟨b6, [.int .i64 w.a.n, .int .i64 w.a.d, .pointer w.a.p, .int .i64 w.b.n, .int .i64 w.b.d, .pointer w.b.p, .int .i64 w.c.n, .int .i64 w.c.d, .pointer w.c.p], 105, true⟩, ⟨b5, [.bool z.a.neg, .slice z.a.a.a z.a.a.n z.a.a.c, .bool z.b.neg, .slice z.b.a.a z.b.a.n z.b.a.c, .bool z.c.neg, .slice z.c.a.a z.c.a.n z.c.a.c, .int .i64 z.l, .int .i64 z.r], 60, true⟩] _ _
   refine dr_s <| ?_
   refine dc rfl rfl (zC rfl rfl (T_New hw hp1 hp2) rfl ?_)
   rintro _ G9 _ ⟨p, rfl, hp⟩
   refine dr_s <| dA rfl rfl rfl <| dn <| st_ret <| ?_
   refine st_doneM (css := [[.slice xa ns.length xc, .slice (some ⟨sb, 0, none⟩) ns.length ns.length, .int .i64 (c + 1 + s.size + u.size : Nat), .bool false], seenF ns.length (setL (setL (setF f base) L1) L2)]) (.tmp rfl .nil) rfl _ (List.Perm.refl _) (.cons_cons _ (.cons_cons _ (List.nil_sublist _))) ⟨p, rfl, hp, ?_⟩
   rw [show c + (Tr.node l s u).size = c + 1 + s.size + u.size by simp only [Tr.size]; omega, setL_node]
set_option maxHeartbeats 1000000 in
theorem T_OfR {k : Nat} (hk1 : 1 ≤ k) (hk : k ≤ 100000000) {A G : Gh} {x : SV} {t : Tr} {ns : List NQ} {rt : Int} (hx : IsNs k A x ns) (hr : RD ns t rt) [GL A G] (hok : t.all LnQ.ok) (hs : t.size ≤ 65536) :
  Fn Tryz.prog 63 [.agg ⟨[.int .i64 rt, .slice x.a x.n x.c]⟩] G (fun v G' => ∃ p, v = .tuple #[.pointer p, .bool true] ∧ IsT k G' t p) := by
 have hlen := hx.len
 obtain ⟨L, hrt, hnd, hLn⟩ := hr
 have hwl := hrt.size
 obtain ⟨xa, xn, xc⟩ := x
 simp only [] at hlen
 subst hlen
 show Fn _ _ [.agg ⟨[_, .slice xa ns.length xc]⟩] _ _
 refine Fn.intro Tryz.func63 rfl rfl Tryz.ntmps63 rfl ?_
 intro C _ _
 refine sR <| ?_
 refine sc (ch_box rfl rfl ?_)
 intro b1
 refine sa rfl rfl <| sa rfl rfl <| zE <| st_seq <| sR <| sf rfl rfl <| slo1 rfl rfl rfl <| slen rfl rfl <| sy (yd_gtr rfl rfl) rfl <| zE <| ?_
 refine st_condP rfl (fun hc => absurd hc (by omega)) (fun _ => ?_) -- slot 9
 refine zK <| st_seq <| dr (fun _ => false) [(0, true), (1, true), (2, true), (3, true), (4, true), (5, false), (6, true), (7, false), (8, true)] follows (by kernel_rfl) <| dF rfl rfl rfl <| ?_
 refine dL1 rfl rfl rfl rfl <| dF rfl rfl rfl <| dL1 rfl rfl rfl rfl <| dy rfl (fun _ => yd_len rfl) rfl rfl <| ?_
 refine dc rfl rfl (ch_make rfl rfl (by omega) (by omega) (by omega) (by rfl) rfl ?_)
 intro b2
 rw [Int.toNat_natCast, zeros_seenF]
 refine dr_s <| dy rfl (fun _ => yd_build rfl) rfl rfl <| ?_
 refine dc rfl rfl (ch_box rfl rfl ?_)
 intro b3
 refine dr_s <| dA rfl rfl rfl <| dn <| sR <| sm rfl rfl <| sf rfl rfl <| slo1 rfl rfl rfl <| ?_
 have hrp := reader_partR hk1 hk hx (by omega) (t := t) (G := G) (f := fun _ => false) (c := 0) (rb := b3) (sb := b2) (lo := true) (lo2 := true) hrt hnd (fun _ _ => rfl) (by omega) hok
 refine sc (ch_callM rfl rfl (M := [_, _]) (rest := [_]) (List.Perm.refl _) hrp rfl ?_)
 rintro _ css G4 _ _ ⟨p, rfl, hp, rfl⟩
 show St C _ _ [⟨b3, [.slice xa ns.length xc, .slice (some ⟨b2, 0, none⟩) ns.length ns.length, .int .i64 (0 + t.size : Nat), .bool false], 204, true⟩, ⟨b2, seenF ns.length (setL (fun _ => false) L), 4, true⟩, ⟨b1, [.int .i64 rt, .slice xa ns.length xc], 36, true⟩] _ _
 refine sa rfl rfl <| zE <| st_seq <| st_seq <| dr (fun _ => false) [(0, true), (1, true), (2, true), (3, true), (4, true), (5, true), (6, true), (7, true), (8, true), (9, true), (10, true), (11, true), (12, true), (13, true)] follows (by kernel_rfl) <| ?_
 refine dM rfl rfl rfl <| dy rfl (fun _ => yd_nilCheck rfl) rfl rfl <| dF rfl rfl rfl <| dL1 rfl rfl rfl rfl <| dM rfl rfl rfl <| ?_
 refine dyg rfl rfl rfl rfl (fun _ => yd_move rfl) rfl <| dyg rfl rfl rfl rfl (fun _ => yd_nilCheck rfl) rfl <| dyg rfl rfl rfl rfl (fun _ => yd_fieldAddr rfl) rfl <| dyg rfl rfl rfl rfl (fun _ => yd_load_own1 rfl rfl) rfl <| ?_
 refine dyg rfl rfl rfl rfl (fun _ => yd_fieldAddr rfl) rfl <| dyg rfl rfl rfl rfl (fun _ => yd_load_own1 rfl rfl) rfl <| dyg rfl rfl rfl rfl (fun _ => yd_len rfl) rfl <| dyg rfl rfl rfl rfl (fun _ => yd_neq rfl rfl) rfl <| ?_
 refine dy rfl (fun _ => yd_pickF rfl rfl) rfl rfl <| dn <| ?_
 refine st_condP rfl (fun hc => absurd hc (by omega)) (fun _ => ?_) -- slot 35
 refine zK <| sR <| sm rfl rfl <| sa rfl rfl <| sa rfl rfl <| zE <| st_ret <| ?_
 exact zD (.tmp rfl (.tmp rfl .nil)) ⟨p, rfl, hp⟩
end Go.Sx
end
