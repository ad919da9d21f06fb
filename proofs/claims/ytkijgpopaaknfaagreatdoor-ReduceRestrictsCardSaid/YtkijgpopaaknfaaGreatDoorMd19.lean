/-
  The law ReduceRestricts holds: it answers true at every input and leaves its argument as it was.
-/
import Derived.Test.YtkijgpopaaknfaaGreatDoorMd18
import Derived.Test.YtkijgpopaaknfaaGreatDoorCards
import Derived.Test.YtkijgpopaaknfaaGreatDoorTie
import Derived.WalkKit
import Derived.ProofKit
import Derived.OpenShut
import Derived.Deep.DeepHandedRow
import Derived.Deep.DeepWitnessRowRef
import Derived.LaidMore
import Derived.Lib.LaidTab
import Derived.SizedLaws
set_option linter.unusedSimpArgs false
set_option linter.unusedVariables false
section
set_option maxRecDepth 100000
namespace Go.Sx
open Go Go.Proofs
def sameT : Tr → Tr → Bool
 | .leaf a, .leaf b => decide (a = b)
 | .node l x y, .node m u v => decide (l = m) && (sameT x u && sameT y v)
 | _, _ => false
theorem sameT_iff : ∀ {t u : Tr}, sameT t u = true ↔ t = u
 | .leaf a, .leaf b => by simp [sameT]
 | .leaf _, .node .. => by simp [sameT]
 | .node .., .leaf _ => by simp [sameT]
 | .node l x y, .node m u v => by simp [sameT, sameT_iff (t := x), sameT_iff (t := y)]
set_option maxHeartbeats 1000000 in
theorem T_Same {k : Nat} (hk : k + k + 1 ≤ 1099511627776) : ∀ {t u : Tr} {A B G : Gh} {p q : Option Addr}, IsT k A t p → IsT k B u q → [GL A G] → [GL B G] → Fn Tryz.prog 81 [.pointer p, .pointer q] G (fun v _ => v = .bool (sameT t u))
 | .leaf a, .leaf b, A, B, G, p, q, h1, h2, _, _ => by
   obtain ⟨n1, rfl, g1⟩ := id h1
   obtain ⟨n2, rfl, g2⟩ := id h2
   have e1 : GHas A n1 _ := ⟨g1⟩
   have e2 : GHas B n2 _ := ⟨g2⟩
   refine Fn.intro Tryz.func81 rfl rfl Tryz.ntmps81 rfl ?_
   intro C _ _
   refine sR <| sa rfl rfl <| zE <| st_seq <| st_block <| sR <| sm rfl rfl <| ?_
   refine sc (zC rfl rfl (T_IsLeaf h1) rfl ?_)
   rintro _ G1 _ rfl
   refine sm rfl rfl <| ?_
   refine sc (zC rfl rfl (T_IsLeaf h2) rfl ?_)
   rintro _ G2 _ rfl
   refine sy (yd_neB rfl rfl) rfl <| sa rfl rfl <| zE <| st_condF rfl <| sR <| sm rfl rfl <| ?_
   refine sc (zC rfl rfl (T_IsLeaf h1) rfl ?_)
   rintro _ G3 _ rfl
   refine sa rfl rfl <| zE <| st_condT rfl <| st_seq <| dr (fun _ => false) [(0, true), (1, true), (2, true), (3, true), (4, true), (5, true), (6, true), (7, true), (8, true), (9, true)] follows (by kernel_rfl) <| ?_
   refine dM rfl rfl rfl <| dy rfl (fun _ => yd_nilCheck rfl) rfl rfl <| dF rfl rfl rfl <| dy rfl (fun _ => yd_load_gh1 rfl ghi rfl) rfl rfl <| ?_
   refine dM rfl rfl rfl <| dy rfl (fun _ => yd_nilCheck rfl) rfl rfl <| dF rfl rfl rfl <| dy rfl (fun _ => yd_load_gh1 rfl ghi rfl) rfl rfl <| ?_
   refine dy rfl (fun _ => yd_eqB rfl rfl) rfl rfl <| dA rfl rfl rfl <| dn <| st_ret <| ?_
   exact zD (.tmp rfl .nil) (by cases a <;> cases b <;> rfl)
 | .leaf a, .node m u v, A, B, G, p, q, h1, h2, _, _ => by
   refine Fn.intro Tryz.func81 rfl rfl Tryz.ntmps81 rfl ?_
   intro C _ _
   refine sR <| sa rfl rfl <| zE <| st_seq <| st_block <| sR <| sm rfl rfl <| ?_
   refine sc (zC rfl rfl (T_IsLeaf h1) rfl ?_)
   rintro _ G1 _ rfl
   refine sm rfl rfl <| ?_
   refine sc (zC rfl rfl (T_IsLeaf h2) rfl ?_)
   rintro _ G2 _ rfl
   refine sy (yd_neB rfl rfl) rfl <| sa rfl rfl <| zE <| st_condT rfl <| sR <| sa rfl rfl <| zE <| st_ret <| ?_
   exact zD (.tmp rfl .nil) rfl
 | .node l x y, .leaf b, A, B, G, p, q, h1, h2, _, _ => by
   refine Fn.intro Tryz.func81 rfl rfl Tryz.ntmps81 rfl ?_
   intro C _ _
   refine sR <| sa rfl rfl <| zE <| st_seq <| st_block <| sR <| sm rfl rfl <| ?_
   refine sc (zC rfl rfl (T_IsLeaf h1) rfl ?_)
   rintro _ G1 _ rfl
   refine sm rfl rfl <| ?_
   refine sc (zC rfl rfl (T_IsLeaf h2) rfl ?_)
   rintro _ G2 _ rfl
   refine sy (yd_neB rfl rfl) rfl <| sa rfl rfl <| zE <| st_condT rfl <| sR <| sa rfl rfl <| zE <| st_ret <| ?_
   exact zD (.tmp rfl .nil) rfl
 | .node l x y, .node m u v, A, B, G, p, q, h1, h2, _, _ => by
   obtain ⟨n1, z1, q1, r1, rfl, g1, hl, hx, hy⟩ := id h1
   obtain ⟨n2, z2, q2, r2, rfl, g2, hm, hu, hv⟩ := id h2
   have e1 : GHas A n1 _ := ⟨g1⟩
   have e2 : GHas B n2 _ := ⟨g2⟩
   refine Fn.intro Tryz.func81 rfl rfl Tryz.ntmps81 rfl ?_
   intro C _ _
   refine sR <| sa rfl rfl <| zE <| st_seq <| st_block <| sR <| sm rfl rfl <| ?_
   refine sc (zC rfl rfl (T_IsLeaf h1) rfl ?_)
   rintro _ G1 _ rfl
   refine sm rfl rfl <| ?_
   refine sc (zC rfl rfl (T_IsLeaf h2) rfl ?_)
   rintro _ G2 _ rfl
   refine sy (yd_neB rfl rfl) rfl <| sa rfl rfl <| zE <| st_condF rfl <| sR <| sm rfl rfl <| ?_
   refine sc (zC rfl rfl (T_IsLeaf h1) rfl ?_)
   rintro _ G3 _ rfl
   refine sa rfl rfl <| zE <| st_condF rfl <| zK <| st_seq <| dr (fun _ => false) [(0, true), (1, true), (2, true), (3, true), (4, true), (5, true), (6, true), (7, true), (8, false), (9, true), (10, true), (11, true), (12, true), (13, true), (14, true), (15, true), (16, true), (17, true), (18, false), (19, true), (20, true), (21, true), (22, true), (23, true), (24, true), (25, true), (26, true), (27, true), (28, true), (29, false), (30, true), (31, true)] follows (by kernel_rfl) <| ?_
   refine dM rfl rfl rfl <| dy rfl (fun _ => yd_nilCheck rfl) rfl rfl <| dF rfl rfl rfl <| dy rfl (fun _ => yd_load_gh rfl ghi rfl) rfl rfl <| dM rfl rfl rfl <| ?_
   refine dy rfl (fun _ => yd_nilCheck rfl) rfl rfl <| dF rfl rfl rfl <| dy rfl (fun _ => yd_load_gh rfl ghi rfl) rfl rfl <| ?_
   refine dc rfl rfl (zC rfl rfl (Ln_Equal hl hm hk) rfl ?_)
   rintro _ G4 _ rfl
   by_cases e : l = m
   · rw [decide_eq_true e]
     refine dr_s <| dM rfl rfl rfl <| dyg rfl rfl rfl rfl (fun _ => yd_move rfl) rfl <| dyg rfl rfl rfl rfl (fun _ => yd_nilCheck rfl) rfl <| dyg rfl rfl rfl rfl (fun _ => yd_fieldAddr rfl) rfl <| ?_
     refine dyg rfl rfl rfl rfl (fun _ => yd_load_gh1 rfl ghi rfl) rfl <| dyg rfl rfl rfl rfl (fun _ => yd_move rfl) rfl <| dyg rfl rfl rfl rfl (fun _ => yd_nilCheck rfl) rfl <| dyg rfl rfl rfl rfl (fun _ => yd_fieldAddr rfl) rfl <| ?_
     refine dyg rfl rfl rfl rfl (fun _ => yd_load_gh1 rfl ghi rfl) rfl <| ?_
     refine dcg rfl rfl rfl rfl (zC rfl rfl (T_Same hk hx hu) rfl ?_)
     rintro _ G5 _ rfl
     cases hxu : sameT x u with
     | true =>
       refine dr_s <| dy rfl (fun _ => yd_pickT rfl rfl) rfl rfl <| dM rfl rfl rfl <| dyg rfl rfl rfl rfl (fun _ => yd_move rfl) rfl <| dyg rfl rfl rfl rfl (fun _ => yd_nilCheck rfl) rfl <| ?_
       refine dyg rfl rfl rfl rfl (fun _ => yd_fieldAddr rfl) rfl <| dyg rfl rfl rfl rfl (fun _ => yd_load_gh1 rfl ghi rfl) rfl <| dyg rfl rfl rfl rfl (fun _ => yd_move rfl) rfl <| dyg rfl rfl rfl rfl (fun _ => yd_nilCheck rfl) rfl <| ?_
       refine dyg rfl rfl rfl rfl (fun _ => yd_fieldAddr rfl) rfl <| dyg rfl rfl rfl rfl (fun _ => yd_load_gh1 rfl ghi rfl) rfl <| ?_
       refine dcg rfl rfl rfl rfl (zC rfl rfl (T_Same hk hy hv) rfl ?_)
       rintro _ G6 _ rfl
       refine dr_s <| dy rfl (fun _ => yd_pickT rfl rfl) rfl rfl <| dA rfl rfl rfl <| dn <| st_ret <| ?_
       exact zD (.tmp rfl .nil) (by show Value.bool _ = _; rw [sameT, decide_eq_true e, hxu]; simp)
     | false =>
       refine dr_s <| dy rfl (fun _ => yd_pickT rfl rfl) rfl rfl <| dM rfl rfl rfl <| dys rfl rfl rfl rfl rfl rfl <| dys rfl rfl rfl rfl rfl rfl <| dys rfl rfl rfl rfl rfl rfl <| ?_
       refine dys rfl rfl rfl rfl rfl rfl <| dys rfl rfl rfl rfl rfl rfl <| dys rfl rfl rfl rfl rfl rfl <| dys rfl rfl rfl rfl rfl rfl <| dys rfl rfl rfl rfl rfl rfl <| dcs rfl rfl rfl rfl rfl rfl <| ?_
       refine dr_s <| dy rfl (fun _ => yd_pickF rfl rfl) rfl rfl <| dA rfl rfl rfl <| dn <| st_ret <| ?_
       exact zD (.tmp rfl .nil) (by show Value.bool _ = _; rw [sameT, decide_eq_true e, hxu]; simp)
   · rw [decide_eq_false e]
     refine dr_s <| dM rfl rfl rfl <| dys rfl rfl rfl rfl rfl rfl <| dys rfl rfl rfl rfl rfl rfl <| dys rfl rfl rfl rfl rfl rfl <| dys rfl rfl rfl rfl rfl rfl <| dys rfl rfl rfl rfl rfl rfl <| ?_
     refine dys rfl rfl rfl rfl rfl rfl <| dys rfl rfl rfl rfl rfl rfl <| dys rfl rfl rfl rfl rfl rfl <| dcs rfl rfl rfl rfl rfl rfl <| dr_s <| dy rfl (fun _ => yd_pickF rfl rfl) rfl rfl <| dM rfl rfl rfl <| ?_
     refine dys rfl rfl rfl rfl rfl rfl <| dys rfl rfl rfl rfl rfl rfl <| dys rfl rfl rfl rfl rfl rfl <| dys rfl rfl rfl rfl rfl rfl <| dys rfl rfl rfl rfl rfl rfl <| dys rfl rfl rfl rfl rfl rfl <| ?_
     refine dys rfl rfl rfl rfl rfl rfl <| dys rfl rfl rfl rfl rfl rfl <| dcs rfl rfl rfl rfl rfl rfl <| dr_s <| dy rfl (fun _ => yd_pickF rfl rfl) rfl rfl <| dA rfl rfl rfl <| ?_
     refine dn <| st_ret <| ?_
     exact zD (.tmp rfl .nil) (by show Value.bool _ = _; rw [sameT, decide_eq_false e]; simp)
theorem reduce_RestrictR {k : Nat} (hk1 : 1 ≤ k) (hk : k ≤ 100000000) {A B G : Gh} {x y : SV} {t : Tr} {ns : List NQ} {rt : Int} {ls : List LnQ} {c : CellQ} (hx : IsNs k A x ns) (hrd : RD ns t rt) (hy : IsLIs k B y ls) [GL A G] [GL B G] (hok : t.all LnQ.ok) (hokl : ∀ l ∈ ls, l.ok) (hn : ls.length ≤ 1000) (hq : canonQ ls [] = some c)
   (hs : t.size ≤ 65536) (hd : t.depth + ls.length ≤ 1024) (hsz : (t.restrict c).size ≤ 1000000) :
   Fn Tryz.prog 22 [.agg ⟨[.int .i64 rt, .slice x.a x.n x.c]⟩, .agg ⟨[.slice y.a y.n y.c]⟩] G (fun v G' => ∃ y : SV, v = .tuple #[.agg ⟨[.int .i64 ((t.restrict c).num 0), .slice y.a y.n y.c]⟩, .nilIface] ∧ IsNs k G' y ((t.restrict c).wr 0)) := by
 have hcl := canon_len hq
 simp only [List.length_nil, Nat.zero_add] at hcl
 refine Fn.intro Tryz.func22 rfl rfl Tryz.ntmps22 rfl ?_
 intro C _ _
 refine sR <| ?_
 refine sc (ch_box rfl rfl ?_)
 intro b1
 refine sc (ch_box rfl rfl ?_)
 intro b2
 refine sc (ch_alloc rfl ?_)
 intro b3
 refine sa rfl rfl <| zE <| sR <| slo rfl rfl rfl <| ?_
 refine sc (zC rfl rfl (T_OfR hk1 hk hx hrd hok hs) rfl ?_)
 rintro _ G4 _ ⟨p, rfl, hp⟩
 refine sm rfl rfl <| sx rfl rfl rfl <| sx rfl rfl rfl <| sa rfl rfl <| sa rfl rfl <| zE <| sR <| slo rfl rfl rfl <| ?_
 refine sc (zC rfl rfl (geo_LinesOf hk1 hk hy hokl (by omega)) rfl ?_)
 rintro _ G5 _ ⟨w, rfl, hw⟩
 refine sm rfl rfl <| sx rfl rfl rfl <| sx rfl rfl rfl <| sa rfl rfl <| sa rfl rfl <| zE <| st_seq <| sR <| sm rfl rfl <| sy (yd_not rfl) rfl <| sm rfl rfl <| syg rfl rfl (yd_move rfl) rfl <| ?_
 refine syg rfl rfl (yd_not rfl) rfl <| sy (yd_pickF rfl rfl) rfl <| zE <| st_condF rfl <| zK <| sR <| sm rfl rfl <| ?_
 refine sc (zC rfl rfl (geo_Canon hk hw (by omega)) rfl ?_)
 rintro _ G6 _ (⟨hno, _⟩ | ⟨c', u, hc', rfl, hu⟩)
 · rw [hq] at hno; cases hno
 obtain rfl : c = c' := by rw [hq] at hc'; exact Option.some.inj hc'
 have hun := hu.len
 refine sm rfl rfl <| sx rfl rfl rfl <| sx rfl rfl rfl <| sa rfl rfl <| sa rfl rfl <| zE <| st_seq <| st_block <| sR <| sm rfl rfl <| sy (yd_not rfl) rfl <| sa rfl rfl <| zE <| ?_
 refine st_condF rfl <| sR <| sm rfl rfl <| ?_
 refine sc (zC rfl rfl (T_Depth hp (by omega)) rfl ?_)
 rintro _ G7 _ rfl
 refine sm rfl rfl <| slen rfl rfl <| sy (yd_add64 rfl rfl) rfl <| sy (yd_gtr rfl rfl) rfl <| sa rfl rfl <| zE <| ?_
 refine st_condP rfl (fun hc => absurd hc (by omega)) (fun _ => ?_)
 refine zK <| sR <| sm rfl rfl <| sm rfl rfl <| ?_
 refine sc (zC rfl rfl (T_Restrict hk hp hu (by omega)) rfl ?_)
 rintro _ G8 _ ⟨p2, rfl, hp2⟩
 refine sc (zC rfl rfl (T_API hk hp2 hsz) rfl ?_)
 rintro _ G9 _ ⟨y, rfl, hy⟩
 refine sc (chS rfl rfl rfl (nb rfl) rfl rfl ?_)
 refine sa rfl rfl <| zE <| st_ret <| ?_
 exact zD (.agg rfl ii ii rfl (.tmp rfl .nil)) ⟨y, rfl, hy⟩
theorem reduce_readR {k n : Nat} (hk1 : 1 ≤ k) (hk : k ≤ 100000000) {A G : Gh} {x : SV} {t : Tr} {ns : List NQ} {rt : Int} (hx : IsNs k A x ns) (hrd : RD ns t rt) [GL A G] (hok : t.all LnQ.ok) (hs : t.size ≤ 65536) (hd : t.depth + n ≤ 1024) :
  Fn Tryz.prog 46 [.agg ⟨[.int .i64 rt, .slice x.a x.n x.c]⟩, .int .i64 (n : Int)] G (fun v G' => ∃ p, v = .tuple #[.pointer p, .nilIface] ∧ IsT k G' t p) := by
 refine Fn.intro Tryz.func46 rfl rfl Tryz.ntmps46 rfl ?_
 intro C _ _
 refine sR <| ?_
 refine sc (ch_box rfl rfl ?_)
 intro b1
 refine sa rfl rfl <| sa rfl rfl <| zE <| sR <| slo rfl rfl rfl <| ?_
 refine sc (zC rfl rfl (T_OfR hk1 hk hx hrd hok hs) rfl ?_)
 rintro _ G2 _ ⟨p, rfl, hp⟩
 refine sm rfl rfl <| sx rfl rfl rfl <| sx rfl rfl rfl <| sa rfl rfl <| sa rfl rfl <| zE <| st_seq <| st_block <| sR <| sm rfl rfl <| sy (yd_not rfl) rfl <| sa rfl rfl <| zE <| ?_
 refine st_condF rfl <| sR <| sm rfl rfl <| ?_
 refine sc (zC rfl rfl (T_Depth hp (by omega)) rfl ?_)
 rintro _ G3 _ rfl
 refine sm rfl rfl <| sy (yd_add64 rfl rfl) rfl <| sy (yd_gtr rfl rfl) rfl <| sa rfl rfl <| zE <| ?_
 refine st_condP rfl (fun hc => absurd hc (by omega)) (fun _ => ?_)
 refine zK <| sR <| sm rfl rfl <| sa rfl rfl <| ?_
 refine sa rfl rfl <| zE <| st_ret <| ?_
 exact zD (.tmp rfl (.tmp rfl .nil)) ⟨p, rfl, hp.up⟩
theorem reduce_ReduceR {k : Nat} (hk1 : 1 ≤ k) (hk : k ≤ 100000000) {A G : Gh} {x : SV} {t : Tr} {ns : List NQ} {rt : Int} (hx : IsNs k A x ns) (hrd : RD ns t rt) [GL A G] (hok : t.all LnQ.ok) (hs : t.size ≤ 65536) (hd : t.depth ≤ 1024) (hsz : (t.restrict []).size ≤ 1000000) :
  Fn Tryz.prog 19 [.agg ⟨[.int .i64 rt, .slice x.a x.n x.c]⟩] G (fun v G' => ∃ y : SV, v = .tuple #[.agg ⟨[.int .i64 ((t.restrict []).num 0), .slice y.a y.n y.c]⟩, .nilIface] ∧ IsNs k G' y ((t.restrict []).wr 0)) := by
 refine Fn.intro Tryz.func19 rfl rfl Tryz.ntmps19 rfl ?_
 intro C _ _
 refine sR <| ?_
 refine sc (ch_box rfl rfl ?_)
 intro b1
 refine sc (ch_alloc rfl ?_)
 intro b2
 refine sa rfl rfl <| zE <| sR <| slo rfl rfl rfl <| ?_
 refine sc (zC rfl rfl (reduce_readR (n := 0) hk1 hk hx hrd hok hs hd) rfl ?_)
 rintro _ G3 _ ⟨p, rfl, hp⟩
 refine sm rfl rfl <| sx rfl rfl rfl <| sx rfl rfl rfl <| sa rfl rfl <| sa rfl rfl <| zE <| st_seq <| sR <| sm rfl rfl <| sy (yd_neN (by simp) rfl) rfl <| zE <| st_condF rfl <| ?_
 refine zK <| sR <| sm rfl rfl <| ?_
 refine sc (zC rfl rfl (T_Reduce hk hp (by omega)) rfl ?_)
 rintro _ G4 _ ⟨p2, rfl, hp2⟩
 refine sc (zC rfl rfl (T_API hk hp2 hsz) rfl ?_)
 rintro _ G5 _ ⟨y, rfl, hy⟩
 refine sc (chS rfl rfl rfl (nb rfl) rfl rfl ?_)
 refine sa rfl rfl <| zE <| st_ret <| ?_
 exact zD (.agg rfl ii ii rfl (.tmp rfl .nil)) ⟨y, rfl, hy⟩
theorem reduce_Reduced {k : Nat} (hk1 : 1 ≤ k) (hk : k ≤ 100000000) {A G : Gh} {x : SV} {t : Tr} {ns : List NQ} {rt : Int} (hx : IsNs k A x ns) (hrd : RD ns t rt) [GL A G] (hok : t.all LnQ.ok) (hs : t.size ≤ 65536) (hd : t.depth ≤ 1024) :
  Fn Tryz.prog 30 [.agg ⟨[.int .i64 rt, .slice x.a x.n x.c]⟩] G (fun v _ => v = .tuple #[.bool (sameT t (t.restrict [])), .nilIface]) := by
 refine Fn.intro Tryz.func30 rfl rfl Tryz.ntmps30 rfl ?_
 intro C _ _
 refine sR <| ?_
 refine sc (ch_box rfl rfl ?_)
 intro b1
 refine sa rfl rfl <| sa rfl rfl <| zE <| sR <| slo rfl rfl rfl <| ?_
 refine sc (zC rfl rfl (reduce_readR (n := 0) hk1 hk hx hrd hok hs hd) rfl ?_)
 rintro _ G2 _ ⟨p, rfl, hp⟩
 refine sm rfl rfl <| sx rfl rfl rfl <| sx rfl rfl rfl <| sa rfl rfl <| sa rfl rfl <| zE <| sR <| sm rfl rfl <| sy (yd_eqN (by simp) rfl) rfl <| sm rfl rfl <| syg rfl rfl (yd_move rfl) rfl <| ?_
 refine syg rfl rfl (yd_move rfl) rfl <| ?_
 refine st_chg rfl rfl rfl (zC rfl rfl (T_Reduce hk hp (by omega)) rfl ?_)
 rintro _ G3 _ ⟨p2, rfl, hp2⟩
 refine st_chg rfl rfl rfl (zC rfl rfl (T_Same (by omega) hp hp2) rfl ?_)
 rintro _ G4 _ rfl
 refine sy (yd_pickT rfl rfl) rfl <| sm rfl rfl <| sa rfl rfl <| sa rfl rfl <| zE <| st_ret <| ?_
 exact zD (.tmp rfl (.tmp rfl .nil)) rfl
end Go.Sx
end

section
set_option maxRecDepth 100000
namespace Go.Sx
open Go Go.Proofs
theorem isLIl_of {G : Gh} {k : Nat} : ∀ {ls : List LnQ} {es : List Value}, (∀ l ∈ ls, BL l k) → IsLs G (ls.map eL) es → ∃ zs : List LI, es = zs.map LI.val ∧ All2 (IsLI k G) zs ls
 | [], es, _, h => by rw [List.map_nil, isl_nil] at h; subst h; exact ⟨[], rfl, .nil⟩
 | n :: ns, es, hb, h => by
   rw [List.map_cons] at h
   obtain ⟨v, m, rfl, h1, h2⟩ := isl_cons.1 h
   obtain ⟨a, b, c, rfl, ha, hb1, hc⟩ := isL_of (hb n List.mem_cons_self) h1
   obtain ⟨zs, rfl, hzs⟩ := isLIl_of (fun n hn => hb n (List.mem_cons_of_mem _ hn)) h2
   exact ⟨⟨a, b, c⟩ :: zs, rfl, .cons ⟨ha, hb1, hc⟩ hzs⟩
theorem isLIs_of {G : Gh} {k : Nat} {ls : List LnQ} {v : Value} (hb : ∀ l ∈ ls, BL l k) (h : Is G (.sl (ls.map eL)) v) : ∃ x : SV, v = .slice x.a x.n x.c ∧ IsLIs k G x ls := by
 obtain ⟨s, x, es, rfl, hs, hl⟩ := is_sl.1 h
 obtain ⟨zs, rfl, hz⟩ := isLIl_of hb hl
 refine ⟨x, rfl, zs, ?_, hz⟩
 rcases sl_stride hs hl (slOkL _) with h | h
 · rw [h] at hs ⊢; exact ⟨hs.len, hs.cap, .inl rfl⟩
 · subst h; exact hs
theorem Tr.all_imp {p q : LnQ → Prop} (h : ∀ l, p l → q l) : ∀ {t : Tr}, t.all p → t.all q
 | .leaf _, _ => trivial
 | .node .., ⟨a, b, c⟩ => ⟨h _ a, Tr.all_imp h b, Tr.all_imp h c⟩
theorem q_TSameT {GB : Gh} {s t : Tr} (hs : s.all (fun l => BL l 32)) (h : t = s) (hn : s.size ≤ 1000000) : PF GB Tryz.prog 16 [eA s, eA t] (.v (.bool true)) := by
 subst h
 have := q_TSame (GB := GB) hs hs hn
 rw [decide_eq_true (⟨rfl, rfl⟩ : _ ∧ _)] at this
 exact this
theorem isAN_of {G : Gh} {k : Nat} {ns : List NQ} {rt : Int} {v : Value} (hb : ∀ n ∈ ns, BL n.l k) (h : Is G (.ag [.v (.int .i64 rt), .sl (ns.map eN)]) v) : ∃ x : SV, v = .agg ⟨[.int .i64 rt, .slice x.a x.n x.c]⟩ ∧ IsNs k G x ns := by
 obtain ⟨m, rfl, g⟩ := is_ag.1 h
 clear h
 obtain ⟨v1, m, rfl, h1, h⟩ := isl_cons.1 g
 obtain ⟨v2, m, rfl, h2, h⟩ := isl_cons.1 h
 rw [isl_nil] at h; subst h
 rw [is_v.1 h1]
 obtain ⟨s, x, es, rfl, hs, hl⟩ := is_sl.1 h2
 obtain ⟨zs, rfl, hz⟩ := isNs_of hb hl
 refine ⟨x, rfl, zs, ?_, hz⟩
 rcases sl_stride hs hl (slOkN _) with h | h
 · rw [h] at hs ⊢; exact ⟨hs.len, hs.cap, .inl rfl⟩
 · subst h; exact hs
theorem q_RestrictR {GB : Gh} {t : Tr} {ls : List LnQ} {c : CellQ} {ns : List NQ} {rt : Int} (hrd : RD ns t rt) (hb : ∀ n ∈ ns, BL n.l 32) (hok : t.all LnQ.ok) (hbl : ∀ l ∈ ls, BL l 32) (hokl : ∀ l ∈ ls, l.ok) (hn : ls.length ≤ 1000) (hq : canonQ ls [] = some c) (hs : t.size ≤ 65536) (hd : t.depth + ls.length ≤ 1024) :
  PF GB Tryz.prog 22 [.ag [.v (.int .i64 rt), .sl (ns.map eN)], .ag [.sl (ls.map eL)]] (.tp [eA (t.restrict c), .v .nilIface]) := by
 intro G vs hg hv
 obtain ⟨v, m, rfl, h1, hv⟩ := isl_cons.1 hv
 obtain ⟨v2, m, rfl, h2, hv⟩ := isl_cons.1 hv
 rw [isl_nil] at hv; subst hv
 obtain ⟨x, rfl, hx⟩ := isAN_of hb h1
 obtain ⟨l, rfl, g⟩ := is_ag.1 h2
 obtain ⟨v3, l, rfl, h3, g⟩ := isl_cons.1 g
 rw [isl_nil] at g; subst g
 obtain ⟨y, rfl, hy⟩ := isLIs_of hbl h3
 refine (reduce_RestrictR (by decide) (by decide) hx hrd hy hok hokl hn hq hs hd (by have := Tr.restrict_size t c; omega)).mono ?_
 rintro _ G' hG ⟨z, rfl, hz⟩
 exact is_tp.2 ⟨_, rfl, .cons (isA_to hz) (.cons (is_v.2 rfl) .nil)⟩
theorem q_ReduceR {GB : Gh} {t : Tr} {ns : List NQ} {rt : Int} (hrd : RD ns t rt) (hb : ∀ n ∈ ns, BL n.l 32) (hok : t.all LnQ.ok) (hs : t.size ≤ 65536) (hd : t.depth ≤ 1024) : PF GB Tryz.prog 19 [.ag [.v (.int .i64 rt), .sl (ns.map eN)]] (.tp [eA (t.restrict []), .v .nilIface]) := by
 intro G vs hg hv
 obtain ⟨v, m, rfl, h1, h2⟩ := isl_cons.1 hv
 rw [isl_nil] at h2; subst h2
 obtain ⟨x, rfl, hx⟩ := isAN_of hb h1
 refine (reduce_ReduceR (by decide) (by decide) hx hrd hok hs hd (by have := Tr.restrict_size t []; omega)).mono ?_
 rintro _ G' hG ⟨y, rfl, hy⟩
 exact is_tp.2 ⟨_, rfl, .cons (isA_to hy) (.cons (is_v.2 rfl) .nil)⟩
theorem q_ReducedR {GB : Gh} {t : Tr} {ns : List NQ} {rt : Int} (hrd : RD ns t rt) (hb : ∀ n ∈ ns, BL n.l 32) (hok : t.all LnQ.ok) (hs : t.size ≤ 65536) (hd : t.depth ≤ 1024) : PF GB Tryz.prog 30 [.ag [.v (.int .i64 rt), .sl (ns.map eN)]] (.tp [.v (.bool (sameT t (t.restrict []))), .v .nilIface]) := by
 intro G vs hg hv
 obtain ⟨v, m, rfl, h1, h2⟩ := isl_cons.1 hv
 rw [isl_nil] at h2; subst h2
 obtain ⟨x, rfl, hx⟩ := isAN_of hb h1
 refine (reduce_Reduced (by decide) (by decide) hx hrd hok hs hd).mono ?_
 rintro _ G' hG rfl
 exact is_tp.2 ⟨_, rfl, .cons (is_v.2 rfl) (.cons (is_v.2 rfl) .nil)⟩
theorem q_TSameD {GB : Gh} {s t : Tr} (hs : s.all (fun l => BL l 32)) (ht : t.all (fun l => BL l 32)) (hn : s.size ≤ 1000000) : PF GB Tryz.prog 16 [eA s, eA t] (.v (.bool (sameT t s))) := by
 have := q_TSame (GB := GB) hs ht hn
 rw [show decide (s.num 0 = t.num 0 ∧ s.wr 0 = t.wr 0) = sameT t s by
  rw [Bool.eq_iff_iff, decide_eq_true_iff, sameT_iff]
  exact ⟨fun h => (wr_inj h.1 h.2).symm, fun h => by subst h; exact ⟨rfl, rfl⟩⟩] at this
 exact this
theorem Tr.num_le : ∀ (t : Tr) (n : Nat), t.num n ≤ n + t.size
 | .leaf b, n => by have := leafCode_neg b; show leafCode b ≤ _; omega
 | .node .., n => by show (n : Int) ≤ _; omega
theorem Tr.wr_le : ∀ (t : Tr) (n : Nat), ∀ x ∈ t.wr n, x.a ≤ n + t.size ∧ x.b ≤ n + t.size
 | .leaf _, n, x, h => absurd h (by simp [Tr.wr])
 | .node l u v, n, x, h => by
   have h1 := u.num_le (n + 1)
   have h2 := v.num_le (n + 1 + u.size)
   simp only [Tr.size]
   simp only [Tr.wr, List.cons_append, List.mem_cons, List.mem_append] at h
   rcases h with rfl | h | h
   · dsimp only; omega
   · have := u.wr_le (n + 1) x h; omega
   · have := v.wr_le (n + 1 + u.size) x h; omega
theorem shufA_rd {t : Tr} (b : Int) (hb : t.all (fun l => BL l 32)) : ∃ ns rt, shufA (t.wr 0) (t.num 0) b = .ag [.v (.int .i64 rt), .sl (ns.map eN)] ∧ RD ns t rt ∧ ∀ n ∈ ns, BL n.l 32 := by
 have hw : ∀ n ∈ t.wr 0, BL n.l 32 := Tr.all_wr 0 hb
 unfold shufA
 by_cases h : (t.wr 0).length = 0
 · rw [if_pos h]
   exact ⟨_, _, rfl, RD.wr t, hw⟩
 · rw [if_neg h]
   have hd := byN_lt (n := (t.wr 0).length) (b := b) (by omega)
   refine ⟨_, _, rfl, (RD.wr t).shuf hd, fun x hx => ?_⟩
   unfold shuf shRow at hx
   obtain ⟨p, hp, rfl⟩ := List.mem_map.1 hx
   have hv := iv_lt (n := (t.wr 0).length) (d := byN (t.wr 0).length b) (p := p) (by omega)
   rw [if_pos hv, List.getElem?_eq_getElem hv]
   have := hw _ (List.getElem_mem hv)
   exact this
theorem canonB_p7 {c : List LnQ} (h : ∀ l ∈ c, LP l) : canonB c = true := by
 unfold canonB
 split
 · rfl
 · rename_i hne
   rw [decide_eq_true_iff]
   cases hc : canonL c with
   | cons x xs => first | (simp; done) | (simp; omega)
   | nil =>
     exfalso
     cases c with
     | nil => simp at hne
     | cons l c =>
       have hk := (canonL_in (c := l :: c) (fun m hm => (h m hm).ok) ⟨p7, fun m hm => (h m hm).p⟩ (l.at 0)).1 (by rw [hc]; intro m hm; cases hm)
       have := hk l List.mem_cons_self
       rw [at_self (h l List.mem_cons_self).ok.1] at this
       grind
theorem q_NewN {GB : Gh} {es0 es : List Int} (hb : es0.length ≤ 1125899906842624) (he : es = es0.take 400) : PN GB Tryz.prog 9 [.sl (es0.map vI)] 93 Unit (fun _ => [.sl (es.map vI), .v (.int .i64 (0 : Nat))]) := by
 subst he; exact q_New hb
theorem q_TreeN {GB : Gh} {b : Nat} {es : List Int} (hes : es.length ≤ 400) {t : Tr} {a : Nat} (ht : t = (treeF es 4 0).1) (ha : a = (treeF es 4 0).2) : PM GB Tryz.prog 10 (mkP [none, some (.v (.int .i64 4))] b) b 93 [.sl (es.map vI), .v (.int .i64 (0 : Nat))] (eT t) [.sl (es.map vI), .v (.int .i64 (a : Nat))] := by
 subst ht ha; exact q_TreeT (a := 0) (d := 4) hes (Nat.zero_le _) (by decide)
theorem q_sideN {GB : Gh} {b : Nat} {es : List Int} (hes : es.length ≤ 400) {cs : List LnQ} {a : Nat} (ha : a ≤ es.length) (hc : cs = (sideF es a).1) : PM GB Tryz.prog 21 (mkP [none] b) b 93 [.sl (es.map vI), .v (.int .i64 (a : Nat))] (.sl (cs.map eL)) [.sl (es.map vI), .v (.int .i64 ((sideF es a).2 : Nat))] := by
 subst hc; exact q_sideT hes ha
set_option maxHeartbeats 2000000 in
theorem q_ReduceRestricts {GB : Gh} {es0 : List Int} {b : Int} (hb : es0.length ≤ 1125899906842624) : PF GB Tryz.prog 7 [.sl (es0.map vI), .v (.int .i64 b)] (.v (.bool true)) := by
 obtain ⟨es, hee⟩ : ∃ es, es = es0.take 400 := ⟨_, rfl⟩
 have hes : es.length ≤ 400 := by rw [hee]; simp; omega
 obtain ⟨hd, hok, hbl, ha⟩ := treeF_ok (es := es) (d := 4) (Nat.zero_le es.length)
 obtain ⟨t, ht⟩ : ∃ t, t = (treeF es 4 0).1 := ⟨_, rfl⟩
 obtain ⟨a, hta⟩ : ∃ a, a = (treeF es 4 0).2 := ⟨_, rfl⟩
 rw [← ht] at hd hok hbl
 rw [← hta] at ha
 obtain ⟨hcp, hcl, ha1⟩ := sideF_ok ha
 obtain ⟨cs, hcs⟩ : ∃ cs, cs = (sideF es a).1 := ⟨_, rfl⟩
 rw [← hcs] at hcp hcl
 have hsz := Tr.size_lt t
 have hp4 : (2 : Nat) ^ t.depth ≤ 2 ^ 4 := Nat.pow_le_pow_right (by decide) hd
 have hp5 : (2 : Nat) ^ 4 = 16 := rfl
 have hlb : t.all LB := Tr.all_imp (fun _ h => ⟨h⟩) hbl
 obtain ⟨C1, hC1, gC, iC⟩ := canon_p7 hcp
 have hcb := canonB_p7 hcp
 have lbc : ∀ l ∈ cs, LB l := fun l hl => ⟨(hcp l hl).bl⟩
 have okc : ∀ l ∈ cs, l.ok := fun l hl => (hcp l hl).ok
 obtain ⟨ns, rt, hsh, hrd, hnb⟩ := shufA_rd b hbl
 have hRL : t.restrictL (canonL cs) = t.restrict C1 := Tr.restrictL_eq t (canonL cs) C1 hok (ok_can okc) gC (fun p => by rw [iC, canonL_in okc ⟨p7, fun m hm => (hcp m hm).p⟩]; rfl)
 have abC := Tr.restrict_all _ t C1 hbl
 have ab0 := Tr.restrict_all _ t [] hbl
 have z1 := Tr.restrict_size t C1
 have z0 := Tr.restrict_size t []
 have hcn := canonL_len cs
 refine fn Tryz.func7 rfl rfl Tryz.ntmps7 rfl rfl (fun C => ?_)
 refine cn rfl ((q_NewN hb hee)) (fun _ => rfl) (fun _ => ?_)
 refine cm rfl (fun b => (q_TreeN hes ht hta)) rfl <| cm rfl (fun b => (q_sideN hes ha hcs)) rfl <| cl rfl (q_Write (t := t) hbl (by omega)) rfl <| cl rfl (PF.eq (q_Shuffled (ns := t.wr 0) (rt := t.num 0) (b := b) (by rw [Tr.wr_len]; omega) (fun x hx => by have := t.wr_le 0 x hx; omega) (by have := t.num_le 0; omega)) hsh) rfl <| ?_
 refine cl rfl (q_CWrite (fun l hl => (hcp l hl).bl) (by omega)) rfl <| cl rfl (q_RestrictR hrd hnb hok (fun l hl => (hcp l hl).bl) okc (by omega) hC1 (by omega) (by omega)) rfl <| ?_
 refine cl rfl (q_ReduceR hrd hnb hok (by omega) (by omega)) rfl <| cl rfl (q_ReducedR hrd hnb hok (by omega) (by omega)) rfl <| cl (fu := ⟨2⟩) rfl (q_Canon (c := cs) lbc okc (by omega)) rfl <| ?_
 refine knT rfl (by rw [hcb]; rfl) rfl <| cl rfl (q_RReduce (t := t) hlb hok (by omega)) rfl <| cl rfl (q_Write (t := t.restrict []) ab0 (by omega)) rfl <| ?_
 refine cl (fu := ⟨0⟩) rfl (q_TSameT (s := t.restrict []) (t := t.restrict []) ab0 rfl (by omega)) rfl <| knF rfl rfl rfl <| cl rfl (q_Write (t := t) hbl (by omega)) rfl <| ?_
 refine cl (fu := ⟨0⟩) rfl (q_TSameD (s := t.restrict []) (t := t) ab0 hbl (by omega)) rfl <| knF rfl (by show some _ = some _; simp) rfl <| cl (fu := ⟨0⟩) rfl q_knownT rfl <| ?_
 refine knT rfl rfl rfl <| cl rfl (q_RRestrict (t := t) (c := canonL cs) hlb hok (lb_can lbc) (ok_can okc) (by omega)) rfl <| cl rfl (q_Write (t := t.restrictL (canonL cs)) (by rw [hRL]; exact abC) (by rw [hRL]; omega)) rfl <| ?_
 refine cl rfl (q_TSameT (s := t.restrict C1) (t := t.restrictL (canonL cs)) abC hRL (by omega)) rfl <| ?_
 exact rz rfl rfl
end Go.Sx
end

section
set_option maxRecDepth 100000
namespace Go.Sx
open Go Go.Proofs Go.ChangeShapes Go.WideShapes Go.ChangeAt Go.RowKit
def GW (w : World) : Gh := fun b => match w.heap[b]? with | some (.cells cs _ _) => some cs.toList | _ => none
theorem GW.sub {w : World} {b : Nat} {cs : List Value} (h : GW w b = some cs) : ∃ ty fz, w.heap[b]? = some (.cells ⟨cs⟩ ty fz) := by
 unfold GW at h
 split at h
 · rename_i c t f e
   cases h
   exact ⟨t, f, by rw [e]⟩
 · cases h
theorem GW.of_cell {w : World} {b off : Nat} {v : Value} (h : w.cell? ⟨b, off, none⟩ = some v) : ∃ cs, GW w b = some cs ∧ cs[off]? = some v := by
 unfold World.cell? at h
 unfold GW
 split at h
 · rename_i c t f e
   simp only at e
   refine ⟨c.toList, by rw [e], ?_⟩
   simpa using h
 all_goals first | (rename_i e; cases h) | cases h
theorem HRel.below {w w' : World} {G G' : Gh} {own : List Own} (h : HRel ⟨w, G, []⟩ own G' w') : Below w.heap.size w w' :=
 ⟨h.os, h.tape, h.output, h.size, fun k hk => h.keep k hk (by simp)⟩
theorem isLs_vI {G : Gh} : ∀ es : List Int, IsLs G (es.map vI) (es.map fun n => Value.int .i64 n)
 | [] => .nil
 | n :: t => .cons (is_v.2 rfl) (isLs_vI t)
theorem open_vI {base : Nat} {H : Type} {enc : TypeId × Value → H} {P : Program} {w : World} {t e : TypeId} {v : Value} {d : DataW H} {ps : List MemPlace} (ht : P.underlying t = some (.slice e)) (he : P.underlying e = some (.int .i64)) (hc : P.cellsOf e = 1)
   (hv : Value.okWide P w .any base t v) (h : DataW.Trod enc P w 0 (fun _ => true) true t v d ps) :
   ∃ es : List Int, Is (GW w) (.sl (es.map vI)) v ∧ (d = .nil ∧ es = [] ∨ ∃ sp, d = .slice (lits .i64 es) sp) ∧ (∀ n ∈ es, (Lit.int .i64 n).wf = true) := by
 obtain ⟨a0, len, cap, rfl⟩ := okWide_slice ht hv
 obtain ⟨fuel, hf⟩ := h
 rcases open_ints ht he hc hf with ⟨hcs, hx⟩ | ⟨a, len', cap', zs, hcs, _, hl, hm, hz, hx, hcell, hwz⟩
 · simp [Value.cells] at hcs
   obtain ⟨rfl, rfl, rfl⟩ := hcs
   simp only [Prod.mk.injEq] at hx
   exact ⟨[], is_sl.2 ⟨0, ⟨none, 0, 0⟩, [], rfl, IsSl.nil _ 0, .nil⟩, .inl ⟨hx.1, rfl⟩, by simp⟩
 · simp [Value.cells] at hcs
   obtain ⟨rfl, rfl, rfl⟩ := hcs
   simp only [Prod.mk.injEq] at hx
   simp only [if_true] at hz
   refine ⟨zs.take len, is_sl.2 ⟨1, ⟨some a, len, cap⟩, (zs.take len).map fun n => Value.int .i64 n, rfl, ⟨by simp; omega, hl, ?_⟩, isLs_vI _⟩, .inr ⟨_, hx.1⟩, fun n hn => hwz n (List.mem_of_mem_take hn)⟩
   by_cases h0 : len = 0
   · exact .inl (by simp [h0])
   · right
     obtain ⟨b, off, spot⟩ := a
     have hspot : spot = none := by simpa [Addr.add] using World.cell?_spot (hcell 0 (by omega))
     subst hspot
     have c0 : ∀ i, i < zs.length → w.cell? ⟨b, off + i, none⟩ = some (.int .i64 (zs.getD i 0)) := fun i hi => by
       have := hcell i hi
       rwa [Go.WideShapes.add_plain] at this
     obtain ⟨cs, hcs, _⟩ := GW.of_cell (by simpa using c0 0 (by omega))
     refine ⟨b, off, cs, rfl, hcs, fun i hi => ?_⟩
     simp only [List.length_map, List.length_take] at hi
     obtain ⟨cs', hcs', hi'⟩ := GW.of_cell (c0 i (by omega))
     rw [hcs] at hcs'
     cases hcs'
     rw [Nat.mul_one, takeL_one.2 hi']
     simp [cellsL, List.getD, List.getElem?_eq_getElem (show i < zs.length by omega)]
end Go.Sx
end

section
set_option maxRecDepth 100000
namespace Go.Proofs.YtkijgpopaaknfaaGreatDoor.reduceRestricts
open Go.ChangeShapes Go.WideShapes Go.ChangeAt Go.RowKit Go.Sx
theorem own : ownKnob Tryz.prog.godebug = none := by kernel_rfl
theorem laidOut : laidOutB Tryz.prog = true := by kernel_rfl
theorem cellsI : Tryz.prog.cellsOf 3 = 1 := by kernel_rfl
theorem bytesI : Tryz.prog.bytesOf 3 = 8 := by kernel_rfl
theorem door_met (os : Os) (args : Array Value) : laidMetH Tryz.prog Rows.reduceRestrictsRow.laid ((World.doorLaid Tryz.prog 66 os).forCall (fun _ _ => 0) ⟨#[], args, []⟩).memory :=
 laidMetH_of_parts3 (fuel := 8) (laidMet_of_run' 8 (by kernel_rfl) (by kernel_rfl)) (by kernel_rfl) (by kernel_rfl)
theorem contract (H : Type) (enc : TypeId × Value → H) (W : World) (base : Nat) (args : Array Value) (ds gs : List (DataW H)) (before : List MemPlace)
   (hval : ∀ (j : Nat) t v, Tryz.f7.params[j]? = some t → args[j]? = some v → Value.okWide Tryz.prog W .any base t v)
   (hW : DataW.Whole enc Tryz.prog Tryz.f7.params.toList Rows.reduceRestrictsSpec.vars false W args.toList ds gs before)
   (hz : (DataW.weightsEach Tryz.prog (Tryz.f7.params.toList ++ (OpenSpec.ofChange Rows.reduceRestrictsSpec).bare.plain.varTypes Tryz.prog) (ds ++ gs)).all (· ≤ reachBytes) = true) :
   Calls Tryz.prog 7 args W fun e W' => ∃ v, e = .returned v ∧ Rows.reduceRestrictsSpec.post enc Tryz.prog Tryz.f7 false true false false W args v W' := by
 have hW' := hW
 obtain ⟨p, q, hA0, hV, rfl, _, _⟩ := hW
 have hA : DataW.TrodAll enc Tryz.prog W 0 (fun _ => true) true Tryz.f7.params.toList args.toList ds p := hA0
 rw [Tryz.params7] at hA hval hz
 obtain ⟨v0, v1, d0, d1, p0, p1, hargs, rfl, rfl, h0, h1⟩ := trodAll_two hA
 subst hargs
 obtain ⟨rfl, rfl⟩ := trodVars_none hV
 obtain ⟨n, rfl, rfl, rfl, wn⟩ := open_int Tryz.underlying3 (hval 1 3 v1 rfl rfl) h1
 clear hA0
 simp only [List.append_nil] at hW'
 have hlt : ∀ x ∈ p0, x.block < W.heap.size := fun x hx => by simpa using hW'.lt x hx
 obtain ⟨es, hI, hd, _⟩ := open_vI Tryz.underlying22 Tryz.underlying3 cellsI (hval 0 22 v0 rfl rfl) h0
 have hb : es.length ≤ 1125899906842624 := by
   rcases hd with ⟨rfl, rfl⟩ | ⟨sp, rfl⟩
   · exact Nat.zero_le _
   · have := sized_slice hz (j := 0) (t := 22) (e := 3) rfl rfl Tryz.underlying22
     rw [bytesI] at this
     have hr := reachBytes_lt
     have hl : (lits (H := H) .i64 es).length = es.length := by simp [lits]
     rw [hl] at this
     omega
 have hf := (q_ReduceRestricts (GB := GW W) (b := n) hb) (GW W) [v0, .int .i64 n] (GLe.refl _) (.cons hI (.cons (is_v.2 rfl) .nil))
 refine (hf.run W (fun b cs hg => GW.sub hg)).mono fun e W' ⟨v, G', he, hr, hv⟩ => ?_
 rw [is_v] at hv
 subst hv
 subst he
 have hn := hr.below
 have t2 := trodAll_mk2 (Below.trod laidOut (by kernel_rfl) (of_decide_eq_true (by kernel_rfl)) h0 hn hlt) (shut_int Tryz.underlying3 wn)
 simp only [List.append_nil] at t2
 exact ⟨_, rfl, ⟨_, _, _, [], _, [], hW', trodAll_mk1 (shut_bool Tryz.underlying4 _), t2, rfl, hn.frame _, fun h => by cases h⟩⟩
theorem reads (os : Os) {H : Type} (enc : TypeId × Value → H) : ∃ places, DataW.whole enc Tryz.prog ((World.doorLaid Tryz.prog 66 os).forCall (fun _ _ => 0) ⟨#[], #[.slice none 0 0, .int .i64 0], []⟩).memory Tryz.f7.params.toList Rows.reduceRestrictsSpec.vars false #[Value.slice none 0 0, .int .i64 0].toList 8 = some ([.nil, .lit (.int .i64 0)], [], places) :=
 ⟨[], by kernel_rfl⟩
theorem lifted (os : Os) (started : os.Started) (H : Type) (enc : TypeId × Value → H) (F : Stop.Interp) :
  ReturnsInHanded {} Tryz.checked os 7 .any ((OpenSpec.ofChange Rows.reduceRestrictsSpec).preRow enc Tryz.prog Tryz.f7 Rows.reduceRestrictsRow.domain false Rows.reduceRestrictsRow.laid) (((OpenSpec.ofChange Rows.reduceRestrictsSpec).at F).post enc Tryz.prog Tryz.f7 false true false false) := by
 obtain ⟨places, hx⟩ := reads os enc
 refine returnsInHanded_of_row (C := Tryz.checked) (s := OpenSpec.ofChange Rows.reduceRestrictsSpec) own started (by kernel_rfl) Tryz.func7
  (witness_row_atRef (enc := enc) (C := Tryz.checked) false (World.doorLaid Tryz.prog 66 os) #[.slice none 0 0, .int .i64 0] rfl (by kernel_rfl) (by kernel_rfl) (by kernel_rfl)
   (OpenSpec.preRow_of_cond 8 hx (by kernel_rfl) (fun k hk => by cases hk) (by kernel_rfl) (door_met os _))) ?_
 intro W base args ds gs before hval hW _ _ hz _ _ _
 exact contract H enc W base args ds gs before hval hW hz
theorem said : Rows.ReduceRestrictsSaid :=
 OpenClaim.holds_of_cond 7 Tryz.f7 rfl rfl rfl rfl rfl rfl rfl ⟨rfl, rfl, rfl, rfl, rfl⟩ rfl rfl rfl rfl rfl (by kernel_rfl) Tryz.func7 (by kernel_rfl)
  (of_decide_eq_true (by kernel_rfl)) (by unfold Func.isWrapper; first | (rw [if_pos (by decide +kernel)]; kernel_rfl) | (rw [if_neg (by decide +kernel)]; exact ⟨rfl, rfl⟩))
  (fun os started H enc _ F => by rw [OpenClaim.pre_eq_preRow]; exact lifted os started H enc F)
theorem plain (f : FuncId) (fn : Func) (hf : Tryz.pinned.checked.prog.funcNamed "bspregion/bspregionlaw17.ReduceRestricts" = some f) (hfn : Tryz.pinned.checked.prog.funcs[f]? = some fn) :
   true = Tryz.pinned.checked.prog.looks [] ∧ ∀ (j : Nat) t, fn.params[j]? = some t → Tryz.pinned.checked.prog.wantsStandIn t = false := by
 obtain rfl : f = 7 := Option.some.inj ((show Tryz.prog.funcNamed "bspregion/bspregionlaw17.ReduceRestricts" = some 7 by kernel_rfl).symm.trans hf) |>.symm
 obtain rfl : fn = Tryz.f7 := (Option.some.inj (Tryz.func7.symm.trans hfn)).symm
 refine ⟨by kernel_rfl, fun j t ht => ?_⟩
 rw [Tryz.params7] at ht
 have hm := Array.mem_of_getElem? ht
 simp only [List.mem_toArray, List.mem_cons, List.not_mem_nil, or_false] at hm
 rcases hm with rfl | rfl
 · exact (show Tryz.prog.wantsStandIn 22 = false by kernel_rfl)
 · exact (show Tryz.prog.wantsStandIn 3 = false by kernel_rfl)
theorem card : Rows.ReduceRestrictsCardSaid :=
 Claim7.holds_tied_plain_at .later [] _ _ _ _ said (fun _ h => by cases h) (by kernel_rfl) (fun _ h => by cases h) reduceRestricts_row_tie rfl ⟨rfl, rfl⟩ (by kernel_rfl) rfl plain (by kernel_rfl)
#print axioms card
end Go.Proofs.YtkijgpopaaknfaaGreatDoor.reduceRestricts
end
