/-
  Package geo: lines; LnOf. Package geo: points and lines. Package geo: values, bases, points on lines. Numbers as deep values; bounds. What the packages geo, bsp and reduce compute, on fractions and trees, and what the reduced tree is like. Package geo: intervals.
-/
import Derived.Test.YtkijgpopaaknfaaGreatDoorMd11
set_option linter.unusedSimpArgs false
set_option linter.unusedVariables false
section
set_option maxRecDepth 100000
namespace Go.Sx
open Go Go.Proofs
structure LV where
 a : RV
 b : RV
 c : RV
def LV.v (z : LV) : Value := .agg ⟨[.int .i64 z.a.n, .int .i64 z.a.d, .pointer z.a.p, .int .i64 z.b.n, .int .i64 z.b.d, .pointer z.b.p, .int .i64 z.c.n, .int .i64 z.c.d, .pointer z.c.p]⟩
structure LnQ where
 a : Int
 b : Int
 c : Int
structure IsL (k : Nat) (G : Gh) (z : LV) (l : LnQ) : Prop where
 a : IsR k G z.a (l.a : Rat)
 b : IsR k G z.b (l.b : Rat)
 c : IsR k G z.c (l.c : Rat)
theorem IsL.up {k : Nat} {A G : Gh} {z : LV} {l : LnQ} (h : IsL k A z l) [GL A G] : IsL k G z l := ⟨h.a.up, h.b.up, h.c.up⟩
def LnQ.ok (l : LnQ) : Prop := ¬ (l.a = 0 ∧ l.b = 0) ∧ Nat.gcd (Nat.gcd l.a.natAbs l.b.natAbs) l.c.natAbs = 1
def okI (neg : Bool) (ds : List Nat) : Prop := Nrm ds ∧ (neg = true → ds ≠ [])
set_option maxHeartbeats 2000000 in
theorem geo_LnOf {A B D G : Gh} {x y w : SV} {an bn cn : Bool} {da db d3 : List Nat} {k : Nat} (hx : IsD A x da) (hy : IsD B y db) (hw : IsD D w d3) [GL A G] [GL B G] [GL D G]
   (hxk : dv da < 2 ^ k) (hyk : dv db < 2 ^ k) (hwk : dv d3 < 2 ^ k) (hk1 : 1 ≤ k) (hk' : k ≤ 137438953472) (hxl : da.length ≤ 112589990684) (hyl : db.length ≤ 112589990684) (hwl : d3.length ≤ 112589990684) :
   Fn Tryz.prog 45 [.agg ⟨[.bool an, .slice x.a x.n x.c, .bool bn, .slice y.a y.n y.c, .bool cn, .slice w.a w.n w.c]⟩] G (fun v G' =>
     ((okI an da ∧ okI bn db ∧ okI cn d3 ∧ LnQ.ok ⟨zv an (dv da), zv bn (dv db), zv cn (dv d3)⟩) ∧ ∃ z : LV, v = .tuple #[z.v, .bool true] ∧ IsL k G' z ⟨zv an (dv da), zv bn (dv db), zv cn (dv d3)⟩) ∨
     (¬ (okI an da ∧ okI bn db ∧ okI cn d3 ∧ LnQ.ok ⟨zv an (dv da), zv bn (dv db), zv cn (dv d3)⟩) ∧ v = .tuple #[(.agg ⟨[.int .i64 0, .int .i64 0, .pointer none, .int .i64 0, .int .i64 0, .pointer none, .int .i64 0, .int .i64 0, .pointer none]⟩), .bool false])) := by
 have hk : k ≤ 1099511627776 := by omega
 refine Fn.intro Tryz.func45 rfl rfl Tryz.ntmps45 rfl ?_
 intro C _ _
 refine sR <| ?_
 refine sc (ch_box rfl rfl ?_)
 intro b1
 refine sc (ch_alloc rfl ?_)
 intro b2
 refine sa rfl rfl <| zE <| st_seq <| sR <| sf rfl rfl <| slo rfl rfl rfl <| ?_
 refine sc (zC rfl rfl (integer_Normal (neg := an) hx (by omega)) rfl ?_)
 rintro _ G3 _ rfl
 by_cases hA : okI an da
 case neg =>
   rw [show decide (Nrm da ∧ (an = true → da ≠ [])) = false from decide_eq_false hA]
   refine sy (yd_not rfl) rfl <| sm rfl rfl <| ?_
   refine ss rfl rfl rfl rfl <| ss rfl rfl rfl rfl <| ss rfl rfl rfl rfl <| ss rfl rfl rfl rfl <| sy (yd_pickT rfl rfl) rfl <| sm rfl rfl <| ss rfl rfl rfl rfl <| ss rfl rfl rfl rfl <| ss rfl rfl rfl rfl <| ?_
   refine ss rfl rfl rfl rfl <| sy (yd_pickT rfl rfl) rfl <| zE <| st_condT rfl <| ?_
   refine sR <| sy (yd_build rfl) rfl <| ?_
   refine sc (ch_store rfl rfl (.hd ..) rfl (Nat.le_refl 9) rfl rfl ?_)
   refine sa rfl rfl <| zE <| st_ret <| ?_
   exact zD (.agg rfl ii ii rfl (.tmp rfl .nil)) (.inr ⟨fun h => hA h.1, rfl⟩)
 rw [show decide (Nrm da ∧ (an = true → da ≠ [])) = true from decide_eq_true hA]
 refine sy (yd_not rfl) rfl <| sm rfl rfl <| ?_
 refine syg rfl rfl (yd_fieldAddr rfl) rfl <| syg rfl rfl (yd_load_own rfl rfl) rfl <| ?_
 refine st_chg rfl rfl rfl (zC rfl rfl (integer_Normal (neg := bn) hy (by omega)) rfl ?_)
 rintro _ G4 _ rfl
 by_cases hB : okI bn db
 case neg =>
   rw [show decide (Nrm db ∧ (bn = true → db ≠ [])) = false from decide_eq_false hB]
   refine syg rfl rfl (yd_not rfl) rfl <| sy (yd_pickF rfl rfl) rfl <| sm rfl rfl <| ?_
   refine ss rfl rfl rfl rfl <| ss rfl rfl rfl rfl <| ss rfl rfl rfl rfl <| ss rfl rfl rfl rfl <| sy (yd_pickT rfl rfl) rfl <| zE <| st_condT rfl <| ?_
   refine sR <| sy (yd_build rfl) rfl <| ?_
   refine sc (ch_store rfl rfl (.hd ..) rfl (Nat.le_refl 9) rfl rfl ?_)
   refine sa rfl rfl <| zE <| st_ret <| ?_
   exact zD (.agg rfl ii ii rfl (.tmp rfl .nil)) (.inr ⟨fun h => hB h.2.1, rfl⟩)
 rw [show decide (Nrm db ∧ (bn = true → db ≠ [])) = true from decide_eq_true hB]
 refine syg rfl rfl (yd_not rfl) rfl <| sy (yd_pickF rfl rfl) rfl <| sm rfl rfl <| ?_
 refine syg rfl rfl (yd_fieldAddr rfl) rfl <| syg rfl rfl (yd_load_own rfl rfl) rfl <| ?_
 refine st_chg rfl rfl rfl (zC rfl rfl (integer_Normal (neg := cn) hw (by omega)) rfl ?_)
 rintro _ G5 _ rfl
 by_cases hC : okI cn d3
 case neg =>
   rw [show decide (Nrm d3 ∧ (cn = true → d3 ≠ [])) = false from decide_eq_false hC]
   refine syg rfl rfl (yd_not rfl) rfl <| sy (yd_pickF rfl rfl) rfl <| zE <| st_condT rfl <| ?_
   refine sR <| sy (yd_build rfl) rfl <| ?_
   refine sc (ch_store rfl rfl (.hd ..) rfl (Nat.le_refl 9) rfl rfl ?_)
   refine sa rfl rfl <| zE <| st_ret <| ?_
   exact zD (.agg rfl ii ii rfl (.tmp rfl .nil)) (.inr ⟨fun h => hC h.2.2.1, rfl⟩)
 rw [show decide (Nrm d3 ∧ (cn = true → d3 ≠ [])) = true from decide_eq_true hC]
 refine syg rfl rfl (yd_not rfl) rfl <| sy (yd_pickF rfl rfl) rfl <| zE <| st_condF rfl <| ?_
 refine zK <| st_seq <| ?_
 refine drF 4 105 (.agg ⟨[.int .i64 0, .int .i64 0, .pointer none, .int .i64 0, .int .i64 0, .pointer none, .int .i64 0, .int .i64 0, .pointer none]⟩) (fun i => Nat.beq i 11) 10 [(0, true), (1, true), (3, true), (4, true), (6, true), (7, true), (2, false), (5, false), (8, false), (9, true)] [(11, false)] follows (by kernel_rfl) (fun fl => ?_)
 refine dyF rfl (fun _ => yd_fieldAddr rfl) rfl rfl (List.sublist_append_left _ _) ?_
 refine dyF rfl (fun _ => yd_load_own rfl rfl) rfl rfl (List.sublist_append_left _ _) ?_
 refine dyF rfl (fun _ => yd_fieldAddr rfl) rfl rfl (List.sublist_append_left _ _) ?_
 refine dyF rfl (fun _ => yd_load_own rfl rfl) rfl rfl (List.sublist_append_left _ _) ?_
 refine dyF rfl (fun _ => yd_fieldAddr rfl) rfl rfl (List.sublist_append_left _ _) ?_
 refine dyF rfl (fun _ => yd_load_own rfl rfl) rfl rfl (List.sublist_append_left _ _) ?_
 apply dcF (fl := fl) (t := 105) (z := (.agg ⟨[.int .i64 0, .int .i64 0, .pointer none, .int .i64 0, .int .i64 0, .pointer none, .int .i64 0, .int .i64 0, .pointer none]⟩))
 case ho => exact rfl
 case hg => exact rfl
 case hk => exact rfl
 case hd => exact rfl
 case hF => intro b; repeat (first | exact .nil | refine .cons rfl ?_)
 case hO => exact fun _ => (List.perm_append_singleton _ _).symm
 case hs => exact List.sublist_append_left _ _
 intro fl
 refine zC rfl rfl (frac_Whole (x := x) (neg := an) (k := k) hx hxk hk1 hk hxl) rfl ?_
 rintro _ G6 _ ⟨z1, rfl, hz1⟩
 refine dr_s' (List.sublist_append_left _ _) ?_
 apply dcF (fl := fl) (t := 105) (z := (.agg ⟨[.int .i64 0, .int .i64 0, .pointer none, .int .i64 0, .int .i64 0, .pointer none, .int .i64 0, .int .i64 0, .pointer none]⟩))
 case ho => exact rfl
 case hg => exact rfl
 case hk => exact rfl
 case hd => exact rfl
 case hF => intro b; repeat (first | exact .nil | refine .cons rfl ?_)
 case hO => exact fun _ => (List.perm_append_singleton _ _).symm
 case hs => exact List.sublist_append_left _ _
 intro fl
 refine zC rfl rfl (frac_Whole (x := y) (neg := bn) (k := k) hy hyk hk1 hk hyl) rfl ?_
 rintro _ G7 _ ⟨z2, rfl, hz2⟩
 refine dr_s' (List.sublist_append_left _ _) ?_
 apply dcF (fl := fl) (t := 105) (z := (.agg ⟨[.int .i64 0, .int .i64 0, .pointer none, .int .i64 0, .int .i64 0, .pointer none, .int .i64 0, .int .i64 0, .pointer none]⟩))
 case ho => exact rfl
 case hg => exact rfl
 case hk => exact rfl
 case hd => exact rfl
 case hF => intro b; repeat (first | exact .nil | refine .cons rfl ?_)
 case hO => exact fun _ => (List.perm_append_singleton _ _).symm
 case hs => exact List.sublist_append_left _ _
 intro fl
 refine zC rfl rfl (frac_Whole (x := w) (neg := cn) (k := k) hw hwk hk1 hk hwl) rfl ?_
 rintro _ G8 _ ⟨z3, rfl, hz3⟩
 refine dr_s' (List.sublist_append_left _ _) ?_
 refine dyF rfl (fun _ => yd_build rfl) rfl rfl (List.sublist_append_left _ _) ?_
 apply dF_out (fl := fl) (t := 105) (z := (.agg ⟨[.int .i64 0, .int .i64 0, .pointer none, .int .i64 0, .int .i64 0, .pointer none, .int .i64 0, .int .i64 0, .pointer none]⟩))
 case hk => exact rfl
 case hd => exact rfl
 case hF => intro b; repeat (first | exact .nil | refine .cons rfl ?_)
 case hO => exact fun _ => List.perm_append_singleton _ _
 case hs => exact List.sublist_append_left _ _
 intro bF
 simp only [fO, fF, List.append_nil]
 refine dc rfl rfl (ch_store rfl rfl (.hd ..) rfl (Nat.le_refl 9) rfl rfl ?_)
 refine dr_f rfl <| dn <| st_seq <| st_seq <| dr (fun _ => false) [(0, true), (1, true), (2, false), (3, true), (4, true), (5, true), (6, false), (7, true), (8, true), (9, true), (10, true), (11, true), (12, true), (14, true), (15, true), (13, false), (16, false), (17, false), (18, false), (19, true), (20, true)] follows (by kernel_rfl) <| ?_
 refine dF rfl rfl rfl <| dL rfl rfl rfl rfl <| ?_
 refine dc rfl rfl (zC rfl rfl (R_Zero hz1) rfl ?_)
 rintro _ G9 _ rfl
 refine dr_s <| dM rfl rfl rfl <| ?_
 refine st_caseP 35 rfl (fun ha0 => ?_) (fun ha0 => ?_)
 · refine dyg rfl rfl rfl rfl (fun _ => yd_fieldAddr rfl) rfl <| dyg rfl rfl rfl rfl (fun _ => yd_load_own rfl rfl) rfl <| ?_
   refine dcg rfl rfl rfl rfl (zC rfl rfl (R_Zero hz2) rfl ?_)
   rintro _ G10 _ rfl
   refine dr_s <| dy rfl (fun _ => yd_pickT rfl rfl) rfl rfl <| dM rfl rfl rfl <| ?_
   refine st_caseP 40 rfl (fun hb0 => ?_) (fun hb0 => ?_)
   · refine dys rfl rfl rfl rfl rfl rfl <| dys rfl rfl rfl rfl rfl rfl <| dys rfl rfl rfl rfl rfl rfl <| dys rfl rfl rfl rfl rfl rfl <| dys rfl rfl rfl rfl rfl rfl <| dys rfl rfl rfl rfl rfl rfl <| ?_
     refine dcs rfl rfl rfl rfl rfl rfl <| dr_s <| dcs rfl rfl rfl rfl rfl rfl <| dr_s <| dcs rfl rfl rfl rfl rfl rfl <| dr_s <| dcs rfl rfl rfl rfl rfl rfl <| dr_s <| dys rfl rfl rfl rfl rfl rfl <| ?_
     refine dy rfl (fun _ => yd_pickT rfl rfl) rfl rfl <| dn <| st_condT rfl <| ?_
     refine sR <| sy (yd_build rfl) rfl <| ?_
     refine sc (ch_store rfl rfl (.tl _ _ _ _ _ _ _ _ (.hd ..)) rfl (Nat.le_refl 9) rfl rfl ?_)
     refine sa rfl rfl <| zE <| st_ret <| ?_
     exact zD (.agg rfl ii ii rfl (.tmp rfl .nil)) (.inr ⟨fun h => h.2.2.2.1 ⟨ha0, hb0⟩, rfl⟩)
   have h0 : ¬ (zv an (dv da) = 0 ∧ zv bn (dv db) = 0) := fun h => hb0 h.2
   refine dyg rfl rfl rfl rfl (fun _ => yd_fieldAddr rfl) rfl <| dyg rfl rfl rfl rfl (fun _ => yd_load_own rfl rfl) rfl <| dyg rfl rfl rfl rfl (fun _ => yd_fieldAddr rfl) rfl <| dyg rfl rfl rfl rfl (fun _ => yd_load_own rfl rfl) rfl <| ?_
   refine dyg rfl rfl rfl rfl (fun _ => yd_fieldAddr rfl) rfl <| dyg rfl rfl rfl rfl (fun _ => yd_load_own rfl rfl) rfl <| ?_
   refine dcg rfl rfl rfl rfl (zC rfl rfl (frac_Gcd hz1 hz2 (by omega)) rfl ?_)
   rintro _ G11 _ ⟨g1, rfl, hg1⟩
   rw [rgcd_int] at hg1
   refine dr_s <| ?_
   refine dcg rfl rfl rfl rfl (zC rfl rfl (frac_Gcd hg1 hz3 (by omega)) rfl ?_)
   rintro _ G12 _ ⟨g2, rfl, hg2⟩
   rw [rgcd_int, Int.natAbs_natCast] at hg2
   refine dr_s <| ?_
   refine dcg rfl rfl rfl rfl (zC rfl rfl (frac_Int (n := 1) (k := 1) (by decide) (by decide) (by decide) (by decide) (by decide)) rfl ?_)
   rintro _ G13 _ ⟨g3, rfl, hg3⟩
   refine dr_s <| ?_
   refine dcg rfl rfl rfl rfl (zC rfl rfl (R_Equal hg2 hg3 (by omega)) rfl ?_)
   rintro _ G14 _ rfl
   refine dr_s <| ?_
   by_cases hgc : Nat.gcd (Nat.gcd (zv an (dv da)).natAbs (zv bn (dv db)).natAbs) (zv cn (dv d3)).natAbs = 1
   · rw [show (decide ((((Nat.gcd (Nat.gcd (zv an (dv da)).natAbs (zv bn (dv db)).natAbs) (zv cn (dv d3)).natAbs : Nat) : Int) : Rat) = ((1 : Int) : Rat))) = true from decide_eq_true (by rw [hgc]; rfl)]
     refine dyg rfl rfl rfl rfl (fun _ => yd_not rfl) rfl <| dy rfl (fun _ => yd_pickF rfl rfl) rfl rfl <| dn <| ?_
     refine st_condF rfl <| zK <| sR <| slo rfl rfl rfl <| ?_
     refine sc (ch_store rfl rfl (.tl _ _ _ _ _ _ _ _ (.hd ..)) rfl (Nat.le_refl 9) rfl rfl ?_)
     refine sa rfl rfl <| zE <| st_ret <| ?_
     exact zD (.agg rfl ii ii rfl (.tmp rfl .nil)) (.inl ⟨⟨hA, hB, hC, h0, hgc⟩, ⟨z1, z2, z3⟩, rfl, hz1.up, hz2.up, hz3.up⟩)
   · rw [show (decide ((((Nat.gcd (Nat.gcd (zv an (dv da)).natAbs (zv bn (dv db)).natAbs) (zv cn (dv d3)).natAbs : Nat) : Int) : Rat) = ((1 : Int) : Rat))) = false from decide_eq_false (fun h => hgc (by have := Rat.intCast_inj.1 h; omega))]
     refine dyg rfl rfl rfl rfl (fun _ => yd_not rfl) rfl <| dy rfl (fun _ => yd_pickF rfl rfl) rfl rfl <| dn <| ?_
     refine st_condT rfl <| ?_
     refine sR <| sy (yd_build rfl) rfl <| ?_
     refine sc (ch_store rfl rfl (.tl _ _ _ _ _ _ _ _ (.hd ..)) rfl (Nat.le_refl 9) rfl rfl ?_)
     refine sa rfl rfl <| zE <| st_ret <| ?_
     exact zD (.agg rfl ii ii rfl (.tmp rfl .nil)) (.inr ⟨fun h => hgc h.2.2.2.2, rfl⟩)
 have h0 : ¬ (zv an (dv da) = 0 ∧ zv bn (dv db) = 0) := fun h => ha0 h.1
 refine dys rfl rfl rfl rfl rfl rfl <| dys rfl rfl rfl rfl rfl rfl <| dcs rfl rfl rfl rfl rfl rfl <| dr_s <| dy rfl (fun _ => yd_pickF rfl rfl) rfl rfl <| dM rfl rfl rfl <| ?_
 refine dyg rfl rfl rfl rfl (fun _ => yd_fieldAddr rfl) rfl <| dyg rfl rfl rfl rfl (fun _ => yd_load_own rfl rfl) rfl <| dyg rfl rfl rfl rfl (fun _ => yd_fieldAddr rfl) rfl <| dyg rfl rfl rfl rfl (fun _ => yd_load_own rfl rfl) rfl <| ?_
 refine dyg rfl rfl rfl rfl (fun _ => yd_fieldAddr rfl) rfl <| dyg rfl rfl rfl rfl (fun _ => yd_load_own rfl rfl) rfl <| ?_
 refine dcg rfl rfl rfl rfl (zC rfl rfl (frac_Gcd hz1 hz2 (by omega)) rfl ?_)
 rintro _ G11 _ ⟨g1, rfl, hg1⟩
 rw [rgcd_int] at hg1
 refine dr_s <| ?_
 refine dcg rfl rfl rfl rfl (zC rfl rfl (frac_Gcd hg1 hz3 (by omega)) rfl ?_)
 rintro _ G12 _ ⟨g2, rfl, hg2⟩
 rw [rgcd_int, Int.natAbs_natCast] at hg2
 refine dr_s <| ?_
 refine dcg rfl rfl rfl rfl (zC rfl rfl (frac_Int (n := 1) (k := 1) (by decide) (by decide) (by decide) (by decide) (by decide)) rfl ?_)
 rintro _ G13 _ ⟨g3, rfl, hg3⟩
 refine dr_s <| ?_
 refine dcg rfl rfl rfl rfl (zC rfl rfl (R_Equal hg2 hg3 (by omega)) rfl ?_)
 rintro _ G14 _ rfl
 refine dr_s <| ?_
 by_cases hgc : Nat.gcd (Nat.gcd (zv an (dv da)).natAbs (zv bn (dv db)).natAbs) (zv cn (dv d3)).natAbs = 1
 · rw [show (decide ((((Nat.gcd (Nat.gcd (zv an (dv da)).natAbs (zv bn (dv db)).natAbs) (zv cn (dv d3)).natAbs : Nat) : Int) : Rat) = ((1 : Int) : Rat))) = true from decide_eq_true (by rw [hgc]; rfl)]
   refine dyg rfl rfl rfl rfl (fun _ => yd_not rfl) rfl <| dy rfl (fun _ => yd_pickF rfl rfl) rfl rfl <| dn <| ?_
   refine st_condF rfl <| zK <| sR <| slo rfl rfl rfl <| ?_
   refine sc (ch_store rfl rfl (.tl _ _ _ _ _ _ _ _ (.hd ..)) rfl (Nat.le_refl 9) rfl rfl ?_)
   refine sa rfl rfl <| zE <| st_ret <| ?_
   exact zD (.agg rfl ii ii rfl (.tmp rfl .nil)) (.inl ⟨⟨hA, hB, hC, h0, hgc⟩, ⟨z1, z2, z3⟩, rfl, hz1.up, hz2.up, hz3.up⟩)
 · rw [show (decide ((((Nat.gcd (Nat.gcd (zv an (dv da)).natAbs (zv bn (dv db)).natAbs) (zv cn (dv d3)).natAbs : Nat) : Int) : Rat) = ((1 : Int) : Rat))) = false from decide_eq_false (fun h => hgc (by have := Rat.intCast_inj.1 h; omega))]
   refine dyg rfl rfl rfl rfl (fun _ => yd_not rfl) rfl <| dy rfl (fun _ => yd_pickF rfl rfl) rfl rfl <| dn <| ?_
   refine st_condT rfl <| ?_
   refine sR <| sy (yd_build rfl) rfl <| ?_
   refine sc (ch_store rfl rfl (.tl _ _ _ _ _ _ _ _ (.hd ..)) rfl (Nat.le_refl 9) rfl rfl ?_)
   refine sa rfl rfl <| zE <| st_ret <| ?_
   exact zD (.agg rfl ii ii rfl (.tmp rfl .nil)) (.inr ⟨fun h => hgc h.2.2.2.2, rfl⟩)
end Go.Sx
end

section
set_option maxRecDepth 100000
namespace Go.Sx
open Go Go.Proofs
structure PV where
 x : RV
 y : RV
def PV.v (z : PV) : Value := .agg ⟨[.int .i64 z.x.n, .int .i64 z.x.d, .pointer z.x.p, .int .i64 z.y.n, .int .i64 z.y.d, .pointer z.y.p]⟩
structure PtQ where
 x : Rat
 y : Rat
structure IsP (k : Nat) (G : Gh) (z : PV) (p : PtQ) : Prop where
 x : IsR k G z.x p.x
 y : IsR k G z.y p.y
theorem rat_neg_int (a : Int) : -(a : Rat) = ((-a : Int) : Rat) := rfl
def LnQ.rev (l : LnQ) : LnQ := ⟨-l.a, -l.b, -l.c⟩
def LnQ.nor (l : LnQ) : PtQ := ⟨l.a, l.b⟩
def LnQ.dir (l : LnQ) : PtQ := ⟨l.b, -(l.a : Rat)⟩
def PtQ.dot (p q : PtQ) : Rat := p.x * q.x + p.y * q.y
def PtQ.cross (p q : PtQ) : Rat := p.x * q.y - p.y * q.x
def PtQ.scale (p : PtQ) (c : Rat) : PtQ := ⟨p.x * c, p.y * c⟩
def PtQ.add (p q : PtQ) : PtQ := ⟨p.x + q.x, p.y + q.y⟩
theorem Ln_Reverse {A G : Gh} {z : LV} {l : LnQ} {k : Nat} (hl : IsL k A z l) [GL A G] (hk : k ≤ 1099511627776) :
  Fn Tryz.prog 104 [.agg ⟨[.int .i64 z.a.n, .int .i64 z.a.d, .pointer z.a.p, .int .i64 z.b.n, .int .i64 z.b.d, .pointer z.b.p, .int .i64 z.c.n, .int .i64 z.c.d, .pointer z.c.p]⟩] G (fun v G' => ∃ x : LV, v = x.v ∧ IsL k G' x l.rev) := by
 obtain ⟨ha, hb, hc⟩ := hl
 refine Fn.intro Tryz.func104 rfl rfl Tryz.ntmps104 rfl ?_
 intro C _ _
 refine sR <| ?_
 refine sc (ch_box rfl rfl ?_)
 intro b1
 refine sc (ch_alloc rfl ?_)
 intro b2
 refine zE <| st_seq <| dr (fun i => Nat.beq i 10) [(0, true), (1, true), (3, true), (4, true), (6, true), (7, true), (2, false), (5, false), (8, false), (9, true), (10, false)] follows (by kernel_rfl) <| ?_
 refine dF rfl rfl rfl <| dL rfl rfl rfl rfl <| dF rfl rfl rfl <| dL rfl rfl rfl rfl <| ?_
 refine dF rfl rfl rfl <| dL rfl rfl rfl rfl <| ?_
 refine dc rfl rfl (zC rfl rfl (R_Neg ‹_› (by omega)) rfl ?_)
 rintro _ G3 _ ⟨x4, rfl, h5⟩
 refine dr_s <| ?_
 refine dc rfl rfl (zC rfl rfl (R_Neg ‹_› (by omega)) rfl ?_)
 rintro _ G6 _ ⟨x7, rfl, h8⟩
 refine dr_s <| ?_
 refine dc rfl rfl (zC rfl rfl (R_Neg ‹_› (by omega)) rfl ?_)
 rintro _ G9 _ ⟨x10, rfl, h11⟩
 refine dr_s <| dy rfl (fun _ => yd_build rfl) rfl rfl <| ?_
 refine dc rfl rfl (ch_store rfl rfl (by repeat (first | exact .hd .. | refine .tl _ _ _ _ _ _ _ _ ?_)) rfl (nb rfl) rfl rfl ?_)
 refine dr_f rfl <| dn <| st_ret <| ?_
 exact zD (.agg rfl ii ii rfl .nil) ⟨⟨_, _, _⟩, rfl, IsR.up ‹IsR k _ _ (-(l.a : Rat))›, IsR.up ‹IsR k _ _ (-(l.b : Rat))›, IsR.up ‹IsR k _ _ (-(l.c : Rat))›⟩
theorem Ln_Normal {A G : Gh} {z : LV} {l : LnQ} {k : Nat} (hl : IsL k A z l) [GL A G]  :
  Fn Tryz.prog 189 [.agg ⟨[.int .i64 z.a.n, .int .i64 z.a.d, .pointer z.a.p, .int .i64 z.b.n, .int .i64 z.b.d, .pointer z.b.p, .int .i64 z.c.n, .int .i64 z.c.d, .pointer z.c.p]⟩] G (fun v G' => ∃ x : PV, v = x.v ∧ IsP k G' x l.nor) := by
 obtain ⟨ha, hb, hc⟩ := hl
 refine Fn.intro Tryz.func189 rfl rfl Tryz.ntmps189 rfl ?_
 intro C _ _
 refine sR <| ?_
 refine sc (ch_box rfl rfl ?_)
 intro b1
 refine sc (ch_alloc rfl ?_)
 intro b2
 refine zE <| sR <| sf rfl rfl <| slo rfl rfl rfl <| sf rfl rfl <| slo rfl rfl rfl <| sy (yd_build rfl) rfl <| ?_
 refine sc (ch_store rfl rfl (by repeat (first | exact .hd .. | refine .tl _ _ _ _ _ _ _ _ ?_)) rfl (nb rfl) rfl rfl ?_)
 refine zE <| st_ret <| ?_
 exact zD (.agg rfl ii ii rfl .nil) ⟨⟨_, _⟩, rfl, ha.up, hb.up⟩
theorem Ln_Dir {A G : Gh} {z : LV} {l : LnQ} {k : Nat} (hl : IsL k A z l) [GL A G] (hk : k ≤ 1099511627776) :
  Fn Tryz.prog 155 [.agg ⟨[.int .i64 z.a.n, .int .i64 z.a.d, .pointer z.a.p, .int .i64 z.b.n, .int .i64 z.b.d, .pointer z.b.p, .int .i64 z.c.n, .int .i64 z.c.d, .pointer z.c.p]⟩] G (fun v G' => ∃ x : PV, v = x.v ∧ IsP k G' x l.dir) := by
 obtain ⟨ha, hb, hc⟩ := hl
 refine Fn.intro Tryz.func155 rfl rfl Tryz.ntmps155 rfl ?_
 intro C _ _
 refine sR <| ?_
 refine sc (ch_box rfl rfl ?_)
 intro b1
 refine sc (ch_alloc rfl ?_)
 intro b2
 refine zE <| st_seq <| dr (fun i => Nat.beq i 6) [(0, true), (1, true), (2, true), (3, true), (4, false), (5, true), (6, false)] follows (by kernel_rfl) <| dF rfl rfl rfl <| ?_
 refine dL rfl rfl rfl rfl <| dF rfl rfl rfl <| dL rfl rfl rfl rfl <| ?_
 refine dc rfl rfl (zC rfl rfl (R_Neg ‹_› (by omega)) rfl ?_)
 rintro _ G3 _ ⟨x4, rfl, h5⟩
 refine dr_s <| dy rfl (fun _ => yd_build rfl) rfl rfl <| ?_
 refine dc rfl rfl (ch_store rfl rfl (by repeat (first | exact .hd .. | refine .tl _ _ _ _ _ _ _ _ ?_)) rfl (nb rfl) rfl rfl ?_)
 refine dr_f rfl <| dn <| st_ret <| ?_
 exact zD (.agg rfl ii ii rfl .nil) ⟨⟨_, _⟩, rfl, hb.up, IsR.up ‹IsR k _ _ (-(l.a : Rat))›⟩
theorem Pt_Dot {A B G : Gh} {z1 z2 : PV} {p q : PtQ} {k1 k2 : Nat} (hp : IsP k1 A z1 p) (hq : IsP k2 B z2 q) [GL A G] [GL B G] (hk : k1 + k2 ≤ 137438953472) :
  Fn Tryz.prog 190 [.agg ⟨[.int .i64 z1.x.n, .int .i64 z1.x.d, .pointer z1.x.p, .int .i64 z1.y.n, .int .i64 z1.y.d, .pointer z1.y.p]⟩, .agg ⟨[.int .i64 z2.x.n, .int .i64 z2.x.d, .pointer z2.x.p, .int .i64 z2.y.n, .int .i64 z2.y.d, .pointer z2.y.p]⟩] G (fun v G' => ∃ x : RV, v = x.v ∧ IsR (2 * (k1 + k2) + 1) G' x (p.dot q)) := by
 obtain ⟨hpx, hpy⟩ := hp
 obtain ⟨hqx, hqy⟩ := hq
 refine Fn.intro Tryz.func190 rfl rfl Tryz.ntmps190 rfl ?_
 intro C _ _
 refine sR <| ?_
 refine sc (ch_box rfl rfl ?_)
 intro b1
 refine sc (ch_box rfl rfl ?_)
 intro b2
 refine sc (ch_alloc rfl ?_)
 intro b3
 refine zE <| st_seq <| dr (fun i => Nat.beq i 11) [(0, true), (1, true), (2, true), (3, true), (5, true), (6, true), (7, true), (8, true), (4, false), (9, false), (10, false), (11, false)] follows (by kernel_rfl) <| ?_
 refine dF rfl rfl rfl <| dL rfl rfl rfl rfl <| dF rfl rfl rfl <| dL rfl rfl rfl rfl <| ?_
 refine dF rfl rfl rfl <| dL rfl rfl rfl rfl <| dF rfl rfl rfl <| dL rfl rfl rfl rfl <| ?_
 refine dc rfl rfl (zC rfl rfl (R_Mul ‹_› ‹_› (by omega)) rfl ?_)
 rintro _ G4 _ ⟨x5, rfl, h6⟩
 refine dr_s <| ?_
 refine dc rfl rfl (zC rfl rfl (R_Mul ‹_› ‹_› (by omega)) rfl ?_)
 rintro _ G7 _ ⟨x8, rfl, h9⟩
 refine dr_s <| ?_
 refine dc rfl rfl (zC rfl rfl (R_Add ‹_› ‹_› (by omega)) rfl ?_)
 rintro _ G10 _ ⟨x11, rfl, h12⟩
 refine dr_s <| ?_
 refine dc rfl rfl (ch_store rfl rfl (by repeat (first | exact .hd .. | refine .tl _ _ _ _ _ _ _ _ ?_)) rfl (nb rfl) rfl rfl ?_)
 refine dr_f rfl <| dn <| st_ret <| ?_
 exact zD (.agg rfl ii ii rfl .nil) ⟨_, rfl, IsR.mono' (by assumption) (by omega)⟩
theorem Pt_Cross {A B G : Gh} {z1 z2 : PV} {p q : PtQ} {k1 k2 : Nat} (hp : IsP k1 A z1 p) (hq : IsP k2 B z2 q) [GL A G] [GL B G] (hk : k1 + k2 ≤ 137438953472) :
  Fn Tryz.prog 196 [.agg ⟨[.int .i64 z1.x.n, .int .i64 z1.x.d, .pointer z1.x.p, .int .i64 z1.y.n, .int .i64 z1.y.d, .pointer z1.y.p]⟩, .agg ⟨[.int .i64 z2.x.n, .int .i64 z2.x.d, .pointer z2.x.p, .int .i64 z2.y.n, .int .i64 z2.y.d, .pointer z2.y.p]⟩] G (fun v G' => ∃ x : RV, v = x.v ∧ IsR (2 * (k1 + k2) + 1) G' x (p.cross q)) := by
 obtain ⟨hpx, hpy⟩ := hp
 obtain ⟨hqx, hqy⟩ := hq
 refine Fn.intro Tryz.func196 rfl rfl Tryz.ntmps196 rfl ?_
 intro C _ _
 refine sR <| ?_
 refine sc (ch_box rfl rfl ?_)
 intro b1
 refine sc (ch_box rfl rfl ?_)
 intro b2
 refine sc (ch_alloc rfl ?_)
 intro b3
 refine zE <| st_seq <| dr (fun i => Nat.beq i 11) [(0, true), (1, true), (2, true), (3, true), (5, true), (6, true), (7, true), (8, true), (4, false), (9, false), (10, false), (11, false)] follows (by kernel_rfl) <| ?_
 refine dF rfl rfl rfl <| dL rfl rfl rfl rfl <| dF rfl rfl rfl <| dL rfl rfl rfl rfl <| ?_
 refine dF rfl rfl rfl <| dL rfl rfl rfl rfl <| dF rfl rfl rfl <| dL rfl rfl rfl rfl <| ?_
 refine dc rfl rfl (zC rfl rfl (R_Mul ‹_› ‹_› (by omega)) rfl ?_)
 rintro _ G4 _ ⟨x5, rfl, h6⟩
 refine dr_s <| ?_
 refine dc rfl rfl (zC rfl rfl (R_Mul ‹_› ‹_› (by omega)) rfl ?_)
 rintro _ G7 _ ⟨x8, rfl, h9⟩
 refine dr_s <| ?_
 refine dc rfl rfl (zC rfl rfl (R_Sub ‹_› ‹_› (by omega)) rfl ?_)
 rintro _ G10 _ ⟨x11, rfl, h12⟩
 refine dr_s <| ?_
 refine dc rfl rfl (ch_store rfl rfl (by repeat (first | exact .hd .. | refine .tl _ _ _ _ _ _ _ _ ?_)) rfl (nb rfl) rfl rfl ?_)
 refine dr_f rfl <| dn <| st_ret <| ?_
 exact zD (.agg rfl ii ii rfl .nil) ⟨_, rfl, IsR.mono' (by assumption) (by omega)⟩
theorem Pt_Add {A B G : Gh} {z1 z2 : PV} {p q : PtQ} {k1 k2 : Nat} (hp : IsP k1 A z1 p) (hq : IsP k2 B z2 q) [GL A G] [GL B G] (hk : k1 + k2 ≤ 137438953472) :
  Fn Tryz.prog 216 [.agg ⟨[.int .i64 z1.x.n, .int .i64 z1.x.d, .pointer z1.x.p, .int .i64 z1.y.n, .int .i64 z1.y.d, .pointer z1.y.p]⟩, .agg ⟨[.int .i64 z2.x.n, .int .i64 z2.x.d, .pointer z2.x.p, .int .i64 z2.y.n, .int .i64 z2.y.d, .pointer z2.y.p]⟩] G (fun v G' => ∃ x : PV, v = x.v ∧ IsP (k1 + k2 + 1) G' x (p.add q)) := by
 obtain ⟨hpx, hpy⟩ := hp
 obtain ⟨hqx, hqy⟩ := hq
 refine Fn.intro Tryz.func216 rfl rfl Tryz.ntmps216 rfl ?_
 intro C _ _
 refine sR <| ?_
 refine sc (ch_box rfl rfl ?_)
 intro b1
 refine sc (ch_box rfl rfl ?_)
 intro b2
 refine sc (ch_alloc rfl ?_)
 intro b3
 refine zE <| st_seq <| dr (fun i => Nat.beq i 11) [(0, true), (1, true), (2, true), (3, true), (5, true), (6, true), (7, true), (8, true), (4, false), (9, false), (10, true), (11, false)] follows (by kernel_rfl) <| ?_
 refine dF rfl rfl rfl <| dL rfl rfl rfl rfl <| dF rfl rfl rfl <| dL rfl rfl rfl rfl <| ?_
 refine dF rfl rfl rfl <| dL rfl rfl rfl rfl <| dF rfl rfl rfl <| dL rfl rfl rfl rfl <| ?_
 refine dc rfl rfl (zC rfl rfl (R_Add ‹_› ‹_› (by omega)) rfl ?_)
 rintro _ G4 _ ⟨x5, rfl, h6⟩
 refine dr_s <| ?_
 refine dc rfl rfl (zC rfl rfl (R_Add ‹_› ‹_› (by omega)) rfl ?_)
 rintro _ G7 _ ⟨x8, rfl, h9⟩
 refine dr_s <| dy rfl (fun _ => yd_build rfl) rfl rfl <| ?_
 refine dc rfl rfl (ch_store rfl rfl (by repeat (first | exact .hd .. | refine .tl _ _ _ _ _ _ _ _ ?_)) rfl (nb rfl) rfl rfl ?_)
 refine dr_f rfl <| dn <| st_ret <| ?_
 exact zD (.agg rfl ii ii rfl .nil) ⟨⟨_, _⟩, rfl, IsR.up ‹IsR _ _ _ (p.x + q.x)›, IsR.up ‹IsR _ _ _ (p.y + q.y)›⟩
theorem Pt_Scale {A B G : Gh} {z1 : PV} {z2 : RV} {p : PtQ} {c : Rat} {k1 k2 : Nat} (hp : IsP k1 A z1 p) (hc : IsR k2 B z2 c) [GL A G] [GL B G] (hk : k1 + k2 ≤ 137438953472) :
  Fn Tryz.prog 217 [.agg ⟨[.int .i64 z1.x.n, .int .i64 z1.x.d, .pointer z1.x.p, .int .i64 z1.y.n, .int .i64 z1.y.d, .pointer z1.y.p]⟩, .agg ⟨[.int .i64 z2.n, .int .i64 z2.d, .pointer z2.p]⟩] G (fun v G' => ∃ x : PV, v = x.v ∧ IsP (k1 + k2) G' x (p.scale c)) := by
 obtain ⟨hpx, hpy⟩ := hp
 refine Fn.intro Tryz.func217 rfl rfl Tryz.ntmps217 rfl ?_
 intro C _ _
 refine sR <| ?_
 refine sc (ch_box rfl rfl ?_)
 intro b1
 refine sc (ch_box rfl rfl ?_)
 intro b2
 refine sc (ch_alloc rfl ?_)
 intro b3
 refine zE <| st_seq <| dr (fun i => Nat.beq i 9) [(0, true), (1, true), (2, true), (4, true), (5, true), (6, true), (3, false), (7, false), (8, true), (9, false)] follows (by kernel_rfl) <| ?_
 refine dF rfl rfl rfl <| dL rfl rfl rfl rfl <| dL rfl rfl rfl rfl <| dF rfl rfl rfl <| ?_
 refine dL rfl rfl rfl rfl <| dL rfl rfl rfl rfl <| ?_
 refine dc rfl rfl (zC rfl rfl (R_Mul ‹_› ‹_› (by omega)) rfl ?_)
 rintro _ G4 _ ⟨x5, rfl, h6⟩
 refine dr_s <| ?_
 refine dc rfl rfl (zC rfl rfl (R_Mul ‹_› ‹_› (by omega)) rfl ?_)
 rintro _ G7 _ ⟨x8, rfl, h9⟩
 refine dr_s <| dy rfl (fun _ => yd_build rfl) rfl rfl <| ?_
 refine dc rfl rfl (ch_store rfl rfl (by repeat (first | exact .hd .. | refine .tl _ _ _ _ _ _ _ _ ?_)) rfl (nb rfl) rfl rfl ?_)
 refine dr_f rfl <| dn <| st_ret <| ?_
 exact zD (.agg rfl ii ii rfl .nil) ⟨⟨_, _⟩, rfl, IsR.up ‹IsR _ _ _ (p.x * c)›, IsR.up ‹IsR _ _ _ (p.y * c)›⟩
end Go.Sx
end

section
set_option maxRecDepth 100000
namespace Go.Sx
open Go Go.Proofs
theorem IsP.mono' {k l : Nat} {G : Gh} {z : PV} {p : PtQ} (h : IsP k G z p) (hk : k ≤ l) : IsP l G z p := ⟨h.x.mono' hk, h.y.mono' hk⟩
def LnQ.value (l : LnQ) (p : PtQ) : Rat := l.nor.dot p + (l.c : Rat)
def LnQ.base (l : LnQ) : PtQ := l.nor.scale (-(l.c : Rat) / l.nor.dot l.nor)
def LnQ.at (l : LnQ) (t : Rat) : PtQ := l.base.add (l.dir.scale t)
theorem Ln_Value {A B G : Gh} {z1 : LV} {z2 : PV} {l : LnQ} {p : PtQ} {k1 k2 : Nat} (hl : IsL k1 A z1 l) (hp : IsP k2 B z2 p) [GL A G] [GL B G] (hk : k1 + k2 ≤ 137438953472) :
  Fn Tryz.prog 191 [.agg ⟨[.int .i64 z1.a.n, .int .i64 z1.a.d, .pointer z1.a.p, .int .i64 z1.b.n, .int .i64 z1.b.d, .pointer z1.b.p, .int .i64 z1.c.n, .int .i64 z1.c.d, .pointer z1.c.p]⟩, .agg ⟨[.int .i64 z2.x.n, .int .i64 z2.x.d, .pointer z2.x.p, .int .i64 z2.y.n, .int .i64 z2.y.d, .pointer z2.y.p]⟩] G (fun v G' => ∃ x : RV, v = x.v ∧ IsR (3 * (k1 + k2) + 2) G' x (l.value p)) := by
 have hc := hl.c
 refine Fn.intro Tryz.func191 rfl rfl Tryz.ntmps191 rfl ?_
 intro C _ _
 refine sR <| ?_
 refine sc (ch_box rfl rfl ?_)
 intro b1
 refine sc (ch_box rfl rfl ?_)
 intro b2
 refine sc (ch_alloc rfl ?_)
 intro b3
 refine zE <| st_seq <| dr (fun i => Nat.beq i 7) [(0, true), (2, true), (4, true), (5, true), (1, false), (3, false), (6, false), (7, false)] follows (by kernel_rfl) <| dL rfl rfl rfl rfl <| ?_
 refine dL rfl rfl rfl rfl <| dF rfl rfl rfl <| dL rfl rfl rfl rfl <| ?_
 refine dc rfl rfl (zC rfl rfl (Ln_Normal ‹_›) rfl ?_)
 rintro _ G4 _ ⟨x5, rfl, h6⟩
 refine dr_s <| ?_
 refine dc rfl rfl (zC rfl rfl (Pt_Dot ‹_› ‹_› (by omega)) rfl ?_)
 rintro _ G7 _ ⟨x8, rfl, h9⟩
 refine dr_s <| ?_
 refine dc rfl rfl (zC rfl rfl (R_Add ‹_› ‹_› (by omega)) rfl ?_)
 rintro _ G10 _ ⟨x11, rfl, h12⟩
 refine dr_s <| ?_
 refine dc rfl rfl (ch_store rfl rfl (by repeat (first | exact .hd .. | apply OUpd.tl)) rfl (nb rfl) rfl rfl ?_)
 refine dr_f rfl <| dn <| st_ret <| ?_
 exact zD (.agg rfl ii ii rfl .nil) ⟨_, rfl, IsR.mono' (by assumption) (by omega)⟩
theorem Ln_Side {A B G : Gh} {z1 : LV} {z2 : PV} {l : LnQ} {p : PtQ} {k1 k2 : Nat} (hl : IsL k1 A z1 l) (hp : IsP k2 B z2 p) [GL A G] [GL B G] (hk : k1 + k2 ≤ 137438953472) :
  Fn Tryz.prog 186 [.agg ⟨[.int .i64 z1.a.n, .int .i64 z1.a.d, .pointer z1.a.p, .int .i64 z1.b.n, .int .i64 z1.b.d, .pointer z1.b.p, .int .i64 z1.c.n, .int .i64 z1.c.d, .pointer z1.c.p]⟩, .agg ⟨[.int .i64 z2.x.n, .int .i64 z2.x.d, .pointer z2.x.p, .int .i64 z2.y.n, .int .i64 z2.y.d, .pointer z2.y.p]⟩] G (fun v G' => v = .int .i64 (Int.sign (l.value p).num)) := by
 refine Fn.intro Tryz.func186 rfl rfl Tryz.ntmps186 rfl ?_
 intro C _ _
 refine sR <| ?_
 refine sc (ch_box rfl rfl ?_)
 intro b1
 refine sc (ch_box rfl rfl ?_)
 intro b2
 refine sa rfl rfl <| zE <| sR <| slo rfl rfl rfl <| slo rfl rfl rfl <| ?_
 refine sc (zC rfl rfl (Ln_Value ‹_› ‹_› (by omega)) rfl ?_)
 rintro _ G3 _ ⟨x4, rfl, h5⟩
 refine sc (zC rfl rfl (R_Sign ‹_› (by omega)) rfl ?_)
 rintro _ G6 _ rfl
 refine sa rfl rfl <| zE <| st_ret <| ?_
 exact zD (.tmp rfl .nil) rfl
theorem Ln_Base {A G : Gh} {z : LV} {l : LnQ} {k : Nat} (hl : IsL k A z l) [GL A G] (hk : k ≤ 8589934592) :
  Fn Tryz.prog 192 [.agg ⟨[.int .i64 z.a.n, .int .i64 z.a.d, .pointer z.a.p, .int .i64 z.b.n, .int .i64 z.b.d, .pointer z.b.p, .int .i64 z.c.n, .int .i64 z.c.d, .pointer z.c.p]⟩] G (fun v G' => ∃ x : PV, v = x.v ∧ IsP (6 * k + 1) G' x l.base) := by
 have hc := hl.c
 refine Fn.intro Tryz.func192 rfl rfl Tryz.ntmps192 rfl ?_
 intro C _ _
 refine sR <| ?_
 refine sc (ch_box rfl rfl ?_)
 intro b1
 refine sc (ch_alloc rfl ?_)
 intro b2
 refine zE <| sR <| slo rfl rfl rfl <| ?_
 refine sc (zC rfl rfl (Ln_Normal ‹_›) rfl ?_)
 rintro _ G3 _ ⟨x4, rfl, h5⟩
 refine sc (ch_alloc rfl ?_)
 intro b6
 refine sc (ch_store rfl rfl (by repeat (first | exact .hd .. | apply OUpd.tl)) rfl (nb rfl) rfl rfl ?_)
 refine zE <| st_seq <| dr (fun i => Nat.beq i 9) [(0, true), (1, true), (2, true), (4, true), (5, true), (3, false), (6, false), (7, false), (8, false), (9, false)] follows (by kernel_rfl) <| ?_
 refine dL rfl rfl rfl rfl <| dF rfl rfl rfl <| dL rfl rfl rfl rfl <| dL rfl rfl rfl rfl <| ?_
 refine dL rfl rfl rfl rfl <| ?_
 refine dc rfl rfl (zC rfl rfl (R_Neg ‹_› (by omega)) rfl ?_)
 rintro _ G7 _ ⟨x8, rfl, h9⟩
 refine dr_s <| ?_
 refine dc rfl rfl (zC rfl rfl (Pt_Dot ‹_› ‹_› (by omega)) rfl ?_)
 rintro _ G10 _ ⟨x11, rfl, h12⟩
 refine dr_s <| ?_
 refine dc rfl rfl (zC rfl rfl (R_Quo ‹_› ‹_› (by omega)) rfl ?_)
 rintro _ G13 _ ⟨x14, rfl, h15⟩
 refine dr_s <| ?_
 refine dc rfl rfl (zC rfl rfl (Pt_Scale ‹_› ‹_› (by omega)) rfl ?_)
 rintro _ G16 _ ⟨x17, rfl, h18⟩
 refine dr_s <| ?_
 refine dc rfl rfl (ch_store rfl rfl (by repeat (first | exact .hd .. | apply OUpd.tl)) rfl (nb rfl) rfl rfl ?_)
 refine dr_f rfl <| dn <| st_ret <| ?_
 exact zD (.agg rfl ii ii rfl .nil) ⟨_, rfl, IsP.mono' (by assumption) (by omega)⟩
theorem Ln_At {A B G : Gh} {z1 : LV} {z2 : RV} {l : LnQ} {c : Rat} {k1 k2 : Nat} (hl : IsL k1 A z1 l) (hc : IsR k2 B z2 c) [GL A G] [GL B G] (hk : k1 + k2 ≤ 8589934592) :
  Fn Tryz.prog 187 [.agg ⟨[.int .i64 z1.a.n, .int .i64 z1.a.d, .pointer z1.a.p, .int .i64 z1.b.n, .int .i64 z1.b.d, .pointer z1.b.p, .int .i64 z1.c.n, .int .i64 z1.c.d, .pointer z1.c.p]⟩, .agg ⟨[.int .i64 z2.n, .int .i64 z2.d, .pointer z2.p]⟩] G (fun v G' => ∃ x : PV, v = x.v ∧ IsP (7 * k1 + k2 + 2) G' x (l.at c)) := by
 refine Fn.intro Tryz.func187 rfl rfl Tryz.ntmps187 rfl ?_
 intro C _ _
 refine sR <| ?_
 refine sc (ch_box rfl rfl ?_)
 intro b1
 refine sc (ch_box rfl rfl ?_)
 intro b2
 refine sc (ch_alloc rfl ?_)
 intro b3
 refine zE <| st_seq <| dr (fun i => Nat.beq i 7) [(0, true), (2, true), (4, true), (1, false), (3, false), (5, false), (6, false), (7, false)] follows (by kernel_rfl) <| dL rfl rfl rfl rfl <| ?_
 refine dL rfl rfl rfl rfl <| dL rfl rfl rfl rfl <| ?_
 refine dc rfl rfl (zC rfl rfl (Ln_Base ‹_› (by omega)) rfl ?_)
 rintro _ G4 _ ⟨x5, rfl, h6⟩
 refine dr_s <| ?_
 refine dc rfl rfl (zC rfl rfl (Ln_Dir ‹_› (by omega)) rfl ?_)
 rintro _ G7 _ ⟨x8, rfl, h9⟩
 refine dr_s <| ?_
 refine dc rfl rfl (zC rfl rfl (Pt_Scale ‹_› ‹_› (by omega)) rfl ?_)
 rintro _ G10 _ ⟨x11, rfl, h12⟩
 refine dr_s <| ?_
 refine dc rfl rfl (zC rfl rfl (Pt_Add ‹_› ‹_› (by omega)) rfl ?_)
 rintro _ G13 _ ⟨x14, rfl, h15⟩
 refine dr_s <| ?_
 refine dc rfl rfl (ch_store rfl rfl (by repeat (first | exact .hd .. | apply OUpd.tl)) rfl (nb rfl) rfl rfl ?_)
 refine dr_f rfl <| dn <| st_ret <| ?_
 exact zD (.agg rfl ii ii rfl .nil) ⟨_, rfl, IsP.mono' (by assumption) (by omega)⟩
end Go.Sx
end

section
set_option maxRecDepth 100000
namespace Go.Sx
open Go
def dU (d : Nat) : DV := .v (.int .u32 (d : Int))
def dLi (ds : List Nat) : DV := .sl (ds.map dU)
def dN (n : Nat) : DV := .sl ((dg n).map dU)
def dD (n : Nat) : DV := .sl (if n = 1 then [] else (dg n).map dU)
def eI (m : Int) : DV := .ag [.v (.bool (decide (m < 0))), dN m.natAbs]
def eQ (q : Rat) : DV := .ag [.v (.bool (decide (q.num < 0))), dN q.num.natAbs, dD q.den]
def eP (p : PtQ) : DV := .ag [.v (.bool (decide (p.x.num < 0))), dN p.x.num.natAbs, dD p.x.den, .v (.bool (decide (p.y.num < 0))), dN p.y.num.natAbs, dD p.y.den]
def eL (l : LnQ) : DV := .ag [.v (.bool (decide (l.a < 0))), dN l.a.natAbs, .v (.bool (decide (l.b < 0))), dN l.b.natAbs, .v (.bool (decide (l.c < 0))), dN l.c.natAbs]
def eR (q : Rat) : DV := .ag [.v (.bool (decide (q.num < 0))), dN q.num.natAbs, dN q.den]
def ePt (p : PtQ) : DV := .ag [.v (.bool (decide (p.x.num < 0))), dN p.x.num.natAbs, dN p.x.den, .v (.bool (decide (p.y.num < 0))), dN p.y.num.natAbs, dN p.y.den]
def vI (n : Int) : DV := .v (.int .i64 n)
def vB (b : Bool) : DV := .v (.bool b)
theorem dN_dg (n : Nat) : dN n = dLi (dg n) := rfl
theorem dL_dv {ds : List Nat} (h : DOk ds) : dLi (trimD ds) = dN (dv ds) := by unfold dLi dN; rw [dg_trim h]
theorem mapU_get {ds : List Nat} {i : Nat} (h : i < ds.length) : (ds.map dU)[i]? = some (dU (ds.getD i 0)) := by
 rw [List.getElem?_map, List.getElem?_eq_getElem h, List.getD_eq_getElem?_getD, List.getElem?_eq_getElem h]; rfl
theorem mapU_getI {ds : List Nat} {i : Nat} (h : i < ds.length) : (ds.map dU)[(i : Int).toNat]? = some (dU (ds.getD i 0)) := by rw [Int.toNat_natCast]; exact mapU_get h
theorem mapU_set (ds : List Nat) (i d : Nat) : (ds.map dU).set i (.v (.int .u32 (d : Int))) = (ds.set i d).map dU := by rw [List.map_set]; rfl
theorem mapU_rep (n : Nat) : List.replicate n (DV.v (.int .u32 0)) = (List.replicate n 0).map dU := by rw [List.map_replicate]; rfl
theorem slOkU (ds : List Nat) : slOk 1 (ds.map dU) := fun d hd => by
 obtain ⟨n, _, rfl⟩ := List.mem_map.1 hd; exact ⟨rfl, rfl⟩
theorem dg_lt (n : Nat) (i : Nat) : (dg n).getD i 0 < 4294967296 := (dg_spec n).2.1.get i
theorem dg_zero : dg 0 = [] := by rw [dg, dif_pos rfl]
theorem dg_one : dg 1 = [1] := by rw [dg, dif_neg (by decide)]; simp [dg_zero]
theorem dg_len_zero {n : Nat} : (dg n).length = 0 ↔ n = 0 := by
 constructor
 · intro h
   have := (dg_spec n).1
   rw [List.eq_nil_of_length_eq_zero h] at this
   exact this.symm
 · rintro rfl; rw [dg_zero]; rfl
theorem dN_zero : dN 0 = .sl [] := by unfold dN; rw [dg_zero]; rfl
/-! ### bridges -/
theorem isl_mapU {G : Gh} : ∀ {ds : List Nat} {es : List Value}, IsLs G (ds.map dU) es ↔ es = ds.map dI
 | [], es => isl_nil
 | d :: t, es => by
   rw [List.map_cons, isl_cons]
   constructor
   · rintro ⟨y, n, rfl, h1, h2⟩
     rw [is_v.1 h1, isl_mapU.1 h2]; rfl
   · rintro rfl
     exact ⟨_, _, rfl, is_v.2 rfl, isl_mapU.2 rfl⟩
theorem is_dL {G : Gh} {ds : List Nat} {v : Value} : Is G (dLi ds) v ↔ ∃ x : SV, v = .slice x.a x.n x.c ∧ IsSl G 1 x (ds.map dI) := by
 unfold dLi
 rw [is_sl]
 constructor
 · rintro ⟨s, x, es, rfl, h1, h2⟩
   have := isl_mapU.1 h2
   subst this
   refine ⟨x, rfl, ?_⟩
   rcases sl_stride (s := 1) h1 h2 (slOkU ds) with h | h
   · rw [h] at h1 ⊢
     exact ⟨h1.len, h1.cap, .inl rfl⟩
   · subst h; exact h1
 · rintro ⟨x, rfl, h⟩
   exact ⟨1, x, _, rfl, h, isl_mapU.2 rfl⟩
theorem is_dN {G : Gh} {n k : Nat} {v : Value} (hk : n < 2 ^ k) : Is G (dN n) v ↔ ∃ x : SV, v = .slice x.a x.n x.c ∧ IsN k G x n := by
 rw [dN_dg, is_dL]
 constructor
 · rintro ⟨x, rfl, h⟩
   exact ⟨x, rfl, ⟨(dg_spec n).2.1, h⟩, hk⟩
 · rintro ⟨x, rfl, h⟩
   exact ⟨x, rfl, h.d.sl⟩
/-! ### spelled otherwise -/
theorem sd_eq (k : Nat) {GB : Gh} {C : Ctx} {n : Nat} {fr : FrF} {own : List OwnD} {bs : List BufD} {Φ : Act → World → Prop} {f : FV} (f' : FV) (hl : lookF fr k = some f) (e : f = f') (h : SD GB C n E0 ((k, f') :: fr) own bs Φ) : SD GB C n E0 fr own bs Φ :=
 sd_re k hl rfl (fun G y hy => e ▸ hy) h
theorem sd_bh {GB : Gh} {C : Ctx} {n : Nat} {E : Ext} {fr : FrF} {own : List OwnD} {bs : List BufD} {Φ : Act → World → Prop} {w : SV} {s : Nat} {ty : TypeId} {ds : List DV} {lo : Bool} (ds' : List DV) (e : ds = ds') (h : SD GB C n E fr own (⟨w, s, ty, ds', lo⟩ :: bs) Φ) : SD GB C n E fr own (⟨w, s, ty, ds, lo⟩ :: bs) Φ := e ▸ h
theorem mapU_getZ {ds : List Nat} {i : Int} {k : Nat} (hi : i = k) (h : k < ds.length) : (ds.map dU)[i.toNat]? = some (dU (ds.getD k 0)) := by subst hi; exact mapU_getI h
/-! ### bounds -/
class BN (n : Nat) (k : outParam Nat) : Prop where h : n < 2 ^ k
class BI (m : Int) (k : outParam Nat) : Prop where h : m.natAbs < 2 ^ k
class BQ (q : Rat) (k : outParam Nat) : Prop where
 hn : q.num.natAbs < 2 ^ k
 hd : q.den < 2 ^ k
theorem BN.mono {n k k' : Nat} (h : BN n k) (hk : k ≤ k') : BN n k' := ⟨Nat.lt_of_lt_of_le h.h (Nat.pow_le_pow_right (by decide) hk)⟩
theorem mul_lt_pow {a b i j : Nat} (h : a < 2 ^ i) (k : b < 2 ^ j) : a * b < 2 ^ (i + j) := by rw [Nat.pow_add]; exact Nat.mul_lt_mul'' h k
theorem add_lt_pow {a b i j : Nat} (h : a < 2 ^ i) (k : b < 2 ^ j) : a + b < 2 ^ (i + j + 1) := by
 have h1 : 2 ^ i ≤ 2 ^ (i + j) := Nat.pow_le_pow_right (by decide) (by omega)
 have h2 : 2 ^ j ≤ 2 ^ (i + j) := Nat.pow_le_pow_right (by decide) (by omega)
 rw [Nat.pow_succ]; omega
instance BN.mul (a b i j : Nat) [h : BN a i] [k : BN b j] : BN (a * b) (i + j) := ⟨mul_lt_pow h.h k.h⟩
instance BN.add (a b i j : Nat) [h : BN a i] [k : BN b j] : BN (a + b) (i + j + 1) := ⟨add_lt_pow h.h k.h⟩
instance BN.sub (a b i : Nat) [h : BN a i] : BN (a - b) i := ⟨by have := h.h; omega⟩
instance BN.div (a b i : Nat) [h : BN a i] : BN (a / b) i := ⟨Nat.lt_of_le_of_lt (Nat.div_le_self _ _) h.h⟩
instance BN.abs (m : Int) (i : Nat) [h : BI m i] : BN m.natAbs i := ⟨h.h⟩
instance BN.den (q : Rat) (i : Nat) [h : BQ q i] : BN q.den i := ⟨h.hd⟩
theorem gcd_lt' {a b i j : Nat} (h : a < 2 ^ i) (k : b < 2 ^ j) : Nat.gcd a b < 2 ^ (i + j) := by
 have h1 : 2 ^ i ≤ 2 ^ (i + j) := Nat.pow_le_pow_right (by decide) (by omega)
 have h2 : 2 ^ j ≤ 2 ^ (i + j) := Nat.pow_le_pow_right (by decide) (by omega)
 rcases Nat.eq_zero_or_pos a with h0 | h0
 · subst h0; rw [Nat.gcd_zero_left]; omega
 · have := Nat.gcd_le_left b h0; omega
instance BN.gcd (a b i j : Nat) [h : BN a i] [k : BN b j] : BN (Nat.gcd a b) (i + j) := ⟨gcd_lt' h.h k.h⟩
instance BN.one : BN 1 1 := ⟨by decide⟩
instance BN.zero : BN 0 0 := ⟨by decide⟩
instance BI.mul (a b : Int) (i j : Nat) [h : BI a i] [k : BI b j] : BI (a * b) (i + j) := ⟨by rw [Int.natAbs_mul]; exact mul_lt_pow h.h k.h⟩
instance BI.add (a b : Int) (i j : Nat) [h : BI a i] [k : BI b j] : BI (a + b) (i + j + 1) := ⟨Nat.lt_of_le_of_lt (Int.natAbs_add_le a b) (add_lt_pow h.h k.h)⟩
instance BI.sub (a b : Int) (i j : Nat) [h : BI a i] [k : BI b j] : BI (a - b) (i + j + 1) := ⟨Nat.lt_of_le_of_lt (Int.natAbs_sub_le a b) (add_lt_pow h.h k.h)⟩
instance BI.neg (a : Int) (i : Nat) [h : BI a i] : BI (-a) i := ⟨by rw [Int.natAbs_neg]; exact h.h⟩
instance BI.num (q : Rat) (i : Nat) [h : BQ q i] : BI q.num i := ⟨h.hn⟩
instance BI.nat (n : Nat) (i : Nat) [h : BN n i] : BI (n : Int) i := ⟨by rw [Int.natAbs_natCast]; exact h.h⟩
theorem den_pos' (q : Rat) : 0 < q.den := Nat.pos_of_ne_zero q.den_nz
theorem mkRat_bd {m : Int} {d i : Nat} (hd : 0 < d) (h : m.natAbs < 2 ^ i) (k : d < 2 ^ i) : BQ (mkRat m d) i := by
 refine ⟨?_, ?_⟩
 · rw [Rat.num_mkRat, if_neg (by omega)]
   have := Int.natAbs_ediv_le_natAbs m (d.gcd m.natAbs : Nat)
   omega
 · rw [Rat.den_mkRat, if_neg (by omega)]
   have := Nat.div_le_self d (d.gcd m.natAbs)
   omega
theorem BQ.mono {q : Rat} {k k' : Nat} (h : BQ q k) (hk : k ≤ k') : BQ q k' := ⟨Nat.lt_of_lt_of_le h.hn (Nat.pow_le_pow_right (by decide) hk), Nat.lt_of_lt_of_le h.hd (Nat.pow_le_pow_right (by decide) hk)⟩
theorem rat_mul_mk (p q : Rat) : p * q = mkRat (p.num * q.num) (p.den * q.den) := by rw [Rat.mul_def, Rat.normalize_eq_mkRat]
theorem rat_add_mk (p q : Rat) : p + q = mkRat (p.num * q.den + q.num * p.den) (p.den * q.den) := by rw [Rat.add_def, Rat.normalize_eq_mkRat]
instance BQ.mul (p q : Rat) (i j : Nat) [h : BQ p i] [k : BQ q j] : BQ (p * q) (i + j) := by
 rw [rat_mul_mk]
 exact mkRat_bd (Nat.mul_pos (den_pos' p) (den_pos' q)) (BI.mul p.num q.num i j).h (mul_lt_pow h.hd k.hd)
instance BQ.add (p q : Rat) (i j : Nat) [h : BQ p i] [k : BQ q j] : BQ (p + q) (i + j + 1) := by
 rw [rat_add_mk]
 refine mkRat_bd (Nat.mul_pos (den_pos' p) (den_pos' q)) ?_ ?_
 · have h1 := mul_lt_pow h.hn k.hd
   have h2 := mul_lt_pow k.hn h.hd
   have h3 : (p.num * q.den + q.num * p.den).natAbs ≤ (p.num * q.den).natAbs + (q.num * p.den).natAbs := Int.natAbs_add_le ..
   rw [Int.natAbs_mul, Int.natAbs_mul, Int.natAbs_natCast, Int.natAbs_natCast] at h3
   rw [Nat.add_comm j i] at h2
   rw [Nat.pow_succ]; omega
 · have h1 := mul_lt_pow h.hd k.hd
   rw [Nat.pow_succ]; omega
instance BQ.neg (p : Rat) (i : Nat) [h : BQ p i] : BQ (-p) i := ⟨by rw [Rat.neg_num, Int.natAbs_neg]; exact h.hn, by rw [Rat.neg_den]; exact h.hd⟩
instance BQ.sub (p q : Rat) (i j : Nat) [h : BQ p i] [k : BQ q j] : BQ (p - q) (i + j + 1) := by
 rw [Rat.sub_eq_add_neg]
 exact BQ.add p (-q) i j
instance BQ.ofInt (m : Int) (i : Nat) [h : BI m i] : BQ (m : Rat) (i + 1) := by
 refine ⟨?_, ?_⟩
 · rw [Rat.num_intCast]; have := h.h; rw [Nat.pow_succ]; omega
 · rw [Rat.den_intCast]; have : 0 < 2 ^ i := Nat.pow_pos (by decide); rw [Nat.pow_succ]; omega
end Go.Sx
end

section
set_option maxRecDepth 100000
namespace Go.Sx
open Go
instance : DecidableEq LnQ := fun x y => decidable_of_iff (x.a = y.a ∧ x.b = y.b ∧ x.c = y.c) (by
 cases x; cases y; simp)
structure IvQ where
 lo : Rat
 hi : Rat
 nl : Bool
 nh : Bool
def IvQ.all : IvQ := ⟨0, 0, true, true⟩
def IvQ.empty (v : IvQ) : Bool := !v.nl && (!v.nh && decide (0 ≤ rcmp v.lo v.hi))
def IvQ.meet (v w : IvQ) : IvQ :=
 ⟨if v.nl then w.lo else if w.nl then v.lo else if v.lo < w.lo then w.lo else v.lo,
  if v.nh then w.hi else if w.nh then v.hi else if w.hi < v.hi then w.hi else v.hi, v.nl && w.nl, v.nh && w.nh⟩
def IvQ.sample (v : IvQ) : Rat := if v.nl && v.nh then 0 else if v.nl then v.hi - 1 else if v.nh then v.lo + 1 else (v.lo + v.hi) * mkRat 1 2
def LnQ.cutK (l m : LnQ) : Rat := m.nor.dot l.dir
def LnQ.cutC (l m : LnQ) : Rat := m.value l.base
def LnQ.cutV (l : LnQ) (v : IvQ) (m : LnQ) : IvQ :=
 if Int.sign (l.cutK m).num = 0 then v
 else if Int.sign (l.cutK m).num = 1 then v.meet ⟨-(l.cutC m / l.cutK m), 0, false, true⟩
 else v.meet ⟨0, -(l.cutC m / l.cutK m), true, false⟩
def LnQ.cutB (l : LnQ) (v : IvQ) (m : LnQ) : Bool :=
 if Int.sign (l.cutK m).num = 0 then decide (0 < Int.sign (l.cutC m).num) else !(l.cutV v m).empty
structure FrQ where
 l : LnQ
 v : IvQ
abbrev CellQ := List FrQ
def partV (l : LnQ) : CellQ → IvQ → Option IvQ
 | [], v => some v
 | s :: t, v => if l.cutB v s.l then partV l t (l.cutV v s.l) else none
def partQ (c : CellQ) (l : LnQ) : Option IvQ := partV l c IvQ.all
def sideAt (l : LnQ) (s : FrQ) : Int := Int.sign (l.value (s.l.at s.v.sample)).num
def placeV (l : LnQ) : CellQ → Int
 | [] => -1
 | s :: t => if sideAt l s ≠ 0 then sideAt l s else if s.l = l then 1 else placeV l t
def placeQ (c : CellQ) (l : LnQ) : Int := if (partQ c l).isSome then 0 else placeV l c
def PtQ.half (p : PtQ) : Int :=
 if 0 < Int.sign p.y.num ∨ (Int.sign p.y.num = 0 ∧ 0 < Int.sign p.x.num) then 1 else if Int.sign p.y.num < 0 ∨ Int.sign p.x.num < 0 then 2 else 0
def angleQ (u v : PtQ) : Int := if u.half < v.half then -1 else if v.half < u.half then 1 else -(Int.sign (u.cross v).num)
def cutsV (l : LnQ) : CellQ → CellQ
 | [] => []
 | s :: t => if s.l.cutB s.v l then ⟨s.l, s.l.cutV s.v l⟩ :: cutsV l t else cutsV l t
def bsq (p : Nat → Bool) (i j : Nat) : Nat :=
 if h : i < j then (if p ((i + j) / 2) then bsq p ((i + j) / 2 + 1) j else bsq p i ((i + j) / 2)) else i
termination_by j - i
def angAt (c : CellQ) (l : LnQ) (i : Nat) : Bool := match c[i]? with
 | some s => decide (angleQ s.l.dir l.dir < 0)
 | none => false
def insQ (c : CellQ) (l : LnQ) (v : IvQ) : CellQ :=
 c.take (bsq (angAt c l) 0 c.length) ++ ⟨l, v⟩ :: c.drop (bsq (angAt c l) 0 c.length)
def clipC (c : CellQ) (l : LnQ) : CellQ := match partQ c l with
 | some v => insQ (cutsV l c) l v
 | none => c
def clipB (c : CellQ) (l : LnQ) : Bool := match partQ c l with
 | some _ => true
 | none => decide (0 < placeQ c l)
theorem bsq_le (p : Nat → Bool) : ∀ (d i j : Nat), j - i ≤ d → i ≤ j → i ≤ bsq p i j ∧ bsq p i j ≤ j
 | 0, i, j, h, hij => by
   rw [bsq, dif_neg (by omega)]; omega
 | d + 1, i, j, h, hij => by
   rw [bsq]
   split
   · split
     · have := bsq_le p d ((i + j) / 2 + 1) j (by omega) (by omega); omega
     · have := bsq_le p d i ((i + j) / 2) (by omega) (by omega); omega
   · omega
theorem cutsV_len (l : LnQ) : ∀ c : CellQ, (cutsV l c).length ≤ c.length
 | [] => Nat.le_refl _
 | s :: t => by
   have := cutsV_len l t
   unfold cutsV
   split <;> simp <;> omega
theorem insQ_len (c : CellQ) (l : LnQ) (v : IvQ) : (insQ c l v).length = c.length + 1 := by
 have := (bsq_le (angAt c l) c.length 0 c.length (by omega) (by omega)).2
 simp [insQ]; omega
theorem clipC_len (c : CellQ) (l : LnQ) : (clipC c l).length ≤ c.length + 1 := by
 unfold clipC
 split
 · rw [insQ_len]; have := cutsV_len l c; omega
 · omega
/-! ### trees -/
inductive Tr where
 | leaf (b : Bool)
 | node (l : LnQ) (x y : Tr)
def Tr.isLeaf : Tr → Bool
 | .leaf _ => true
 | .node .. => false
def Tr.code : Tr → Bool
 | .leaf b => b
 | .node .. => false
def Tr.depth : Tr → Nat
 | .leaf _ => 0
 | .node _ x y => 1 + max x.depth y.depth
def Tr.size : Tr → Nat
 | .leaf _ => 0
 | .node _ x y => 1 + x.size + y.size
def Tr.joinQ (l : LnQ) (x y : Tr) : Tr := if x.isLeaf && (y.isLeaf && (x.code == y.code)) then x else .node l x y
def Tr.restrict : Tr → CellQ → Tr
 | .leaf b, _ => .leaf b
 | .node l x y, c => if !clipB c l.rev then x.restrict c else if !clipB c l then y.restrict c else joinQ l (x.restrict (clipC c l)) (y.restrict (clipC c l.rev))
def Tr.parts : Tr → CellQ → List (Bool × CellQ)
 | .leaf b, c => [(b, c)]
 | .node l x y, c => (if clipB c l then x.parts (clipC c l) else []) ++ (if clipB c l.rev then y.parts (clipC c l.rev) else [])
def Tr.all (p : LnQ → Prop) : Tr → Prop
 | .leaf _ => True
 | .node l x y => p l ∧ x.all p ∧ y.all p
def Tr.good : Tr → Prop
 | .leaf _ => True
 | .node _ x y => ¬ (x.isLeaf = true ∧ y.isLeaf = true ∧ x.code = y.code) ∧ x.good ∧ y.good
structure NQ where
 l : LnQ
 a : Int
 b : Int
def leafCode (b : Bool) : Int := if b then -2 else -1
def Tr.num : Tr → Nat → Int
 | .leaf b, _ => leafCode b
 | .node .., n => n
def Tr.wr : Tr → Nat → List NQ
 | .leaf _, _ => []
 | .node l x y, n => ⟨l, x.num (n + 1), y.num (n + 1 + x.size)⟩ :: x.wr (n + 1) ++ y.wr (n + 1 + x.size)
theorem Tr.wr_len : ∀ (t : Tr) (n : Nat), (t.wr n).length = t.size
 | .leaf _, n => rfl
 | .node l x y, n => by
   have h1 := Tr.wr_len x (n + 1)
   have h2 := Tr.wr_len y (n + 1 + x.size)
   simp [Tr.wr, Tr.size, h1, h2]; omega
theorem Tr.size_lt : ∀ t : Tr, t.size < 2 ^ t.depth
 | .leaf _ => by simp [Tr.size, Tr.depth]
 | .node l x y => by
   have h1 := x.size_lt
   have h2 := y.size_lt
   have e1 : 2 ^ x.depth ≤ 2 ^ max x.depth y.depth := Nat.pow_le_pow_right (by omega) (Nat.le_max_left ..)
   have e2 : 2 ^ y.depth ≤ 2 ^ max x.depth y.depth := Nat.pow_le_pow_right (by omega) (Nat.le_max_right ..)
   simp only [Tr.size, Tr.depth, Nat.add_comm 1 (max _ _), Nat.pow_succ]
   omega
theorem Tr.joinQ_cases (l : LnQ) (x y : Tr) : (Tr.joinQ l x y = x ∧ x.isLeaf = true) ∨ (Tr.joinQ l x y = .node l x y ∧ ¬ (x.isLeaf = true ∧ y.isLeaf = true ∧ x.code = y.code)) := by
 unfold Tr.joinQ
 split
 · rename_i h
   simp at h
   exact .inl ⟨rfl, h.1⟩
 · rename_i h
   simp at h
   exact .inr ⟨rfl, fun ⟨a, b, c⟩ => h a b c⟩
theorem Tr.restrict_all (p : LnQ → Prop) : ∀ (t : Tr) (c : CellQ), t.all p → (t.restrict c).all p
 | .leaf b, c, _ => trivial
 | .node l x y, c, h => by
   obtain ⟨h0, h1, h2⟩ := h
   unfold Tr.restrict
   split
   · exact x.restrict_all p c h1
   · split
     · exact y.restrict_all p c h2
     · rcases Tr.joinQ_cases l (x.restrict (clipC c l)) (y.restrict (clipC c l.rev)) with ⟨h, _⟩ | ⟨h, _⟩
       · rw [h]; exact x.restrict_all p _ h1
       · rw [h]; exact ⟨h0, x.restrict_all p _ h1, y.restrict_all p _ h2⟩
end Go.Sx
end

section
set_option maxRecDepth 100000
namespace Go.Sx
open Go Go.Proofs
structure IvV where
 lo : RV
 hi : RV
 nl : Bool
 nh : Bool
def IvV.v (z : IvV) : Value := .agg ⟨[.int .i64 z.lo.n, .int .i64 z.lo.d, .pointer z.lo.p, .int .i64 z.hi.n, .int .i64 z.hi.d, .pointer z.hi.p, .bool z.nl, .bool z.nh]⟩
section
variable {P : Program} {C : Ctx} {n : Nat} {fr : Fr} {own own' own1 : List Own} {G : Gh} {Φ : Act → World → Prop}
variable {dst : Option Nat} {t t' ty' : TypeId} {pos : String} {af : Array Edge} {gd : Option (Nat × Bool)} {x y : Operand} {e s by_ : Nat}
theorem chS {v : Value} {b off k : Nat} {cs cs' : List Value} {ty : TypeId} {lo : Bool} (hx : opv fr x = some (.pointer (some ⟨b, off, none⟩))) (hy : opv fr y = some v) [hs : TyA P t k] [ho : OAt own b cs ty lo]
  (hk : (cellsL v).length = k) (hl : off + k ≤ cs.length) (hf : (cellsL v).all flat = true) (hd : dstOk n dst = true) (h : St C n (put fr dst undef) own' G Φ)
  (hc : ovw cs off (cellsL v) = cs' := by first | (dsimp only [ovw, cellsL, zs1, zs2, Nat.reduceAdd, RV.v, LV.v, PV.v, IvV.v]; done) | exact rfl) (hu : OUpd own b cs ty lo cs' own' := by repeat (first | exact .hd .. | apply OUpd.tl)) :
  Ch P C n fr own G ⟨dst, .store t x y, ty', pos, af, gd⟩ Φ := ch_store hx hy (hc ▸ hu) hk hl hf hd h
end
structure IsIv (k : Nat) (G : Gh) (z : IvV) (v : IvQ) : Prop where
 lo : IsR k G z.lo v.lo
 hi : IsR k G z.hi v.hi
 nl : z.nl = v.nl
 nh : z.nh = v.nh
theorem IsIv.up {k : Nat} {A G : Gh} {z : IvV} {v : IvQ} (h : IsIv k A z v) [GL A G] : IsIv k G z v := ⟨h.lo.up, h.hi.up, h.nl, h.nh⟩
theorem IsIv.mono' {k l : Nat} {G : Gh} {z : IvV} {v : IvQ} (h : IsIv k G z v) (hk : k ≤ l) : IsIv l G z v := ⟨h.lo.mono' hk, h.hi.mono' hk, h.nl, h.nh⟩
theorem Iv_empty {A G : Gh} {z : IvV} {v : IvQ} {k : Nat} (h : IsIv k A z v) [GL A G] (hk : 2 * k + 1 ≤ 1099511627776) :
  Fn Tryz.prog 222 [.agg ⟨[.int .i64 z.lo.n, .int .i64 z.lo.d, .pointer z.lo.p, .int .i64 z.hi.n, .int .i64 z.hi.d, .pointer z.hi.p, .bool z.nl, .bool z.nh]⟩] G (fun u _ => u = .bool v.empty) := by
 obtain ⟨hlo, hhi, h1, h2⟩ := h
 obtain ⟨zlo, zhi, znl, znh⟩ := z
 obtain ⟨lo, hi, nl, nh⟩ := v
 simp only [] at hlo hhi h1 h2
 subst h1 h2
 refine Fn.intro Tryz.func222 rfl rfl Tryz.ntmps222 rfl ?_
 intro C _ _
 cases znl
 case true =>
  refine sR <| ?_
  refine sc (ch_box rfl rfl ?_)
  intro b1
  refine sa rfl rfl <| zE <| sR <| sf rfl rfl <| slo1 rfl rfl rfl <| sy (yd_not rfl) rfl <| sm rfl rfl <| ss rfl rfl rfl rfl <| ss rfl rfl rfl rfl <| ss rfl rfl rfl rfl <| sy (yd_pickF rfl rfl) rfl <| ?_
  refine sm rfl rfl <| ss rfl rfl rfl rfl <| ss rfl rfl rfl rfl <| ss rfl rfl rfl rfl <| ss rfl rfl rfl rfl <| ss rfl rfl rfl rfl <| ss rfl rfl rfl rfl <| sy (yd_pickF rfl rfl) rfl <| sa rfl rfl <| ?_
  refine zE <| st_ret <| ?_
  exact zD (.tmp rfl .nil) rfl
 cases znh
 case true =>
  refine sR <| ?_
  refine sc (ch_box rfl rfl ?_)
  intro b1
  refine sa rfl rfl <| zE <| sR <| sf rfl rfl <| slo1 rfl rfl rfl <| sy (yd_not rfl) rfl <| sm rfl rfl <| syg rfl rfl (yd_fieldAddr rfl) rfl <| syg rfl rfl (yd_load_own1 rfl rfl) rfl <| ?_
  refine syg rfl rfl (yd_not rfl) rfl <| sy (yd_pickT rfl rfl) rfl <| sm rfl rfl <| ss rfl rfl rfl rfl <| ss rfl rfl rfl rfl <| ss rfl rfl rfl rfl <| ss rfl rfl rfl rfl <| ss rfl rfl rfl rfl <| ?_
  refine ss rfl rfl rfl rfl <| sy (yd_pickF rfl rfl) rfl <| sa rfl rfl <| zE <| st_ret <| ?_
  exact zD (.tmp rfl .nil) rfl
 refine sR <| ?_
 refine sc (ch_box rfl rfl ?_)
 intro b1
 refine sa rfl rfl <| zE <| sR <| sf rfl rfl <| slo1 rfl rfl rfl <| sy (yd_not rfl) rfl <| sm rfl rfl <| syg rfl rfl (yd_fieldAddr rfl) rfl <| syg rfl rfl (yd_load_own1 rfl rfl) rfl <| ?_
 refine syg rfl rfl (yd_not rfl) rfl <| sy (yd_pickT rfl rfl) rfl <| sm rfl rfl <| syg rfl rfl (yd_fieldAddr rfl) rfl <| syg rfl rfl (yd_load_own rfl rfl) rfl <| syg rfl rfl (yd_fieldAddr rfl) rfl <| ?_
 refine syg rfl rfl (yd_load_own rfl rfl) rfl <| ?_
 refine st_chg rfl rfl rfl (zC rfl rfl (R_Cmp ‹_› ‹_› (by omega)) rfl ?_)
 rintro _ G2 _ rfl
 refine syg rfl rfl (yd_geq rfl rfl) rfl <| sy (yd_pickT rfl rfl) rfl <| sa rfl rfl <| zE <| st_ret <| ?_
 exact zD (.tmp rfl .nil) rfl
theorem geo_All {G : Gh} : Fn Tryz.prog 185 [] G (fun u _ => u = IvV.v ⟨⟨0, 0, none⟩, ⟨0, 0, none⟩, true, true⟩) := by
 refine Fn.intro Tryz.func185 rfl rfl Tryz.ntmps185 rfl ?_
 intro C _ _
 refine sR <| ?_
 refine sc (ch_alloc rfl ?_)
 intro b1
 refine zE <| sR <| sy (yd_build rfl) rfl <| ?_
 refine sc (chS rfl rfl rfl (nb rfl) rfl rfl ?_)
 refine zE <| st_ret <| ?_
 exact zD (.agg rfl ii ii rfl .nil) rfl
set_option maxHeartbeats 2000000 in
theorem Iv_Meet {A B G : Gh} {z1 z2 : IvV} {v w : IvQ} {k1 k2 : Nat} (h : IsIv k1 A z1 v) (g : IsIv k2 B z2 w) [GL A G] [GL B G] (hk : 2 * (k1 + k2) + 1 ≤ 1099511627776) :
  Fn Tryz.prog 193 [.agg ⟨[.int .i64 z1.lo.n, .int .i64 z1.lo.d, .pointer z1.lo.p, .int .i64 z1.hi.n, .int .i64 z1.hi.d, .pointer z1.hi.p, .bool z1.nl, .bool z1.nh]⟩, .agg ⟨[.int .i64 z2.lo.n, .int .i64 z2.lo.d, .pointer z2.lo.p, .int .i64 z2.hi.n, .int .i64 z2.hi.d, .pointer z2.hi.p, .bool z2.nl, .bool z2.nh]⟩] G (fun u G' => ∃ x : IvV, u = .tuple #[x.v, .bool (!(v.meet w).empty)] ∧ IsIv (max k1 k2) G' x (v.meet w)) := by
 obtain ⟨hlo1, hhi1, h1, h2⟩ := h
 obtain ⟨hlo2, hhi2, h3, h4⟩ := g
 obtain ⟨lo1, hi1, nl1, nh1⟩ := z1
 obtain ⟨lo2, hi2, nl2, nh2⟩ := z2
 obtain ⟨va, vb, vc, vd⟩ := v
 obtain ⟨wa, wb, wc, wd⟩ := w
 simp only [] at hlo1 hhi1 hlo2 hhi2 h1 h2 h3 h4
 subst h1 h2 h3 h4
 refine Fn.intro Tryz.func193 rfl rfl Tryz.ntmps193 rfl ?_
 intro C _ _
 cases nl1
 case true =>
  cases nh1
  case true =>
   refine sR <| ?_
   refine sc (ch_box rfl rfl ?_)
   intro b1
   refine sc (ch_box rfl rfl ?_)
   intro b2
   refine sc (ch_alloc rfl ?_)
   intro b3
   refine sa rfl rfl <| zE <| sR <| slo rfl rfl rfl <| ?_
   refine sc (ch_alloc rfl ?_)
   intro b4
   refine sc (chS rfl rfl rfl (nb rfl) rfl rfl ?_)
   refine zE <| st_seq <| st_block <| sR <| sf rfl rfl <| slo1 rfl rfl rfl <| sa rfl rfl <| zE <| st_condT rfl <| dr0 (b := b4) (fun _ => false) [(0, true), (1, true), (2, true), (3, true), (4, true), (5, false), (6, true), (7, false)] follows (by repeat (first | exact .hd .. | apply ORem.tl)) (by kernel_rfl) <| ?_
   refine dF rfl rfl rfl <| dL rfl rfl rfl rfl <| dF rfl rfl rfl <| dL1 rfl rfl rfl rfl <| ?_
   refine dF rfl rfl rfl <| ?_
   refine dc rfl rfl (chS rfl rfl rfl (nb rfl) rfl rfl ?_)
   refine dr_s <| dF rfl rfl rfl <| ?_
   refine dc rfl rfl (ch_storeN1 rfl rfl (by first | (dsimp only [ovw, cellsL, zs1, zs2, Nat.reduceAdd, RV.v, LV.v, PV.v, IvV.v]; done) | exact rfl) (by repeat (first | exact .hd .. | apply OUpd.tl)) (nb rfl) rfl rfl ?_)
   refine dr_s <| dn <| st_seq <| st_block <| sR <| sf rfl rfl <| slo1 rfl rfl rfl <| sa rfl rfl <| zE <| st_condT rfl <| dr0 (b := b4) (fun _ => false) [(0, true), (1, true), (2, true), (3, true), (4, true), (5, false), (6, true), (7, false)] follows (by repeat (first | exact .hd .. | apply ORem.tl)) (by kernel_rfl) <| ?_
   refine dF rfl rfl rfl <| dL rfl rfl rfl rfl <| dF rfl rfl rfl <| dL1 rfl rfl rfl rfl <| ?_
   refine dF rfl rfl rfl <| ?_
   refine dc rfl rfl (chS rfl rfl rfl (nb rfl) rfl rfl ?_)
   refine dr_s <| dF rfl rfl rfl <| ?_
   refine dc rfl rfl (ch_storeN1 rfl rfl (by first | (dsimp only [ovw, cellsL, zs1, zs2, Nat.reduceAdd, RV.v, LV.v, PV.v, IvV.v]; done) | exact rfl) (by repeat (first | exact .hd .. | apply OUpd.tl)) (nb rfl) rfl rfl ?_)
   refine dr_s <| dn <| st_seq <| dr0 (b := b3) (fun _ => false) [(0, true), (1, true), (2, false), (3, true), (4, false), (5, true)] follows (by repeat (first | exact .hd .. | apply ORem.tl)) (by kernel_rfl) <| ?_
   refine dL rfl rfl rfl rfl <| dL rfl rfl rfl rfl <| ?_
   have hL : IsR (max k1 k2) G lo2 wa := hlo2.up.mono' (by omega)
   have hH : IsR (max k1 k2) G hi2 wb := hhi2.up.mono' (by omega)
   have hm : IsIv (max k1 k2) G ⟨lo2, hi2, nl2, nh2⟩ (IvQ.meet ⟨va, vb, true, true⟩ ⟨wa, wb, nl2, nh2⟩) := ⟨hL, hH, rfl, rfl⟩
   refine dc rfl rfl (zC rfl rfl (Iv_empty hm (by omega)) rfl ?_)
   rintro _ G5 _ rfl
   refine dr_s <| dy rfl (fun _ => yd_not rfl) rfl rfl <| ?_
   refine dc rfl rfl (chS rfl rfl rfl (nb rfl) rfl rfl ?_)
   refine dr_s <| dA rfl rfl rfl <| dn <| st_ret <| ?_
   exact zD (.agg rfl ii ii rfl (.tmp rfl .nil)) ⟨_, rfl, hm.up⟩
  cases nh2
  case true =>
   refine sR <| ?_
   refine sc (ch_box rfl rfl ?_)
   intro b1
   refine sc (ch_box rfl rfl ?_)
   intro b2
   refine sc (ch_alloc rfl ?_)
   intro b3
   refine sa rfl rfl <| zE <| sR <| slo rfl rfl rfl <| ?_
   refine sc (ch_alloc rfl ?_)
   intro b4
   refine sc (chS rfl rfl rfl (nb rfl) rfl rfl ?_)
   refine zE <| st_seq <| st_block <| sR <| sf rfl rfl <| slo1 rfl rfl rfl <| sa rfl rfl <| zE <| st_condT rfl <| dr0 (b := b4) (fun _ => false) [(0, true), (1, true), (2, true), (3, true), (4, true), (5, false), (6, true), (7, false)] follows (by repeat (first | exact .hd .. | apply ORem.tl)) (by kernel_rfl) <| ?_
   refine dF rfl rfl rfl <| dL rfl rfl rfl rfl <| dF rfl rfl rfl <| dL1 rfl rfl rfl rfl <| ?_
   refine dF rfl rfl rfl <| ?_
   refine dc rfl rfl (chS rfl rfl rfl (nb rfl) rfl rfl ?_)
   refine dr_s <| dF rfl rfl rfl <| ?_
   refine dc rfl rfl (ch_storeN1 rfl rfl (by first | (dsimp only [ovw, cellsL, zs1, zs2, Nat.reduceAdd, RV.v, LV.v, PV.v, IvV.v]; done) | exact rfl) (by repeat (first | exact .hd .. | apply OUpd.tl)) (nb rfl) rfl rfl ?_)
   refine dr_s <| dn <| st_seq <| st_block <| sR <| sf rfl rfl <| slo1 rfl rfl rfl <| sa rfl rfl <| zE <| st_condF rfl <| sR <| sf rfl rfl <| slo1 rfl rfl rfl <| ?_
   refine sy (yd_not rfl) rfl <| sa rfl rfl <| zE <| st_condF rfl <| zK <| st_seq <| dr0 (b := b3) (fun _ => false) [(0, true), (1, true), (2, false), (3, true), (4, false), (5, true)] follows (by repeat (first | exact .hd .. | apply ORem.tl)) (by kernel_rfl) <| ?_
   refine dL rfl rfl rfl rfl <| dL rfl rfl rfl rfl <| ?_
   have hL : IsR (max k1 k2) G lo2 wa := hlo2.up.mono' (by omega)
   have hH : IsR (max k1 k2) G hi1 vb := hhi1.up.mono' (by omega)
   have hm : IsIv (max k1 k2) G ⟨lo2, hi1, nl2, false⟩ (IvQ.meet ⟨va, vb, true, false⟩ ⟨wa, wb, nl2, true⟩) := ⟨hL, hH, rfl, rfl⟩
   refine dc rfl rfl (zC rfl rfl (Iv_empty hm (by omega)) rfl ?_)
   rintro _ G5 _ rfl
   refine dr_s <| dy rfl (fun _ => yd_not rfl) rfl rfl <| ?_
   refine dc rfl rfl (chS rfl rfl rfl (nb rfl) rfl rfl ?_)
   refine dr_s <| dA rfl rfl rfl <| dn <| st_ret <| ?_
   exact zD (.agg rfl ii ii rfl (.tmp rfl .nil)) ⟨_, rfl, hm.up⟩
  refine sR <| ?_
  refine sc (ch_box rfl rfl ?_)
  intro b1
  refine sc (ch_box rfl rfl ?_)
  intro b2
  refine sc (ch_alloc rfl ?_)
  intro b3
  refine sa rfl rfl <| zE <| sR <| slo rfl rfl rfl <| ?_
  refine sc (ch_alloc rfl ?_)
  intro b4
  refine sc (chS rfl rfl rfl (nb rfl) rfl rfl ?_)
  refine zE <| st_seq <| st_block <| sR <| sf rfl rfl <| slo1 rfl rfl rfl <| sa rfl rfl <| zE <| st_condT rfl <| dr0 (b := b4) (fun _ => false) [(0, true), (1, true), (2, true), (3, true), (4, true), (5, false), (6, true), (7, false)] follows (by repeat (first | exact .hd .. | apply ORem.tl)) (by kernel_rfl) <| ?_
  refine dF rfl rfl rfl <| dL rfl rfl rfl rfl <| dF rfl rfl rfl <| dL1 rfl rfl rfl rfl <| ?_
  refine dF rfl rfl rfl <| ?_
  refine dc rfl rfl (chS rfl rfl rfl (nb rfl) rfl rfl ?_)
  refine dr_s <| dF rfl rfl rfl <| ?_
  refine dc rfl rfl (ch_storeN1 rfl rfl (by first | (dsimp only [ovw, cellsL, zs1, zs2, Nat.reduceAdd, RV.v, LV.v, PV.v, IvV.v]; done) | exact rfl) (by repeat (first | exact .hd .. | apply OUpd.tl)) (nb rfl) rfl rfl ?_)
  refine dr_s <| dn <| st_seq <| st_block <| sR <| sf rfl rfl <| slo1 rfl rfl rfl <| sa rfl rfl <| zE <| st_condF rfl <| sR <| sf rfl rfl <| slo1 rfl rfl rfl <| ?_
  refine sy (yd_not rfl) rfl <| sa rfl rfl <| zE <| st_condT rfl <| st_region <| sf rfl rfl <| slo rfl rfl rfl <| sf rfl rfl <| slo rfl rfl rfl <| ?_
  refine sc (zC rfl rfl (frac_Min hhi1 hhi2 (by omega)) rfl ?_)
  rintro _ G5 _ ⟨x6, rfl, h7⟩
  refine sf rfl rfl <| ?_
  refine sc (chS rfl rfl rfl (nb rfl) rfl rfl ?_)
  refine zE <| st_seq <| dr0 (b := b3) (fun _ => false) [(0, true), (1, true), (2, false), (3, true), (4, false), (5, true)] follows (by repeat (first | exact .hd .. | apply ORem.tl)) (by kernel_rfl) <| ?_
  refine dL rfl rfl rfl rfl <| dL rfl rfl rfl rfl <| ?_
  have hL : IsR (max k1 k2) G5 lo2 wa := hlo2.up.mono' (by omega)
  have hH : IsR (max k1 k2) G5 x6 (if wb < vb then wb else vb) := h7.up.mono' (by omega)
  have hm : IsIv (max k1 k2) G5 ⟨lo2, x6, nl2, false⟩ (IvQ.meet ⟨va, vb, true, false⟩ ⟨wa, wb, nl2, false⟩) := ⟨hL, hH, rfl, rfl⟩
  refine dc rfl rfl (zC rfl rfl (Iv_empty hm (by omega)) rfl ?_)
  rintro _ G8 _ rfl
  refine dr_s <| dy rfl (fun _ => yd_not rfl) rfl rfl <| ?_
  refine dc rfl rfl (chS rfl rfl rfl (nb rfl) rfl rfl ?_)
  refine dr_s <| dA rfl rfl rfl <| dn <| st_ret <| ?_
  exact zD (.agg rfl ii ii rfl (.tmp rfl .nil)) ⟨_, rfl, hm.up⟩
 cases nl2
 case true =>
  cases nh1
  case true =>
   refine sR <| ?_
   refine sc (ch_box rfl rfl ?_)
   intro b1
   refine sc (ch_box rfl rfl ?_)
   intro b2
   refine sc (ch_alloc rfl ?_)
   intro b3
   refine sa rfl rfl <| zE <| sR <| slo rfl rfl rfl <| ?_
   refine sc (ch_alloc rfl ?_)
   intro b4
   refine sc (chS rfl rfl rfl (nb rfl) rfl rfl ?_)
   refine zE <| st_seq <| st_block <| sR <| sf rfl rfl <| slo1 rfl rfl rfl <| sa rfl rfl <| zE <| st_condF rfl <| sR <| sf rfl rfl <| slo1 rfl rfl rfl <| ?_
   refine sy (yd_not rfl) rfl <| sa rfl rfl <| zE <| st_condF rfl <| zK <| st_seq <| st_block <| sR <| sf rfl rfl <| slo1 rfl rfl rfl <| sa rfl rfl <| zE <| st_condT rfl <| ?_
   refine dr0 (b := b4) (fun _ => false) [(0, true), (1, true), (2, true), (3, true), (4, true), (5, false), (6, true), (7, false)] follows (by repeat (first | exact .hd .. | apply ORem.tl)) (by kernel_rfl) <| ?_
   refine dF rfl rfl rfl <| dL rfl rfl rfl rfl <| dF rfl rfl rfl <| dL1 rfl rfl rfl rfl <| ?_
   refine dF rfl rfl rfl <| ?_
   refine dc rfl rfl (chS rfl rfl rfl (nb rfl) rfl rfl ?_)
   refine dr_s <| dF rfl rfl rfl <| ?_
   refine dc rfl rfl (ch_storeN1 rfl rfl (by first | (dsimp only [ovw, cellsL, zs1, zs2, Nat.reduceAdd, RV.v, LV.v, PV.v, IvV.v]; done) | exact rfl) (by repeat (first | exact .hd .. | apply OUpd.tl)) (nb rfl) rfl rfl ?_)
   refine dr_s <| dn <| st_seq <| dr0 (b := b3) (fun _ => false) [(0, true), (1, true), (2, false), (3, true), (4, false), (5, true)] follows (by repeat (first | exact .hd .. | apply ORem.tl)) (by kernel_rfl) <| ?_
   refine dL rfl rfl rfl rfl <| dL rfl rfl rfl rfl <| ?_
   have hL : IsR (max k1 k2) G lo1 va := hlo1.up.mono' (by omega)
   have hH : IsR (max k1 k2) G hi2 wb := hhi2.up.mono' (by omega)
   have hm : IsIv (max k1 k2) G ⟨lo1, hi2, false, nh2⟩ (IvQ.meet ⟨va, vb, false, true⟩ ⟨wa, wb, true, nh2⟩) := ⟨hL, hH, rfl, rfl⟩
   refine dc rfl rfl (zC rfl rfl (Iv_empty hm (by omega)) rfl ?_)
   rintro _ G5 _ rfl
   refine dr_s <| dy rfl (fun _ => yd_not rfl) rfl rfl <| ?_
   refine dc rfl rfl (chS rfl rfl rfl (nb rfl) rfl rfl ?_)
   refine dr_s <| dA rfl rfl rfl <| dn <| st_ret <| ?_
   exact zD (.agg rfl ii ii rfl (.tmp rfl .nil)) ⟨_, rfl, hm.up⟩
  cases nh2
  case true =>
   refine sR <| ?_
   refine sc (ch_box rfl rfl ?_)
   intro b1
   refine sc (ch_box rfl rfl ?_)
   intro b2
   refine sc (ch_alloc rfl ?_)
   intro b3
   refine sa rfl rfl <| zE <| sR <| slo rfl rfl rfl <| ?_
   refine sc (ch_alloc rfl ?_)
   intro b4
   refine sc (chS rfl rfl rfl (nb rfl) rfl rfl ?_)
   refine zE <| st_seq <| st_block <| sR <| sf rfl rfl <| slo1 rfl rfl rfl <| sa rfl rfl <| zE <| st_condF rfl <| sR <| sf rfl rfl <| slo1 rfl rfl rfl <| ?_
   refine sy (yd_not rfl) rfl <| sa rfl rfl <| zE <| st_condF rfl <| zK <| st_seq <| st_block <| sR <| sf rfl rfl <| slo1 rfl rfl rfl <| sa rfl rfl <| zE <| st_condF rfl <| ?_
   refine sR <| sf rfl rfl <| slo1 rfl rfl rfl <| sy (yd_not rfl) rfl <| sa rfl rfl <| zE <| st_condF rfl <| zK <| st_seq <| dr0 (b := b3) (fun _ => false) [(0, true), (1, true), (2, false), (3, true), (4, false), (5, true)] follows (by repeat (first | exact .hd .. | apply ORem.tl)) (by kernel_rfl) <| ?_
   refine dL rfl rfl rfl rfl <| dL rfl rfl rfl rfl <| ?_
   have hL : IsR (max k1 k2) G lo1 va := hlo1.up.mono' (by omega)
   have hH : IsR (max k1 k2) G hi1 vb := hhi1.up.mono' (by omega)
   have hm : IsIv (max k1 k2) G ⟨lo1, hi1, false, false⟩ (IvQ.meet ⟨va, vb, false, false⟩ ⟨wa, wb, true, true⟩) := ⟨hL, hH, rfl, rfl⟩
   refine dc rfl rfl (zC rfl rfl (Iv_empty hm (by omega)) rfl ?_)
   rintro _ G5 _ rfl
   refine dr_s <| dy rfl (fun _ => yd_not rfl) rfl rfl <| ?_
   refine dc rfl rfl (chS rfl rfl rfl (nb rfl) rfl rfl ?_)
   refine dr_s <| dA rfl rfl rfl <| dn <| st_ret <| ?_
   exact zD (.agg rfl ii ii rfl (.tmp rfl .nil)) ⟨_, rfl, hm.up⟩
  refine sR <| ?_
  refine sc (ch_box rfl rfl ?_)
  intro b1
  refine sc (ch_box rfl rfl ?_)
  intro b2
  refine sc (ch_alloc rfl ?_)
  intro b3
  refine sa rfl rfl <| zE <| sR <| slo rfl rfl rfl <| ?_
  refine sc (ch_alloc rfl ?_)
  intro b4
  refine sc (chS rfl rfl rfl (nb rfl) rfl rfl ?_)
  refine zE <| st_seq <| st_block <| sR <| sf rfl rfl <| slo1 rfl rfl rfl <| sa rfl rfl <| zE <| st_condF rfl <| sR <| sf rfl rfl <| slo1 rfl rfl rfl <| ?_
  refine sy (yd_not rfl) rfl <| sa rfl rfl <| zE <| st_condF rfl <| zK <| st_seq <| st_block <| sR <| sf rfl rfl <| slo1 rfl rfl rfl <| sa rfl rfl <| zE <| st_condF rfl <| ?_
  refine sR <| sf rfl rfl <| slo1 rfl rfl rfl <| sy (yd_not rfl) rfl <| sa rfl rfl <| zE <| st_condT rfl <| st_region <| sf rfl rfl <| slo rfl rfl rfl <| sf rfl rfl <| slo rfl rfl rfl <| ?_
  refine sc (zC rfl rfl (frac_Min hhi1 hhi2 (by omega)) rfl ?_)
  rintro _ G5 _ ⟨x6, rfl, h7⟩
  refine sf rfl rfl <| ?_
  refine sc (chS rfl rfl rfl (nb rfl) rfl rfl ?_)
  refine zE <| st_seq <| dr0 (b := b3) (fun _ => false) [(0, true), (1, true), (2, false), (3, true), (4, false), (5, true)] follows (by repeat (first | exact .hd .. | apply ORem.tl)) (by kernel_rfl) <| ?_
  refine dL rfl rfl rfl rfl <| dL rfl rfl rfl rfl <| ?_
  have hL : IsR (max k1 k2) G5 lo1 va := hlo1.up.mono' (by omega)
  have hH : IsR (max k1 k2) G5 x6 (if wb < vb then wb else vb) := h7.up.mono' (by omega)
  have hm : IsIv (max k1 k2) G5 ⟨lo1, x6, false, false⟩ (IvQ.meet ⟨va, vb, false, false⟩ ⟨wa, wb, true, false⟩) := ⟨hL, hH, rfl, rfl⟩
  refine dc rfl rfl (zC rfl rfl (Iv_empty hm (by omega)) rfl ?_)
  rintro _ G8 _ rfl
  refine dr_s <| dy rfl (fun _ => yd_not rfl) rfl rfl <| ?_
  refine dc rfl rfl (chS rfl rfl rfl (nb rfl) rfl rfl ?_)
  refine dr_s <| dA rfl rfl rfl <| dn <| st_ret <| ?_
  exact zD (.agg rfl ii ii rfl (.tmp rfl .nil)) ⟨_, rfl, hm.up⟩
 cases nh1
 case true =>
  refine sR <| ?_
  refine sc (ch_box rfl rfl ?_)
  intro b1
  refine sc (ch_box rfl rfl ?_)
  intro b2
  refine sc (ch_alloc rfl ?_)
  intro b3
  refine sa rfl rfl <| zE <| sR <| slo rfl rfl rfl <| ?_
  refine sc (ch_alloc rfl ?_)
  intro b4
  refine sc (chS rfl rfl rfl (nb rfl) rfl rfl ?_)
  refine zE <| st_seq <| st_block <| sR <| sf rfl rfl <| slo1 rfl rfl rfl <| sa rfl rfl <| zE <| st_condF rfl <| sR <| sf rfl rfl <| slo1 rfl rfl rfl <| ?_
  refine sy (yd_not rfl) rfl <| sa rfl rfl <| zE <| st_condT rfl <| st_region <| sf rfl rfl <| slo rfl rfl rfl <| sf rfl rfl <| slo rfl rfl rfl <| ?_
  refine sc (zC rfl rfl (frac_Max hlo1 hlo2 (by omega)) rfl ?_)
  rintro _ G5 _ ⟨x6, rfl, h7⟩
  refine sf rfl rfl <| ?_
  refine sc (chS rfl rfl rfl (nb rfl) rfl rfl ?_)
  refine zE <| st_seq <| st_block <| sR <| sf rfl rfl <| slo1 rfl rfl rfl <| sa rfl rfl <| zE <| st_condT rfl <| dr0 (b := b4) (fun _ => false) [(0, true), (1, true), (2, true), (3, true), (4, true), (5, false), (6, true), (7, false)] follows (by repeat (first | exact .hd .. | apply ORem.tl)) (by kernel_rfl) <| ?_
  refine dF rfl rfl rfl <| dL rfl rfl rfl rfl <| dF rfl rfl rfl <| dL1 rfl rfl rfl rfl <| ?_
  refine dF rfl rfl rfl <| ?_
  refine dc rfl rfl (chS rfl rfl rfl (nb rfl) rfl rfl ?_)
  refine dr_s <| dF rfl rfl rfl <| ?_
  refine dc rfl rfl (ch_storeN1 rfl rfl (by first | (dsimp only [ovw, cellsL, zs1, zs2, Nat.reduceAdd, RV.v, LV.v, PV.v, IvV.v]; done) | exact rfl) (by repeat (first | exact .hd .. | apply OUpd.tl)) (nb rfl) rfl rfl ?_)
  refine dr_s <| dn <| st_seq <| dr0 (b := b3) (fun _ => false) [(0, true), (1, true), (2, false), (3, true), (4, false), (5, true)] follows (by repeat (first | exact .hd .. | apply ORem.tl)) (by kernel_rfl) <| ?_
  refine dL rfl rfl rfl rfl <| dL rfl rfl rfl rfl <| ?_
  have hL : IsR (max k1 k2) G5 x6 (if va < wa then wa else va) := h7.up.mono' (by omega)
  have hH : IsR (max k1 k2) G5 hi2 wb := hhi2.up.mono' (by omega)
  have hm : IsIv (max k1 k2) G5 ⟨x6, hi2, false, nh2⟩ (IvQ.meet ⟨va, vb, false, true⟩ ⟨wa, wb, false, nh2⟩) := ⟨hL, hH, rfl, rfl⟩
  refine dc rfl rfl (zC rfl rfl (Iv_empty hm (by omega)) rfl ?_)
  rintro _ G8 _ rfl
  refine dr_s <| dy rfl (fun _ => yd_not rfl) rfl rfl <| ?_
  refine dc rfl rfl (chS rfl rfl rfl (nb rfl) rfl rfl ?_)
  refine dr_s <| dA rfl rfl rfl <| dn <| st_ret <| ?_
  exact zD (.agg rfl ii ii rfl (.tmp rfl .nil)) ⟨_, rfl, hm.up⟩
 cases nh2
 case true =>
  refine sR <| ?_
  refine sc (ch_box rfl rfl ?_)
  intro b1
  refine sc (ch_box rfl rfl ?_)
  intro b2
  refine sc (ch_alloc rfl ?_)
  intro b3
  refine sa rfl rfl <| zE <| sR <| slo rfl rfl rfl <| ?_
  refine sc (ch_alloc rfl ?_)
  intro b4
  refine sc (chS rfl rfl rfl (nb rfl) rfl rfl ?_)
  refine zE <| st_seq <| st_block <| sR <| sf rfl rfl <| slo1 rfl rfl rfl <| sa rfl rfl <| zE <| st_condF rfl <| sR <| sf rfl rfl <| slo1 rfl rfl rfl <| ?_
  refine sy (yd_not rfl) rfl <| sa rfl rfl <| zE <| st_condT rfl <| st_region <| sf rfl rfl <| slo rfl rfl rfl <| sf rfl rfl <| slo rfl rfl rfl <| ?_
  refine sc (zC rfl rfl (frac_Max hlo1 hlo2 (by omega)) rfl ?_)
  rintro _ G5 _ ⟨x6, rfl, h7⟩
  refine sf rfl rfl <| ?_
  refine sc (chS rfl rfl rfl (nb rfl) rfl rfl ?_)
  refine zE <| st_seq <| st_block <| sR <| sf rfl rfl <| slo1 rfl rfl rfl <| sa rfl rfl <| zE <| st_condF rfl <| sR <| sf rfl rfl <| slo1 rfl rfl rfl <| ?_
  refine sy (yd_not rfl) rfl <| sa rfl rfl <| zE <| st_condF rfl <| zK <| st_seq <| dr0 (b := b3) (fun _ => false) [(0, true), (1, true), (2, false), (3, true), (4, false), (5, true)] follows (by repeat (first | exact .hd .. | apply ORem.tl)) (by kernel_rfl) <| ?_
  refine dL rfl rfl rfl rfl <| dL rfl rfl rfl rfl <| ?_
  have hL : IsR (max k1 k2) G5 x6 (if va < wa then wa else va) := h7.up.mono' (by omega)
  have hH : IsR (max k1 k2) G5 hi1 vb := hhi1.up.mono' (by omega)
  have hm : IsIv (max k1 k2) G5 ⟨x6, hi1, false, false⟩ (IvQ.meet ⟨va, vb, false, false⟩ ⟨wa, wb, false, true⟩) := ⟨hL, hH, rfl, rfl⟩
  refine dc rfl rfl (zC rfl rfl (Iv_empty hm (by omega)) rfl ?_)
  rintro _ G8 _ rfl
  refine dr_s <| dy rfl (fun _ => yd_not rfl) rfl rfl <| ?_
  refine dc rfl rfl (chS rfl rfl rfl (nb rfl) rfl rfl ?_)
  refine dr_s <| dA rfl rfl rfl <| dn <| st_ret <| ?_
  exact zD (.agg rfl ii ii rfl (.tmp rfl .nil)) ⟨_, rfl, hm.up⟩
 refine sR <| ?_
 refine sc (ch_box rfl rfl ?_)
 intro b1
 refine sc (ch_box rfl rfl ?_)
 intro b2
 refine sc (ch_alloc rfl ?_)
 intro b3
 refine sa rfl rfl <| zE <| sR <| slo rfl rfl rfl <| ?_
 refine sc (ch_alloc rfl ?_)
 intro b4
 refine sc (chS rfl rfl rfl (nb rfl) rfl rfl ?_)
 refine zE <| st_seq <| st_block <| sR <| sf rfl rfl <| slo1 rfl rfl rfl <| sa rfl rfl <| zE <| st_condF rfl <| sR <| sf rfl rfl <| slo1 rfl rfl rfl <| ?_
 refine sy (yd_not rfl) rfl <| sa rfl rfl <| zE <| st_condT rfl <| st_region <| sf rfl rfl <| slo rfl rfl rfl <| sf rfl rfl <| slo rfl rfl rfl <| ?_
 refine sc (zC rfl rfl (frac_Max hlo1 hlo2 (by omega)) rfl ?_)
 rintro _ G5 _ ⟨x6, rfl, h7⟩
 refine sf rfl rfl <| ?_
 refine sc (chS rfl rfl rfl (nb rfl) rfl rfl ?_)
 refine zE <| st_seq <| st_block <| sR <| sf rfl rfl <| slo1 rfl rfl rfl <| sa rfl rfl <| zE <| st_condF rfl <| sR <| sf rfl rfl <| slo1 rfl rfl rfl <| ?_
 refine sy (yd_not rfl) rfl <| sa rfl rfl <| zE <| st_condT rfl <| st_region <| sf rfl rfl <| slo rfl rfl rfl <| sf rfl rfl <| slo rfl rfl rfl <| ?_
 refine sc (zC rfl rfl (frac_Min hhi1 hhi2 (by omega)) rfl ?_)
 rintro _ G8 _ ⟨x9, rfl, h10⟩
 refine sf rfl rfl <| ?_
 refine sc (chS rfl rfl rfl (nb rfl) rfl rfl ?_)
 refine zE <| st_seq <| dr0 (b := b3) (fun _ => false) [(0, true), (1, true), (2, false), (3, true), (4, false), (5, true)] follows (by repeat (first | exact .hd .. | apply ORem.tl)) (by kernel_rfl) <| ?_
 refine dL rfl rfl rfl rfl <| dL rfl rfl rfl rfl <| ?_
 have hL : IsR (max k1 k2) G8 x6 (if va < wa then wa else va) := h7.up.mono' (by omega)
 have hH : IsR (max k1 k2) G8 x9 (if wb < vb then wb else vb) := h10.up.mono' (by omega)
 have hm : IsIv (max k1 k2) G8 ⟨x6, x9, false, false⟩ (IvQ.meet ⟨va, vb, false, false⟩ ⟨wa, wb, false, false⟩) := ⟨hL, hH, rfl, rfl⟩
 refine dc rfl rfl (zC rfl rfl (Iv_empty hm (by omega)) rfl ?_)
 rintro _ G11 _ rfl
 refine dr_s <| dy rfl (fun _ => yd_not rfl) rfl rfl <| ?_
 refine dc rfl rfl (chS rfl rfl rfl (nb rfl) rfl rfl ?_)
 refine dr_s <| dA rfl rfl rfl <| dn <| st_ret <| ?_
 exact zD (.agg rfl ii ii rfl (.tmp rfl .nil)) ⟨_, rfl, hm.up⟩
end Go.Sx
end
