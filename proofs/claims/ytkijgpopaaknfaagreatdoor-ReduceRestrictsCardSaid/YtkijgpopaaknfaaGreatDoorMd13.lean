/-
  Package geo: Sample, Cut, Cmp, Equal, half, Angle. Package geo: cells; part, Place. Package geo: Place, the order of sides, binary search. Binary search and insertion in rows of sides. Insertion into a row of sides. Package geo: Clip, Divide. Package geo: Divide.
-/
import Derived.Test.YtkijgpopaaknfaaGreatDoorMd12
set_option linter.unusedSimpArgs false
set_option linter.unusedVariables false
section
set_option maxRecDepth 100000
namespace Go.Sx
open Go Go.Proofs
theorem Iv_Sample {A G : Gh} {z : IvV} {v : IvQ} {k : Nat} (h : IsIv k A z v) [GL A G] (hk : 2 * k + 3 ≤ 1099511627774) :
  Fn Tryz.prog 188 [.agg ⟨[.int .i64 z.lo.n, .int .i64 z.lo.d, .pointer z.lo.p, .int .i64 z.hi.n, .int .i64 z.hi.d, .pointer z.hi.p, .bool z.nl, .bool z.nh]⟩] G (fun u G' => ∃ x : RV, u = x.v ∧ IsR (2 * k + 3) G' x v.sample) := by
 have hk1 := h.lo.k1
 obtain ⟨hlo, hhi, h1, h2⟩ := h
 obtain ⟨zlo, zhi, znl, znh⟩ := z
 obtain ⟨lo, hi, nl, nh⟩ := v
 simp only [] at hlo hhi h1 h2
 subst h1 h2
 refine Fn.intro Tryz.func188 rfl rfl Tryz.ntmps188 rfl ?_
 intro C _ _
 cases znl
 case true =>
  cases znh
  case true =>
   refine sR <| ?_
   refine sc (ch_box rfl rfl ?_)
   intro b1
   refine sc (ch_alloc rfl ?_)
   intro b2
   refine zE <| st_seq <| st_block <| sR <| sf rfl rfl <| slo1 rfl rfl rfl <| sm rfl rfl <| syg rfl rfl (yd_fieldAddr rfl) rfl <| syg rfl rfl (yd_load_own1 rfl rfl) rfl <| sy (yd_pickT rfl rfl) rfl <| ?_
   refine sa rfl rfl <| zE <| st_condT rfl <| sR <| sy (yd_build rfl) rfl <| ?_
   refine sc (chS rfl rfl rfl (nb rfl) rfl rfl ?_)
   refine zE <| st_ret <| ?_
   exact zD (.agg rfl ii ii rfl .nil) ⟨⟨0, 0, none⟩, rfl, IsR.zero (by omega)⟩
  refine sR <| ?_
  refine sc (ch_box rfl rfl ?_)
  intro b1
  refine sc (ch_alloc rfl ?_)
  intro b2
  refine zE <| st_seq <| st_block <| sR <| sf rfl rfl <| slo1 rfl rfl rfl <| sm rfl rfl <| syg rfl rfl (yd_fieldAddr rfl) rfl <| syg rfl rfl (yd_load_own1 rfl rfl) rfl <| sy (yd_pickT rfl rfl) rfl <| ?_
  refine sa rfl rfl <| zE <| st_condF rfl <| sR <| sf rfl rfl <| slo1 rfl rfl rfl <| sa rfl rfl <| zE <| st_condT rfl <| st_seq <| dr (fun i => Nat.beq i 4) [(0, true), (1, true), (2, false), (3, false), (4, false)] follows (by kernel_rfl) <| ?_
  refine dF rfl rfl rfl <| dL rfl rfl rfl rfl <| ?_
  refine dc rfl rfl (zC rfl rfl (frac_Int (k := k) (n := 1) (by decide) (by decide) (by show 1 < 2 ^ k; exact Nat.one_lt_two_pow (by omega)) hk1 (by omega)) rfl ?_)
  rintro _ G3 _ ⟨z, rfl, hz⟩
  refine dr_s <| ?_
  refine dc rfl rfl (zC rfl rfl (R_Sub hhi hz (by omega)) rfl ?_)
  rintro _ G4 _ ⟨x5, rfl, h6⟩
  refine dr_s <| ?_
  refine dc rfl rfl (chS rfl rfl rfl (nb rfl) rfl rfl ?_)
  refine dr_f rfl <| dn <| st_ret <| ?_
  exact zD (.agg rfl ii ii rfl .nil) ⟨_, rfl, IsR.mono' (by assumption) (by omega)⟩
 cases znh
 case true =>
  refine sR <| ?_
  refine sc (ch_box rfl rfl ?_)
  intro b1
  refine sc (ch_alloc rfl ?_)
  intro b2
  refine zE <| st_seq <| st_block <| sR <| sf rfl rfl <| slo1 rfl rfl rfl <| sm rfl rfl <| ss rfl rfl rfl rfl <| ss rfl rfl rfl rfl <| sy (yd_pickF rfl rfl) rfl <| sa rfl rfl <| ?_
  refine zE <| st_condF rfl <| sR <| sf rfl rfl <| slo1 rfl rfl rfl <| sa rfl rfl <| zE <| st_condF rfl <| sR <| sf rfl rfl <| slo1 rfl rfl rfl <| sa rfl rfl <| ?_
  refine zE <| st_condT rfl <| st_seq <| dr (fun i => Nat.beq i 4) [(0, true), (1, true), (2, false), (3, false), (4, false)] follows (by kernel_rfl) <| dF rfl rfl rfl <| ?_
  refine dL rfl rfl rfl rfl <| ?_
  refine dc rfl rfl (zC rfl rfl (frac_Int (k := k) (n := 1) (by decide) (by decide) (by show 1 < 2 ^ k; exact Nat.one_lt_two_pow (by omega)) hk1 (by omega)) rfl ?_)
  rintro _ G3 _ ⟨z, rfl, hz⟩
  refine dr_s <| ?_
  refine dc rfl rfl (zC rfl rfl (R_Add hlo hz (by omega)) rfl ?_)
  rintro _ G4 _ ⟨x5, rfl, h6⟩
  refine dr_s <| ?_
  refine dc rfl rfl (chS rfl rfl rfl (nb rfl) rfl rfl ?_)
  refine dr_f rfl <| dn <| st_ret <| ?_
  exact zD (.agg rfl ii ii rfl .nil) ⟨_, rfl, IsR.mono' (by assumption) (by omega)⟩
 refine sR <| ?_
 refine sc (ch_box rfl rfl ?_)
 intro b1
 refine sc (ch_alloc rfl ?_)
 intro b2
 refine zE <| st_seq <| st_block <| sR <| sf rfl rfl <| slo1 rfl rfl rfl <| sm rfl rfl <| ss rfl rfl rfl rfl <| ss rfl rfl rfl rfl <| sy (yd_pickF rfl rfl) rfl <| sa rfl rfl <| ?_
 refine zE <| st_condF rfl <| sR <| sf rfl rfl <| slo1 rfl rfl rfl <| sa rfl rfl <| zE <| st_condF rfl <| sR <| sf rfl rfl <| slo1 rfl rfl rfl <| sa rfl rfl <| ?_
 refine zE <| st_condF rfl <| zK <| sR <| sf rfl rfl <| slo rfl rfl rfl <| sf rfl rfl <| slo rfl rfl rfl <| ?_
 refine sc (zC rfl rfl (R_Add hlo hhi (by omega)) rfl ?_)
 rintro _ G3 _ ⟨x4, rfl, h5⟩
 refine sc (zC rfl rfl (R_Half ‹_› (by omega)) rfl ?_)
 rintro _ G6 _ ⟨x7, rfl, h8⟩
 refine sc (chS rfl rfl rfl (nb rfl) rfl rfl ?_)
 refine zE <| st_ret <| ?_
 exact zD (.agg rfl ii ii rfl .nil) ⟨_, rfl, IsR.mono' (by assumption) (by omega)⟩
theorem sign_cases (n : Int) : Int.sign n = 0 ∨ Int.sign n = 1 ∨ Int.sign n = -1 := by
 rcases Int.lt_trichotomy n 0 with h | h | h
 · exact .inr (.inr (Int.sign_eq_neg_one_of_neg h))
 · subst h; exact .inl rfl
 · exact .inr (.inl (Int.sign_eq_one_of_pos h))
set_option maxHeartbeats 2000000 in
theorem Ln_Cut {A B D G : Gh} {z1 z3 : LV} {z2 : IvV} {l m : LnQ} {v : IvQ} {k : Nat} (hl : IsL k A z1 l) (hv : IsIv (25 * k + 6) B z2 v) (hm : IsL k D z3 m) [GL A G] [GL B G] [GL D G] (hk : k ≤ 1073741824) :
   Fn Tryz.prog 151 [.agg ⟨[.int .i64 z1.a.n, .int .i64 z1.a.d, .pointer z1.a.p, .int .i64 z1.b.n, .int .i64 z1.b.d, .pointer z1.b.p, .int .i64 z1.c.n, .int .i64 z1.c.d, .pointer z1.c.p]⟩, .agg ⟨[.int .i64 z2.lo.n, .int .i64 z2.lo.d, .pointer z2.lo.p, .int .i64 z2.hi.n, .int .i64 z2.hi.d, .pointer z2.hi.p, .bool z2.nl, .bool z2.nh]⟩, .agg ⟨[.int .i64 z3.a.n, .int .i64 z3.a.d, .pointer z3.a.p, .int .i64 z3.b.n, .int .i64 z3.b.d, .pointer z3.b.p, .int .i64 z3.c.n, .int .i64 z3.c.d, .pointer z3.c.p]⟩] G (fun u G' => ∃ x : IvV, u = .tuple #[x.v, .bool (l.cutB v m)] ∧ IsIv (25 * k + 6) G' x (l.cutV v m)) := by
 refine Fn.intro Tryz.func151 rfl rfl Tryz.ntmps151 rfl ?_
 intro C _ _
 refine sR <| ?_
 refine sc (ch_box rfl rfl ?_)
 intro b1
 refine sc (ch_box rfl rfl ?_)
 intro b2
 refine sc (ch_box rfl rfl ?_)
 intro b3
 refine sc (ch_alloc rfl ?_)
 intro b4
 refine sa rfl rfl <| zE <| st_seq <| ?_
 refine drG [⟨9, 8, 103, .agg ⟨[.int .i64 0, .int .i64 0, .pointer none]⟩⟩, ⟨10, 9, 103, .agg ⟨[.int .i64 0, .int .i64 0, .pointer none]⟩⟩] (fun _ => false) [(0, true), (2, true), (5, true), (6, true), (1, false), (3, false), (4, false), (7, false), (8, false)] [(11, false), (12, false)] follows (by kernel_rfl) (fun fs => ?_)
 refine dyG rfl (fun _ => yd_load_own rfl rfl) rfl rfl (List.Sublist.refl _) <| dyG rfl (fun _ => yd_load_own rfl rfl) rfl rfl (List.Sublist.refl _) <| dyG rfl (fun _ => yd_load_own rfl rfl) rfl rfl (List.Sublist.refl _) <| ?_
 refine dyG rfl (fun _ => yd_load_own rfl rfl) rfl rfl (List.Sublist.refl _) <| ?_
 refine dcG' (by exact ⟨List.forall_mem_cons.2 ⟨⟨_, _, _, rfl, rfl⟩, List.forall_mem_cons.2 ⟨⟨_, _, _, rfl, rfl⟩, List.forall_mem_nil _⟩⟩, List.forall_mem_cons.2 ⟨inferInstance, List.forall_mem_cons.2 ⟨inferInstance, List.forall_mem_nil _⟩⟩, by decide, by decide⟩) rfl rfl rfl (List.Sublist.refl _) _ (fun fs => ?_)
 refine zC rfl rfl (Ln_Normal hm) rfl ?_
 rintro _ G5 _ ⟨x6, rfl, h7⟩
 refine dr_g (List.Sublist.refl _) ?_
 refine dcG' (by exact ⟨List.forall_mem_cons.2 ⟨⟨_, _, _, rfl, rfl⟩, List.forall_mem_cons.2 ⟨⟨_, _, _, rfl, rfl⟩, List.forall_mem_nil _⟩⟩, List.forall_mem_cons.2 ⟨inferInstance, List.forall_mem_cons.2 ⟨inferInstance, List.forall_mem_nil _⟩⟩, by decide, by decide⟩) rfl rfl rfl (List.Sublist.refl _) _ (fun fs => ?_)
 refine zC rfl rfl (Ln_Dir hl (by omega)) rfl ?_
 rintro _ G8 _ ⟨x9, rfl, h10⟩
 refine dr_g (List.Sublist.refl _) ?_
 refine dcG' (by exact ⟨List.forall_mem_cons.2 ⟨⟨_, _, _, rfl, rfl⟩, List.forall_mem_cons.2 ⟨⟨_, _, _, rfl, rfl⟩, List.forall_mem_nil _⟩⟩, List.forall_mem_cons.2 ⟨inferInstance, List.forall_mem_cons.2 ⟨inferInstance, List.forall_mem_nil _⟩⟩, by decide, by decide⟩) rfl rfl rfl (List.Sublist.refl _) _ (fun fs => ?_)
 refine zC rfl rfl (Pt_Dot h7 h10 (by omega)) rfl ?_
 rintro _ G11 _ ⟨x12, rfl, h13⟩
 refine dr_g (List.Sublist.refl _) ?_
 refine dcG' (by exact ⟨List.forall_mem_cons.2 ⟨⟨_, _, _, rfl, rfl⟩, List.forall_mem_cons.2 ⟨⟨_, _, _, rfl, rfl⟩, List.forall_mem_nil _⟩⟩, List.forall_mem_cons.2 ⟨inferInstance, List.forall_mem_cons.2 ⟨inferInstance, List.forall_mem_nil _⟩⟩, by decide, by decide⟩) rfl rfl rfl (List.Sublist.refl _) _ (fun fs => ?_)
 refine zC rfl rfl (Ln_Base hl (by omega)) rfl ?_
 rintro _ G14 _ ⟨x15, rfl, h16⟩
 refine dr_g (List.Sublist.refl _) ?_
 refine dcG' (by exact ⟨List.forall_mem_cons.2 ⟨⟨_, _, _, rfl, rfl⟩, List.forall_mem_cons.2 ⟨⟨_, _, _, rfl, rfl⟩, List.forall_mem_nil _⟩⟩, List.forall_mem_cons.2 ⟨inferInstance, List.forall_mem_cons.2 ⟨inferInstance, List.forall_mem_nil _⟩⟩, by decide, by decide⟩) rfl rfl rfl (List.Sublist.refl _) _ (fun fs => ?_)
 refine zC rfl rfl (Ln_Value hm h16 (by omega)) rfl ?_
 rintro _ G17 _ ⟨x18, rfl, h19⟩
 refine dr_g (List.Sublist.refl _) ?_
 refine dG_out2 (by exact ⟨List.forall_mem_cons.2 ⟨⟨_, _, _, rfl, rfl⟩, List.forall_mem_cons.2 ⟨⟨_, _, _, rfl, rfl⟩, List.forall_mem_nil _⟩⟩, List.forall_mem_cons.2 ⟨inferInstance, List.forall_mem_cons.2 ⟨inferInstance, List.forall_mem_nil _⟩⟩, by decide, by decide⟩) rfl (List.Sublist.refl _) _ (fun b20 b21 => ?_)
 refine dc rfl rfl (chS rfl rfl rfl (nb rfl) rfl rfl ?_)
 refine dr_s <| ?_
 refine dc rfl rfl (chS rfl rfl rfl (nb rfl) rfl rfl ?_)
 refine dr_s <| dn <| st_seq <| sR <| slo rfl rfl rfl <| ?_
 refine sc (zC rfl rfl (R_Sign h13 (by omega)) rfl ?_)
 rintro _ G22 _ rfl
 refine zE <| st_block <| sR <| sy (yd_eql rfl rfl) rfl <| sa rfl rfl <| zE <| ?_
 refine st_condP rfl (fun hc0 => ?_) (fun hc0 => ?_) -- slot 21
 · -- yes
   refine st_seq <| dr0 (b := b4) (fun _ => false) [(0, true), (1, true), (2, false), (3, true), (4, false), (5, true)] follows (by repeat (first | exact .hd .. | apply ORem.tl)) (by kernel_rfl) <| ?_
   refine dL rfl rfl rfl rfl <| dL rfl rfl rfl rfl <| ?_
   refine dc rfl rfl (zC rfl rfl (R_Sign h19 (by omega)) rfl ?_)
   rintro _ G23 _ rfl
   refine dr_s <| dy rfl (fun _ => yd_gtr rfl rfl) rfl rfl <| ?_
   refine dc rfl rfl (chS rfl rfl rfl (nb rfl) rfl rfl ?_)
   refine dr_s <| dA rfl rfl rfl <| dn <| st_ret <| ?_
   have e1 : l.cutV v m = v := if_pos hc0
   have e2 : l.cutB v m = decide (0 < Int.sign (l.cutC m).num) := if_pos hc0
   rw [e2, e1]
   exact zD (.agg rfl ii ii rfl (.tmp rfl .nil)) ⟨z2, rfl, hv.up⟩
 refine sR <| sy (yd_eql rfl rfl) rfl <| sa rfl rfl <| zE <| ?_
 refine st_condP rfl (fun hc1 => ?_) (fun hc1 => ?_) -- slot 27
 · -- yes
   refine st_seq <| dr0 (b := b4) (fun _ => false) [(0, true), (1, true), (2, true), (3, false), (4, false), (5, true), (6, false), (7, true), (8, true), (9, false), (10, true)] follows (by repeat (first | exact .hd .. | apply ORem.tl)) (by kernel_rfl) <| ?_
   refine dL rfl rfl rfl rfl <| dL rfl rfl rfl rfl <| dL rfl rfl rfl rfl <| ?_
   refine dc rfl rfl (zC rfl rfl (R_Quo h19 h13 (by omega)) rfl ?_)
   rintro _ G24 _ ⟨x25, rfl, h26⟩
   refine dr_s <| ?_
   refine dc rfl rfl (zC rfl rfl (R_Neg h26 (by omega)) rfl ?_)
   rintro _ G27 _ ⟨x28, rfl, h29⟩
   refine dr_s <| dy rfl (fun _ => yd_build rfl) rfl rfl <| ?_
   refine dc rfl rfl (zC rfl rfl (Iv_Meet (k2 := 25 * k + 6) (z2 := ⟨x28, ⟨0, 0, none⟩, false, true⟩) (w := ⟨-(l.cutC m / l.cutK m), 0, false, true⟩) hv ⟨h29.mono' (by omega), IsR.zero (by omega), rfl, rfl⟩ (by omega)) rfl ?_)
   rintro _ G30 _ ⟨y, rfl, hy⟩
   refine dr_s <| dy rfl (fun _ => yd_extract rfl rfl) rfl rfl <| dy rfl (fun _ => yd_extract rfl rfl) rfl rfl <| ?_
   refine dc rfl rfl (chS rfl rfl rfl (nb rfl) rfl rfl ?_)
   refine dr_s <| dA rfl rfl rfl <| dn <| st_ret <| ?_
   have e1 : l.cutV v m = v.meet ⟨-(l.cutC m / l.cutK m), 0, false, true⟩ := (if_neg hc0).trans (if_pos hc1)
   have e2 : l.cutB v m = !(l.cutV v m).empty := if_neg hc0
   rw [e2, e1]
   exact zD (.agg rfl ii ii rfl (.tmp rfl .nil)) ⟨y, rfl, hy.mono' (by omega)⟩
 refine zK <| st_seq <| dr0 (b := b4) (fun _ => false) [(0, true), (1, true), (2, true), (3, false), (4, false), (5, true), (6, false), (7, true), (8, true), (9, false), (10, true)] follows (by repeat (first | exact .hd .. | apply ORem.tl)) (by kernel_rfl) <| ?_
 refine dL rfl rfl rfl rfl <| dL rfl rfl rfl rfl <| dL rfl rfl rfl rfl <| ?_
 refine dc rfl rfl (zC rfl rfl (R_Quo h19 h13 (by omega)) rfl ?_)
 rintro _ G31 _ ⟨x32, rfl, h33⟩
 refine dr_s <| ?_
 refine dc rfl rfl (zC rfl rfl (R_Neg h33 (by omega)) rfl ?_)
 rintro _ G34 _ ⟨x35, rfl, h36⟩
 refine dr_s <| dy rfl (fun _ => yd_build rfl) rfl rfl <| ?_
 refine dc rfl rfl (zC rfl rfl (Iv_Meet (k2 := 25 * k + 6) (z2 := ⟨⟨0, 0, none⟩, x35, true, false⟩) (w := ⟨0, -(l.cutC m / l.cutK m), true, false⟩) hv ⟨IsR.zero (by omega), h36.mono' (by omega), rfl, rfl⟩ (by omega)) rfl ?_)
 rintro _ G37 _ ⟨y, rfl, hy⟩
 refine dr_s <| dy rfl (fun _ => yd_extract rfl rfl) rfl rfl <| dy rfl (fun _ => yd_extract rfl rfl) rfl rfl <| ?_
 refine dc rfl rfl (chS rfl rfl rfl (nb rfl) rfl rfl ?_)
 refine dr_s <| dA rfl rfl rfl <| dn <| st_ret <| ?_
 have e1 : l.cutV v m = v.meet ⟨0, -(l.cutC m / l.cutK m), true, false⟩ := (if_neg hc0).trans (if_neg hc1)
 have e2 : l.cutB v m = !(l.cutV v m).empty := if_neg hc0
 rw [e2, e1]
 exact zD (.agg rfl ii ii rfl (.tmp rfl .nil)) ⟨y, rfl, hy.mono' (by omega)⟩
def orQ : List Int → Int
 | [] => 0
 | x :: t => if x ≠ 0 then x else orQ t
theorem cmp_Or {A G : Gh} {x : SV} {es : List Int} (h : IsSl A 1 x (es.map (Value.int .i64))) [GL A G] (hb : es.length ≤ 1125899906842624) :
   Fn Tryz.prog 205 [.slice x.a x.n x.c] G (fun v _ => v = .int .i64 (orQ es)) := by
 have hlen : x.n = es.length := by simpa using h.len
 obtain ⟨xa, xn, xc⟩ := x
 simp only [] at hlen
 subst hlen
 refine Fn.intro Tryz.func205 rfl rfl Tryz.ntmps205 rfl ?_
 intro C _ _
 refine sR <| sa rfl rfl <| zE <| sR <| sa rfl rfl <| zE <| st_seq <| sR <| sm rfl rfl <| slen rfl rfl <| sm rfl rfl <| zE <| st_block <| ?_
 refine st_loop (X := Nat) (fun k => [(8, .int .i64 k), (7, .int .i64 es.length), (6, .slice xa es.length xc), (3, .int .i64 0)]) (fun _ => []) (fun k _ => k ≤ es.length ∧ orQ (es.drop k) = orQ es) (fun k => es.length - k) 0 ⟨Nat.zero_le _, rfl⟩ (.cons rfl (.cons rfl (.cons rfl (.cons rfl .nil)))) rfl ?_
 rintro k Gx _ ⟨hk, ht⟩
 refine sR <| sy (yd_lss rfl rfl) rfl <| zE <| st_seq <| ?_
 refine st_condE rfl (fun hc => ?_) (fun hc => ?_) -- slot 9
 · refine st_exit <| st_te <| st_te <| st_inBlock_eq <| sR <| sm rfl rfl <| sa rfl rfl <| zE <| st_ret <| ?_
   refine zD (.tmp rfl .nil) ?_
   rw [← ht, List.drop_eq_nil_of_le (by omega)]
   rfl
 have hk1 : k < es.length := by omega
 have hd : es.drop k = es[k] :: es.drop (k + 1) := List.drop_eq_getElem_cons hk1
 refine zK <| st_seq <| st_block <| sR <| sy (yd_ix (z := ⟨xa, es.length, xc⟩) h rfl rfl (by omega) (by show (k : Int) < (es.length : Int); omega)) rfl <| ?_
 rw [Int.toNat_natCast]
 refine sy (yd_ldS (i := k) (v := .int .i64 es[k]) h rfl (by simp [hk1]) rfl) rfl <| sa rfl rfl <| zE <| sR <| sm rfl rfl <| ?_
 refine sm rfl rfl <| sy (yd_neq rfl rfl) rfl <| zE <| ?_
 refine st_condP rfl (fun hc1 => ?_) (fun hc1 => ?_) -- slot 14
 · refine sR <| sm rfl rfl <| sa rfl rfl <| zE <| st_ret <| ?_
   refine zD (.tmp rfl .nil) ?_
   rw [← ht, hd, orQ, if_pos hc1]
   rfl
 refine zK <| st_region <| sy (yd_add64 rfl rfl) rfl <| sm rfl rfl <| zE <| ?_
 exact st_again (k + 1) ⟨hk1, by rw [← ht, hd, orQ, if_neg hc1]⟩ (by omega) (.cons rfl (.cons rfl (.cons rfl (.cons rfl .nil)))) rfl
def cmpQ (l m : LnQ) : Int := orQ [rcmp l.a m.a, rcmp l.b m.b, rcmp l.c m.c]
theorem cmpQ_eq (l m : LnQ) : cmpQ l m = 0 ↔ l = m := by
 have h1 := rcmp_eq (l.a : Rat) m.a
 have h2 := rcmp_eq (l.b : Rat) m.b
 have h3 := rcmp_eq (l.c : Rat) m.c
 rw [Rat.intCast_inj] at h1 h2 h3
 obtain ⟨a, b, c⟩ := l
 obtain ⟨a', b', c'⟩ := m
 simp only [cmpQ, orQ, LnQ.mk.injEq] at *
 rw [← h1, ← h2, ← h3]
 split
 · rename_i h; simp [h]
 · rename_i h
   split
   · rename_i h2; simp [h2]
   · rename_i h2
     simp only [ne_eq, Decidable.not_not] at h h2
     simp only [h, h2, true_and]
     split <;> simp_all
theorem Ln_Cmp {A B G : Gh} {z1 z2 : LV} {l m : LnQ} {k1 k2 : Nat} (hl : IsL k1 A z1 l) (hm : IsL k2 B z2 m) [GL A G] [GL B G] (hk : k1 + k2 + 1 ≤ 1099511627776)  :
   Fn Tryz.prog 169 [.agg ⟨[.int .i64 z1.a.n, .int .i64 z1.a.d, .pointer z1.a.p, .int .i64 z1.b.n, .int .i64 z1.b.d, .pointer z1.b.p, .int .i64 z1.c.n, .int .i64 z1.c.d, .pointer z1.c.p]⟩, .agg ⟨[.int .i64 z2.a.n, .int .i64 z2.a.d, .pointer z2.a.p, .int .i64 z2.b.n, .int .i64 z2.b.d, .pointer z2.b.p, .int .i64 z2.c.n, .int .i64 z2.c.d, .pointer z2.c.p]⟩] G (fun v _ => v = .int .i64 (cmpQ l m)) := by
 refine Fn.intro Tryz.func169 rfl rfl Tryz.ntmps169 rfl ?_
 intro C _ _
 refine sR <| ?_
 refine sc (ch_box rfl rfl ?_)
 intro b1
 refine sc (ch_box rfl rfl ?_)
 intro b2
 refine sa rfl rfl <| zE <| st_seq <| dr (fun _ => false) [(0, true), (1, true), (2, true), (3, true), (5, true), (6, true), (7, true), (8, true), (10, true), (11, true), (12, true), (13, true), (4, false), (9, false), (14, false), (15, false), (16, false), (17, true)] follows (by kernel_rfl) <| ?_
 refine dF rfl rfl rfl <| dL rfl rfl rfl rfl <| dF rfl rfl rfl <| dL rfl rfl rfl rfl <| ?_
 refine dF rfl rfl rfl <| dL rfl rfl rfl rfl <| dF rfl rfl rfl <| dL rfl rfl rfl rfl <| ?_
 refine dF rfl rfl rfl <| dL rfl rfl rfl rfl <| dF rfl rfl rfl <| dL rfl rfl rfl rfl <| ?_
 refine dc rfl rfl (zC rfl rfl (R_Cmp hl.a hm.a (by omega)) rfl ?_)
 rintro _ G3 _ rfl
 refine dr_s <| ?_
 refine dc rfl rfl (zC rfl rfl (R_Cmp hl.b hm.b (by omega)) rfl ?_)
 rintro _ G4 _ rfl
 refine dr_s <| ?_
 refine dc rfl rfl (zC rfl rfl (R_Cmp hl.c hm.c (by omega)) rfl ?_)
 rintro _ G5 _ rfl
 refine dr_s <| ?_
 refine dc rfl rfl (ch_slice (by rfl) (by rfl) (by rfl) (by rfl) rfl ?_)
 intro b6
 refine dr_s <| ?_
 refine st_freeze b6 (.hd ..) ?_
 intro G8 _ hfz
 have hsl : IsSl G8 1 ⟨some ⟨b6, 0, none⟩, 3, 3⟩ ([rcmp l.a m.a, rcmp l.b m.b, rcmp l.c m.c].map (Value.int .i64)) := ⟨rfl, Nat.le_refl _, .inr ⟨b6, 0, _, rfl, hfz.h, fun i hi => by
   match i, hi with
   | 0, _ => rfl
   | 1, _ => rfl
   | 2, _ => rfl⟩⟩
 refine dc rfl rfl (zC rfl rfl (cmp_Or (es := [rcmp l.a m.a, rcmp l.b m.b, rcmp l.c m.c]) hsl (nb rfl)) rfl ?_)
 rintro _ G7 _ rfl
 refine dr_s <| dA rfl rfl rfl <| dn <| st_ret <| ?_
 exact zD (.tmp rfl .nil) rfl
theorem Ln_Equal {A B G : Gh} {z1 z2 : LV} {l m : LnQ} {k1 k2 : Nat} (hl : IsL k1 A z1 l) (hm : IsL k2 B z2 m) [GL A G] [GL B G] (hk : k1 + k2 + 1 ≤ 1099511627776)  :
  Fn Tryz.prog 132 [.agg ⟨[.int .i64 z1.a.n, .int .i64 z1.a.d, .pointer z1.a.p, .int .i64 z1.b.n, .int .i64 z1.b.d, .pointer z1.b.p, .int .i64 z1.c.n, .int .i64 z1.c.d, .pointer z1.c.p]⟩, .agg ⟨[.int .i64 z2.a.n, .int .i64 z2.a.d, .pointer z2.a.p, .int .i64 z2.b.n, .int .i64 z2.b.d, .pointer z2.b.p, .int .i64 z2.c.n, .int .i64 z2.c.d, .pointer z2.c.p]⟩] G (fun v _ => v = .bool (decide (l = m))) := by
 refine Fn.intro Tryz.func132 rfl rfl Tryz.ntmps132 rfl ?_
 intro C _ _
 refine sR <| ?_
 refine sc (ch_box rfl rfl ?_)
 intro b1
 refine sc (ch_box rfl rfl ?_)
 intro b2
 refine sa rfl rfl <| zE <| sR <| slo rfl rfl rfl <| slo rfl rfl rfl <| ?_
 refine sc (zC rfl rfl (Ln_Cmp hl hm hk) rfl ?_)
 rintro _ G3 _ rfl
 refine sy (yd_eql rfl rfl) rfl <| sa rfl rfl <| zE <| st_ret <| ?_
 exact zD (.tmp rfl .nil) (by show Value.bool (decide (cmpQ l m = 0)) = _; rw [decide_eq_decide.2 (cmpQ_eq l m)])
theorem Pt_half {A G : Gh} {z : PV} {p : PtQ} {k : Nat} (h : IsP k A z p) [GL A G] (hk : k ≤ 1099511627776) :
   Fn Tryz.prog 195 [.agg ⟨[.int .i64 z.x.n, .int .i64 z.x.d, .pointer z.x.p, .int .i64 z.y.n, .int .i64 z.y.d, .pointer z.y.p]⟩] G (fun v _ => v = .int .i64 p.half) := by
 obtain ⟨hx, hy⟩ := h
 refine Fn.intro Tryz.func195 rfl rfl Tryz.ntmps195 rfl ?_
 intro C _ _
 refine sR <| ?_
 refine sc (ch_box rfl rfl ?_)
 intro b1
 refine sa rfl rfl <| zE <| st_seq <| sR <| sf rfl rfl <| slo rfl rfl rfl <| ?_
 refine sc (zC rfl rfl (R_Sign hy (by omega)) rfl ?_)
 rintro _ G2 _ rfl
 refine sa rfl rfl <| zE <| st_block <| sR <| sm rfl rfl <| sy (yd_gtr rfl rfl) rfl <| sm rfl rfl <| ?_
 refine st_caseP 10 rfl (fun hg => ?_) (fun hg => ?_)
 · -- slot 10 yes
   refine ss rfl rfl rfl rfl <| ss rfl rfl rfl rfl <| ss rfl rfl rfl rfl <| ssu rfl rfl rfl <| ssu rfl rfl rfl <| ssu rfl rfl rfl <| ssu rfl rfl rfl <| ss rfl rfl rfl rfl <| sy (yd_pickT rfl rfl) rfl <| ?_
   refine sa rfl rfl <| zE <| st_condT rfl <| sR <| sa rfl rfl <| zE <| st_ret <| ?_
   exact zD (.tmp rfl .nil) (by show Value.int .i64 _ = .int .i64 (PtQ.half p); congr 1; unfold PtQ.half; split <;> (try split) <;> first | rfl | omega)
 refine syg rfl rfl (yd_move rfl) rfl <| syg rfl rfl (yd_eql rfl rfl) rfl <| syg rfl rfl (yd_move rfl) rfl <| ?_
 refine st_caseP 13 rfl (fun hg => ?_) (fun hg => ?_)
 · -- slot 13 yes
   refine syg rfl rfl (yd_fieldAddr rfl) rfl <| syg rfl rfl (yd_load_own rfl rfl) rfl <| ?_
   refine st_chg rfl rfl rfl (zC rfl rfl (R_Sign hx (by omega)) rfl ?_)
   rintro _ G3 _ rfl
   refine syg rfl rfl (yd_gtr rfl rfl) rfl <| syg rfl rfl (yd_pickT rfl rfl) rfl <| sy (yd_pickF rfl rfl) rfl <| sa rfl rfl <| zE <| ?_
   refine st_condP rfl (fun hc => ?_) (fun hc => ?_) -- slot 7
   · -- yes
     refine sR <| sa rfl rfl <| zE <| st_ret <| ?_
     exact zD (.tmp rfl .nil) (by show Value.int .i64 _ = .int .i64 (PtQ.half p); congr 1; unfold PtQ.half; split <;> (try split) <;> first | rfl | omega)
   refine sR <| sm rfl rfl <| sy (yd_lss rfl rfl) rfl <| sm rfl rfl <| ?_
   refine st_caseP 23 rfl (fun hg => ?_) (fun hg => ?_)
   · -- slot 23 yes
     refine ss rfl rfl rfl rfl <| ss rfl rfl rfl rfl <| ss rfl rfl rfl rfl <| ss rfl rfl rfl rfl <| sy (yd_pickT rfl rfl) rfl <| sa rfl rfl <| zE <| st_condT rfl <| sR <| sa rfl rfl <| ?_
     refine zE <| st_ret <| ?_
     exact zD (.tmp rfl .nil) (by show Value.int .i64 _ = .int .i64 (PtQ.half p); congr 1; unfold PtQ.half; split <;> (try split) <;> first | rfl | omega)
   refine syg rfl rfl (yd_fieldAddr rfl) rfl <| syg rfl rfl (yd_load_own rfl rfl) rfl <| ?_
   refine st_chg rfl rfl rfl (zC rfl rfl (R_Sign hx (by omega)) rfl ?_)
   rintro _ G4 _ rfl
   refine syg rfl rfl (yd_lss rfl rfl) rfl <| sy (yd_pickF rfl rfl) rfl <| sa rfl rfl <| zE <| ?_
   refine st_condP rfl (fun hc => ?_) (fun hc => ?_) -- slot 20
   · -- yes
     refine sR <| sa rfl rfl <| zE <| st_ret <| ?_
     exact zD (.tmp rfl .nil) (by show Value.int .i64 _ = .int .i64 (PtQ.half p); congr 1; unfold PtQ.half; split <;> (try split) <;> first | rfl | omega)
   refine zK <| sR <| sa rfl rfl <| zE <| st_ret <| ?_
   exact zD (.tmp rfl .nil) (by show Value.int .i64 _ = .int .i64 (PtQ.half p); congr 1; unfold PtQ.half; split <;> (try split) <;> first | rfl | omega)
 refine ss rfl rfl rfl rfl <| ss rfl rfl rfl rfl <| ss rfl rfl rfl rfl <| ss rfl rfl rfl rfl <| syg rfl rfl (yd_pickF rfl rfl) rfl <| sy (yd_pickF rfl rfl) rfl <| sa rfl rfl <| zE <| st_condF rfl <| ?_
 refine sR <| sm rfl rfl <| sy (yd_lss rfl rfl) rfl <| sm rfl rfl <| ?_
 refine st_caseP 23 rfl (fun hg => ?_) (fun hg => ?_)
 · -- slot 23 yes
   refine ss rfl rfl rfl rfl <| ss rfl rfl rfl rfl <| ss rfl rfl rfl rfl <| ss rfl rfl rfl rfl <| sy (yd_pickT rfl rfl) rfl <| sa rfl rfl <| zE <| st_condT rfl <| sR <| sa rfl rfl <| ?_
   refine zE <| st_ret <| ?_
   exact zD (.tmp rfl .nil) (by show Value.int .i64 _ = .int .i64 (PtQ.half p); congr 1; unfold PtQ.half; split <;> (try split) <;> first | rfl | omega)
 refine syg rfl rfl (yd_fieldAddr rfl) rfl <| syg rfl rfl (yd_load_own rfl rfl) rfl <| ?_
 refine st_chg rfl rfl rfl (zC rfl rfl (R_Sign hx (by omega)) rfl ?_)
 rintro _ G5 _ rfl
 refine syg rfl rfl (yd_lss rfl rfl) rfl <| sy (yd_pickF rfl rfl) rfl <| sa rfl rfl <| zE <| ?_
 refine st_condP rfl (fun hc => ?_) (fun hc => ?_) -- slot 20
 · -- yes
   refine sR <| sa rfl rfl <| zE <| st_ret <| ?_
   exact zD (.tmp rfl .nil) (by show Value.int .i64 _ = .int .i64 (PtQ.half p); congr 1; unfold PtQ.half; split <;> (try split) <;> first | rfl | omega)
 refine zK <| sR <| sa rfl rfl <| zE <| st_ret <| ?_
 exact zD (.tmp rfl .nil) (by show Value.int .i64 _ = .int .i64 (PtQ.half p); congr 1; unfold PtQ.half; split <;> (try split) <;> first | rfl | omega)
theorem geo_Angle {A B G : Gh} {z1 z2 : PV} {p q : PtQ} {k1 k2 : Nat} (hp : IsP k1 A z1 p) (hq : IsP k2 B z2 q) [GL A G] [GL B G] (hk : k1 + k2 ≤ 137438953472) :
   Fn Tryz.prog 154 [.agg ⟨[.int .i64 z1.x.n, .int .i64 z1.x.d, .pointer z1.x.p, .int .i64 z1.y.n, .int .i64 z1.y.d, .pointer z1.y.p]⟩, .agg ⟨[.int .i64 z2.x.n, .int .i64 z2.x.d, .pointer z2.x.p, .int .i64 z2.y.n, .int .i64 z2.y.d, .pointer z2.y.p]⟩] G (fun v _ => v = .int .i64 (angleQ p q)) := by
 refine Fn.intro Tryz.func154 rfl rfl Tryz.ntmps154 rfl ?_
 intro C _ _
 refine sR <| ?_
 refine sc (ch_box rfl rfl ?_)
 intro b1
 refine sc (ch_box rfl rfl ?_)
 intro b2
 refine sa rfl rfl <| zE <| st_seq <| st_seq <| dr (fun _ => false) [(0, true), (2, true), (1, false), (3, false), (4, true), (5, true)] follows (by kernel_rfl) <| dL rfl rfl rfl rfl <| ?_
 refine dL rfl rfl rfl rfl <| ?_
 refine dc rfl rfl (zC rfl rfl (Pt_half hp (by omega)) rfl ?_)
 rintro _ G3 _ rfl
 refine dr_s <| ?_
 refine dc rfl rfl (zC rfl rfl (Pt_half hq (by omega)) rfl ?_)
 rintro _ G4 _ rfl
 refine dr_s <| dA rfl rfl rfl <| dA rfl rfl rfl <| dn <| st_block <| sR <| sm rfl rfl <| sm rfl rfl <| sy (yd_lss rfl rfl) rfl <| ?_
 refine sa rfl rfl <| zE <| ?_
 refine st_condP rfl (fun hc0 => ?_) (fun hc0 => ?_) -- slot 11
 · -- yes
   refine sR <| sa rfl rfl <| zE <| st_ret <| ?_
   exact zD (.tmp rfl .nil) (by rw [angleQ, if_pos hc0]; rfl)
 refine sR <| sm rfl rfl <| sm rfl rfl <| sy (yd_gtr rfl rfl) rfl <| sa rfl rfl <| zE <| ?_
 refine st_condP rfl (fun hc1 => ?_) (fun hc1 => ?_) -- slot 15
 · -- yes
   refine sR <| sa rfl rfl <| zE <| st_ret <| ?_
   exact zD (.tmp rfl .nil) (by rw [angleQ, if_neg hc0, if_pos hc1]; rfl)
 refine zK <| sR <| slo rfl rfl rfl <| slo rfl rfl rfl <| ?_
 refine sc (zC rfl rfl (Pt_Cross hp hq (by omega)) rfl ?_)
 rintro _ G5 _ ⟨x6, rfl, h7⟩
 refine sc (zC rfl rfl (R_Sign ‹_› (by omega)) rfl ?_)
 rintro _ G8 _ rfl
 refine sy (yd_neg rfl) rfl <| sa rfl rfl <| zE <| st_ret <| ?_
 exact zD (.tmp rfl .nil) (by rw [angleQ, if_neg hc0, if_neg hc1]; rcases sign_cases (p.cross q).num with h | h | h <;> (show Value.int .i64 (IntKind.i64.wrap (0 - (p.cross q).num.sign)) = _; rw [h]; rfl))
end Go.Sx
end

section
set_option maxRecDepth 100000
namespace Go.Sx
open Go Go.Proofs
structure FrV where
 l : LV
 v : IvV
def FrV.val (z : FrV) : Value := .agg ⟨[.int .i64 z.l.a.n, .int .i64 z.l.a.d, .pointer z.l.a.p, .int .i64 z.l.b.n, .int .i64 z.l.b.d, .pointer z.l.b.p, .int .i64 z.l.c.n, .int .i64 z.l.c.d, .pointer z.l.c.p, .int .i64 z.v.lo.n, .int .i64 z.v.lo.d, .pointer z.v.lo.p, .int .i64 z.v.hi.n, .int .i64 z.v.hi.d, .pointer z.v.hi.p, .bool z.v.nl, .bool z.v.nh]⟩
structure IsFr (k : Nat) (G : Gh) (z : FrV) (f : FrQ) : Prop where
 l : IsL k G z.l f.l
 v : IsIv (25 * k + 6) G z.v f.v
theorem IsFr.up {k : Nat} {A G : Gh} {z : FrV} {f : FrQ} (h : IsFr k A z f) [GL A G] : IsFr k G z f := ⟨h.l.up, h.v.up⟩
inductive All2 {α β : Type} (R : α → β → Prop) : List α → List β → Prop
 | nil : All2 R [] []
 | cons {a b us bs} (h : R a b) (t : All2 R us bs) : All2 R (a :: us) (b :: bs)
theorem All2.len {α β : Type} {R : α → β → Prop} {us : List α} {bs : List β} (h : All2 R us bs) : us.length = bs.length := by
 induction h with
 | nil => rfl
 | cons _ _ ih => simp [ih]
theorem All2.imp {α β : Type} {R S : α → β → Prop} {us : List α} {bs : List β} (h : All2 R us bs) (k : ∀ a b, R a b → S a b) : All2 S us bs := by
 induction h with
 | nil => exact .nil
 | cons h _ ih => exact .cons (k _ _ h) ih
theorem All2.get {α β : Type} {R : α → β → Prop} {us : List α} {bs : List β} (h : All2 R us bs) {i : Nat} {b : β} (hi : bs[i]? = some b) : ∃ a, us[i]? = some a ∧ R a b := by
 induction h generalizing i with
 | nil => simp at hi
 | @cons a b' us bs h t ih =>
   cases i with
   | zero => simp at hi; subst hi; exact ⟨a, rfl, h⟩
   | succ i => simpa using ih (i := i) (by simpa using hi)
theorem All2.app {α β : Type} {R : α → β → Prop} {us us' : List α} {bs bs' : List β} (h : All2 R us bs) (k : All2 R us' bs') : All2 R (us ++ us') (bs ++ bs') := by
 induction h with
 | nil => exact k
 | cons h _ ih => exact .cons h ih
theorem All2.take {α β : Type} {R : α → β → Prop} {us : List α} {bs : List β} (h : All2 R us bs) (i : Nat) : All2 R (us.take i) (bs.take i) := by
 induction h generalizing i with
 | nil => simp; exact .nil
 | cons h _ ih =>
   cases i with
   | zero => exact .nil
   | succ i => exact .cons h (ih i)
theorem All2.drop {α β : Type} {R : α → β → Prop} {us : List α} {bs : List β} (h : All2 R us bs) (i : Nat) : All2 R (us.drop i) (bs.drop i) := by
 induction h generalizing i with
 | nil => simp; exact .nil
 | cons h t ih =>
   cases i with
   | zero => exact .cons h t
   | succ i => exact ih i
structure IsC (k : Nat) (G : Gh) (x : SV) (c : CellQ) : Prop where
 ex : ∃ fs : List FrV, IsSl G 17 x (fs.map FrV.val) ∧ All2 (IsFr k G) fs c
theorem IsC.up {k : Nat} {A G : Gh} {x : SV} {c : CellQ} (h : IsC k A x c) [GL A G] : IsC k G x c := by
 obtain ⟨fs, h1, h2⟩ := h.ex
 exact ⟨fs, h1.up, h2.imp fun _ _ h => h.up⟩
theorem IsC.len {k : Nat} {G : Gh} {x : SV} {c : CellQ} (h : IsC k G x c) : x.n = c.length := by
 obtain ⟨fs, h1, h2⟩ := h.ex
 rw [h1.len, List.length_map, h2.len]
theorem IsC.nil (k : Nat) (G : Gh) : IsC k G ⟨none, 0, 0⟩ [] := ⟨[], .nil G 17, .nil⟩
theorem partV_drop (l : LnQ) {c : CellQ} {i : Nat} (hi : i < c.length) (v : IvQ) : partV l (c.drop i) v = if l.cutB v c[i].l then partV l (c.drop (i + 1)) (l.cutV v c[i].l) else none := by
 rw [List.drop_eq_getElem_cons hi]; rfl
set_option maxHeartbeats 1000000 in
theorem Cell_part {A B G : Gh} {x : SV} {z : LV} {c : CellQ} {l : LnQ} {k : Nat} (hx : IsC k A x c) (hl : IsL k B z l) [GL A G] [GL B G] (hk : k ≤ 100000000) (hb : c.length ≤ 1125899906842624) :
   Fn Tryz.prog 149 [.slice x.a x.n x.c, .agg ⟨[.int .i64 z.a.n, .int .i64 z.a.d, .pointer z.a.p, .int .i64 z.b.n, .int .i64 z.b.d, .pointer z.b.p, .int .i64 z.c.n, .int .i64 z.c.d, .pointer z.c.p]⟩] G (fun u G' =>
     (partQ c l = none ∧ u = .tuple #[IvV.v ⟨⟨0, 0, none⟩, ⟨0, 0, none⟩, false, false⟩, .bool false]) ∨ ∃ v y, partQ c l = some v ∧ u = .tuple #[IvV.v y, .bool true] ∧ IsIv (25 * k + 6) G' y v) := by
 have hlen := hx.len
 obtain ⟨fs, hs, hfs⟩ := hx.ex
 obtain ⟨xa, xn, xc⟩ := x
 simp only [] at hlen
 subst hlen
 have h1 : 1 ≤ k := hl.a.k1
 refine Fn.intro Tryz.func149 rfl rfl Tryz.ntmps149 rfl ?_
 intro C _ _
 refine sR <| ?_
 refine sc (ch_box rfl rfl ?_)
 intro b1
 refine sc (ch_alloc rfl ?_)
 intro b2
 refine sa rfl rfl <| zE <| sR <| ?_
 refine sc (zC rfl rfl geo_All rfl ?_)
 rintro _ G3 _ rfl
 refine sc (ch_alloc rfl ?_)
 intro b4
 refine sc (ch_storeN rfl rfl (by first | (dsimp only [ovw, cellsL, zs1, zs2, Nat.reduceAdd, RV.v, LV.v, PV.v, IvV.v, FrV.val]; done) | exact rfl) (by repeat (first | exact .hd .. | apply OUpd.tl)) rfl (nb rfl) rfl rfl ?_)
 refine sa rfl rfl <| zE <| st_seq <| sR <| sm rfl rfl <| slen rfl rfl <| sm rfl rfl <| zE <| st_block <| ?_
 refine st_loop (X := Nat × IvV × IvQ) (fun q => [(13, .int .i64 q.1), (12, .int .i64 c.length), (11, .slice xa c.length xc), (3, .pointer (some ⟨b1, 0, none⟩)), (6, .pointer (some ⟨b4, 0, none⟩)), (4, .pointer (some ⟨b2, 0, none⟩))])
   (fun q => [⟨b4, [.int .i64 q.2.1.lo.n, .int .i64 q.2.1.lo.d, .pointer q.2.1.lo.p, .int .i64 q.2.1.hi.n, .int .i64 q.2.1.hi.d, .pointer q.2.1.hi.p, .bool q.2.1.nl, .bool q.2.1.nh], 194, true⟩, ⟨b2, [.int .i64 0, .int .i64 0, .pointer none, .int .i64 0, .int .i64 0, .pointer none, .bool false, .bool false], 194, true⟩, ⟨b1, [.int .i64 z.a.n, .int .i64 z.a.d, .pointer z.a.p, .int .i64 z.b.n, .int .i64 z.b.d, .pointer z.b.p, .int .i64 z.c.n, .int .i64 z.c.d, .pointer z.c.p], 105, true⟩])
   (fun q G => q.1 ≤ c.length ∧ IsIv (25 * k + 6) G q.2.1 q.2.2 ∧ partV l (c.drop q.1) q.2.2 = partQ c l) (fun q => c.length - q.1) (0, ⟨⟨0, 0, none⟩, ⟨0, 0, none⟩, true, true⟩, IvQ.all)
   ⟨Nat.zero_le _, ⟨IsR.zero (by omega), IsR.zero (by omega), rfl, rfl⟩, rfl⟩ (.cons rfl (.cons rfl (.cons rfl (.cons rfl (.cons rfl (.cons rfl .nil)))))) rfl ?_
 rintro ⟨i, y, v⟩ Gx _ ⟨hi, hv, hp⟩
 simp only [] at hi hv hp
 refine sR <| sy (yd_lss rfl rfl) rfl <| zE <| st_seq <| ?_
 refine st_condE rfl (fun hc => ?_) (fun hc => ?_) -- slot 14
 · refine st_exit <| st_te <| st_te <| st_inBlock_eq <| sR <| slo rfl rfl rfl <| ?_
   refine sc (ch_storeN rfl rfl (by first | (dsimp only [ovw, cellsL, zs1, zs2, Nat.reduceAdd, RV.v, LV.v, PV.v, IvV.v, FrV.val]; done) | exact rfl) (by repeat (first | exact .hd .. | apply OUpd.tl)) rfl (nb rfl) rfl rfl ?_)
   refine sa rfl rfl <| zE <| st_ret <| ?_
   rw [List.drop_eq_nil_of_le (by omega)] at hp
   exact zD (.agg rfl ii ii rfl (.tmp rfl .nil)) (.inr ⟨v, y, hp.symm, rfl, hv⟩)
 have hi1 : i < c.length := by omega
 obtain ⟨f, hf, hff⟩ := hfs.get (List.getElem?_eq_getElem hi1)
 have hfi : (fs.map FrV.val)[i]? = some (.agg ⟨[.int .i64 f.l.a.n, .int .i64 f.l.a.d, .pointer f.l.a.p, .int .i64 f.l.b.n, .int .i64 f.l.b.d, .pointer f.l.b.p, .int .i64 f.l.c.n, .int .i64 f.l.c.d, .pointer f.l.c.p, .int .i64 f.v.lo.n, .int .i64 f.v.lo.d, .pointer f.v.lo.p, .int .i64 f.v.hi.n, .int .i64 f.v.hi.d, .pointer f.v.hi.p, .bool f.v.nl, .bool f.v.nh]⟩) := by rw [List.getElem?_map, hf]; rfl
 refine zK <| st_seq <| st_block <| sR <| sy (yd_ix (z := ⟨xa, c.length, xc⟩) hs rfl rfl (by omega) (by show (i : Int) < (c.length : Int); omega)) rfl <| ?_
 rw [Int.toNat_natCast]
 refine sy (yd_ldA (i := i) hs rfl (by rw [List.length_map, hfs.len]; exact hi1) hfi) rfl <| ?_
 refine sc (ch_alloc rfl ?_)
 intro b5
 refine sc (ch_storeN rfl rfl (by first | (dsimp only [ovw, cellsL, zs1, zs2, Nat.reduceAdd, RV.v, LV.v, PV.v, IvV.v, FrV.val]; done) | exact rfl) (by repeat (first | exact .hd .. | apply OUpd.tl)) rfl (nb rfl) rfl rfl ?_)
 refine zE <| sR <| slo rfl rfl rfl <| slo rfl rfl rfl <| sf rfl rfl <| slo rfl rfl rfl <| ?_
 refine sc (zC rfl rfl (Ln_Cut hl hv hff.l (by omega)) rfl ?_)
 rintro _ G6 _ ⟨y', rfl, hy⟩
 refine sm rfl rfl <| sx rfl rfl rfl <| sx rfl rfl rfl <| ?_
 refine sc (ch_storeN rfl rfl (by first | (dsimp only [ovw, cellsL, zs1, zs2, Nat.reduceAdd, RV.v, LV.v, PV.v, IvV.v, FrV.val]; done) | exact rfl) (by repeat (first | exact .hd .. | apply OUpd.tl)) rfl (nb rfl) rfl rfl ?_)
 refine sa rfl rfl <| zE <| sR <| sm rfl rfl <| sy (yd_not rfl) rfl <| zE <| ?_
 have hpd := partV_drop l hi1 v
 refine st_condB rfl (fun hc1 => ?_) (fun hc1 => ?_) -- slot 26
 · refine sR <| sy (yd_build rfl) rfl <| ?_
   refine sc (ch_storeN rfl rfl (by first | (dsimp only [ovw, cellsL, zs1, zs2, Nat.reduceAdd, RV.v, LV.v, PV.v, IvV.v, FrV.val]; done) | exact rfl) (by repeat (first | exact .hd .. | apply OUpd.tl)) rfl (nb rfl) rfl rfl ?_)
   refine sa rfl rfl <| zE <| st_ret <| ?_
   refine zD (.agg rfl ii ii rfl (.tmp rfl .nil)) (.inl ⟨?_, rfl⟩)
   rw [← hp, hpd, if_neg (by simpa using hc1)]
 refine zK <| st_region <| sy (yd_add64 rfl rfl) rfl <| sm rfl rfl <| zE <| ?_
 refine st_drop _ (List.sublist_cons_self _ _) ?_
 exact st_again (i + 1, y', l.cutV v c[i].l) ⟨hi1, hy, by rw [← hp, hpd, if_pos (by simpa using hc1)]⟩ (by show c.length - (i + 1) < c.length - i; omega) (.cons rfl (.cons rfl (.cons rfl (.cons rfl (.cons rfl (.cons rfl .nil)))))) rfl
end Go.Sx
end

section
set_option maxRecDepth 100000
namespace Go.Sx
open Go Go.Proofs
set_option maxHeartbeats 1000000 in
theorem Cell_Place {A B G : Gh} {x : SV} {z : LV} {c : CellQ} {l : LnQ} {k : Nat} (hx : IsC k A x c) (hl : IsL k B z l) [GL A G] [GL B G] (hk : k ≤ 100000000) (hb : c.length ≤ 1125899906842624) :
   Fn Tryz.prog 150 [.slice x.a x.n x.c, .agg ⟨[.int .i64 z.a.n, .int .i64 z.a.d, .pointer z.a.p, .int .i64 z.b.n, .int .i64 z.b.d, .pointer z.b.p, .int .i64 z.c.n, .int .i64 z.c.d, .pointer z.c.p]⟩] G (fun u _ => u = .int .i64 (placeQ c l)) := by
 have hpart : ∀ {G : Gh} [GL A G] [GL B G], Fn Tryz.prog 149 [.slice x.a x.n x.c, .agg ⟨[.int .i64 z.a.n, .int .i64 z.a.d, .pointer z.a.p, .int .i64 z.b.n, .int .i64 z.b.d, .pointer z.b.p, .int .i64 z.c.n, .int .i64 z.c.d, .pointer z.c.p]⟩] G _ := fun {G} _ _ => Cell_part (G := G) hx hl hk hb
 have hlen := hx.len
 obtain ⟨fs, hs, hfs⟩ := hx.ex
 obtain ⟨xa, xn, xc⟩ := x
 simp only [] at hlen
 subst hlen
 have h1 : 1 ≤ k := hl.a.k1
 refine Fn.intro Tryz.func150 rfl rfl Tryz.ntmps150 rfl ?_
 intro C _ _
 refine sR <| ?_
 refine sc (ch_box rfl rfl ?_)
 intro b1
 refine sa rfl rfl <| zE <| st_seq <| sR <| sm rfl rfl <| slo rfl rfl rfl <| ?_
 refine sc (zC rfl rfl hpart rfl ?_)
 rintro _ G2 _ (⟨hn, rfl⟩ | ⟨v, y, hv, rfl, hy⟩)
 case inr =>
   refine sm rfl rfl <| sx rfl rfl rfl <| sx rfl rfl rfl <| ?_
   refine sc (ch_alloc rfl ?_)
   intro b3
   refine sc (ch_storeN rfl rfl (by first | (dsimp only [ovw, cellsL, zs1, zs2, Nat.reduceAdd, RV.v, LV.v, PV.v, IvV.v, FrV.val]; done) | exact rfl) (by repeat (first | exact .hd .. | apply OUpd.tl)) rfl (nb rfl) rfl rfl ?_)
   refine sa rfl rfl <| zE <| sR <| sm rfl rfl <| zE <| st_condT rfl <| ?_
   refine sR <| sa rfl rfl <| zE <| st_ret <| ?_
   exact zD (.tmp rfl .nil) (by rw [placeQ, hv]; rfl)
 refine sm rfl rfl <| sx rfl rfl rfl <| sx rfl rfl rfl <| ?_
 refine sc (ch_alloc rfl ?_)
 intro b3
 refine sc (ch_storeN rfl rfl (by first | (dsimp only [ovw, cellsL, zs1, zs2, Nat.reduceAdd, RV.v, LV.v, PV.v, IvV.v, FrV.val]; done) | exact rfl) (by repeat (first | exact .hd .. | apply OUpd.tl)) rfl (nb rfl) rfl rfl ?_)
 refine sa rfl rfl <| zE <| sR <| sm rfl rfl <| zE <| st_condF rfl <| ?_
 have hpq : placeQ c l = placeV l c := by rw [placeQ, hn]; rfl
 rw [hpq]
 refine zK <| st_seq <| sR <| sm rfl rfl <| slen rfl rfl <| sm rfl rfl <| zE <| st_block <| ?_
 refine st_loop (X := Nat) (fun q => [(19, .int .i64 q), (18, .int .i64 c.length), (17, .slice xa c.length xc), (3, .pointer (some ⟨b1, 0, none⟩))])
   (fun q => [⟨b3, [.int .i64 0, .int .i64 0, .pointer none, .int .i64 0, .int .i64 0, .pointer none, .bool false, .bool false], 194, true⟩, ⟨b1, [.int .i64 z.a.n, .int .i64 z.a.d, .pointer z.a.p, .int .i64 z.b.n, .int .i64 z.b.d, .pointer z.b.p, .int .i64 z.c.n, .int .i64 z.c.d, .pointer z.c.p], 105, true⟩])
   (fun q G => q ≤ c.length ∧ placeV l (c.drop q) = placeV l c) (fun q => c.length - q) 0
   ⟨Nat.zero_le _, rfl⟩ (.cons rfl (.cons rfl (.cons rfl (.cons rfl .nil)))) rfl ?_
 rintro i Gx _ ⟨hi, hp⟩
 refine sR <| sy (yd_lss rfl rfl) rfl <| zE <| st_seq <| ?_
 refine st_condE rfl (fun hc => ?_) (fun hc => ?_) -- slot 20
 · refine st_exit <| st_te <| st_te <| st_inBlock_eq <| sR <| sa rfl rfl <| zE <| st_ret <| ?_
   rw [List.drop_eq_nil_of_le (by omega)] at hp
   exact zD (.tmp rfl .nil) (by rw [← hp]; rfl)
 have hi1 : i < c.length := by omega
 obtain ⟨f, hf, hff⟩ := hfs.get (List.getElem?_eq_getElem hi1)
 have hfi : (fs.map FrV.val)[i]? = some (.agg ⟨[.int .i64 f.l.a.n, .int .i64 f.l.a.d, .pointer f.l.a.p, .int .i64 f.l.b.n, .int .i64 f.l.b.d, .pointer f.l.b.p, .int .i64 f.l.c.n, .int .i64 f.l.c.d, .pointer f.l.c.p, .int .i64 f.v.lo.n, .int .i64 f.v.lo.d, .pointer f.v.lo.p, .int .i64 f.v.hi.n, .int .i64 f.v.hi.d, .pointer f.v.hi.p, .bool f.v.nl, .bool f.v.nh]⟩) := by rw [List.getElem?_map, hf]; rfl
 rw [List.drop_eq_getElem_cons hi1] at hp
 refine zK <| st_seq <| st_block <| sR <| sy (yd_ix (z := ⟨xa, c.length, xc⟩) hs rfl rfl (by omega) (by show (i : Int) < (c.length : Int); omega)) rfl <| ?_
 rw [Int.toNat_natCast]
 refine sy (yd_ldA (i := i) hs rfl (by rw [List.length_map, hfs.len]; exact hi1) hfi) rfl <| ?_
 refine sc (ch_alloc rfl ?_)
 intro b4
 refine sc (ch_storeN rfl rfl (by first | (dsimp only [ovw, cellsL, zs1, zs2, Nat.reduceAdd, RV.v, LV.v, PV.v, IvV.v, FrV.val]; done) | exact rfl) (by repeat (first | exact .hd .. | apply OUpd.tl)) rfl (nb rfl) rfl rfl ?_)
 refine zE <| st_seq <| st_seq <| dr (fun _ => false) [(0, true), (1, true), (2, true), (3, true), (4, true), (5, false), (6, false), (7, false), (8, true)] follows (by kernel_rfl) <| dL rfl rfl rfl rfl <| ?_
 refine dF rfl rfl rfl <| dL rfl rfl rfl rfl <| dF rfl rfl rfl <| dL rfl rfl rfl rfl <| ?_
 refine dc rfl rfl (zC rfl rfl (Iv_Sample hff.v (by omega)) rfl ?_)
 rintro _ G5 _ ⟨xs, rfl, hS⟩
 refine dr_s <| ?_
 refine dc rfl rfl (zC rfl rfl (Ln_At hff.l hS (by omega)) rfl ?_)
 rintro _ G6 _ ⟨xp, rfl, hA⟩
 refine dr_s <| ?_
 refine dc rfl rfl (zC rfl rfl (Ln_Side hl hA (by omega)) rfl ?_)
 rintro _ G9 _ rfl
 refine dr_s <| dA rfl rfl rfl <| dn <| sR <| sm rfl rfl <| sy (yd_neq rfl rfl) rfl <| zE <| ?_
 refine st_condP rfl (fun hc1 => ?_) (fun hc1 => ?_) -- slot 32
 · -- yes
   refine sR <| sm rfl rfl <| sa rfl rfl <| zE <| st_ret <| ?_
   exact zD (.tmp rfl .nil) (by rw [← hp, placeV, if_pos (show sideAt l c[i] ≠ 0 from hc1)]; rfl)
 refine zK <| sR <| sf rfl rfl <| slo rfl rfl rfl <| slo rfl rfl rfl <| ?_
 refine sc (zC rfl rfl (Ln_Equal hff.l hl (by omega)) rfl ?_)
 rintro _ G10 _ rfl
 refine zE <| ?_
 refine st_condP rfl (fun hc2 => ?_) (fun hc2 => ?_) -- slot 37
 · -- yes
   refine sR <| sa rfl rfl <| zE <| st_ret <| ?_
   exact zD (.tmp rfl .nil) (by rw [← hp, placeV, if_neg (show ¬ sideAt l c[i] ≠ 0 from hc1), if_pos hc2]; rfl)
 refine zK <| st_region <| sy (yd_add64 rfl rfl) rfl <| sm rfl rfl <| zE <| ?_
 refine st_drop _ (List.sublist_cons_self _ _) ?_
 exact st_again (i + 1) ⟨hi1, by rw [← hp, placeV, if_neg (show ¬ sideAt l c[i] ≠ 0 from hc1), if_neg hc2]⟩ (by omega) (.cons rfl (.cons rfl (.cons rfl (.cons rfl .nil)))) rfl
theorem Clip_cmp {A B G : Gh} {z1 : FrV} {z2 : LV} {s : FrQ} {l : LnQ} {k : Nat} (hs : IsFr k A z1 s) (hl : IsL k B z2 l) [GL A G] [GL B G] (hk : k ≤ 100000000) :
  Fn Tryz.prog 153 [.agg ⟨[.int .i64 z1.l.a.n, .int .i64 z1.l.a.d, .pointer z1.l.a.p, .int .i64 z1.l.b.n, .int .i64 z1.l.b.d, .pointer z1.l.b.p, .int .i64 z1.l.c.n, .int .i64 z1.l.c.d, .pointer z1.l.c.p, .int .i64 z1.v.lo.n, .int .i64 z1.v.lo.d, .pointer z1.v.lo.p, .int .i64 z1.v.hi.n, .int .i64 z1.v.hi.d, .pointer z1.v.hi.p, .bool z1.v.nl, .bool z1.v.nh]⟩, .agg ⟨[.int .i64 z2.a.n, .int .i64 z2.a.d, .pointer z2.a.p, .int .i64 z2.b.n, .int .i64 z2.b.d, .pointer z2.b.p, .int .i64 z2.c.n, .int .i64 z2.c.d, .pointer z2.c.p]⟩] G (fun u _ => u = .int .i64 (angleQ s.l.dir l.dir)) := by
 refine Fn.intro Tryz.func153 rfl rfl Tryz.ntmps153 rfl ?_
 intro C _ _
 refine sR <| ?_
 refine sc (ch_box rfl rfl ?_)
 intro b1
 refine sc (ch_box rfl rfl ?_)
 intro b2
 refine sa rfl rfl <| zE <| st_seq <| dr (fun _ => false) [(0, true), (1, true), (3, true), (2, false), (4, false), (5, false), (6, true)] follows (by kernel_rfl) <| dF rfl rfl rfl <| ?_
 refine dL rfl rfl rfl rfl <| dL rfl rfl rfl rfl <| ?_
 refine dc rfl rfl (zC rfl rfl (Ln_Dir hs.l (by omega)) rfl ?_)
 rintro _ G3 _ ⟨x4, rfl, h5⟩
 refine dr_s <| ?_
 refine dc rfl rfl (zC rfl rfl (Ln_Dir hl (by omega)) rfl ?_)
 rintro _ G6 _ ⟨x7, rfl, h8⟩
 refine dr_s <| ?_
 refine dc rfl rfl (zC rfl rfl (geo_Angle h5 h8 (by omega)) rfl ?_)
 rintro _ G9 _ rfl
 refine dr_s <| dA rfl rfl rfl <| dn <| st_ret <| ?_
 exact zD (.tmp rfl .nil) rfl
end Go.Sx
end

section
set_option maxRecDepth 100000
namespace Go.Sx
open Go Go.Proofs
section
variable {P : Program} {C : Ctx} {n : Nat} {fr : Fr} {own own' : List Own} {G : Gh} {Φ : Act → World → Prop}
variable {dst : Option Nat} {t t' ty' : TypeId} {pos : String} {af : Array Edge} {gd : Option (Nat × Bool)} {x y : Operand} {e s by_ : Nat}
theorem st_apart {o1 o2 : Own} {rest : List Own} (h : o1.b ≠ o2.b → St C n fr (o1 :: o2 :: rest) G Φ) : St C n fr (o1 :: o2 :: rest) G Φ :=
 fun a w rl => h ((List.pairwise_cons.1 rl.h.nd).1 _ List.mem_cons_self) a w rl
theorem yd_slice_loB [hT : TySl P t e s by_] {k : IntKind} {b off len cap : Nat} {l : Int} (hx : opv fr x = some (.slice (some ⟨b, off, none⟩) len cap)) (hy : opv fr y = some (.int k l)) (h0 : 0 ≤ l) (h1 : l ≤ len) (h2 : l < cap) :
  Yd P C fr own G ⟨dst, .slice t x (some y) none none, ty', pos, af, gd⟩ (.slice (some ⟨b, off + l.toNat * s, none⟩) (len - l.toNat) (cap - l.toNat)) := by
 have h := yd_slice_lo (P := P) (C := C) (own := own) (G := G) (t := t) (dst := dst) (ty' := ty') (pos := pos) (af := af) (gd := gd) (by_ := by_) hx hy h0 h1
 unfold slTo at h
 rw [if_neg (by omega)] at h
 simpa [addr_add] using h
end
theorem FrV.len17 (fs : List FrV) : ∀ v ∈ fs.map FrV.val, (cellsL v).length = 17 := fun v hv => by
 obtain ⟨f, _, rfl⟩ := List.mem_map.1 hv; rfl
theorem FrV.flat (fs : List FrV) : ∀ v ∈ fs.map FrV.val, ∀ c ∈ cellsL v, Sx.flat c = true := fun v hv c hc => by
 obtain ⟨f, _, rfl⟩ := List.mem_map.1 hv
 simp only [FrV.val, cellsL, List.mem_cons, List.not_mem_nil, or_false] at hc
 rcases hc with rfl | rfl | rfl | rfl | rfl | rfl | rfl | rfl | rfl | rfl | rfl | rfl | rfl | rfl | rfl | rfl | rfl <;> rfl
theorem shr1 (p : Int) : p.fdiv (2 ^ min (1 : Int).toNat IntKind.u64.bits) = p / 2 := by
 have : (2 : Int) ^ min (1 : Int).toNat IntKind.u64.bits = 2 := rfl
 rw [this, Int.fdiv_eq_ediv_of_nonneg _ (by omega)]
set_option maxHeartbeats 1000000 in
theorem sides_search {A B G : Gh} {z : LV} {c : CellQ} {l : LnQ} {k b cap : Nat} {fs : List FrV} {rest : List Value} {ty : TypeId} {lo : Bool} (hfs : All2 (IsFr k A) fs c) (hl : IsL k B z l) [GL A G] [GL B G] (hk : k ≤ 100000000) (hb : c.length ≤ 1125899906842624) :
   FnM Tryz.prog 152 [.slice (some ⟨b, 0, none⟩) c.length cap, .agg ⟨[.int .i64 z.a.n, .int .i64 z.a.d, .pointer z.a.p, .int .i64 z.b.n, .int .i64 z.b.d, .pointer z.b.p, .int .i64 z.c.n, .int .i64 z.c.d, .pointer z.c.p]⟩, .func (.func 153) #[] #[]] [⟨b, flatL (fs.map FrV.val) ++ rest, ty, lo⟩] G
     (fun u css _ => css = [flatL (fs.map FrV.val) ++ rest] ∧ ∃ bb, u = .tuple #[.int .i64 (bsq (angAt c l) 0 c.length : Nat), .bool bb]) := by
 have hfl := hfs.len
 have tk : ∀ (i : Nat) (f : FrV), fs[i]? = some f → takeL (flatL (fs.map FrV.val) ++ rest) (i * 17) 17 = some [.int .i64 f.l.a.n, .int .i64 f.l.a.d, .pointer f.l.a.p, .int .i64 f.l.b.n, .int .i64 f.l.b.d, .pointer f.l.b.p, .int .i64 f.l.c.n, .int .i64 f.l.c.d, .pointer f.l.c.p, .int .i64 f.v.lo.n, .int .i64 f.v.lo.d, .pointer f.v.lo.p, .int .i64 f.v.hi.n, .int .i64 f.v.hi.d, .pointer f.v.hi.p, .bool f.v.nl, .bool f.v.nh] := fun i f hf => by
   obtain ⟨hi, hf'⟩ := List.getElem?_eq_some_iff.1 hf
   have := takeL_flat (s := 17) (rest := rest) (FrV.len17 fs) (i := i) (by simpa using hi)
   rw [List.getElem_map, hf'] at this
   exact this
 have ang : ∀ (i : Nat) (s : FrQ), c[i]? = some s → angAt c l i = decide (angleQ s.l.dir l.dir < 0) := fun i s hs => by simp only [angAt, hs]
 refine FnM.intro Tryz.func152 rfl rfl Tryz.ntmps152 rfl ?_
 intro C _ _
 show St C _ _ [⟨b, flatL (fs.map FrV.val) ++ rest, ty, false⟩] _ _
 generalize hcs : flatL (fs.map FrV.val) ++ rest = cs at tk
 refine sR <| ?_
 refine sc (ch_box rfl rfl ?_)
 intro b1
 refine sa rfl rfl <| sa rfl rfl <| zE <| sR <| sm rfl rfl <| slen rfl rfl <| sa rfl rfl <| zE <| sR <| sm rfl rfl <| sa rfl rfl <| sa rfl rfl <| zE <| ?_
 refine st_seq <| st_block <| ?_
 refine st_loop (X := Nat × Nat) (fun q => [(9, .int .i64 q.1), (10, .int .i64 q.2), (2, .func (.func 153) #[] #[]), (0, .slice (some ⟨b, 0, none⟩) c.length cap), (4, .pointer (some ⟨b1, 0, none⟩)), (8, .int .i64 c.length)])
   (fun _ => [⟨b1, [.int .i64 z.a.n, .int .i64 z.a.d, .pointer z.a.p, .int .i64 z.b.n, .int .i64 z.b.d, .pointer z.b.p, .int .i64 z.c.n, .int .i64 z.c.d, .pointer z.c.p], 105, true⟩, ⟨b, cs, ty, false⟩]) (fun q _ => q.1 ≤ q.2 ∧ q.2 ≤ c.length ∧ bsq (angAt c l) q.1 q.2 = bsq (angAt c l) 0 c.length) (fun q => q.2 - q.1) (0, c.length) ⟨Nat.zero_le _, Nat.le_refl _, rfl⟩
   (.cons rfl (.cons rfl (.cons rfl (.cons rfl (.cons rfl (.cons rfl .nil)))))) rfl ?_
 rintro ⟨i, j⟩ Gx _ ⟨hij, hj, hq⟩
 simp only [] at hij hj hq
 refine st_seq <| sR <| sm rfl rfl <| sm rfl rfl <| sy (yd_lss rfl rfl) rfl <| zE <| ?_
 refine st_condE rfl (fun hc => ?_) (fun hc => ?_) -- slot 17
 · have hres : bsq (angAt c l) 0 c.length = i := by rw [← hq, bsq, dif_neg (by omega)]
   rw [hres]
   refine st_exit <| st_te <| st_te <| st_inBlock_eq <| st_seq <| dr (fun _ => false) [(0, true), (1, true), (2, true), (3, true), (4, true), (5, true), (6, true), (7, true), (8, true), (9, true), (10, true), (11, false), (12, true), (13, true), (14, true), (15, true)] follows (by kernel_rfl) <| ?_
   refine dM rfl rfl rfl <| dM rfl rfl rfl <| dM rfl rfl rfl <| dy rfl (fun _ => yd_lss rfl rfl) rfl rfl <| dM rfl rfl rfl <| ?_
   refine st_caseP 39 rfl (fun hg => ?_) (fun hg => ?_)
   · -- slot 39 yes
     have hi1 : i < c.length := by omega
     obtain ⟨f, hf, hff⟩ := hfs.get (List.getElem?_eq_getElem hi1)
     refine dyg rfl rfl rfl rfl (fun _ => yd_move rfl) rfl <| dyg rfl rfl rfl rfl (fun _ => yd_move rfl) rfl <| dyg rfl rfl rfl rfl (fun _ => yd_move rfl) rfl <| dyg rfl rfl rfl rfl (fun _ => yd_ixO rfl rfl (by omega) (by omega)) rfl <| ?_
     refine dyg rfl rfl rfl rfl (fun _ => yd_load_own rfl (by rw [Int.toNat_natCast]; exact tk i f hf)) rfl <| dyg rfl rfl rfl rfl (fun _ => yd_load_own rfl rfl) rfl <| ?_
     refine dcg rfl rfl rfl rfl (zC rfl rfl (Clip_cmp hff hl hk) rfl ?_)
     rintro _ G7 _ rfl
     refine dr_s <| dyg rfl rfl rfl rfl (fun _ => yd_eql rfl rfl) rfl <| dy rfl (fun _ => yd_pickT rfl rfl) rfl rfl <| dA rfl rfl rfl <| dA rfl rfl rfl <| ?_
     refine dn <| st_ret <| ?_
     exact st_doneM (css := [cs]) (.tmp rfl (.tmp rfl .nil)) rfl [⟨b, cs, ty, false⟩, ⟨b1, [.int .i64 z.a.n, .int .i64 z.a.d, .pointer z.a.p, .int .i64 z.b.n, .int .i64 z.b.d, .pointer z.b.p, .int .i64 z.c.n, .int .i64 z.c.d, .pointer z.c.p], 105, true⟩] (List.Perm.swap ..) (.cons_cons _ (List.nil_sublist _)) ⟨rfl, _, rfl⟩
   refine dys rfl rfl rfl rfl rfl rfl <| dys rfl rfl rfl rfl rfl rfl <| dys rfl rfl rfl rfl rfl rfl <| dys rfl rfl rfl rfl rfl rfl <| dys rfl rfl rfl rfl rfl rfl <| dys rfl rfl rfl rfl rfl rfl <| ?_
   refine dcs rfl rfl rfl rfl rfl rfl <| dr_s <| dys rfl rfl rfl rfl rfl rfl <| dy rfl (fun _ => yd_pickF rfl rfl) rfl rfl <| dA rfl rfl rfl <| dA rfl rfl rfl <| ?_
   refine dn <| st_ret <| ?_
   exact st_doneM (css := [cs]) (.tmp rfl (.tmp rfl .nil)) rfl [⟨b, cs, ty, false⟩, ⟨b1, [.int .i64 z.a.n, .int .i64 z.a.d, .pointer z.a.p, .int .i64 z.b.n, .int .i64 z.b.d, .pointer z.b.p, .int .i64 z.c.n, .int .i64 z.c.d, .pointer z.c.p], 105, true⟩] (List.Perm.swap ..) (.cons_cons _ (List.nil_sublist _)) ⟨rfl, _, rfl⟩
 have e2 : ((i : Int) + (j : Int)) / 2 = (((i + j) / 2 : Nat) : Int) := by omega
 refine zK <| st_block <| sR <| sm rfl rfl <| sm rfl rfl <| sy (yd_add64 rfl rfl) rfl <| sy (yd_toU64 rfl) rfl <| sy (yd_shr rfl rfl (by decide)) rfl <| ?_
 rw [shr1, e2]
 have hh : (i + j) / 2 < c.length := by omega
 have hh1 : i ≤ (i + j) / 2 := by omega
 have hh2 : (i + j) / 2 < j := by omega
 have hbs : bsq (angAt c l) i j = if angAt c l ((i + j) / 2) then bsq (angAt c l) ((i + j) / 2 + 1) j else bsq (angAt c l) i ((i + j) / 2) := by
   conv => lhs; rw [bsq]
   rw [dif_pos (by omega)]
 generalize (i + j) / 2 = h at hh hh1 hh2 hbs
 obtain ⟨f, hf, hff⟩ := hfs.get (List.getElem?_eq_getElem hh)
 refine sy (yd_toI64 rfl) rfl <| sa rfl rfl <| zE <| st_seq <| dr (fun _ => false) [(0, true), (1, true), (2, true), (3, true), (4, true), (5, true), (6, false), (7, true)] follows (by kernel_rfl) <| ?_
 refine dM rfl rfl rfl <| dM rfl rfl rfl <| dM rfl rfl rfl <| dy rfl (fun _ => yd_ixO rfl rfl (by omega) (by omega)) rfl rfl <| ?_
 refine dy rfl (fun _ => yd_load_own rfl (by rw [Int.toNat_natCast]; exact tk h f hf)) rfl rfl <| dL rfl rfl rfl rfl <| ?_
 refine dc rfl rfl (zC rfl rfl (Clip_cmp hff hl hk) rfl ?_)
 rintro _ G7 _ rfl
 refine dr_s <| dy rfl (fun _ => yd_lss rfl rfl) rfl rfl <| dn <| ?_
 refine st_condP rfl (fun hc1 => ?_) (fun hc1 => ?_) -- slot 31
 · -- yes
   refine st_region <| sm rfl rfl <| sy (yd_add64 rfl rfl) rfl <| sa rfl rfl <| zE <| ?_
   exact st_again (h + 1, j) ⟨hh2, hj, by rw [← hq, hbs, if_pos (by rw [ang h _ (List.getElem?_eq_getElem hh)]; exact decide_eq_true hc1)]⟩ (by show j - (h + 1) < j - i; omega) (.cons rfl (.cons rfl (.cons rfl (.cons rfl (.cons rfl (.cons rfl .nil)))))) rfl
 refine st_region <| sm rfl rfl <| sa rfl rfl <| zE <| ?_
 exact st_again (i, h) ⟨hh1, Nat.le_of_lt hh, by rw [← hq, hbs, if_neg (by rw [ang h _ (List.getElem?_eq_getElem hh)]; simpa using hc1)]⟩ (by show h - i < j - i; omega) (.cons rfl (.cons rfl (.cons rfl (.cons rfl (.cons rfl (.cons rfl .nil)))))) rfl
end Go.Sx
end

section
set_option maxRecDepth 100000
namespace Go.Sx
open Go Go.Proofs
theorem takeL_dropF {vs rest : List Value} (h : ∀ v ∈ vs, (cellsL v).length = 17) {i : Nat} (hi : i ≤ vs.length) : takeL (flatL vs ++ rest) (i * 17) ((vs.length - i) * 17) = some (flatL (vs.drop i)) := by
 have hl := flatL_len vs h
 have hd : (flatL (vs.drop i)).length = (vs.length - i) * 17 := by
  rw [flatL_len (s := 17) _ (fun v hv => h v (List.mem_of_mem_drop hv)), List.length_drop]
 rw [takeL_of _ _ _ (by simp only [List.length_append]; omega)]
 congr 1
 rw [List.drop_append_of_le_length (by omega), flatL_drop vs i h hi, List.take_append_of_le_length (by omega), List.take_of_length_le (by omega)]
theorem ins_cells {vs rest vcs : List Value} (h : ∀ v ∈ vs, (cellsL v).length = 17) (hv : vcs.length = 17) {i : Nat} (hi : i < vs.length) (hr : 17 ≤ rest.length) :
  ovw (ovw (flatL vs ++ rest) ((i + 1) * 17) (flatL (vs.drop i))) (i * 17) vcs = flatL (vs.take i) ++ vcs ++ flatL (vs.drop i) ++ rest.drop 17 := by
 have hl := flatL_len vs h
 have hd : (flatL (vs.drop i)).length = (vs.length - i) * 17 := by
  rw [flatL_len (s := 17) _ (fun v hv => h v (List.mem_of_mem_drop hv)), List.length_drop]
 have ht : (flatL (vs.take i)).length = i * 17 := by
  rw [flatL_len (s := 17) _ (fun v hv => h v (List.mem_of_mem_take hv)), List.length_take, Nat.min_eq_left (by omega)]
 rw [ovw_spec (flatL (vs.drop i)) (flatL vs ++ rest) _ (by rw [List.length_append]; omega)]
 rw [ovw_spec vcs _ _ (by simp only [List.length_append, List.length_take, List.length_drop]; omega)]
 have e1 : (flatL vs ++ rest).drop ((i + 1) * 17 + (flatL (vs.drop i)).length) = rest.drop 17 := by
  rw [hd, show (i + 1) * 17 + (vs.length - i) * 17 = (flatL vs).length + 17 by omega, List.drop_append, List.drop_eq_nil_of_le (by omega), List.nil_append]
  congr 1
  omega
 have e2 : ((flatL vs ++ rest).take ((i + 1) * 17) ++ flatL (vs.drop i) ++ rest.drop 17).take (i * 17) = flatL (vs.take i) := by
  rw [List.append_assoc, List.take_append_of_le_length (by simp only [List.length_take, List.length_append]; omega), List.take_take, Nat.min_eq_left (by omega), List.take_append_of_le_length (by omega), flatL_take vs i h (by omega)]
 have e3 : ((flatL vs ++ rest).take ((i + 1) * 17) ++ flatL (vs.drop i) ++ rest.drop 17).drop (i * 17 + vcs.length) = flatL (vs.drop i) ++ rest.drop 17 := by
  rw [hv, List.append_assoc, show i * 17 + 17 = ((flatL vs ++ rest).take ((i + 1) * 17)).length by simp only [List.length_take, List.length_append]; omega, List.drop_left]
 rw [e1, e2, e3]
 simp [List.append_assoc]
theorem app_cells {vs rest vcs : List Value} (h : ∀ v ∈ vs, (cellsL v).length = 17) (hv : vcs.length = 17) (hr : 17 ≤ rest.length) : ovw (flatL vs ++ rest) (vs.length * 17) vcs = flatL vs ++ vcs ++ rest.drop 17 := by
 have hl := flatL_len vs h
 rw [ovw_spec _ _ _ (by simp only [List.length_append]; omega), hv, ← hl, List.take_left, List.drop_append]
 simp
set_option maxHeartbeats 1000000 in
theorem sides_insert {G : Gh} {b bv cap i : Nat} {vs rest vcs : List Value} {lo lo2 : Bool} (hvs : ∀ v ∈ vs, (cellsL v).length = 17) (hfl : ∀ v ∈ vs, ∀ c ∈ cellsL v, flat c = true) (hv : vcs.length = 17) (hvf : ∀ c ∈ vcs, flat c = true)
   (hcap : vs.length * 17 + rest.length = cap * 17) (hroom : vs.length + 1 ≤ cap) (hi : i ≤ vs.length) (hb : vs.length ≤ 1125899906842624) :
   FnM Tryz.prog 156 [.slice (some ⟨b, 0, none⟩) vs.length cap, .int .i64 i, .slice (some ⟨bv, 0, none⟩) 1 1] [⟨b, flatL vs ++ rest, 196, lo⟩, ⟨bv, vcs, 196, lo2⟩] G
     (fun u css _ => u = .slice (some ⟨b, 0, none⟩) (vs.length + 1) cap ∧ css = [flatL (vs.take i) ++ vcs ++ flatL (vs.drop i) ++ rest.drop 17, vcs]) := by
 have hL : (flatL vs ++ rest).length = cap * 17 := by rw [List.length_append, flatL_len vs hvs]; exact hcap
 have hr : 17 ≤ rest.length := by omega
 have hD : (flatL (vs.drop i)).length = (vs.length - i) * 17 := by
   rw [flatL_len (s := 17) _ (fun v hv => hvs v (List.mem_of_mem_drop hv)), List.length_drop]
 have hDf : ∀ c ∈ flatL (vs.drop i), flat c = true := fun c hc => by
   obtain ⟨l, hl, hcl⟩ := List.mem_flatten.1 hc
   obtain ⟨v, hv, rfl⟩ := List.mem_map.1 hl
   exact hfl v (List.mem_of_mem_drop hv) c hcl
 have hvt : takeL vcs 0 (1 * 17) = some vcs := by rw [takeL_of _ _ _ (by omega), List.drop_zero, List.take_of_length_le (by omega)]
 refine FnM.intro Tryz.func156 rfl rfl Tryz.ntmps156 rfl ?_
 intro C _ _
 show St C _ _ [⟨b, flatL vs ++ rest, 196, false⟩, ⟨bv, vcs, 196, false⟩] _ _
 refine st_apart (fun hne => ?_)
 simp only [] at hne
 refine sR <| sa rfl rfl <| zE <| sR <| sm rfl rfl <| sm rfl rfl <| sy (yd_slice_lo rfl rfl (by omega) (by omega)) rfl <| zE <| sR <| ?_
 refine sm rfl rfl <| slen rfl rfl <| sa rfl rfl <| zE <| st_seq <| sR <| sm rfl rfl <| sy (yd_eql rfl rfl) rfl <| zE <| st_condF rfl <| ?_
 refine zK <| sR <| sm rfl rfl <| slen rfl rfl <| sa rfl rfl <| zE <| st_seq <| sR <| sm rfl rfl <| sm rfl rfl <| sy (yd_eql rfl rfl) rfl <| zE <| ?_
 refine st_condP rfl (fun hc => ?_) (fun hc => ?_) -- slot 22
 · have hin : i = vs.length := by omega
   subst hin
   refine sR <| sm rfl rfl <| sm rfl rfl <| ?_
   refine sc (ch_append_room (s := 17) (m := 1) (ys := vcs) rfl rfl (.hd ..) hL (src_own inferInstance hvt) (by omega) hvf hroom rfl ?_)
   refine sa rfl rfl <| zE <| st_ret <| ?_
   refine st_doneM (css := [ovw (flatL vs ++ rest) (vs.length * 17) vcs, vcs]) (.tmp rfl .nil) rfl _ (List.Perm.refl _) (List.Sublist.refl _) ⟨rfl, ?_⟩
   rw [app_cells hvs hv hr, List.take_length, List.drop_length]
   simp [flatL]
 have hin : i < vs.length := by omega
 have hn1 : ((vs.length : Int) + ((1 : Nat) : Int)).toNat = vs.length + 1 := by omega
 have ht1 : ((i : Int) + ((1 : Nat) : Int)).toNat = i + 1 := by omega
 refine zK <| st_seq <| sR <| sm rfl rfl <| sm rfl rfl <| sy (yd_add64 rfl rfl) rfl <| sm rfl rfl <| ?_
 refine sy (yd_cap rfl) rfl <| sy (yd_gtr rfl rfl) rfl <| zE <| ?_
 refine st_condP rfl (fun hc2 => ?_) (fun hc2 => ?_) -- slot 31
 · exact absurd hc2 (by omega)
 refine zK <| sR <| sm rfl rfl <| sm rfl rfl <| sm rfl rfl <| sy (yd_add64 rfl rfl) rfl <| sy (yd_slice_hi rfl rfl (by omega) (by omega)) rfl <| ?_
 rw [hn1]
 refine sa rfl rfl <| zE <| st_seq <| sR <| sm rfl rfl <| sm rfl rfl <| sm rfl rfl <| sm rfl rfl <| sy (yd_add64 rfl rfl) rfl <| sy (yd_slice_loB rfl rfl (by omega) (by omega) (by omega)) rfl <| ?_
 refine sy (yd_overlaps (tS := 111) (tR := 4) Tryz.func197 (by kernel_rfl) (by kernel_rfl) (by kernel_rfl) (by kernel_rfl) rfl rfl (Ne.symm hne) (fun h => by rw [h] at hL; simp at hL; omega)) rfl <| ?_
 refine sy (yd_not rfl) rfl <| zE <| st_condT rfl <| ?_
 refine st_seq <| dr0 (b := b) (fun _ => false) [(0, true), (1, true), (2, true), (3, true), (4, true), (5, true), (6, true), (7, true), (8, false)] follows (.hd ..) (by kernel_rfl) <| dM rfl rfl rfl <| ?_
 refine dM rfl rfl rfl <| dM rfl rfl rfl <| dy rfl (fun _ => yd_add64 rfl rfl (by omega) (by omega)) rfl rfl <| dy rfl (fun _ => yd_slice_loB rfl rfl (by omega) (by omega) (by omega)) rfl rfl <| ?_
 refine dM rfl rfl rfl <| dM rfl rfl rfl <| dy rfl (fun _ => yd_slice_loB rfl rfl (by omega) (by omega) (by omega)) rfl rfl <| ?_
 rw [ht1, Int.toNat_natCast, Nat.zero_add, Nat.zero_add]
 refine dc rfl rfl (ch_copy (s := 17) (m := vs.length - i) (ys := flatL (vs.drop i)) rfl rfl (by show min _ _ = _; omega) (src_own inferInstance (takeL_dropF hvs hi)) hDf (by rw [hD, hL]; omega) (.hd ..) rfl ?_)
 refine dr_s <| dn <| sR <| sm rfl rfl <| sm rfl rfl <| sy (yd_slice_loB rfl rfl (by omega) (by omega) (by omega)) rfl <| sm rfl rfl <| ?_
 rw [Int.toNat_natCast, Nat.zero_add]
 refine sc (ch_copy (s := 17) (m := 1) (ys := vcs) rfl rfl (by show min _ _ = _; omega) (src_own inferInstance hvt) hvf (by rw [ovw_len, hL, hv]; omega) (.hd ..) rfl ?_)
 refine zE <| sR <| sm rfl rfl <| sa rfl rfl <| zE <| st_ret <| ?_
 refine st_doneM (css := [ovw (ovw (flatL vs ++ rest) ((i + 1) * 17) (flatL (vs.drop i))) (i * 17) vcs, vcs]) (.tmp rfl .nil) rfl _ (List.Perm.refl _) (List.Sublist.refl _) ⟨rfl, ?_⟩
 rw [ins_cells hvs hv hin hr]
end Go.Sx
end

section
set_option maxRecDepth 100000
namespace Go.Sx
open Go Go.Proofs
section
variable {P : Program} {C : Ctx} {n : Nat} {fr : Fr} {own own' : List Own} {G : Gh} {Φ : Act → World → Prop}
variable {dst : Option Nat} {t t' ty' : TypeId} {pos : String} {af : Array Edge} {gd : Option (Nat × Bool)} {x y : Operand} {e s by_ : Nat}
theorem ch_make0 [hT : TySl P t e s by_] {z : Value} [hz : TyZ P e z] {k k' : IntKind} {l : Int} (hx : opv fr x = some (.int k 0)) (hy : opv fr y = some (.int k' l)) (h0 : 0 ≤ l) (hb : by_ * l ≤ 2 ^ 47) (hl : l ≤ 2 ^ 60) (hs : (cellsL z).length = s) (hd : dstOk n dst = true)
   (h : ∀ b, St C n (put fr dst (.slice (some ⟨b, 0, none⟩) 0 l.toNat)) (⟨b, zeros z l.toNat, e, true⟩ :: own) G Φ) :
   Ch P C n fr own G ⟨dst, .makeSlice t x y, ty', pos, af, gd⟩ Φ := by
 intro a w Q rl
 have h1 : (Instr.makeSlice t (a.eval x) (a.eval y)).run P w = .ok (.slice (some ⟨w.heap.size, 0, none⟩) 0 l.toNat) (w.alloc (.cells ⟨zeros z l.toNat⟩ e)) := by
   obtain ⟨i, hi, hib⟩ := run_bytes (P := P) (t := t) (e := e) (s := s) (by_ := by_) w
   rw [opv_eval rl.fr hx, opv_eval rl.fr hy]
   unfold Instr.makeSlice
   rw [run_ok_bind (hT.u w)]
   simp only [asInt, asIntOf]
   rw [run_ok_bind (a := 0) (w' := w) rfl, run_ok_bind (a := l) (w' := w) rfl, run_ok_bind hi, hib]
   have hw : IntKind.i64.wrap l = l := wrap_in (by simp [IntKind.min, IntKind.max, IntKind.signed, IntKind.bits]; omega)
   have hw0 : IntKind.i64.wrap 0 = 0 := rfl
   simp only [hw, hw0]
   have c1 : ¬ ((by_ : Int) * l > 2 ^ 48) := by
     have : (2:Int)^47 ≤ 2^48 := by decide
     omega
   have c5 : decide ((by_ : Int) * l > 2 ^ 48) = false := decide_eq_false c1
   have c2 : decide (l < 0) = false := decide_eq_false (by omega)
   have c4 : decide ((0 : Int) > l) = false := by simp; omega
   simp only [c2, c4, c5, Bool.false_or, Int.lt_irrefl, decide_false, Bool.or_false, Bool.false_eq_true, if_false]
   have hr : ¬ (l.toNat * by_ > roomBytes) := by
     unfold roomBytes
     have : ((l.toNat * by_ : Nat) : Int) = by_ * l := by rw [Int.natCast_mul, Int.toNat_of_nonneg h0, Int.mul_comm]
     have h47 : ((2 ^ 47 : Nat) : Int) = 2 ^ 47 := by decide
     omega
   unfold askRoom
   simp only [hr, if_false]
   rw [run_ok_bind (run_pure _ _ _), run_ok_bind (hT.siz w)]
   have hn : l.toNat * s = l.toNat * (cellsL z).length := by rw [hs]
   by_cases h00 : l.toNat * s = 0
   · rw [if_pos h00, run_ok_bind (run_pure _ _ _)]
     have e0 : zeros z l.toNat = [] := List.eq_nil_of_length_eq_zero (by rw [zeros_len, hs]; exact h00)
     rw [h00, e0, show (Array.range 0) = #[] from rfl, Array.map_empty]
     rfl
   · rw [if_neg h00, run_ok_bind (hz.zero w), cells_eq]
     rw [run_ok_bind (run_pure _ _ _), range_zeros hn]
     rfl
 refine ch_value (v := .slice (some ⟨w.heap.size, 0, none⟩) 0 l.toNat) (value_of h1) (h w.heap.size _ _ ((rl.heap (rl.h.alloc _ _)).put _ hd))
end
theorem row_app (fs : List FrV) (g : FrV) {rest : List Value} (hr : 17 ≤ rest.length) : ovw (flatL (fs.map FrV.val) ++ rest) (fs.length * 17) (cellsL g.val) = flatL ((fs ++ [g]).map FrV.val) ++ rest.drop 17 := by
 have h := app_cells (vs := fs.map FrV.val) (rest := rest) (vcs := cellsL g.val) (FrV.len17 fs) rfl hr
 rw [List.length_map] at h
 rw [h, List.map_append, flatL_app, List.map_singleton, flatL_one]
theorem row_ins (fs : List FrV) (g : FrV) (i : Nat) (rest : List Value) : flatL ((fs.map FrV.val).take i) ++ cellsL g.val ++ flatL ((fs.map FrV.val).drop i) ++ rest.drop 17 = flatL ((fs.take i ++ g :: fs.drop i).map FrV.val) ++ rest.drop 17 := by
 rw [List.map_append, List.map_cons, flatL_app, show g.val :: (fs.drop i).map FrV.val = [g.val] ++ (fs.drop i).map FrV.val from rfl, flatL_app, flatL_one, List.map_take, List.map_drop, ← List.append_assoc]
set_option maxHeartbeats 2000000 in
theorem Cell_Clip {A B G : Gh} {x : SV} {z : LV} {c : CellQ} {l : LnQ} {k : Nat} (hx : IsC k A x c) (hl : IsL k B z l) [GL A G] [GL B G] (hk : k ≤ 100000000) (hb : c.length ≤ 1000000) :
   Fn Tryz.prog 103 [.slice x.a x.n x.c, .agg ⟨[.int .i64 z.a.n, .int .i64 z.a.d, .pointer z.a.p, .int .i64 z.b.n, .int .i64 z.b.d, .pointer z.b.p, .int .i64 z.c.n, .int .i64 z.c.d, .pointer z.c.p]⟩] G (fun u G' => ∃ y : SV, u = .tuple #[.slice y.a y.n y.c, .bool (clipB c l)] ∧ IsC k G' y (clipC c l)) := by
 have hpart : ∀ {G : Gh} [GL A G] [GL B G], Fn Tryz.prog 149 [.slice x.a x.n x.c, .agg ⟨[.int .i64 z.a.n, .int .i64 z.a.d, .pointer z.a.p, .int .i64 z.b.n, .int .i64 z.b.d, .pointer z.b.p, .int .i64 z.c.n, .int .i64 z.c.d, .pointer z.c.p]⟩] G _ := fun {G} _ _ => Cell_part (G := G) hx hl hk (by omega)
 have hplace : ∀ {G : Gh} [GL A G] [GL B G], Fn Tryz.prog 150 [.slice x.a x.n x.c, .agg ⟨[.int .i64 z.a.n, .int .i64 z.a.d, .pointer z.a.p, .int .i64 z.b.n, .int .i64 z.b.d, .pointer z.b.p, .int .i64 z.c.n, .int .i64 z.c.d, .pointer z.c.p]⟩] G _ := fun {G} _ _ => Cell_Place (G := G) hx hl hk (by omega)
 have hlen := hx.len
 obtain ⟨fs, hs, hfs⟩ := hx.ex
 obtain ⟨xa, xn, xc⟩ := x
 simp only [] at hlen
 subst hlen
 show Fn _ _ [.slice xa c.length xc, _] _ _
 refine Fn.intro Tryz.func103 rfl rfl Tryz.ntmps103 rfl ?_
 intro C _ _
 refine sR <| ?_
 refine sc (ch_box rfl rfl ?_)
 intro b1
 refine sa rfl rfl <| sa rfl rfl <| zE <| sR <| sm rfl rfl <| slo rfl rfl rfl <| ?_
 refine sc (zC rfl rfl hpart rfl ?_)
 rintro _ G2 _ (⟨hn, rfl⟩ | ⟨v, y, hv, rfl, hy⟩)
 case inl =>
   have e1 : clipC c l = c := by rw [clipC, hn]
   have e2 : clipB c l = decide (0 < placeQ c l) := by rw [clipB, hn]
   refine sm rfl rfl <| sx rfl rfl rfl <| sx rfl rfl rfl <| ?_
   refine sc (ch_alloc rfl ?_)
   intro b3
   refine sc (ch_storeN rfl rfl (by first | (dsimp only [ovw, cellsL, zs1, zs2, Nat.reduceAdd, RV.v, LV.v, PV.v, IvV.v, FrV.val]; done) | exact rfl) (by repeat (first | exact .hd .. | apply OUpd.tl)) rfl (nb rfl) rfl rfl ?_)
   refine sa rfl rfl <| zE <| st_seq <| sR <| sm rfl rfl <| sy (yd_not rfl) rfl <| zE <| st_condT rfl <| ?_
   refine sR <| sm rfl rfl <| sm rfl rfl <| slo rfl rfl rfl <| ?_
   refine sc (zC rfl rfl hplace rfl ?_)
   rintro _ G4 _ rfl
   refine sy (yd_gtr rfl rfl) rfl <| sa rfl rfl <| sa rfl rfl <| zE <| st_ret <| ?_
   exact zD (.tmp rfl (.tmp rfl .nil)) ⟨⟨xa, c.length, xc⟩, by rw [e2]; rfl, by rw [e1]; exact hx.up⟩
 refine sm rfl rfl <| sx rfl rfl rfl <| sx rfl rfl rfl <| ?_
 refine sc (ch_alloc rfl ?_)
 intro b3
 refine sc (ch_storeN rfl rfl (by first | (dsimp only [ovw, cellsL, zs1, zs2, Nat.reduceAdd, RV.v, LV.v, PV.v, IvV.v, FrV.val]; done) | exact rfl) (by repeat (first | exact .hd .. | apply OUpd.tl)) rfl (nb rfl) rfl rfl ?_)
 refine sa rfl rfl <| zE <| st_seq <| sR <| sm rfl rfl <| sy (yd_not rfl) rfl <| zE <| st_condF rfl <| ?_
 refine zK <| sR <| sm rfl rfl <| slen rfl rfl <| sy (yd_add64 rfl rfl) rfl <| ?_
 refine sc (ch_make0 rfl rfl (by omega) (by omega) (by omega) (by rfl) rfl ?_)
 intro b5
 rw [show ((c.length : Int) + 1).toNat = c.length + 1 by omega]
 refine sa rfl rfl <| zE <| st_seq <| sR <| sm rfl rfl <| slen rfl rfl <| sm rfl rfl <| zE <| st_block <| ?_
 refine st_loop (X := Nat × List FrV × List Value) (fun q => [(34, .int .i64 q.1), (33, .int .i64 c.length), (32, .slice xa c.length xc), (3, .pointer (some ⟨b1, 0, none⟩)), (8, .slice (some ⟨b5, 0, none⟩) q.2.1.length (c.length + 1)), (6, .pointer (some ⟨b3, 0, none⟩))])
   (fun q => [⟨b5, flatL (q.2.1.map FrV.val) ++ q.2.2, 196, true⟩, ⟨b3, [.int .i64 y.lo.n, .int .i64 y.lo.d, .pointer y.lo.p, .int .i64 y.hi.n, .int .i64 y.hi.d, .pointer y.hi.p, .bool y.nl, .bool y.nh], 194, true⟩, ⟨b1, [.int .i64 z.a.n, .int .i64 z.a.d, .pointer z.a.p, .int .i64 z.b.n, .int .i64 z.b.d, .pointer z.b.p, .int .i64 z.c.n, .int .i64 z.c.d, .pointer z.c.p], 105, true⟩])
   (fun q G => q.1 ≤ c.length ∧ q.2.1.length ≤ q.1 ∧ q.2.1.length * 17 + q.2.2.length = (c.length + 1) * 17 ∧ ∃ o, All2 (IsFr k G) q.2.1 o ∧ o ++ cutsV l (c.drop q.1) = cutsV l c) (fun q => c.length - q.1) (0, [], zeros (.agg ⟨[.int .i64 0, .int .i64 0, .pointer none, .int .i64 0, .int .i64 0, .pointer none, .int .i64 0, .int .i64 0, .pointer none, .int .i64 0, .int .i64 0, .pointer none, .int .i64 0, .int .i64 0, .pointer none, .bool false, .bool false]⟩) (c.length + 1))
   ⟨Nat.zero_le _, Nat.le_refl _, by rw [zeros_len]; show 0 * 17 + (c.length + 1) * 17 = _; omega, [], .nil, rfl⟩ (.cons rfl (.cons rfl (.cons rfl (.cons rfl (.cons rfl (.cons rfl .nil)))))) rfl ?_
 rintro ⟨i, os, rest⟩ Gx _ ⟨hi, hol, hot, o, ho, hoq⟩
 simp only [] at hi hol hot ho hoq
 refine sR <| sy (yd_lss rfl rfl) rfl <| zE <| st_seq <| ?_
 refine st_condE rfl (fun hc => ?_) (fun hc => ?_) -- slot 35
 · rw [List.drop_eq_nil_of_le (by omega)] at hoq
   have hoc : o = cutsV l c := by rw [← hoq]; simp [cutsV]
   subst hoc
   have hol2 := ho.len
   have e1 : clipC c l = insQ (cutsV l c) l v := by rw [clipC, hv]
   have e2 : clipB c l = true := by rw [clipB, hv]
   refine st_exit <| st_te <| st_te <| st_inBlock_eq <| sR <| sm rfl rfl <| slo rfl rfl rfl <| ?_
   rw [hol2]
   refine sc (ch_callM rfl rfl (List.Perm.refl _) (sides_search ho hl hk (by omega)) rfl ?_)
   rintro _ css G6 _ _ ⟨rfl, bb, rfl⟩
   show St C _ _ [⟨b5, _, _, true⟩, ⟨b3, _, _, true⟩, ⟨b1, _, _, true⟩] _ _
   have hble := (bsq_le (angAt (cutsV l c) l) (cutsV l c).length 0 (cutsV l c).length (by omega) (by omega)).2
   have hins : insQ (cutsV l c) l v = (cutsV l c).take (bsq (angAt (cutsV l c) l) 0 (cutsV l c).length) ++ ⟨l, v⟩ :: (cutsV l c).drop (bsq (angAt (cutsV l c) l) 0 (cutsV l c).length) := rfl
   generalize bsq (angAt (cutsV l c) l) 0 (cutsV l c).length = at_ at hble hins
   refine sm rfl rfl <| sx rfl rfl rfl <| sx rfl rfl rfl <| sa rfl rfl <| sa rfl rfl <| zE <| sR <| sm rfl rfl <| sm rfl rfl <| slo rfl rfl rfl <| slo rfl rfl rfl <| sy (yd_build rfl) rfl <| ?_
   refine sc (ch_slice1 rfl (by rfl) (by rfl) (by decide) (by decide) rfl ?_)
   intro b7
   have hmap : (os.map FrV.val).length = (cutsV l c).length := by rw [List.length_map, hol2]
   have hI := sides_insert (G := G6) (b := b5) (bv := b7) (cap := c.length + 1) (i := at_) (vs := os.map FrV.val) (rest := rest) (vcs := cellsL (FrV.val ⟨z, y⟩)) (lo := true) (lo2 := true) (FrV.len17 os) (FrV.flat os) rfl (FrV.flat [⟨z, y⟩] _ List.mem_cons_self)
     (by rw [List.length_map]; exact hot) (by rw [List.length_map]; omega) (by omega) (by omega)
   rw [hmap] at hI
   refine sc (ch_callM rfl rfl (List.Perm.swap ..) hI rfl ?_)
   rintro _ css G8 _ _ ⟨rfl, rfl⟩
   show St C _ _ [⟨b5, _, _, true⟩, ⟨b7, _, _, true⟩, ⟨b3, _, _, true⟩, ⟨b1, _, _, true⟩] _ _
   rw [row_ins]
   refine sa rfl rfl <| sa rfl rfl <| zE <| st_ret <| ?_
   refine st_freeze b5 (.hd ..) ?_
   intro G9 _ hfz
   refine zD (.tmp rfl (.tmp rfl .nil)) ⟨⟨some ⟨b5, 0, none⟩, (cutsV l c).length + 1, c.length + 1⟩, by rw [e2]; rfl, ?_⟩
   rw [e1, hins]
   have hnl : ((os.take at_ ++ ⟨z, y⟩ :: os.drop at_).map FrV.val).length = (cutsV l c).length + 1 := by
     simp; omega
   refine ⟨⟨os.take at_ ++ ⟨z, y⟩ :: os.drop at_, ?_, ((ho.imp fun _ _ h => h.up).take at_).app (.cons ⟨hl.up, hy.up⟩ ((ho.imp fun _ _ h => h.up).drop at_))⟩⟩
   rw [← hnl]
   exact IsSl.of_flat (s := 17) (FrV.len17 _) hfz.h (by rw [hnl]; omega)
 have hi1 : i < c.length := by omega
 obtain ⟨f, hf, hff⟩ := hfs.get (List.getElem?_eq_getElem hi1)
 have hfi : (fs.map FrV.val)[i]? = some (.agg ⟨[.int .i64 f.l.a.n, .int .i64 f.l.a.d, .pointer f.l.a.p, .int .i64 f.l.b.n, .int .i64 f.l.b.d, .pointer f.l.b.p, .int .i64 f.l.c.n, .int .i64 f.l.c.d, .pointer f.l.c.p, .int .i64 f.v.lo.n, .int .i64 f.v.lo.d, .pointer f.v.lo.p, .int .i64 f.v.hi.n, .int .i64 f.v.hi.d, .pointer f.v.hi.p, .bool f.v.nl, .bool f.v.nh]⟩) := by rw [List.getElem?_map, hf]; rfl
 rw [List.drop_eq_getElem_cons hi1, cutsV] at hoq
 refine zK <| st_seq <| st_block <| sR <| sy (yd_ix (z := ⟨xa, c.length, xc⟩) hs rfl rfl (by omega) (by show (i : Int) < (c.length : Int); omega)) rfl <| ?_
 rw [Int.toNat_natCast]
 refine sy (yd_ldA (i := i) hs rfl (by rw [List.length_map, hfs.len]; exact hi1) hfi) rfl <| ?_
 refine sc (ch_alloc rfl ?_)
 intro b9
 refine sc (ch_storeN rfl rfl (by first | (dsimp only [ovw, cellsL, zs1, zs2, Nat.reduceAdd, RV.v, LV.v, PV.v, IvV.v, FrV.val]; done) | exact rfl) (by repeat (first | exact .hd .. | apply OUpd.tl)) rfl (nb rfl) rfl rfl ?_)
 refine zE <| sR <| sf rfl rfl <| slo rfl rfl rfl <| sf rfl rfl <| slo rfl rfl rfl <| slo rfl rfl rfl <| ?_
 refine sc (zC rfl rfl (Ln_Cut hff.l hff.v hl (by omega)) rfl ?_)
 rintro _ G10 _ ⟨y', rfl, hy'⟩
 refine sm rfl rfl <| sx rfl rfl rfl <| sx rfl rfl rfl <| ?_
 refine sc (ch_alloc rfl ?_)
 intro b11
 refine sc (ch_storeN rfl rfl (by first | (dsimp only [ovw, cellsL, zs1, zs2, Nat.reduceAdd, RV.v, LV.v, PV.v, IvV.v, FrV.val]; done) | exact rfl) (by repeat (first | exact .hd .. | apply OUpd.tl)) rfl (nb rfl) rfl rfl ?_)
 refine sa rfl rfl <| zE <| sR <| sm rfl rfl <| zE <| ?_
 refine st_condB rfl (fun hc1 => ?_) (fun hc1 => ?_) -- slot 47
 · rw [if_pos hc1] at hoq
   refine st_region <| sm rfl rfl <| sf rfl rfl <| slo rfl rfl rfl <| slo rfl rfl rfl <| sy (yd_build rfl) rfl <| ?_
   refine sc (ch_slice1 rfl (by rfl) (by rfl) (by decide) (by decide) rfl ?_)
   intro b12
   refine sc (ch_append_room (s := 17) (m := 1) (b := b5) (len := os.length) (ys := cellsL (FrV.val ⟨f.l, y'⟩)) rfl rfl (.tl _ _ _ _ _ _ _ _ (.tl _ _ _ _ _ _ _ _ (.tl _ _ _ _ _ _ _ _ (.hd ..)))) (by rw [List.length_append, flatL_len (s := 17) _ (FrV.len17 os), List.length_map]; exact hot) (src_own inferInstance rfl) rfl (FrV.flat [⟨f.l, y'⟩] _ List.mem_cons_self) (by omega) rfl ?_)
   have hr17 : 17 ≤ rest.length := by omega
   rw [row_app os ⟨f.l, y'⟩ (rest := rest) hr17]
   refine sa rfl rfl <| zE <| st_region <| sy (yd_add64 rfl rfl) rfl <| sm rfl rfl <| zE <| ?_
   refine st_drop _ (.cons _ (.cons _ (.cons _ (List.Sublist.refl _)))) ?_
   exact st_again (i + 1, os ++ [⟨f.l, y'⟩], rest.drop 17) ⟨hi1, by simp; omega, by simp; omega, o ++ [⟨c[i].l, c[i].l.cutV c[i].v l⟩], (ho.imp fun _ _ h => h.up).app (.cons ⟨hff.l.up, hy'.up⟩ .nil), by rw [← hoq]; simp⟩ (by show c.length - (i + 1) < c.length - i; omega) (.cons rfl (.cons rfl (.cons rfl (.cons rfl (.cons (show look _ 8 = some (.slice (some ⟨b5, 0, none⟩) (os ++ [(⟨f.l, y'⟩ : FrV)]).length (c.length + 1)) from by rw [List.length_append]; rfl) (.cons rfl .nil)))))) rfl
 rw [if_neg (by simp [hc1])] at hoq
 refine zK <| st_region <| sy (yd_add64 rfl rfl) rfl <| sm rfl rfl <| zE <| ?_
 refine st_drop _ (.cons _ (.cons _ (List.Sublist.refl _))) ?_
 exact st_again (i + 1, os, rest) ⟨hi1, by show os.length ≤ i + 1; omega, hot, o, ho.imp fun _ _ h => h.up, hoq⟩ (by show c.length - (i + 1) < c.length - i; omega) (.cons rfl (.cons rfl (.cons rfl (.cons rfl (.cons rfl (.cons rfl .nil)))))) rfl
end Go.Sx
end

section
set_option maxRecDepth 100000
namespace Go.Sx
open Go Go.Proofs
theorem Cell_Divide {A B G : Gh} {x : SV} {z : LV} {c : CellQ} {l : LnQ} {k : Nat} (hx : IsC k A x c) (hl : IsL k B z l) [GL A G] [GL B G] (hk : k ≤ 100000000) (hb : c.length ≤ 1000000) :
  Fn Tryz.prog 47 [.slice x.a x.n x.c, .agg ⟨[.int .i64 z.a.n, .int .i64 z.a.d, .pointer z.a.p, .int .i64 z.b.n, .int .i64 z.b.d, .pointer z.b.p, .int .i64 z.c.n, .int .i64 z.c.d, .pointer z.c.p]⟩] G (fun u G' => ∃ y1 y2 : SV, u = .tuple #[.slice y1.a y1.n y1.c, .slice y2.a y2.n y2.c, .bool (clipB c l), .bool (clipB c l.rev)] ∧ IsC k G' y1 (clipC c l) ∧ IsC k G' y2 (clipC c l.rev)) := by
 refine Fn.intro Tryz.func47 rfl rfl Tryz.ntmps47 rfl ?_
 intro C _ _
 refine sR <| ?_
 refine sc (ch_box rfl rfl ?_)
 intro b1
 refine sa rfl rfl <| sa rfl rfl <| sa rfl rfl <| sa rfl rfl <| zE <| sR <| sm rfl rfl <| slo rfl rfl rfl <| ?_
 refine sc (zC rfl rfl (Cell_Clip hx hl hk hb) rfl ?_)
 rintro _ G2 _ ⟨y1, rfl, hy1⟩
 refine sm rfl rfl <| sx rfl rfl rfl <| sx rfl rfl rfl <| sa rfl rfl <| sa rfl rfl <| zE <| sR <| sm rfl rfl <| slo rfl rfl rfl <| ?_
 refine sc (zC rfl rfl (Ln_Reverse hl (by omega)) rfl ?_)
 rintro _ G3 _ ⟨x4, rfl, h5⟩
 refine sc (zC rfl rfl (Cell_Clip hx h5 hk hb) rfl ?_)
 rintro _ G6 _ ⟨y2, rfl, hy2⟩
 refine sm rfl rfl <| sx rfl rfl rfl <| sx rfl rfl rfl <| sa rfl rfl <| sa rfl rfl <| zE <| sR <| sm rfl rfl <| sm rfl rfl <| sm rfl rfl <| sm rfl rfl <| sa rfl rfl <| sa rfl rfl <| ?_
 refine sa rfl rfl <| sa rfl rfl <| zE <| st_ret <| ?_
 exact zD (.tmp rfl (.tmp rfl (.tmp rfl (.tmp rfl .nil)))) ⟨y1, y2, rfl, hy1.up, hy2.up⟩
end Go.Sx
end
