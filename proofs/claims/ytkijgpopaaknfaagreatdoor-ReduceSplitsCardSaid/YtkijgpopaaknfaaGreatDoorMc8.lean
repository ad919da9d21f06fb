/-
  Package integer. Package integer: Add, Normal, FromInt, Int64. Package integer: Normal, FromInt, Int64. Package frac: the numbers, reduce. Package frac: the simple functions. Package frac: words. Package frac: lowest, Int, Neg, Inv. Package frac: Mul, Inv, Quo, Half. Package frac: Inv, Quo, Half, Add, Sub.
-/
import Derived.Test.YtkijgpopaaknfaaGreatDoorMc7
set_option linter.unusedSimpArgs false
set_option linter.unusedVariables false
section
set_option maxRecDepth 100000
namespace Go.Sx
open Go Go.Proofs
structure IV where
 neg : Bool
 a : SV
def IV.v (z : IV) : Value := .agg ⟨[.bool z.neg, .slice z.a.a z.a.n z.a.c]⟩
def zv (neg : Bool) (u : Nat) : Int := if neg then -(u : Int) else u
theorem zv_abs (neg : Bool) (u : Nat) : (zv neg u).natAbs = u := by cases neg <;> simp [zv]
theorem zv_neg (neg : Bool) (u : Nat) : zv (!neg) u = - zv neg u := by cases neg <;> simp [zv]
theorem zv_mul (n m : Bool) (u w : Nat) : zv (n != m) (u * w) = zv n u * zv m w := by cases n <;> cases m <;> simp [zv, Int.neg_mul, Int.mul_neg]
theorem zv_neg_lt (neg : Bool) (u : Nat) : decide (zv neg u < 0) = (neg && decide (0 < u)) := by
 cases neg <;> simp [zv]
theorem zv_eta (m : Int) : zv (decide (m < 0)) m.natAbs = m := by
 unfold zv
 by_cases h : m < 0 <;> simp [h] <;> omega
structure IsI (k : Nat) (G : Gh) (z : IV) (m : Int) : Prop where
 neg : z.neg = decide (m < 0)
 abs : IsN k G z.a m.natAbs
theorem IsI.up {k : Nat} {A G : Gh} {z : IV} {m : Int} (h : IsI k A z m) [GL A G] : IsI k G z m := ⟨h.neg, h.abs.up⟩
theorem IsI.dvl {k : Nat} {G : Gh} {z : IV} {m : Int} (h : IsI k G z m) : dv (dg m.natAbs) = m.natAbs := h.abs.dvl
theorem IsI.zv {k : Nat} {G : Gh} {z : IV} {m : Int} (h : IsI k G z m) : zv z.neg m.natAbs = m := by rw [h.neg]; exact zv_eta m
theorem IsI.len {k : Nat} {G : Gh} {z : IV} {m : Int} (h : IsI k G z m) : 32 * (dg m.natAbs).length ≤ k + 31 := dg_len_le h.abs.lt
theorem IsI.mk' {k : Nat} {G : Gh} {x : SV} {neg : Bool} {u : Nat} (h : IsN k G x u) : IsI k G ⟨neg && decide (0 < u), x⟩ (Go.Sx.zv neg u) :=
 ⟨(zv_neg_lt neg u).symm, by rw [zv_abs]; exact h⟩
theorem IsN.pos {k : Nat} {G : Gh} {x : SV} {u : Nat} (h : IsN k G x u) : decide (0 < (x.n : Int)) = decide (0 < u) := by
 have h1 := h.len
 rw [h1]
 congr 1
 rcases Nat.eq_zero_or_pos u with h0 | h0
 · subst h0; unfold dg; simp
 · have : dg u ≠ [] := fun h2 => by
     have := (dg_spec u).1
     rw [h2] at this; simp [dv] at this; omega
   have := List.length_pos_iff.2 this
   simp; omega
theorem integer_Norm {A G : Gh} {x : SV} {neg : Bool} {ds : List Nat} {k : Nat} (hx : IsD A x ds) [GL A G] (hk : dv ds < 2 ^ k) (hb : ds.length ≤ 1125899906842) :
   Fn Tryz.prog 179 [.agg ⟨[.bool neg, .slice x.a x.n x.c]⟩] G (fun v G' => ∃ z : IV, v = z.v ∧ IsI k G' z (zv neg (dv ds))) := by
 refine Fn.intro Tryz.func179 rfl rfl Tryz.ntmps179 rfl ?_
 intro C _ _
 refine sR <| ?_
 refine sc (ch_box rfl rfl ?_)
 intro b1
 refine sc (ch_alloc rfl ?_)
 intro b2
 refine st_end <| sR <| sf rfl rfl <| slo1 rfl rfl rfl <| ?_
 refine sc (ch_call rfl rfl (nat_Norm hx hk hb) rfl ?_)
 rintro _ G3 _ ⟨z, rfl, hz⟩
 have hp := hz.pos
 refine sa rfl rfl <| st_end <| sR <| sf rfl rfl <| slo1 rfl rfl rfl <| sm rfl rfl <| ?_
 cases neg with
 | true =>
   refine syg rfl rfl (yd_move rfl) rfl <| syg rfl rfl (yd_len rfl) rfl <| syg rfl rfl (yd_gtr rfl rfl) rfl <| sy (yd_pickT rfl rfl) rfl <| sm rfl rfl <| sy (yd_build rfl) rfl <| ?_
   refine sc (ch_store rfl rfl (.hd ..) rfl (Nat.le_refl 2) rfl rfl ?_)
   refine st_end <| st_ret <| ?_
   exact st_done (.agg rfl ii ii rfl .nil) ⟨⟨decide (0 < (z.n : Int)), z⟩, rfl, by rw [hp]; exact IsI.mk' (neg := true) hz⟩
 | false =>
   refine ss rfl rfl rfl rfl <| ss rfl rfl rfl rfl <| ss rfl rfl rfl rfl <| sy (yd_pickF rfl rfl) rfl <| sm rfl rfl <| sy (yd_build rfl) rfl <| ?_
   refine sc (ch_store rfl rfl (.hd ..) rfl (Nat.le_refl 2) rfl rfl ?_)
   refine st_end <| st_ret <| ?_
   exact st_done (.agg rfl ii ii rfl .nil) ⟨⟨false, z⟩, rfl, IsI.mk' (neg := false) hz⟩
theorem integer_signed {A G : Gh} {x : SV} {neg : Bool} {u k : Nat} (hx : IsN k A x u) [GL A G] :
   Fn Tryz.prog 234 [.bool neg, .slice x.a x.n x.c] G (fun v G' => ∃ z : IV, v = z.v ∧ IsI k G' z (zv neg u)) := by
 refine Fn.intro Tryz.func234 rfl rfl Tryz.ntmps234 rfl ?_
 intro C _ _
 refine sR <| ?_
 refine sc (ch_alloc rfl ?_)
 intro b1
 have hp := hx.pos
 refine st_end <| sR <| sm rfl rfl <| sm rfl rfl <| ?_
 cases neg with
 | true =>
   refine syg rfl rfl (yd_move rfl) rfl <| syg rfl rfl (yd_len rfl) rfl <| syg rfl rfl (yd_gtr rfl rfl) rfl <| sy (yd_pickT rfl rfl) rfl <| sm rfl rfl <| sy (yd_build rfl) rfl <| ?_
   refine sc (ch_store rfl rfl (.hd ..) rfl (Nat.le_refl 2) rfl rfl ?_)
   refine st_end <| st_ret <| ?_
   exact st_done (.agg rfl ii ii rfl .nil) ⟨⟨decide (0 < (x.n : Int)), x⟩, rfl, by rw [hp]; exact IsI.mk' (neg := true) hx.up⟩
 | false =>
   refine ss rfl rfl rfl rfl <| ss rfl rfl rfl rfl <| ss rfl rfl rfl rfl <| sy (yd_pickF rfl rfl) rfl <| sm rfl rfl <| sy (yd_build rfl) rfl <| ?_
   refine sc (ch_store rfl rfl (.hd ..) rfl (Nat.le_refl 2) rfl rfl ?_)
   refine st_end <| st_ret <| ?_
   exact st_done (.agg rfl ii ii rfl .nil) ⟨⟨false, x⟩, rfl, IsI.mk' (neg := false) hx.up⟩
theorem integer_Neg {A G : Gh} {x : SV} {neg : Bool} {ds : List Nat} {k : Nat} (hx : IsD A x ds) [GL A G] (hk : dv ds < 2 ^ k) (hb : ds.length ≤ 1125899906842) :
  Fn Tryz.prog 199 [.agg ⟨[.bool neg, .slice x.a x.n x.c]⟩] G (fun v G' => ∃ z : IV, v = z.v ∧ IsI k G' z (- zv neg (dv ds))) := by
 refine Fn.intro Tryz.func199 rfl rfl Tryz.ntmps199 rfl ?_
 intro C _ _
 refine sR <| ?_
 refine sc (ch_box rfl rfl ?_)
 intro b1
 refine sc (ch_alloc rfl ?_)
 intro b2
 refine st_end <| sR <| sf rfl rfl <| slo1 rfl rfl rfl <| sy (yd_not rfl) rfl <| sf rfl rfl <| slo1 rfl rfl rfl <| sy (yd_build rfl) rfl <| ?_
 refine sc (ch_call rfl rfl (integer_Norm hx hk hb) rfl ?_)
 rintro _ G3 _ ⟨z, rfl, hz⟩
 refine sc (ch_store rfl rfl (.hd ..) rfl (Nat.le_refl 2) rfl rfl ?_)
 refine st_end <| st_ret <| ?_
 exact st_done (.agg rfl ii ii rfl .nil) ⟨z, rfl, by rw [← zv_neg]; exact hz⟩
theorem integer_Sign {A G : Gh} {x : SV} {neg : Bool} {ds : List Nat} (hx : IsD A x ds) [GL A G] (hb : ds.length ≤ 1125899906842624) :
   Fn Tryz.prog 175 [.agg ⟨[.bool neg, .slice x.a x.n x.c]⟩] G (fun v _ => v = .int .i64 (Int.sign (zv neg (dv ds)))) := by
 refine Fn.intro Tryz.func175 rfl rfl Tryz.ntmps175 rfl ?_
 intro C _ _
 refine sR <| ?_
 refine sc (ch_box rfl rfl ?_)
 intro b1
 have hlt := lt_bl (dv ds)
 refine sa rfl rfl <| st_end <| st_seq <| st_block <| sR <| sf rfl rfl <| slo1 rfl rfl rfl <| ?_
 refine sc (ch_call rfl rfl (nat_Bits hx hb) rfl ?_)
 rintro _ G2 _ rfl
 refine sy (yd_eql rfl rfl) rfl <| sa rfl rfl <| st_end <| ?_
 refine st_condP rfl (fun hc => ?_) (fun hc => ?_) -- slot 3
 · have h0 : bl (dv ds) = 0 := by omega
   rw [h0] at hlt
   have h1 : dv ds = 0 := by omega
   refine sR <| sa rfl rfl <| st_end <| st_ret <| ?_
   exact st_done (.tmp rfl .nil) (by rw [h1]; cases neg <;> rfl)
 have h1 : 0 < dv ds := Nat.pos_of_ne_zero fun h => by rw [h, bl_zero] at hc; exact hc rfl
 refine sR <| sf rfl rfl <| slo1 rfl rfl rfl <| sa rfl rfl <| st_end <| ?_
 cases neg with
 | true =>
   refine st_condT rfl <| sR <| sa rfl rfl <| st_end <| st_ret <| ?_
   exact st_done (.tmp rfl .nil) (by rw [Int.sign_eq_neg_one_of_neg (by simp [zv]; omega)]; rfl)
 | false =>
   refine st_condF rfl <| st_skipc <| sR <| sa rfl rfl <| st_end <| st_ret <| ?_
   exact st_done (.tmp rfl .nil) (by rw [Int.sign_eq_one_of_pos (by simp [zv]; omega)]; rfl)
theorem integer_Mul {A B G : Gh} {x y : SV} {n1 n2 : Bool} {ds es : List Nat} {k : Nat} (hx : IsD A x ds) (hy : IsD B y es) [GL A G] [GL B G] (hk : dv ds * dv es < 2 ^ k) (hb : ds.length ≤ 562949953421) (hb2 : es.length ≤ 562949953421) :
  Fn Tryz.prog 231 [.agg ⟨[.bool n1, .slice x.a x.n x.c]⟩, .agg ⟨[.bool n2, .slice y.a y.n y.c]⟩] G (fun v G' => ∃ z : IV, v = z.v ∧ IsI k G' z (zv n1 (dv ds) * zv n2 (dv es))) := by
 refine Fn.intro Tryz.func231 rfl rfl Tryz.ntmps231 rfl ?_
 intro C _ _
 refine sR <| ?_
 refine sc (ch_box rfl rfl ?_)
 intro b1
 refine sc (ch_box rfl rfl ?_)
 intro b2
 refine sc (ch_alloc rfl ?_)
 intro b3
 refine st_end <| st_seq <| dr (fun i => Nat.beq i 11) [(0, true), (1, true), (2, true), (3, true), (4, true), (5, true), (6, true), (7, true), (8, true), (9, false), (10, false), (11, false)] follows (by kernel_rfl) <| ?_
 refine dF rfl rfl rfl <| dL1 rfl rfl rfl rfl <| dF rfl rfl rfl <| dL1 rfl rfl rfl rfl <| ?_
 refine dy rfl (fun _ => yd_neB rfl rfl) rfl rfl <| dF rfl rfl rfl <| dL1 rfl rfl rfl rfl <| dF rfl rfl rfl <| ?_
 refine dL1 rfl rfl rfl rfl <| ?_
 refine dc rfl rfl (ch_call rfl rfl (nat_Mul hx hy hk hb hb2) rfl ?_)
 rintro _ G4 _ ⟨z, rfl, hz⟩
 refine dr_s <| ?_
 refine dc rfl rfl (ch_call rfl rfl (integer_signed hz) rfl ?_)
 rintro _ G5 _ ⟨z, rfl, hz⟩
 refine dr_s <| ?_
 refine dc rfl rfl (ch_store rfl rfl (.hd ..) rfl (Nat.le_refl 2) rfl rfl ?_)
 refine dr_f rfl <| dn <| st_ret <| ?_
 exact st_done (.agg rfl ii ii rfl .nil) ⟨z, rfl, by rw [← zv_mul]; exact hz⟩
end Go.Sx
end

section
set_option maxRecDepth 100000
namespace Go.Sx
open Go Go.Proofs
theorem zv_add_same (n : Bool) (u w : Nat) : zv n (u + w) = zv n u + zv n w := by cases n <;> simp [zv] <;> omega
theorem integer_Add {A B G : Gh} {x y : SV} {n1 n2 : Bool} {ds es : List Nat} {k : Nat} (hx : IsD A x ds) (hy : IsD B y es) [GL A G] [GL B G] (hk : dv ds + dv es < 2 ^ k) (hb : ds.length ≤ 562949953421) (hb2 : es.length ≤ 562949953421) :
   Fn Tryz.prog 230 [.agg ⟨[.bool n1, .slice x.a x.n x.c]⟩, .agg ⟨[.bool n2, .slice y.a y.n y.c]⟩] G (fun v G' => ∃ z : IV, v = z.v ∧ IsI k G' z (zv n1 (dv ds) + zv n2 (dv es))) := by
 refine Fn.intro Tryz.func230 rfl rfl Tryz.ntmps230 rfl ?_
 intro C _ _
 refine sR <| ?_
 refine sc (ch_box rfl rfl ?_)
 intro b1
 refine sc (ch_box rfl rfl ?_)
 intro b2
 refine sc (ch_alloc rfl ?_)
 intro b3
 refine st_end <| st_seq <| sR <| sf rfl rfl <| slo1 rfl rfl rfl <| sf rfl rfl <| slo1 rfl rfl rfl <| sy (yd_eqB rfl rfl) rfl <| st_end <| ?_
 refine st_condE rfl (fun hc => ?_) (fun hc => ?_) -- slot 13
 · have hne : n2 = !n1 := by cases n1 <;> cases n2 <;> first | rfl | (exfalso; revert hc; decide)
   subst hne
   refine st_skipc <| st_seq <| sR <| sf rfl rfl <| slo1 rfl rfl rfl <| sf rfl rfl <| slo1 rfl rfl rfl <| ?_
   refine sc (ch_call rfl rfl (nat_Sub (kk := k) hx hy (by omega) (by omega) (by omega)) rfl ?_)
   rintro _ G6 _ ⟨z, rfl, hz⟩
   refine sm rfl rfl <| sx rfl rfl rfl <| sx rfl rfl rfl <| sa rfl rfl <| sa rfl rfl <| st_end <| sR <| sm rfl rfl <| st_end <| ?_
   refine st_condP rfl (fun hc2 => ?_) (fun hc2 => ?_) -- slot 30
   · refine sR <| sf rfl rfl <| slo1 rfl rfl rfl <| sm rfl rfl <| ?_
     refine sc (ch_call rfl rfl (integer_signed hz) rfl ?_)
     rintro _ G7 _ ⟨z2, rfl, hz2⟩
     refine sc (ch_store rfl rfl (.hd ..) rfl (Nat.le_refl 2) rfl rfl ?_)
     refine st_end <| st_ret <| ?_
     refine st_done (.agg rfl ii ii rfl .nil) ⟨z2, rfl, ?_⟩
     have : zv n1 (dv ds - dv es) = zv n1 (dv ds) + zv (!n1) (dv es) := by cases n1 <;> simp [zv] <;> omega
     rw [← this]; exact hz2
   refine st_skipc <| sR <| sf rfl rfl <| slo1 rfl rfl rfl <| sf rfl rfl <| slo1 rfl rfl rfl <| ?_
   refine sc (ch_call rfl rfl (nat_Sub (kk := k) hy hx (by omega) (by omega) (by omega)) rfl ?_)
   rintro _ G8 _ ⟨z2, rfl, hz2⟩
   refine sm rfl rfl <| sx rfl rfl rfl <| sx rfl rfl rfl <| sa rfl rfl <| sa rfl rfl <| st_end <| sR <| sf rfl rfl <| slo1 rfl rfl rfl <| sm rfl rfl <| ?_
   refine sc (ch_call rfl rfl (integer_signed hz2) rfl ?_)
   rintro _ G9 _ ⟨z3, rfl, hz3⟩
   refine sc (ch_store rfl rfl (.hd ..) rfl (Nat.le_refl 2) rfl rfl ?_)
   refine st_end <| st_ret <| ?_
   refine st_done (.agg rfl ii ii rfl .nil) ⟨z3, rfl, ?_⟩
   have : zv (!n1) (dv es - dv ds) = zv n1 (dv ds) + zv (!n1) (dv es) := by cases n1 <;> simp [zv] <;> omega
   rw [← this]; exact hz3
 · have he : n2 = n1 := by cases n1 <;> cases n2 <;> first | rfl | (exfalso; revert hc; decide)
   subst he
   refine st_seq <| dr (fun i => Nat.beq i 8) [(0, true), (1, true), (2, true), (3, true), (4, true), (5, true), (6, false), (7, false), (8, false)] follows (by kernel_rfl) <| dF rfl rfl rfl <| ?_
   refine dL1 rfl rfl rfl rfl <| dF rfl rfl rfl <| dL1 rfl rfl rfl rfl <| dF rfl rfl rfl <| ?_
   refine dL1 rfl rfl rfl rfl <| ?_
   refine dc rfl rfl (ch_call rfl rfl (nat_Add hx hy hk (by omega) (by omega)) rfl ?_)
   rintro _ G4 _ ⟨z, rfl, hz⟩
   refine dr_s <| ?_
   refine dc rfl rfl (ch_call rfl rfl (integer_signed hz) rfl ?_)
   rintro _ G5 _ ⟨z2, rfl, hz2⟩
   refine dr_s <| ?_
   refine dc rfl rfl (ch_store rfl rfl (.hd ..) rfl (Nat.le_refl 2) rfl rfl ?_)
   refine dr_f rfl <| dn <| st_ret <| ?_
   exact st_done (.agg rfl ii ii rfl .nil) ⟨z2, rfl, by rw [← zv_add_same]; exact hz2⟩
end Go.Sx
end

section
set_option maxRecDepth 100000
namespace Go.Sx
open Go Go.Proofs
theorem wrap_i64 (p : Int) : IntKind.i64.wrap p = (p + 9223372036854775808) % 18446744073709551616 - 9223372036854775808 := by
 have e : IntKind.i64.wrap p = if (true && decide (p % 2 ^ 64 ≥ 2 ^ (64 - 1))) = true then p % 2 ^ 64 - 2 ^ 64 else p % 2 ^ 64 := rfl
 rw [e, show (2 : Int) ^ 64 = 18446744073709551616 by decide, show (2 : Int) ^ (64 - 1) = 9223372036854775808 by decide, Bool.true_and]
 by_cases h : p % 18446744073709551616 ≥ 9223372036854775808
 · rw [decide_eq_true h, if_pos rfl]; omega
 · rw [decide_eq_false h, if_neg (by decide)]; omega
theorem integer_FromInt {G : Gh} {n : Int} {k : Nat} (h0 : -9223372036854775808 ≤ n) (h1 : n ≤ 9223372036854775807) (hk : n.natAbs < 2 ^ k) :
   Fn Tryz.prog 148 [.int .i64 n] G (fun v G' => ∃ z : IV, v = z.v ∧ IsI k G' z n) := by
 refine Fn.intro Tryz.func148 rfl rfl Tryz.ntmps148 rfl ?_
 intro C _ _
 refine sR <| ?_
 refine sc (ch_alloc rfl ?_)
 intro b1
 refine st_end <| sR <| sm rfl rfl <| sy (yd_conv rfl) rfl <| ?_
 rw [wrap_u64]
 refine sa rfl rfl <| st_end <| ?_
 refine st_cut Unit (fun _ => [(0, .int .i64 n), (2, .pointer (some ⟨b1, 0, none⟩)), (3, .int .u64 (n.natAbs : Nat))]) (fun _ => [⟨b1, [.bool false, .slice none 0 0], 44, true⟩]) (fun _ _ => True) ?_ ?_
 · refine sR <| sm rfl rfl <| sy (yd_lss rfl rfl) rfl <| st_end <| ?_
   refine st_condP rfl (fun hc => ?_) (fun hc => ?_) -- slot 7
   · refine st_region <| sm rfl rfl <| sy (yd_neg rfl) rfl <| ?_
     rw [wrap_u64, show (0 - n % 18446744073709551616) % 18446744073709551616 = (n.natAbs : Nat) by omega]
     refine sa rfl rfl <| st_end <| ?_
     exact st_at () trivial (.cons rfl (.cons rfl (.cons rfl .nil))) rfl
   rw [show n % 18446744073709551616 = (n.natAbs : Nat) by omega]
   refine st_skipc <| ?_
   exact st_at () trivial (.cons rfl (.cons rfl (.cons rfl .nil))) rfl
 rintro _ Gx _ _
 refine sR <| sm rfl rfl <| sy (yd_lss rfl rfl) rfl <| sm rfl rfl <| ?_
 refine sc (ch_call rfl rfl (nat_FromUint (by omega)) rfl ?_)
 rintro _ G2 _ ⟨z, rfl, hz⟩
 refine sy (yd_build rfl) rfl <| ?_
 refine sc (ch_store rfl rfl (.hd ..) rfl (Nat.le_refl 2) rfl rfl ?_)
 refine st_end <| st_ret <| ?_
 exact st_done (.agg rfl ii ii rfl .nil) ⟨⟨decide (n < 0), z⟩, rfl, rfl, hz.mono hk⟩
theorem integer_Int64 {A G : Gh} {x : SV} {neg : Bool} {ds : List Nat} (hx : IsD A x ds) [GL A G] (hb : ds.length ≤ 1125899906842624) (hs : dv ds < 9223372036854775808) :
   Fn Tryz.prog 177 [.agg ⟨[.bool neg, .slice x.a x.n x.c]⟩] G (fun v _ => v = .tuple #[.int .i64 (zv neg (dv ds)), .bool true]) := by
 refine Fn.intro Tryz.func177 rfl rfl Tryz.ntmps177 rfl ?_
 intro C _ _
 refine sR <| ?_
 refine sc (ch_box rfl rfl ?_)
 intro b1
 refine sa rfl rfl <| sa rfl rfl <| st_end <| sR <| sf rfl rfl <| slo1 rfl rfl rfl <| ?_
 refine sc (ch_call rfl rfl (nat_Uint hx hb) rfl ?_)
 rintro _ G2 _ rfl
 have h64 : dv ds < 18446744073709551616 := by omega
 rw [if_pos h64, decide_eq_true h64]
 refine sm rfl rfl <| sx rfl rfl rfl <| sx rfl rfl rfl <| sa rfl rfl <| sa rfl rfl <| st_end <| st_seq <| st_block <| sR <| sm rfl rfl <| sm rfl rfl <| ?_
 refine syg rfl rfl (yd_fieldAddr rfl) rfl <| syg rfl rfl (yd_load_own1 rfl rfl) rfl <| sy (yd_pickT rfl rfl) rfl <| sm rfl rfl <| ?_
 cases neg with
 | true =>
   refine syg rfl rfl (yd_move rfl) rfl <| syg rfl rfl (yd_leq rfl rfl) rfl <| sy (yd_pickT rfl rfl) rfl <| sa rfl rfl <| st_end <| ?_
   refine st_condP rfl (fun hc => ?_) (fun hc => ?_) -- slot 12
   · refine sR <| sm rfl rfl <| sy (yd_neg rfl) rfl <| sy (yd_conv rfl) rfl <| ?_
     rw [wrap_u64, wrap_i64, show ((0 - ((dv ds : Nat) : Int)) % 18446744073709551616 + 9223372036854775808) % 18446744073709551616 - 9223372036854775808 = zv true (dv ds) by simp only [zv, if_true]; omega]
     refine sa rfl rfl <| sa rfl rfl <| st_end <| st_ret <| ?_
     exact st_done (.tmp rfl (.tmp rfl .nil)) rfl
   exfalso; omega
 | false =>
   refine ss rfl rfl rfl rfl <| ss rfl rfl rfl rfl <| sy (yd_pickF rfl rfl) rfl <| sa rfl rfl <| st_end <| st_condF rfl <| sR <| sm rfl rfl <| sm rfl rfl <| ?_
   refine syg rfl rfl (yd_fieldAddr rfl) rfl <| syg rfl rfl (yd_load_own1 rfl rfl) rfl <| syg rfl rfl (yd_not rfl) rfl <| sy (yd_pickT rfl rfl) rfl <| sm rfl rfl <| ?_
   refine syg rfl rfl (yd_move rfl) rfl <| syg rfl rfl (yd_leq rfl rfl) rfl <| sy (yd_pickT rfl rfl) rfl <| sa rfl rfl <| st_end <| ?_
   refine st_condP rfl (fun hc => ?_) (fun hc => ?_) -- slot 25
   · refine sR <| sm rfl rfl <| sy (yd_toI64 rfl) rfl <| sa rfl rfl <| sa rfl rfl <| st_end <| st_ret <| ?_
     exact st_done (.tmp rfl (.tmp rfl .nil)) rfl
   exfalso; omega
theorem integer_Normal {A G : Gh} {x : SV} {neg : Bool} {ds : List Nat} (hx : IsD A x ds) [GL A G] (hb : ds.length ≤ 1125899906842624) :
   Fn Tryz.prog 97 [.agg ⟨[.bool neg, .slice x.a x.n x.c]⟩] G (fun v _ => v = .bool (decide (Nrm ds ∧ (neg = true → ds ≠ [])))) := by
 have hlen := hx.len
 refine Fn.intro Tryz.func97 rfl rfl Tryz.ntmps97 rfl ?_
 intro C _ _
 refine sR <| ?_
 refine sc (ch_box rfl rfl ?_)
 intro b1
 refine sa rfl rfl <| st_end <| sR <| sf rfl rfl <| slo1 rfl rfl rfl <| ?_
 refine sc (ch_call rfl rfl (nat_Normal hx hb) rfl ?_)
 rintro _ G2 _ rfl
 refine sm rfl rfl <| ?_
 by_cases hN : Nrm ds
 · rw [decide_eq_true hN]
   refine syg rfl rfl (yd_fieldAddr rfl) rfl <| syg rfl rfl (yd_load_own1 rfl rfl) rfl <| syg rfl rfl (yd_not rfl) rfl <| syg rfl rfl (yd_move rfl) rfl <| ?_
   cases neg with
   | false =>
     refine ss rfl rfl rfl rfl <| ss rfl rfl rfl rfl <| ss rfl rfl rfl rfl <| ss rfl rfl rfl rfl <| syg rfl rfl (yd_pickT rfl rfl) rfl <| sy (yd_pickT rfl rfl) rfl <| sa rfl rfl <| st_end <| st_ret <| ?_
     exact st_done (.tmp rfl .nil) (by simp [hN, tupled])
   | true =>
     refine syg rfl rfl (yd_fieldAddr rfl) rfl <| syg rfl rfl (yd_load_own1 rfl rfl) rfl <| syg rfl rfl (yd_len rfl) rfl <| syg rfl rfl (yd_gtr rfl rfl) rfl <| syg rfl rfl (yd_pickF rfl rfl) rfl <| ?_
     refine sy (yd_pickT rfl rfl) rfl <| sa rfl rfl <| st_end <| st_ret <| ?_
     refine st_done (.tmp rfl .nil) ?_
     show Value.bool (decide ((0 : Int) < (x.n : Int))) = _
     congr 1
     rw [decide_eq_decide]
     constructor
     · intro h
       exact ⟨hN, fun _ h2 => by rw [h2] at hlen; simp at hlen; omega⟩
     · rintro ⟨_, h2⟩
       have := List.length_pos_iff.2 (h2 rfl)
       omega
 · rw [decide_eq_false hN]
   refine ss rfl rfl rfl rfl <| ss rfl rfl rfl rfl <| ss rfl rfl rfl rfl <| ss rfl rfl rfl rfl <| ?_
   refine ssu rfl rfl rfl <| ssu rfl rfl rfl <| ssu rfl rfl rfl <| ssu rfl rfl rfl <| ss rfl rfl rfl rfl <| sy (yd_pickF rfl rfl) rfl <| sa rfl rfl <| st_end <| st_ret <| ?_
   exact st_done (.tmp rfl .nil) (by simp [hN, tupled])
end Go.Sx
end

section
set_option maxRecDepth 100000
namespace Go.Sx
open Go Go.Proofs
structure RV where
 n : Int
 d : Int
 p : Option Addr
def RV.v (z : RV) : Value := .agg ⟨[.int .i64 z.n, .int .i64 z.d, .pointer z.p]⟩
structure SmallR (z : RV) (q : Rat) : Prop where
 p : z.p = none
 n : z.n = q.num
 d : z.d = (q.den : Int) - 1
 b1 : q.num.natAbs < 4611686018427387904
 b2 : q.den < 4611686018427387904
structure BigR (k : Nat) (G : Gh) (z : RV) (q : Rat) : Prop where
 n : z.n = 0
 d : z.d = 0
 ex : ∃ (b : Nat) (x : IV) (y : SV), z.p = some ⟨b, 0, none⟩ ∧ G b = some [.bool x.neg, .slice x.a.a x.a.n x.a.c, .slice y.a y.n y.c] ∧ IsI k G x q.num ∧ IsN k G y q.den
 no : ¬ (q.num.natAbs < 4611686018427387904 ∧ q.den < 4611686018427387904)
def IsR (k : Nat) (G : Gh) (z : RV) (q : Rat) : Prop := q.num.natAbs < 2 ^ k ∧ q.den < 2 ^ k ∧ (SmallR z q ∨ BigR k G z q)
theorem BigR.up {k : Nat} {A G : Gh} {z : RV} {q : Rat} (h : BigR k A z q) [hl : GL A G] : BigR k G z q :=
 ⟨h.n, h.d, let ⟨b, x, y, h1, h2, h3, h4⟩ := h.ex; ⟨b, x, y, h1, hl.le _ _ h2, h3.up, h4.up⟩, h.no⟩
theorem IsR.up {k : Nat} {A G : Gh} {z : RV} {q : Rat} (h : IsR k A z q) [GL A G] : IsR k G z q :=
 ⟨h.1, h.2.1, h.2.2.imp id fun h => h.up⟩
theorem IsR.mono {k k' : Nat} {G : Gh} {z : RV} {q : Rat} (h : IsR k G z q) (h1 : q.num.natAbs < 2 ^ k') (h2 : q.den < 2 ^ k') : IsR k' G z q :=
 ⟨h1, h2, h.2.2.imp id fun h => ⟨h.n, h.d, let ⟨b, x, y, h3, h4, h5, h6⟩ := h.ex; ⟨b, x, y, h3, h4, ⟨h5.neg, h5.abs.mono h1⟩, h6.mono h2⟩, h.no⟩⟩
theorem IsR.zero {k : Nat} {G : Gh} (hk : 1 ≤ k) : IsR k G ⟨0, 0, none⟩ 0 :=
 ⟨Nat.pow_pos (by decide), Nat.one_lt_two_pow (by omega), .inl ⟨rfl, rfl, rfl, by decide, by decide⟩⟩
theorem zv_div {neg : Bool} {u g : Nat} (h : g ∣ u) : zv neg (u / g) = zv neg u / (g : Int) := by
 cases neg
 · simp [zv]
 · simp only [zv, if_true]
   rw [Int.neg_ediv_of_dvd (Int.natCast_dvd_natCast.2 h), Int.natCast_ediv]
theorem rat_num {m : Int} {e : Nat} (he : 0 < e) : (mkRat m e).num = m / ((Nat.gcd m.natAbs e : Nat) : Int) ∧ (mkRat m e).den = e / Nat.gcd m.natAbs e := by
 rw [Rat.num_mkRat, Rat.den_mkRat, if_neg (by omega), if_neg (by omega), Nat.gcd_comm]
 exact ⟨rfl, rfl⟩
theorem bl_le62 {x : Nat} : (((bl x : Nat) : Int) ≤ 62) ↔ x < 4611686018427387904 := by
 have : bl x ≤ 62 ↔ x < 2 ^ 62 := bl_le
 omega
structure FracRed where
 x : SV
 y : SV
 ds : List Nat
 es : List Nat
theorem frac_reduce {A B G : Gh} {x y : SV} {neg : Bool} {ds es : List Nat} {k : Nat} (hx : IsD A x ds) (hy : IsD B y es) [GL A G] [GL B G] (h1 : dv ds < 2 ^ k) (h2 : dv es < 2 ^ k) (hk1 : 1 ≤ k) (hk : k ≤ 1099511627776) (hl1 : ds.length ≤ 112589990684) (hl2 : es.length ≤ 112589990684) :
   Fn Tryz.prog 140 [.agg ⟨[.bool neg, .slice x.a x.n x.c]⟩, .slice y.a y.n y.c] G (fun v G' => ∃ z : RV, v = z.v ∧ IsR k G' z (mkRat (zv neg (dv ds)) (dv es))) := by
 refine Fn.intro Tryz.func140 rfl rfl Tryz.ntmps140 rfl ?_
 intro C _ _
 refine sR <| ?_
 refine sc (ch_box rfl rfl ?_)
 intro b1
 refine sc (ch_alloc rfl ?_)
 intro b2
 refine st_end <| st_seq <| sR <| sm rfl rfl <| ?_
 refine sc (ch_call rfl rfl (nat_Bits hy (by omega)) rfl ?_)
 rintro _ G3 _ rfl
 refine sy (yd_eql rfl rfl) rfl <| sm rfl rfl <| ?_
 have hlt := lt_bl (dv es)
 refine st_caseP 13 rfl (fun hg => ?_) (fun hg => ?_)
 · have he0 : dv es = 0 := by
     have : bl (dv es) = 0 := by omega
     rw [this] at hlt; omega
   refine ss rfl rfl rfl rfl <| ss rfl rfl rfl rfl <| ss rfl rfl rfl rfl <| sy (yd_pickT rfl rfl) rfl <| st_end <| st_condT rfl <| sR <| sy (yd_build rfl) rfl <| ?_
   refine sc (ch_store rfl rfl (.hd ..) rfl (Nat.le_refl 3) rfl rfl ?_)
   refine st_end <| st_ret <| ?_
   exact st_done (.agg rfl ii ii rfl .nil) ⟨⟨0, 0, none⟩, rfl, by rw [he0, Rat.mkRat_zero]; exact .zero hk1⟩
 have he0 : 0 < dv es := Nat.pos_of_ne_zero fun h => by rw [h, bl_zero] at hg; exact hg rfl
 refine syg rfl rfl (yd_load_own rfl rfl) rfl <| ?_
 refine st_chg rfl rfl rfl (ch_call rfl rfl (integer_Sign (x := x) hx (by omega)) rfl ?_)
 rintro _ G4 _ rfl
 refine syg rfl rfl (yd_eql rfl rfl) rfl <| sy (yd_pickF rfl rfl) rfl <| st_end <| ?_
 refine st_condP rfl (fun hc => ?_) (fun hc => ?_) -- slot 17
 · have hm0 : zv neg (dv ds) = 0 := Int.sign_eq_zero_iff_zero.1 hc
   refine sR <| sy (yd_build rfl) rfl <| ?_
   refine sc (ch_store rfl rfl (.hd ..) rfl (Nat.le_refl 3) rfl rfl ?_)
   refine st_end <| st_ret <| ?_
   exact st_done (.agg rfl ii ii rfl .nil) ⟨⟨0, 0, none⟩, rfl, by rw [hm0, Rat.zero_mkRat]; exact .zero hk1⟩
 obtain ⟨hrn, hrd⟩ := rat_num (m := zv neg (dv ds)) he0
 rw [zv_abs] at hrn hrd
 have hgp : 0 < Nat.gcd (dv ds) (dv es) := Nat.gcd_pos_of_pos_right _ he0
 have hgle : Nat.gcd (dv ds) (dv es) < 2 ^ k := Nat.lt_of_le_of_lt (Nat.gcd_le_right _ he0) h2
 rw [← zv_div (Nat.gcd_dvd_left ..)] at hrn
 generalize mkRat (zv neg (dv ds)) (dv es) = q at *
 refine st_skipc <| ?_
 have hdk : dv ds / Nat.gcd (dv ds) (dv es) < 2 ^ k := Nat.lt_of_le_of_lt (Nat.div_le_self _ _) h1
 have hek : dv es / Nat.gcd (dv ds) (dv es) < 2 ^ k := Nat.lt_of_le_of_lt (Nat.div_le_self _ _) h2
 have hqk : q.num.natAbs < 2 ^ k := by rw [hrn, zv_abs]; exact hdk
 have hqd : q.den < 2 ^ k := by rw [hrd]; exact hek
 refine st_cut FracRed (fun q => [(1, .slice q.y.a q.y.n q.y.c), (2, .pointer (some ⟨b1, 0, none⟩)), (4, .pointer (some ⟨b2, 0, none⟩))]) (fun q => [⟨b2, [.int .i64 0, .int .i64 0, .pointer none], 103, true⟩, ⟨b1, [.bool neg, .slice q.x.a q.x.n q.x.c], 44, true⟩])
   (fun q G => (IsD G q.x q.ds ∧ dv q.ds = dv ds / Nat.gcd (dv ds) (dv es) ∧ q.ds.length ≤ 112589990684) ∧ IsD G q.y q.es ∧ dv q.es = dv es / Nat.gcd (dv ds) (dv es) ∧ q.es.length ≤ 112589990684) ?_ ?_
 · refine sR <| sf rfl rfl <| slo1 rfl rfl rfl <| sm rfl rfl <| ?_
   refine sc (ch_call rfl rfl (nat_Gcd (x := x) (y := y) hx hy h1 h2 hk hgle hl1 hl2) rfl ?_)
   rintro _ G5 _ ⟨g, rfl, hg5⟩
   have hlg := lt_bl (Nat.gcd (dv ds) (dv es))
   refine sa rfl rfl <| st_end <| sR <| sm rfl rfl <| ?_
   have hgl := dg_len_le hg5.lt
   refine sc (ch_call rfl rfl (nat_Bits hg5.d (by omega)) rfl ?_)
   rintro _ G6 _ rfl
   rw [hg5.dvl]
   refine sy (yd_gtr rfl rfl) rfl <| st_end <| ?_
   refine st_condP rfl (fun hc2 => ?_) (fun hc2 => ?_) -- slot 25
   · refine sR <| sf rfl rfl <| slo1 rfl rfl rfl <| sm rfl rfl <| ?_
     refine sc (ch_call rfl rfl (nat_DivMod (x := x) (y := g) (k1 := k) (k2 := k) hx hg5.d (by rw [hg5.dvl]; exact hgp) (by rw [hg5.dvl]; exact hdk) (by rw [hg5.dvl]; exact Nat.lt_of_le_of_lt (Nat.mod_le _ _) h1) hl1 (by omega)) rfl ?_)
     rintro _ G7 _ ⟨z1, r1, rfl, hz1, _⟩
     rw [hg5.dvl] at hz1
     refine sm rfl rfl <| sx rfl rfl rfl <| sx rfl rfl rfl <| sx rfl rfl rfl <| sf rfl rfl <| ?_
     refine sc (ch_store1 rfl rfl (.tl _ _ _ _ _ _ _ _ (.hd ..)) (Nat.le_refl 2) rfl rfl ?_)
     refine st_end <| st_region <| sm rfl rfl <| sm rfl rfl <| ?_
     refine sc (ch_call rfl rfl (nat_DivMod (x := y) (y := g) (k1 := k) (k2 := k) hy hg5.d (by rw [hg5.dvl]; exact hgp) (by rw [hg5.dvl]; exact hek) (by rw [hg5.dvl]; exact Nat.lt_of_le_of_lt (Nat.mod_le _ _) h2) hl2 (by omega)) rfl ?_)
     rintro _ G8 _ ⟨z2, r2, rfl, hz2, _⟩
     rw [hg5.dvl] at hz2
     refine sm rfl rfl <| sx rfl rfl rfl <| sx rfl rfl rfl <| sx rfl rfl rfl <| sa rfl rfl <| st_end <| ?_
     have hl3 := dg_len_le hz1.lt
     have hl4 := dg_len_le hz2.lt
     exact st_at ⟨z1, z2, _, _⟩ ⟨⟨hz1.d.up, hz1.dvl, by show (dg _).length ≤ _; omega⟩, hz2.d, hz2.dvl, by show (dg _).length ≤ _; omega⟩ (.cons rfl (.cons rfl (.cons rfl .nil))) rfl
   have hg1 : Nat.gcd (dv ds) (dv es) = 1 := by
     have h3 : bl (Nat.gcd (dv ds) (dv es)) ≤ 1 := by omega
     have h4 := bl_le.1 h3
     omega
   refine st_skipc <| ?_
   exact st_at ⟨x, y, ds, es⟩ ⟨⟨hx.up, by rw [hg1, Nat.div_one], hl1⟩, hy.up, by rw [hg1, Nat.div_one], hl2⟩ (.cons rfl (.cons rfl (.cons rfl .nil))) rfl
 rintro ⟨x', y', ds', es'⟩ Gx _ ⟨hx', hy'⟩
 simp only [] at hx' hy' ⊢
 have hxl' := hx'.2.2
 have hyl' := hy'.2.2
 refine st_seq <| sR <| sf rfl rfl <| slo1 rfl rfl rfl <| ?_
 refine sc (ch_call rfl rfl (nat_Bits hx'.1 (by omega)) rfl ?_)
 rintro _ G9 _ rfl
 refine sy (yd_leq rfl rfl) rfl <| sm rfl rfl <| ?_
 refine st_caseP 46 rfl (fun hg => ?_) (fun hg => ?_)
 · refine syg rfl rfl (yd_move rfl) rfl <| ?_
   refine st_chg rfl rfl rfl (ch_call rfl rfl (nat_Bits hy'.1 (by omega)) rfl ?_)
   rintro _ G10 _ rfl
   refine syg rfl rfl (yd_leq rfl rfl) rfl <| sy (yd_pickT rfl rfl) rfl <| st_end <| ?_
   have hsx := bl_le62.1 hg
   rw [hx'.2.1] at hsx
   refine st_condP rfl (fun hc => ?_) (fun hc => ?_) -- slot 50
   · have hsy := bl_le62.1 hc
     rw [hy'.2.1] at hsy
     have hep : 0 < dv es / Nat.gcd (dv ds) (dv es) := Nat.div_pos (Nat.gcd_le_right _ he0) hgp
     refine sR <| slo rfl rfl rfl <| ?_
     refine sc (ch_call rfl rfl (integer_Int64 (neg := neg) hx'.1 (by omega) (by omega)) rfl ?_)
     rintro _ G11 _ rfl
     rw [hx'.2.1]
     refine sm rfl rfl <| sx rfl rfl rfl <| sx rfl rfl rfl <| sa rfl rfl <| sa rfl rfl <| st_end <| sR <| sm rfl rfl <| ?_
     refine sc (ch_call rfl rfl (nat_Uint hy'.1 (by omega)) rfl ?_)
     rintro _ G12 _ rfl
     rw [hy'.2.1, if_pos (by omega)]
     refine sm rfl rfl <| sx rfl rfl rfl <| sx rfl rfl rfl <| sa rfl rfl <| sa rfl rfl <| st_end <| sR <| sm rfl rfl <| sm rfl rfl <| sy (yd_toI64 rfl) rfl <| ?_
     refine sy (yd_sub64 rfl rfl) rfl <| sy (yd_build rfl) rfl <| ?_
     refine sc (ch_store rfl rfl (.hd ..) rfl (Nat.le_refl 3) rfl rfl ?_)
     refine st_end <| st_ret <| ?_
     exact st_done (.agg rfl ii ii rfl .nil) ⟨⟨_, _, none⟩, rfl, hqk, hqd, .inl ⟨rfl, hrn.symm, by rw [hrd], by rw [hrn, zv_abs]; exact hsx, by rw [hrd]; exact hsy⟩⟩
   have hno : ¬ (q.num.natAbs < 4611686018427387904 ∧ q.den < 4611686018427387904) := fun h => hc (bl_le62.2 (by rw [hy'.2.1, ← hrd]; exact h.2))
   refine st_skipc <| sR <| slo rfl rfl rfl <| ?_
   refine sc (ch_call rfl rfl (integer_Norm (k := k) (neg := neg) hx'.1 (by rw [hx'.2.1]; exact hdk) (by omega)) rfl ?_)
   rintro _ G13 _ ⟨z1, rfl, hz1⟩
   refine sm rfl rfl <| ?_
   refine sc (ch_call rfl rfl (nat_Norm (k := k) hy'.1 (by rw [hy'.2.1]; exact hek) (by omega)) rfl ?_)
   rintro _ G14 _ ⟨z2, rfl, hz2⟩
   rw [hx'.2.1, ← hrn] at hz1
   rw [hy'.2.1, ← hrd] at hz2
   refine sy (yd_build rfl) rfl <| ?_
   refine sc (ch_box rfl rfl ?_)
   intro b15
   refine st_freeze b15 (.hd ..) (fun G15 _ hgb => ?_)
   refine sy (yd_build rfl) rfl <| ?_
   refine sc (ch_store rfl rfl (.hd ..) rfl (Nat.le_refl 3) rfl rfl ?_)
   refine st_end <| st_ret <| ?_
   exact st_done (.agg rfl ii ii rfl .nil) ⟨⟨0, 0, some ⟨b15, 0, none⟩⟩, rfl, hqk, hqd, .inr ⟨rfl, rfl, ⟨b15, z1, z2, rfl, hgb.h, hz1.up, hz2.up⟩, hno⟩⟩
 have hno : ¬ (q.num.natAbs < 4611686018427387904 ∧ q.den < 4611686018427387904) := fun h => hg (bl_le62.2 (by rw [hx'.2.1]; have := h.1; rw [hrn, zv_abs] at this; exact this))
 refine ss rfl rfl rfl rfl <| ss rfl rfl rfl rfl <| ss rfl rfl rfl rfl <| sy (yd_pickF rfl rfl) rfl <| st_end <| st_condF rfl <| st_skipc <| sR <| slo rfl rfl rfl <| ?_
 refine sc (ch_call rfl rfl (integer_Norm (k := k) (neg := neg) hx'.1 (by rw [hx'.2.1]; exact hdk) (by omega)) rfl ?_)
 rintro _ G13 _ ⟨z1, rfl, hz1⟩
 refine sm rfl rfl <| ?_
 refine sc (ch_call rfl rfl (nat_Norm (k := k) hy'.1 (by rw [hy'.2.1]; exact hek) (by omega)) rfl ?_)
 rintro _ G14 _ ⟨z2, rfl, hz2⟩
 rw [hx'.2.1, ← hrn] at hz1
 rw [hy'.2.1, ← hrd] at hz2
 refine sy (yd_build rfl) rfl <| ?_
 refine sc (ch_box rfl rfl ?_)
 intro b15
 refine st_freeze b15 (.hd ..) (fun G15 _ hgb => ?_)
 refine sy (yd_build rfl) rfl <| ?_
 refine sc (ch_store rfl rfl (.hd ..) rfl (Nat.le_refl 3) rfl rfl ?_)
 refine st_end <| st_ret <| ?_
 exact st_done (.agg rfl ii ii rfl .nil) ⟨⟨0, 0, some ⟨b15, 0, none⟩⟩, rfl, hqk, hqd, .inr ⟨rfl, rfl, ⟨b15, z1, z2, rfl, hgb.h, hz1.up, hz2.up⟩, hno⟩⟩
end Go.Sx
end

section
set_option maxRecDepth 100000
namespace Go.Sx
open Go Go.Proofs
theorem frac_abs {G : Gh} {n : Int} (h0 : -9223372036854775808 < n) (h1 : n ≤ 9223372036854775807) :
   Fn Tryz.prog 142 [.int .i64 n] G (fun v _ => v = .int .u64 (n.natAbs : Nat)) := by
 refine Fn.intro Tryz.func142 rfl rfl Tryz.ntmps142 rfl ?_
 intro C _ _
 refine sR <| sa rfl rfl <| st_end <| st_seq <| sR <| sm rfl rfl <| sy (yd_lss rfl rfl) rfl <| st_end <| ?_
 refine st_condP rfl (fun hc => ?_) (fun hc => ?_) -- slot 4
 · refine sR <| sm rfl rfl <| sy (yd_neg rfl) rfl <| ?_
   rw [wrap_i64, show (0 - n + 9223372036854775808) % 18446744073709551616 - 9223372036854775808 = (n.natAbs : Nat) by omega]
   refine sy (yd_toU64 rfl) rfl <| sa rfl rfl <| st_end <| st_ret <| ?_
   exact st_done (.tmp rfl .nil) rfl
 refine st_skipc <| sR <| sm rfl rfl <| sy (yd_toU64 rfl) rfl <| ?_
 rw [show n = (n.natAbs : Nat) by omega]
 refine sa rfl rfl <| st_end <| st_ret <| ?_
 exact st_done (.tmp rfl .nil) rfl
theorem frac_gcd {G : Gh} {a b : Nat} (ha : a < 18446744073709551616) (hb : b < 18446744073709551616) :
   Fn Tryz.prog 141 [.int .u64 (a : Nat), .int .u64 (b : Nat)] G (fun v _ => v = .int .u64 (Nat.gcd a b : Nat)) := by
 refine Fn.intro Tryz.func141 rfl rfl Tryz.ntmps141 rfl ?_
 intro C _ _
 refine sR <| sa rfl rfl <| st_end <| st_seq <| st_block <| ?_
 refine st_loop (X := Nat × Nat) (fun q => [(1, .int .u64 (q.2 : Nat)), (0, .int .u64 (q.1 : Nat))]) (fun _ => []) (fun q _ => q.1 < 18446744073709551616 ∧ q.2 < 18446744073709551616 ∧ Nat.gcd q.1 q.2 = Nat.gcd a b) (fun q => q.2) (a, b)
   ⟨ha, hb, rfl⟩ (.cons rfl (.cons rfl .nil)) rfl ?_
 rintro ⟨u1, v1⟩ Gy _ ⟨hu1, hv1, hgc1⟩
 simp only [] at hu1 hv1 hgc1 ⊢
 refine st_seq <| sR <| sm rfl rfl <| sy (yd_neq rfl rfl) rfl <| st_end <| ?_
 refine st_condE rfl (fun hc => ?_) (fun hc => ?_) -- slot 6
 · have hv0 : v1 = 0 := by omega
   have hue : u1 = Nat.gcd a b := by rw [← hgc1, hv0, Nat.gcd_zero_right]
   refine st_exit <| st_te <| st_te <| st_inBlock_eq <| sR <| sm rfl rfl <| sa rfl rfl <| st_end <| st_ret <| ?_
   exact st_done (.tmp rfl .nil) (by rw [hue]; rfl)
 have hv0 : 0 < v1 := by omega
 refine st_skipc <| st_block <| dr (fun _ => false) [(0, true), (1, true), (2, true), (3, true), (4, true), (5, true)] follows (by kernel_rfl) <| dM rfl rfl rfl <| dM rfl rfl rfl <| ?_
 refine dM rfl rfl rfl <| dy rfl (fun _ => yd_remU rfl rfl (by omega) (by omega)) rfl rfl <| dA rfl rfl rfl <| dA rfl rfl rfl <| dn <| ?_
 exact st_again (v1, u1 % v1) ⟨hv1, Nat.lt_trans (Nat.mod_lt _ hv0) hv1, by show Nat.gcd v1 (u1 % v1) = _; rw [← hgc1, Nat.gcd_comm u1, Nat.gcd_rec v1 u1, Nat.gcd_comm]⟩ (by show u1 % v1 < v1; exact Nat.mod_lt _ hv0) (.cons rfl (.cons rfl .nil)) rfl
theorem R_Zero {A G : Gh} {z : RV} {q : Rat} {k : Nat} (hz : IsR k A z q) [GL A G] :
   Fn Tryz.prog 99 [.agg ⟨[.int .i64 z.n, .int .i64 z.d, .pointer z.p]⟩] G (fun v _ => v = .bool (decide (q.num = 0))) := by
 obtain ⟨hb1, hb2, hz⟩ := hz
 obtain ⟨zn, zd, zp⟩ := z
 show Fn _ _ [.agg ⟨[.int .i64 zn, .int .i64 zd, .pointer zp]⟩] _ _
 refine Fn.intro Tryz.func99 rfl rfl Tryz.ntmps99 rfl ?_
 intro C _ _
 refine sR <| ?_
 refine sc (ch_box rfl rfl ?_)
 intro b1
 refine sa rfl rfl <| st_end <| sR <| sf rfl rfl <| slo1 rfl rfl rfl <| sy (yd_eqP rfl rfl) rfl <| sm rfl rfl <| ?_
 rcases hz with ⟨hp, hn, hd, _, _⟩ | ⟨hn, hd, ⟨b, x, y, hp, hg, hx, hy⟩, hno⟩
 · simp only [] at hp hn hd
   subst hp hn hd
   refine syg rfl rfl (yd_fieldAddr rfl) rfl <| syg rfl rfl (yd_load_own1 rfl rfl) rfl <| syg rfl rfl (yd_eql rfl rfl) rfl <| sy (yd_pickT rfl rfl) rfl <| sa rfl rfl <| st_end <| st_ret <| ?_
   exact st_done (.tmp rfl .nil) rfl
 · simp only [] at hp hn hd
   subst hp hn hd
   have h0 : ¬ q.num = 0 := fun h => hno ⟨by rw [h]; decide, by rw [show q.den = 1 from by have := q.reduced; rw [h] at this; simpa using this]; decide⟩
   refine ss rfl rfl rfl rfl <| ss rfl rfl rfl rfl <| ss rfl rfl rfl rfl <| sy (yd_pickF rfl rfl) rfl <| sa rfl rfl <| st_end <| st_ret <| ?_
   exact st_done (.tmp rfl .nil) (by rw [decide_eq_false h0]; rfl)
theorem R_Sign {A G : Gh} {z : RV} {q : Rat} {k : Nat} (hz : IsR k A z q) [GL A G] (hk : k ≤ 1099511627776) :
   Fn Tryz.prog 184 [.agg ⟨[.int .i64 z.n, .int .i64 z.d, .pointer z.p]⟩] G (fun v _ => v = .int .i64 (Int.sign q.num)) := by
 obtain ⟨hb1, hb2, hz⟩ := hz
 obtain ⟨zn, zd, zp⟩ := z
 show Fn _ _ [.agg ⟨[.int .i64 zn, .int .i64 zd, .pointer zp]⟩] _ _
 refine Fn.intro Tryz.func184 rfl rfl Tryz.ntmps184 rfl ?_
 intro C _ _
 refine sR <| ?_
 refine sc (ch_box rfl rfl ?_)
 intro b1
 refine sa rfl rfl <| st_end <| st_seq <| st_block <| sR <| sf rfl rfl <| slo1 rfl rfl rfl <| sy (yd_neP rfl rfl) rfl <| sa rfl rfl <| st_end <| ?_
 rcases hz with ⟨hp, hn, hd, _, _⟩ | ⟨hn, hd, ⟨b, x, y, hp, hg, hx, hy⟩, hno⟩
 · simp only [] at hp hn hd
   subst hp hn hd
   refine st_condF rfl <| ?_
   refine sR <| sf rfl rfl <| slo1 rfl rfl rfl <| sy (yd_lss rfl rfl) rfl <| sa rfl rfl <| st_end <| ?_
   refine st_condP rfl (fun hc => ?_) (fun hc => ?_) -- slot 13
   · refine sR <| sa rfl rfl <| st_end <| st_ret <| ?_
     exact st_done (.tmp rfl .nil) (by rw [Int.sign_eq_neg_one_of_neg hc]; rfl)
   refine sR <| sf rfl rfl <| slo1 rfl rfl rfl <| sy (yd_gtr rfl rfl) rfl <| sa rfl rfl <| st_end <| ?_
   refine st_condP rfl (fun hc2 => ?_) (fun hc2 => ?_) -- slot 17
   · refine sR <| sa rfl rfl <| st_end <| st_ret <| ?_
     exact st_done (.tmp rfl .nil) (by rw [Int.sign_eq_one_of_pos hc2]; rfl)
   refine st_skipc <| sR <| sa rfl rfl <| st_end <| st_ret <| ?_
   exact st_done (.tmp rfl .nil) (by rw [show q.num = 0 by omega]; rfl)
 · simp only [] at hp hn hd
   subst hp hn hd
   have hg' : GHas A b _ := ⟨hg⟩
   have hl := hx.len
   refine st_condT rfl <| ?_
   refine sR <| sf rfl rfl <| slo1 rfl rfl rfl <| sn rfl rfl <| sf rfl rfl <| slg rfl rfl rfl <| ?_
   refine sc (ch_call rfl rfl (integer_Sign (neg := x.neg) (x := x.a) hx.abs.d (by omega)) rfl ?_)
   rintro _ G2 _ rfl
   rw [hx.dvl, hx.zv]
   refine sa rfl rfl <| st_end <| st_ret <| ?_
   exact st_done (.tmp rfl .nil) rfl
theorem R_Num {A G : Gh} {z : RV} {q : Rat} {k : Nat} (hz : IsR k A z q) [GL A G] (hk : k ≤ 1099511627776) :
   Fn Tryz.prog 146 [.agg ⟨[.int .i64 z.n, .int .i64 z.d, .pointer z.p]⟩] G (fun v G' => ∃ x : IV, v = x.v ∧ IsI k G' x q.num) := by
 obtain ⟨hb1, hb2, hz⟩ := hz
 obtain ⟨zn, zd, zp⟩ := z
 show Fn _ _ [.agg ⟨[.int .i64 zn, .int .i64 zd, .pointer zp]⟩] _ _
 refine Fn.intro Tryz.func146 rfl rfl Tryz.ntmps146 rfl ?_
 intro C _ _
 refine sR <| ?_
 refine sc (ch_box rfl rfl ?_)
 intro b1
 refine sc (ch_alloc rfl ?_)
 intro b2
 refine st_end <| st_seq <| sR <| sf rfl rfl <| slo1 rfl rfl rfl <| sy (yd_neP rfl rfl) rfl <| st_end <| ?_
 rcases hz with ⟨hp, hn, hd, _, _⟩ | ⟨hn, hd, ⟨b, x, y, hp, hg, hx, hy⟩, hno⟩
 · simp only [] at hp hn hd
   subst hp hn hd
   refine st_condF rfl <| ?_
   refine st_skipc <| sR <| sf rfl rfl <| slo1 rfl rfl rfl <| ?_
   refine sc (ch_call rfl rfl (integer_FromInt (k := k) (by omega) (by omega) hb1) rfl ?_)
   rintro _ G4 _ ⟨x, rfl, hx⟩
   refine sc (ch_store rfl rfl (.hd ..) rfl (Nat.le_refl 2) rfl rfl ?_)
   refine st_end <| st_ret <| ?_
   exact st_done (.agg rfl ii ii rfl .nil) ⟨x, rfl, hx⟩
 · simp only [] at hp hn hd
   subst hp hn hd
   have hg' : GHas A b _ := ⟨hg⟩
   have hl := hx.len
   refine st_condT rfl <| ?_
   refine sR <| sf rfl rfl <| slo1 rfl rfl rfl <| sn rfl rfl <| sf rfl rfl <| slg rfl rfl rfl <| ?_
   refine sc (ch_call rfl rfl (integer_Norm (neg := x.neg) (x := x.a) (k := k) hx.abs.d (by rw [hx.dvl]; exact hb1) (by omega)) rfl ?_)
   rintro _ G3 _ ⟨x2, rfl, hx2⟩
   rw [hx.dvl, hx.zv] at hx2
   refine sc (ch_store rfl rfl (.hd ..) rfl (Nat.le_refl 2) rfl rfl ?_)
   refine st_end <| st_ret <| ?_
   exact st_done (.agg rfl ii ii rfl .nil) ⟨x2, rfl, hx2⟩
theorem R_Den {A G : Gh} {z : RV} {q : Rat} {k : Nat} (hz : IsR k A z q) [GL A G] (hk : k ≤ 1099511627776) :
   Fn Tryz.prog 144 [.agg ⟨[.int .i64 z.n, .int .i64 z.d, .pointer z.p]⟩] G (fun v G' => ∃ x : SV, v = x.v ∧ IsN k G' x q.den) := by
 obtain ⟨hb1, hb2, hz⟩ := hz
 obtain ⟨zn, zd, zp⟩ := z
 show Fn _ _ [.agg ⟨[.int .i64 zn, .int .i64 zd, .pointer zp]⟩] _ _
 have hqd : 0 < q.den := Nat.pos_of_ne_zero q.den_nz
 refine Fn.intro Tryz.func144 rfl rfl Tryz.ntmps144 rfl ?_
 intro C _ _
 refine sR <| ?_
 refine sc (ch_box rfl rfl ?_)
 intro b1
 refine sa rfl rfl <| st_end <| st_seq <| sR <| sf rfl rfl <| slo1 rfl rfl rfl <| sy (yd_neP rfl rfl) rfl <| st_end <| ?_
 rcases hz with ⟨hp, hn, hd, _, _⟩ | ⟨hn, hd, ⟨b, x, y, hp, hg, hx, hy⟩, hno⟩
 · simp only [] at hp hn hd
   subst hp hn hd
   refine st_condF rfl <| ?_
   refine st_skipc <| sR <| sf rfl rfl <| slo1 rfl rfl rfl <| sy (yd_add64 rfl rfl) rfl <| ?_
   rw [show (q.den : Int) - 1 + 1 = (q.den : Nat) by omega]
   refine sy (yd_toU64 rfl) rfl <| ?_
   refine sc (ch_call rfl rfl (nat_FromUint (by omega)) rfl ?_)
   rintro _ G3 _ ⟨x, rfl, hx⟩
   refine sa rfl rfl <| st_end <| st_ret <| ?_
   exact st_done (.tmp rfl .nil) ⟨x, rfl, hx.mono hb2⟩
 · simp only [] at hp hn hd
   subst hp hn hd
   have hg' : GHas A b _ := ⟨hg⟩
   have hl := dg_len_le hy.lt
   refine st_condT rfl <| ?_
   refine sR <| sf rfl rfl <| slo1 rfl rfl rfl <| sn rfl rfl <| sf rfl rfl <| slg1 rfl rfl rfl <| ?_
   refine sc (ch_call rfl rfl (nat_Norm (x := y) (k := k) hy.d (by rw [hy.dvl]; exact hb2) (by omega)) rfl ?_)
   rintro _ G2 _ ⟨x2, rfl, hx2⟩
   rw [hy.dvl] at hx2
   refine sa rfl rfl <| st_end <| st_ret <| ?_
   exact st_done (.tmp rfl .nil) ⟨x2, rfl, hx2⟩
end Go.Sx
end

section
set_option maxRecDepth 100000
namespace Go.Sx
open Go Go.Proofs
theorem bits_Mul64' {G : Gh} {x y : Nat} (hx : x < 18446744073709551616) (hy : y < 18446744073709551616) : Fn Tryz.prog 233 [.int .u64 (x : Nat), .int .u64 (y : Nat)] G (fun v _ => v = .tuple #[.int .u64 ((x * y / 18446744073709551616 : Nat) : Int), .int .u64 ((x * y % 18446744073709551616 : Nat) : Int)]) :=
 Fn.of_calls (G := G) (callable_of Tryz.func233 rfl rfl) (fun w => Tryz.bits_Mul64 x y hx hy w)
theorem mul_signs (a b : Int) : a * b = if (a < 0) ↔ (b < 0) then ((a.natAbs * b.natAbs : Nat) : Int) else -((a.natAbs * b.natAbs : Nat) : Int) := by
 rcases (by omega : a < 0 ∨ 0 ≤ a) with h | h <;> rcases (by omega : b < 0 ∨ 0 ≤ b) with h2 | h2
 · rw [if_pos (by simp [h, h2]), Int.natCast_mul, Int.ofNat_natAbs_of_nonpos (Int.le_of_lt h), Int.ofNat_natAbs_of_nonpos (Int.le_of_lt h2), Int.neg_mul_neg]
 · rw [if_neg (by simp [h]; omega), Int.natCast_mul, Int.ofNat_natAbs_of_nonpos (Int.le_of_lt h), Int.natAbs_of_nonneg h2, Int.neg_mul, Int.neg_neg]
 · rw [if_neg (by simp [h2]; omega), Int.natCast_mul, Int.natAbs_of_nonneg h, Int.ofNat_natAbs_of_nonpos (Int.le_of_lt h2), Int.mul_neg, Int.neg_neg]
 · rw [if_pos (by constructor <;> intro <;> omega), Int.natCast_mul, Int.natAbs_of_nonneg h, Int.natAbs_of_nonneg h2]
theorem frac_times {G : Gh} {a b : Int} (ha : a.natAbs < 4611686018427387904) (hb : b.natAbs < 4611686018427387904) :
   Fn Tryz.prog 228 [.int .i64 a, .int .i64 b] G (fun v _ => v = .tuple #[.int .i64 (if a.natAbs * b.natAbs < 4611686018427387904 then a * b else 0), .bool (decide (a.natAbs * b.natAbs < 4611686018427387904))]) := by
 refine Fn.intro Tryz.func228 rfl rfl Tryz.ntmps228 rfl ?_
 intro C _ _
 refine sR <| sa rfl rfl <| sa rfl rfl <| st_end <| sR <| sm rfl rfl <| ?_
 refine sc (ch_call rfl rfl (frac_abs (by omega) (by omega)) rfl ?_)
 rintro _ G1 _ rfl
 refine sm rfl rfl <| ?_
 refine sc (ch_call rfl rfl (frac_abs (by omega) (by omega)) rfl ?_)
 rintro _ G2 _ rfl
 refine sc (ch_call rfl rfl (bits_Mul64' (by omega) (by omega)) rfl ?_)
 rintro _ G3 _ rfl
 have hms := mul_signs a b
 generalize hP : a.natAbs * b.natAbs = P at *
 refine sm rfl rfl <| sx rfl rfl rfl <| sx rfl rfl rfl <| sa rfl rfl <| sa rfl rfl <| st_end <| st_seq <| sR <| sm rfl rfl <| sy (yd_neq rfl rfl) rfl <| sm rfl rfl <| ?_
 refine st_caseP 18 rfl (fun hg => ?_) (fun hg => ?_)
 · have hbig : ¬ P < 4611686018427387904 := by omega
   refine ss rfl rfl rfl rfl <| ss rfl rfl rfl rfl <| sy (yd_pickT rfl rfl) rfl <| st_end <| st_condT rfl <| sR <| sa rfl rfl <| sa rfl rfl <| st_end <| st_ret <| ?_
   exact st_done (.tmp rfl (.tmp rfl .nil)) (by rw [if_neg hbig, decide_eq_false hbig]; rfl)
 have hPm : P % 18446744073709551616 = P := by omega
 rw [hPm]
 refine syg rfl rfl (yd_move rfl) rfl <| syg rfl rfl (yd_geq rfl rfl) rfl <| sy (yd_pickF rfl rfl) rfl <| st_end <| ?_
 refine st_condP rfl (fun hc => ?_) (fun hc => ?_) -- slot 21
 · have hbig : ¬ P < 4611686018427387904 := by omega
   refine sR <| sa rfl rfl <| sa rfl rfl <| st_end <| st_ret <| ?_
   exact st_done (.tmp rfl (.tmp rfl .nil)) (by rw [if_neg hbig, decide_eq_false hbig]; rfl)
 have hsm : P < 4611686018427387904 := by omega
 refine st_skipc <| st_seq <| sR <| sm rfl rfl <| sy (yd_lss rfl rfl) rfl <| sm rfl rfl <| sy (yd_lss rfl rfl) rfl <| sy (yd_neB rfl rfl) rfl <| st_end <| ?_
 refine st_condB rfl (fun hc => ?_) (fun hc => ?_) -- slot 26
 · have hne : ¬ ((a < 0) ↔ (b < 0)) := by
     intro h
     simp [h] at hc
   rw [if_neg hne] at hms
   refine sR <| sm rfl rfl <| sy (yd_toI64 rfl) rfl <| sy (yd_neg rfl) rfl <| ?_
   rw [wrap_i64, show (0 - (P : Int) + 9223372036854775808) % 18446744073709551616 - 9223372036854775808 = a * b by omega]
   refine sa rfl rfl <| sa rfl rfl <| st_end <| st_ret <| ?_
   exact st_done (.tmp rfl (.tmp rfl .nil)) (by rw [if_pos hsm, decide_eq_true hsm]; rfl)
 have he : ((a < 0) ↔ (b < 0)) := by
   simp only [Bool.not_eq_false', beq_iff_eq, decide_eq_decide] at hc
   exact hc
 rw [if_pos he] at hms
 refine st_skipc <| sR <| sm rfl rfl <| sy (yd_toI64 rfl) rfl <| ?_
 rw [← hms]
 refine sa rfl rfl <| sa rfl rfl <| st_end <| st_ret <| ?_
 exact st_done (.tmp rfl (.tmp rfl .nil)) (by rw [if_pos hsm, decide_eq_true hsm]; rfl)
theorem frac_Whole {A G : Gh} {x : SV} {neg : Bool} {ds : List Nat} {k : Nat} (hx : IsD A x ds) [GL A G] (h1 : dv ds < 2 ^ k) (hk1 : 1 ≤ k) (hk : k ≤ 1099511627776) (hl1 : ds.length ≤ 112589990684) :
  Fn Tryz.prog 98 [.agg ⟨[.bool neg, .slice x.a x.n x.c]⟩] G (fun v G' => ∃ z : RV, v = z.v ∧ IsR k G' z (zv neg (dv ds) : Int)) := by
 refine Fn.intro Tryz.func98 rfl rfl Tryz.ntmps98 rfl ?_
 intro C _ _
 refine sR <| ?_
 refine sc (ch_box rfl rfl ?_)
 intro b1
 refine sc (ch_alloc rfl ?_)
 intro b2
 refine st_end <| sR <| slo rfl rfl rfl <| ?_
 refine sc (ch_slice1 rfl (by rfl) (by rfl) (by decide) (by decide) rfl ?_)
 intro b3
 refine st_freeze b3 (.hd ..) (fun G3 _ hgb => ?_)
 have h1D : IsD G3 ⟨some ⟨b3, 0, none⟩, 1, 1⟩ [1] := .of_block (.cons (by decide) .nil) hgb.h rfl (Nat.le_refl _) rfl
 refine sc (ch_call rfl rfl (frac_reduce (k := k) (neg := neg) hx h1D h1 (Nat.lt_of_lt_of_le (by decide : dv [1] < 2 ^ 1) (Nat.pow_le_pow_right (by decide) hk1)) hk1 hk hl1 (by decide)) rfl ?_)
 rintro _ G4 _ ⟨z, rfl, hz⟩
 refine sc (ch_store rfl rfl (.hd ..) rfl (Nat.le_refl 3) rfl rfl ?_)
 refine st_end <| st_ret <| ?_
 refine st_done (.agg rfl ii ii rfl .nil) ⟨z, rfl, ?_⟩
 rw [show dv [1] = 1 by simp [dv], Rat.mkRat_one] at hz
 exact hz
end Go.Sx
end

section
set_option maxRecDepth 100000
namespace Go.Sx
open Go Go.Proofs
theorem i64_small {p : Int} (h : p.natAbs < 9223372036854775808) : IntKind.i64.wrap p = p := by rw [wrap_i64]; omega
theorem frac_lowest {G : Gh} {n : Int} {d k : Nat} (hn : n.natAbs < 4611686018427387904) (hd0 : 0 < d) (hd : d < 4611686018427387904) (h1 : n.natAbs < 2 ^ k) (h2 : d < 2 ^ k) :
   Fn Tryz.prog 229 [.int .i64 n, .int .i64 (d : Nat)] G (fun v G' => ∃ z : RV, v = z.v ∧ IsR k G' z (mkRat n d)) := by
 obtain ⟨hrn, hrd⟩ := rat_num (m := n) hd0
 have hgp : 0 < Nat.gcd n.natAbs d := Nat.gcd_pos_of_pos_right _ hd0
 have hgd : Nat.gcd n.natAbs d ≤ d := Nat.gcd_le_right _ hd0
 have hdv : ((Nat.gcd n.natAbs d : Nat) : Int) ∣ n := Int.ofNat_dvd_left.2 (Nat.gcd_dvd_left ..)
 have hna : (n / ((Nat.gcd n.natAbs d : Nat) : Int)).natAbs ≤ n.natAbs := Int.natAbs_ediv_le_natAbs _ _
 have hda : d / Nat.gcd n.natAbs d ≤ d := Nat.div_le_self _ _
 have hdp : 0 < d / Nat.gcd n.natAbs d := Nat.div_pos hgd hgp
 refine Fn.intro Tryz.func229 rfl rfl Tryz.ntmps229 rfl ?_
 intro C _ _
 refine sR <| ?_
 refine sc (ch_alloc rfl ?_)
 intro b1
 refine st_end <| ?_
 generalize mkRat n d = q at *
 generalize hg : Nat.gcd n.natAbs d = g at *
 refine st_cut Unit (fun _ => [(0, .int .i64 q.num), (1, .int .i64 (q.den : Nat)), (4, .pointer (some ⟨b1, 0, none⟩))]) (fun _ => [⟨b1, [.int .i64 0, .int .i64 0, .pointer none], 103, true⟩]) (fun _ _ => True) ?_ ?_
 · refine sR <| sm rfl rfl <| ?_
   refine sc (ch_call rfl rfl (frac_abs (by omega) (by omega)) rfl ?_)
   rintro _ G2 _ rfl
   refine sm rfl rfl <| sy (yd_toU64 rfl) rfl <| ?_
   refine sc (ch_call rfl rfl (frac_gcd (by omega) (by omega)) rfl ?_)
   rintro _ G3 _ rfl
   rw [hg]
   refine sy (yd_toI64 rfl) rfl <| sa rfl rfl <| st_end <| sR <| sm rfl rfl <| sy (yd_gtr rfl rfl) rfl <| st_end <| ?_
   refine st_condP rfl (fun hc => ?_) (fun hc => ?_) -- slot 13
   · refine dr (fun _ => false) [(0, true), (1, true), (2, true), (3, true), (4, true), (5, true), (6, true), (7, true)] follows (by kernel_rfl) <| dM rfl rfl rfl <| dM rfl rfl rfl <| ?_
     refine dy rfl (fun _ => yd_quow rfl rfl (by omega)) rfl rfl <| ?_
     rw [Int.tdiv_eq_ediv_of_dvd hdv, i64_small (by omega), ← hrn]
     refine dM rfl rfl rfl <| dM rfl rfl rfl <| dy rfl (fun _ => yd_quow rfl rfl (by omega)) rfl rfl <| ?_
     rw [Int.tdiv_eq_ediv_of_nonneg (Int.natCast_nonneg _), ← Int.natCast_ediv, i64_small (by omega), ← hrd]
     refine dA rfl rfl rfl <| dA rfl rfl rfl <| dn <| ?_
     exact st_at () trivial (.cons rfl (.cons rfl (.cons rfl .nil))) rfl
   have hg1 : g = 1 := by omega
   rw [hg1, Int.natCast_one, Int.ediv_one] at hrn
   rw [hg1, Nat.div_one] at hrd
   rw [← hrn, ← hrd]
   refine st_skipc <| ?_
   exact st_at () trivial (.cons rfl (.cons rfl (.cons rfl .nil))) rfl
 rintro _ Gx _ _
 refine sR <| sm rfl rfl <| sm rfl rfl <| sy (yd_sub64 rfl rfl) rfl <| sy (yd_build rfl) rfl <| ?_
 refine sc (ch_store rfl rfl (.hd ..) rfl (Nat.le_refl 3) rfl rfl ?_)
 refine st_end <| st_ret <| ?_
 exact st_done (.agg rfl ii ii rfl .nil) ⟨⟨q.num, (q.den : Int) - 1, none⟩, rfl, by omega, by omega, .inl ⟨rfl, rfl, rfl, by omega, by omega⟩⟩
theorem IsR.int {k : Nat} {G : Gh} {n : Int} (hk : 1 ≤ k) (h : n.natAbs < 2 ^ k) (hs : n.natAbs < 4611686018427387904) : IsR k G ⟨n, 0, none⟩ (n : Rat) :=
 ⟨h, Nat.one_lt_two_pow (by omega), .inl ⟨rfl, rfl, rfl, hs, by show 1 < 4611686018427387904; decide⟩⟩
theorem frac_Int {G : Gh} {n : Int} {k : Nat} (h0 : -9223372036854775808 ≤ n) (h1 : n ≤ 9223372036854775807) (hn : n.natAbs < 2 ^ k) (hk1 : 1 ≤ k) (hk : k ≤ 1099511627776) :
   Fn Tryz.prog 102 [.int .i64 n] G (fun v G' => ∃ z : RV, v = z.v ∧ IsR k G' z (n : Rat)) := by
 refine Fn.intro Tryz.func102 rfl rfl Tryz.ntmps102 rfl ?_
 intro C _ _
 refine sR <| ?_
 refine sc (ch_alloc rfl ?_)
 intro b1
 have big : ∀ (G1 : Gh) (z1 : IV) (b : Nat), IsI k G1 z1 n → GHas G1 b [dI 1] → Fn Tryz.prog 140 [.agg ⟨[.bool z1.neg, .slice z1.a.a z1.a.n z1.a.c]⟩, .slice (some ⟨b, 0, none⟩) 1 1] G1 (fun v G' => ∃ z : RV, v = z.v ∧ IsR k G' z (n : Rat)) := by
   intro G1 z1 b hz hb
   have h1D : IsD G1 ⟨some ⟨b, 0, none⟩, 1, 1⟩ [1] := .of_block (.cons (by decide) .nil) hb.h rfl (Nat.le_refl _) rfl
   have hl := hz.len
   have := frac_reduce (G := G1) (k := k) (neg := z1.neg) (x := z1.a) hz.abs.d h1D (by rw [hz.dvl]; exact hn) (Nat.lt_of_lt_of_le (by decide : dv [1] < 2 ^ 1) (Nat.pow_le_pow_right (by decide) hk1)) hk1 hk (by omega) (by decide)
   rw [show dv [1] = 1 by simp [dv], Rat.mkRat_one, hz.dvl, hz.zv] at this
   exact this
 refine st_end <| st_seq <| sR <| sm rfl rfl <| sy (yd_leq rfl rfl) rfl <| sm rfl rfl <| ?_
 refine st_caseP 5 rfl (fun hg => ?_) (fun hg => ?_)
 · refine ss rfl rfl rfl rfl <| ss rfl rfl rfl rfl <| sy (yd_pickT rfl rfl) rfl <| st_end <| st_condT rfl <| sR <| sm rfl rfl <| ?_
   refine sc (ch_call rfl rfl (integer_FromInt (k := k) h0 h1 hn) rfl ?_)
   rintro _ G2 _ ⟨z1, rfl, hz1⟩
   refine sc (ch_slice1 rfl (by rfl) (by rfl) (by decide) (by decide) rfl ?_)
   intro b3
   refine st_freeze b3 (.hd ..) (fun G3 _ hgb => ?_)
   refine sc (ch_call rfl rfl (big G3 z1 b3 hz1.up hgb) rfl ?_)
   rintro _ G4 _ ⟨z, rfl, hz⟩
   refine sc (ch_store rfl rfl (.hd ..) rfl (Nat.le_refl 3) rfl rfl ?_)
   refine st_end <| st_ret <| ?_
   exact st_done (.agg rfl ii ii rfl .nil) ⟨z, rfl, hz⟩
 refine syg rfl rfl (yd_move rfl) rfl <| syg rfl rfl (yd_geq rfl rfl) rfl <| sy (yd_pickF rfl rfl) rfl <| st_end <| ?_
 refine st_condP rfl (fun hc => ?_) (fun hc => ?_) -- slot 8
 · refine sR <| sm rfl rfl <| ?_
   refine sc (ch_call rfl rfl (integer_FromInt (k := k) h0 h1 hn) rfl ?_)
   rintro _ G2 _ ⟨z1, rfl, hz1⟩
   refine sc (ch_slice1 rfl (by rfl) (by rfl) (by decide) (by decide) rfl ?_)
   intro b3
   refine st_freeze b3 (.hd ..) (fun G3 _ hgb => ?_)
   refine sc (ch_call rfl rfl (big G3 z1 b3 hz1.up hgb) rfl ?_)
   rintro _ G4 _ ⟨z, rfl, hz⟩
   refine sc (ch_store rfl rfl (.hd ..) rfl (Nat.le_refl 3) rfl rfl ?_)
   refine st_end <| st_ret <| ?_
   exact st_done (.agg rfl ii ii rfl .nil) ⟨z, rfl, hz⟩
 refine st_skipc <| sR <| sm rfl rfl <| sy (yd_build rfl) rfl <| ?_
 refine sc (ch_store rfl rfl (.hd ..) rfl (Nat.le_refl 3) rfl rfl ?_)
 refine st_end <| st_ret <| ?_
 exact st_done (.agg rfl ii ii rfl .nil) ⟨⟨n, 0, none⟩, rfl, .int hk1 hn (by omega)⟩
theorem R_Neg {A G : Gh} {z : RV} {q : Rat} {k : Nat} (hz : IsR k A z q) [GL A G] (hk : k ≤ 1099511627776) :
   Fn Tryz.prog 157 [.agg ⟨[.int .i64 z.n, .int .i64 z.d, .pointer z.p]⟩] G (fun v G' => ∃ x : RV, v = x.v ∧ IsR k G' x (-q)) := by
 obtain ⟨hb1, hb2, hz⟩ := hz
 obtain ⟨zn, zd, zp⟩ := z
 show Fn _ _ [.agg ⟨[.int .i64 zn, .int .i64 zd, .pointer zp]⟩] _ _
 refine Fn.intro Tryz.func157 rfl rfl Tryz.ntmps157 rfl ?_
 intro C _ _
 refine sR <| ?_
 refine sc (ch_box rfl rfl ?_)
 intro b1
 refine sc (ch_alloc rfl ?_)
 intro b2
 refine st_end <| st_seq <| sR <| sf rfl rfl <| slo1 rfl rfl rfl <| sy (yd_neP rfl rfl) rfl <| st_end <| ?_
 rcases hz with ⟨hp, hn, hd, hs1, hs2⟩ | ⟨hn, hd, ⟨b, x, y, hp, hg, hx, hy⟩, hno⟩
 · simp only [] at hp hn hd
   subst hp hn hd
   refine st_condF rfl <| ?_
   refine st_skipc <| sR <| sf rfl rfl <| slo1 rfl rfl rfl <| sy (yd_neg rfl) rfl <| ?_
   rw [i64_small (by omega), Int.zero_sub]
   refine sf rfl rfl <| slo1 rfl rfl rfl <| sy (yd_build rfl) rfl <| ?_
   refine sc (ch_store rfl rfl (.hd ..) rfl (Nat.le_refl 3) rfl rfl ?_)
   refine st_end <| st_ret <| ?_
   exact st_done (.agg rfl ii ii rfl .nil) ⟨⟨-q.num, (q.den : Int) - 1, none⟩, rfl, by rw [Rat.neg_num, Int.natAbs_neg]; exact hb1, hb2, .inl ⟨rfl, rfl, rfl, by rw [Rat.neg_num, Int.natAbs_neg]; exact hs1, hs2⟩⟩
 · simp only [] at hp hn hd
   subst hp hn hd
   have hg' : GHas A b _ := ⟨hg⟩
   have hl := hx.len
   refine st_condT rfl <| ?_
   refine st_seq <| dr (fun i => Nat.beq i 14) [(0, true), (1, true), (2, true), (3, true), (4, true), (6, true), (7, true), (8, true), (9, true), (10, true), (5, false), (11, true), (12, false), (13, true), (14, false)] follows (by kernel_rfl) <| ?_
   refine dF rfl rfl rfl <| dL1 rfl rfl rfl rfl <| dy rfl (fun _ => yd_nilCheck rfl) rfl rfl <| dF rfl rfl rfl <| ?_
   refine dy rfl (fun _ => yd_load_gh rfl ghi rfl) rfl rfl <| dF rfl rfl rfl <| dL1 rfl rfl rfl rfl <| dy rfl (fun _ => yd_nilCheck rfl) rfl rfl <| ?_
   refine dF rfl rfl rfl <| dy rfl (fun _ => yd_load_gh1 rfl ghi rfl) rfl rfl <| ?_
   refine dc rfl rfl (ch_call rfl rfl (integer_Neg (neg := x.neg) (x := x.a) (k := k) hx.abs.d (by rw [hx.dvl]; exact hb1) (by omega)) rfl ?_)
   rintro _ G3 _ ⟨x2, rfl, hx2⟩
   rw [hx.dvl, hx.zv] at hx2
   refine dr_s <| dy rfl (fun _ => yd_build rfl) rfl rfl <| ?_
   refine dc rfl rfl (ch_box rfl rfl ?_)
   intro b4
   refine st_freeze b4 (.hd ..) (fun G4 _ hgb => ?_)
   refine dr_s <| dy rfl (fun _ => yd_build rfl) rfl rfl <| ?_
   refine dc rfl rfl (ch_store rfl rfl (.hd ..) rfl (Nat.le_refl 3) rfl rfl ?_)
   refine dr_f rfl <| dn <| st_ret <| ?_
   exact st_done (.agg rfl ii ii rfl .nil) ⟨⟨0, 0, some ⟨b4, 0, none⟩⟩, rfl, by rw [Rat.neg_num, Int.natAbs_neg]; exact hb1, hb2, .inr ⟨rfl, rfl, ⟨b4, x2, y, rfl, hgb.h, hx2.up, hy.up⟩, by rw [Rat.neg_num, Int.natAbs_neg]; exact hno⟩⟩
end Go.Sx
end

section
set_option maxRecDepth 100000
namespace Go.Sx
open Go Go.Proofs
theorem reduce_I {A B G : Gh} {x : IV} {y : SV} {m : Int} {e k : Nat} (hx : IsI k A x m) (hy : IsN k B y e) [GL A G] [GL B G] (hk1 : 1 ≤ k) (hk : k ≤ 1099511627776) :
  Fn Tryz.prog 140 [x.v, y.v] G (fun v G' => ∃ z : RV, v = z.v ∧ IsR k G' z (mkRat m e)) := by
 have hl := hx.len
 have hl2 := dg_len_le hy.lt
 have := frac_reduce (G := G) (neg := x.neg) (x := x.a) (y := y) hx.abs.d hy.d (by rw [hx.dvl]; exact hx.abs.lt) (by rw [hy.dvl]; exact hy.lt) hk1 hk (by omega) (by omega)
 rw [hx.dvl, hx.zv, hy.dvl] at this
 exact this
theorem mul_I {A B G : Gh} {x y : IV} {m e : Int} {k1 k2 : Nat} (hx : IsI k1 A x m) (hy : IsI k2 B y e) [GL A G] [GL B G] (hk : k1 + k2 ≤ 1099511627776) :
  Fn Tryz.prog 231 [x.v, y.v] G (fun v G' => ∃ z : IV, v = z.v ∧ IsI (k1 + k2) G' z (m * e)) := by
 have hl := hx.len
 have hl2 := hy.len
 have := integer_Mul (G := G) (n1 := x.neg) (n2 := y.neg) (x := x.a) (y := y.a) (k := k1 + k2) hx.abs.d hy.abs.d (by rw [hx.dvl, hy.dvl, Nat.pow_add]; exact Nat.mul_lt_mul'' hx.abs.lt hy.abs.lt) (by omega) (by omega)
 rw [hx.dvl, hx.zv, hy.dvl, hy.zv] at this
 exact this
theorem mul_N {A B G : Gh} {x y : SV} {m e : Nat} {k1 k2 : Nat} (hx : IsN k1 A x m) (hy : IsN k2 B y e) [GL A G] [GL B G] (hk : k1 + k2 ≤ 1099511627776) :
  Fn Tryz.prog 143 [x.v, y.v] G (fun v G' => ∃ z : SV, v = z.v ∧ IsN (k1 + k2) G' z (m * e)) := by
 have hl := dg_len_le hx.lt
 have hl2 := dg_len_le hy.lt
 have := nat_Mul (G := G) (x := x) (y := y) (kk := k1 + k2) hx.d hy.d (by rw [hx.dvl, hy.dvl, Nat.pow_add]; exact Nat.mul_lt_mul'' hx.lt hy.lt) (by omega) (by omega)
 rw [hx.dvl, hy.dvl] at this
 exact this
theorem IsR.k1 {k : Nat} {G : Gh} {z : RV} {q : Rat} (h : IsR k G z q) : 1 ≤ k := by
 have h1 := h.2.1
 have h2 : 0 < q.den := Nat.pos_of_ne_zero q.den_nz
 rcases Nat.eq_zero_or_pos k with h3 | h3
 · subst h3; simp at h1; omega
 · exact h3
theorem lt_pow_add {a b k l : Nat} (h : a < 2 ^ k) (h2 : b < 2 ^ l) : a * b < 2 ^ (k + l) := by rw [Nat.pow_add]; exact Nat.mul_lt_mul'' h h2
set_option maxHeartbeats 1000000 in
theorem R_Mul {A B G : Gh} {z1 z2 : RV} {q1 q2 : Rat} {k1 k2 : Nat} (hz1 : IsR k1 A z1 q1) (hz2 : IsR k2 B z2 q2) [GL A G] [GL B G] (hk : k1 + k2 ≤ 1099511627776) :
   Fn Tryz.prog 219 [.agg ⟨[.int .i64 z1.n, .int .i64 z1.d, .pointer z1.p]⟩, .agg ⟨[.int .i64 z2.n, .int .i64 z2.d, .pointer z2.p]⟩] G (fun v G' => ∃ x : RV, v = x.v ∧ IsR (k1 + k2) G' x (q1 * q2)) := by
 have hk11 := hz1.k1
 have hd1 : 0 < q1.den := Nat.pos_of_ne_zero q1.den_nz
 have hd2 : 0 < q2.den := Nat.pos_of_ne_zero q2.den_nz
 have hbn : (q1.num * q2.num).natAbs < 2 ^ (k1 + k2) := by rw [Int.natAbs_mul]; exact lt_pow_add hz1.1 hz2.1
 have hbd : q1.den * q2.den < 2 ^ (k1 + k2) := lt_pow_add hz1.2.1 hz2.2.1
 rw [Rat.mul_def']
 obtain ⟨z1n, z1d, z1p⟩ := z1
 obtain ⟨z2n, z2d, z2p⟩ := z2
 show Fn _ _ [.agg ⟨[.int .i64 z1n, .int .i64 z1d, .pointer z1p]⟩, .agg ⟨[.int .i64 z2n, .int .i64 z2d, .pointer z2p]⟩] _ _
 refine Fn.intro Tryz.func219 rfl rfl Tryz.ntmps219 rfl ?_
 intro C _ _
 refine sR <| ?_
 refine sc (ch_box rfl rfl ?_)
 intro b1
 refine sc (ch_box rfl rfl ?_)
 intro b2
 refine sc (ch_alloc rfl ?_)
 intro b3
 refine st_end <| ?_
 refine st_cut Unit (fun _ => [(2, .pointer (some ⟨b1, 0, none⟩)), (3, .pointer (some ⟨b2, 0, none⟩)), (4, .pointer (some ⟨b3, 0, none⟩))]) (fun _ => [⟨b3, [.int .i64 0, .int .i64 0, .pointer none], 103, true⟩, ⟨b2, [.int .i64 z2n, .int .i64 z2d, .pointer z2p], 103, true⟩, ⟨b1, [.int .i64 z1n, .int .i64 z1d, .pointer z1p], 103, true⟩]) (fun _ _ => True) ?_ ?_
 · refine sR <| sf rfl rfl <| slo1 rfl rfl rfl <| sy (yd_eqP rfl rfl) rfl <| sm rfl rfl <| ?_
   rcases hz1.2.2 with ⟨hp, hn, hd, hs1, hs2⟩ | ⟨hn, hd, ⟨b, x, y, hp, hg, hx, hy⟩, hno⟩
   · simp only [] at hp hn hd
     subst hp hn hd
     refine syg rfl rfl (yd_fieldAddr rfl) rfl <| syg rfl rfl (yd_load_own1 rfl rfl) rfl <| syg rfl rfl (yd_eqP rfl rfl) rfl <| sy (yd_pickT rfl rfl) rfl <| st_end <| ?_
     rcases hz2.2.2 with ⟨hp, hn, hd, hs3, hs4⟩ | ⟨hn, hd, ⟨b, x, y, hp, hg, hx, hy⟩, hno⟩
     · simp only [] at hp hn hd
       subst hp hn hd
       refine st_condT rfl <| ?_
       refine sR <| sf rfl rfl <| slo1 rfl rfl rfl <| sf rfl rfl <| slo1 rfl rfl rfl <| ?_
       refine sc (ch_call rfl rfl (frac_times hs1 hs3) rfl ?_)
       rintro _ G4 _ rfl
       refine sm rfl rfl <| sx rfl rfl rfl <| sx rfl rfl rfl <| sa rfl rfl <| sa rfl rfl <| st_end <| sR <| sf rfl rfl <| slo1 rfl rfl rfl <| sy (yd_add64 rfl rfl) rfl <| ?_
       rw [show (q1.den : Int) - 1 + 1 = (q1.den : Nat) by omega]
       refine sf rfl rfl <| slo1 rfl rfl rfl <| sy (yd_add64 rfl rfl) rfl <| ?_
       rw [show (q2.den : Int) - 1 + 1 = (q2.den : Nat) by omega]
       refine sc (ch_call rfl rfl (frac_times (by rw [Int.natAbs_natCast]; exact hs2) (by rw [Int.natAbs_natCast]; exact hs4)) rfl ?_)
       rintro _ G5 _ rfl
       rw [Int.natAbs_natCast, Int.natAbs_natCast]
       refine sm rfl rfl <| sx rfl rfl rfl <| sx rfl rfl rfl <| sa rfl rfl <| sa rfl rfl <| st_end <| sR <| sm rfl rfl <| sm rfl rfl <| ?_
       by_cases hP1 : q1.num.natAbs * q2.num.natAbs < 4611686018427387904
       · rw [if_pos hP1, decide_eq_true hP1]
         refine syg rfl rfl (yd_move rfl) rfl <| sy (yd_pickT rfl rfl) rfl <| st_end <| ?_
         by_cases hP2 : q1.den * q2.den < 4611686018427387904
         · rw [if_pos hP2, decide_eq_true hP2, ← Int.natCast_mul]
           refine st_condT rfl <| ?_
           refine sR <| sm rfl rfl <| sm rfl rfl <| ?_
           refine sc (ch_call rfl rfl (frac_lowest (k := k1 + k2) (by rw [Int.natAbs_mul]; exact hP1) (Nat.mul_pos hd1 hd2) hP2 hbn hbd) rfl ?_)
           rintro _ G6 _ ⟨z, rfl, hz⟩
           refine sc (ch_store rfl rfl (.hd ..) rfl (Nat.le_refl 3) rfl rfl ?_)
           refine st_end <| st_ret <| ?_
           exact st_done (.agg rfl ii ii rfl .nil) ⟨z, rfl, hz⟩
         rw [decide_eq_false hP2]
         refine st_condF rfl <| st_skipc <| ?_
         exact st_at () trivial (.cons rfl (.cons rfl (.cons rfl .nil))) rfl
       rw [decide_eq_false hP1]
       refine ss rfl rfl rfl rfl <| sy (yd_pickF rfl rfl) rfl <| st_end <| st_condF rfl <| st_skipc <| ?_
       exact st_at () trivial (.cons rfl (.cons rfl (.cons rfl .nil))) rfl
     · simp only [] at hp hn hd
       subst hp hn hd
       refine st_condF rfl <| st_skipc <| ?_
       exact st_at () trivial (.cons rfl (.cons rfl (.cons rfl .nil))) rfl
   · simp only [] at hp hn hd
     subst hp hn hd
     refine ss rfl rfl rfl rfl <| ss rfl rfl rfl rfl <| ss rfl rfl rfl rfl <| sy (yd_pickF rfl rfl) rfl <| st_end <| st_condF rfl <| st_skipc <| ?_
     exact st_at () trivial (.cons rfl (.cons rfl (.cons rfl .nil))) rfl
 rintro _ Gx _ _
 refine st_seq <| dr (fun i => Nat.beq i 11) [(0, true), (2, true), (5, true), (7, true), (1, false), (3, false), (4, false), (6, false), (8, false), (9, false), (10, false), (11, false)] follows (by kernel_rfl) <| ?_
 refine dL rfl rfl rfl rfl <| dL rfl rfl rfl rfl <| dL rfl rfl rfl rfl <| dL rfl rfl rfl rfl <| ?_
 refine dc rfl rfl (ch_call rfl rfl (R_Num (z := ⟨z1n, z1d, z1p⟩) hz1 (by omega)) rfl ?_)
 rintro _ G7 _ ⟨x1, rfl, hx1⟩
 refine dr_s <| ?_
 refine dc rfl rfl (ch_call rfl rfl (R_Num (z := ⟨z2n, z2d, z2p⟩) hz2 (by omega)) rfl ?_)
 rintro _ G8 _ ⟨x2, rfl, hx2⟩
 refine dr_s <| ?_
 refine dc rfl rfl (ch_call rfl rfl (mul_I hx1 hx2 hk) rfl ?_)
 rintro _ G9 _ ⟨x3, rfl, hx3⟩
 refine dr_s <| ?_
 refine dc rfl rfl (ch_call rfl rfl (R_Den (z := ⟨z1n, z1d, z1p⟩) hz1 (by omega)) rfl ?_)
 rintro _ G10 _ ⟨y1, rfl, hy1⟩
 refine dr_s <| ?_
 refine dc rfl rfl (ch_call rfl rfl (R_Den (z := ⟨z2n, z2d, z2p⟩) hz2 (by omega)) rfl ?_)
 rintro _ G11 _ ⟨y2, rfl, hy2⟩
 refine dr_s <| ?_
 refine dc rfl rfl (ch_call rfl rfl (mul_N hy1 hy2 hk) rfl ?_)
 rintro _ G12 _ ⟨y3, rfl, hy3⟩
 refine dr_s <| ?_
 refine dc rfl rfl (ch_call rfl rfl (reduce_I hx3 hy3 (by omega) hk) rfl ?_)
 rintro _ G13 _ ⟨z, rfl, hz⟩
 refine dr_s <| ?_
 refine dc rfl rfl (ch_store rfl rfl (.hd ..) rfl (Nat.le_refl 3) rfl rfl ?_)
 refine dr_f rfl <| dn <| st_ret <| ?_
 exact st_done (.agg rfl ii ii rfl .nil) ⟨z, rfl, hz⟩
end Go.Sx
end

section
set_option maxRecDepth 100000
namespace Go.Sx
open Go Go.Proofs
theorem mkRat_neg_abs {n : Int} {d : Nat} (h : n < 0) : mkRat (-(d : Int)) n.natAbs = Rat.divInt (d : Int) n := by
 rw [← Rat.divInt_ofNat, Int.ofNat_natAbs_of_nonpos (Int.le_of_lt h), Rat.neg_divInt_neg]
theorem rat_inv_num {q : Rat} (h : q.num < 0) : (q⁻¹).num = -(q.den : Int) ∧ (q⁻¹).den = q.num.natAbs := by
 rw [Rat.num_inv, Rat.den_inv, if_neg (by omega), Int.sign_eq_neg_one_of_neg h]
 omega
theorem rat_inv_pos {q : Rat} (h : 0 < q.num) : (q⁻¹).num = (q.den : Int) ∧ (q⁻¹).den = q.num.natAbs := by
 rw [Rat.num_inv, Rat.den_inv, if_neg (by omega), Int.sign_eq_one_of_pos h]
 omega
set_option maxHeartbeats 1000000 in
theorem R_Inv {A G : Gh} {z : RV} {q : Rat} {k : Nat} (hz : IsR k A z q) [GL A G] (hk : k ≤ 1099511627776) :
   Fn Tryz.prog 223 [.agg ⟨[.int .i64 z.n, .int .i64 z.d, .pointer z.p]⟩] G (fun v G' => ∃ x : RV, v = x.v ∧ IsR k G' x q⁻¹) := by
 have hk1 := hz.k1
 obtain ⟨hb1, hb2, hz⟩ := hz
 have hq0 : 0 < q.den := Nat.pos_of_ne_zero q.den_nz
 obtain ⟨zn, zd, zp⟩ := z
 show Fn _ _ [.agg ⟨[.int .i64 zn, .int .i64 zd, .pointer zp]⟩] _ _
 refine Fn.intro Tryz.func223 rfl rfl Tryz.ntmps223 rfl ?_
 intro C _ _
 refine sR <| ?_
 refine sc (ch_box rfl rfl ?_)
 intro b1
 refine sc (ch_alloc rfl ?_)
 intro b2
 refine st_end <| st_seq <| st_block <| sR <| sf rfl rfl <| slo1 rfl rfl rfl <| sy (yd_neP rfl rfl) rfl <| sa rfl rfl <| st_end <| ?_
 rcases hz with ⟨hp, hn, hd, hs1, hs2⟩ | ⟨hn, hd, ⟨b, x, y, hp, hg, hx, hy⟩, hno⟩
 · simp only [] at hp hn hd
   subst hp hn hd
   refine st_condF rfl <| ?_
   refine sR <| sf rfl rfl <| slo1 rfl rfl rfl <| sy (yd_lss rfl rfl) rfl <| sa rfl rfl <| st_end <| ?_
   refine st_condP rfl (fun hc => ?_) (fun hc => ?_) -- slot 26
   · obtain ⟨hi1, hi2⟩ := rat_inv_num hc
     refine sR <| sf rfl rfl <| slo1 rfl rfl rfl <| sy (yd_add64 rfl rfl) rfl <| sy (yd_neg rfl) rfl <| ?_
     rw [i64_small (by omega), show 0 - ((q.den : Int) - 1 + 1) = (q⁻¹).num by omega]
     refine sf rfl rfl <| slo1 rfl rfl rfl <| sy (yd_neg rfl) rfl <| ?_
     rw [i64_small (by omega)]
     refine sy (yd_sub64 rfl rfl) rfl <| ?_
     rw [show 0 - q.num - 1 = ((q⁻¹).den : Int) - 1 by omega]
     refine sy (yd_build rfl) rfl <| ?_
     refine sc (ch_store rfl rfl (.hd ..) rfl (Nat.le_refl 3) rfl rfl ?_)
     refine st_end <| st_ret <| ?_
     exact st_done (.agg rfl ii ii rfl .nil) ⟨⟨_, _, none⟩, rfl, by omega, by omega, .inl ⟨rfl, rfl, rfl, by omega, by omega⟩⟩
   refine sR <| sf rfl rfl <| slo1 rfl rfl rfl <| sy (yd_eql rfl rfl) rfl <| sa rfl rfl <| st_end <| ?_
   refine st_condP rfl (fun hc2 => ?_) (fun hc2 => ?_) -- slot 39
   · refine sR <| sy (yd_build rfl) rfl <| ?_
     refine sc (ch_store rfl rfl (.hd ..) rfl (Nat.le_refl 3) rfl rfl ?_)
     refine st_end <| st_ret <| ?_
     exact st_done (.agg rfl ii ii rfl .nil) ⟨⟨0, 0, none⟩, rfl, by rw [Rat.num_eq_zero.1 hc2, Rat.inv_zero]; exact .zero hk1⟩
   obtain ⟨hi1, hi2⟩ := rat_inv_pos (q := q) (by omega)
   refine st_skipc <| sR <| sf rfl rfl <| slo1 rfl rfl rfl <| sy (yd_add64 rfl rfl) rfl <| ?_
   rw [show (q.den : Int) - 1 + 1 = (q⁻¹).num by omega]
   refine sf rfl rfl <| slo1 rfl rfl rfl <| sy (yd_sub64 rfl rfl) rfl <| ?_
   rw [show q.num - 1 = ((q⁻¹).den : Int) - 1 by omega]
   refine sy (yd_build rfl) rfl <| ?_
   refine sc (ch_store rfl rfl (.hd ..) rfl (Nat.le_refl 3) rfl rfl ?_)
   refine st_end <| st_ret <| ?_
   exact st_done (.agg rfl ii ii rfl .nil) ⟨⟨_, _, none⟩, rfl, by omega, by omega, .inl ⟨rfl, rfl, rfl, by omega, by omega⟩⟩
 · simp only [] at hp hn hd
   subst hp hn hd
   have hg' : GHas A b _ := ⟨hg⟩
   have hl := hx.len
   have hl2 := dg_len_le hy.lt
   refine st_condT rfl <| ?_
   refine st_seq <| dr (fun i => Nat.beq i 19) [(0, true), (1, true), (2, true), (3, true), (4, true), (5, true), (6, true), (7, true), (8, true), (9, true), (10, true), (11, true), (12, true), (13, true), (14, true), (15, true), (16, true), (17, true), (18, false), (19, false)] follows (by kernel_rfl) <| ?_
   refine dF rfl rfl rfl <| dL1 rfl rfl rfl rfl <| dy rfl (fun _ => yd_nilCheck rfl) rfl rfl <| dF rfl rfl rfl <| ?_
   refine dF rfl rfl rfl <| dy rfl (fun _ => yd_load_gh1 rfl ghi rfl) rfl rfl <| dF rfl rfl rfl <| dL1 rfl rfl rfl rfl <| ?_
   refine dy rfl (fun _ => yd_nilCheck rfl) rfl rfl <| dF rfl rfl rfl <| dy rfl (fun _ => yd_load_gh1 rfl ghi rfl) rfl rfl <| dy rfl (fun _ => yd_build rfl) rfl rfl <| ?_
   refine dF rfl rfl rfl <| dL1 rfl rfl rfl rfl <| dy rfl (fun _ => yd_nilCheck rfl) rfl rfl <| dF rfl rfl rfl <| ?_
   refine dF rfl rfl rfl <| dy rfl (fun _ => yd_load_gh1 rfl ghi rfl) rfl rfl <| ?_
   refine dc rfl rfl (ch_call rfl rfl (frac_reduce (k := k) (neg := x.neg) (x := y) (y := x.a) hy.d hx.abs.d (by rw [hy.dvl]; exact hb2) (by rw [hx.dvl]; exact hb1) hk1 hk (by omega) (by omega)) rfl ?_)
   rintro _ G3 _ ⟨z, rfl, hz⟩
   rw [hy.dvl, hx.dvl] at hz
   refine dr_s <| ?_
   refine dc rfl rfl (ch_store rfl rfl (.hd ..) rfl (Nat.le_refl 3) rfl rfl ?_)
   refine dr_f rfl <| dn <| st_ret <| ?_
   refine st_done (.agg rfl ii ii rfl .nil) ⟨z, rfl, ?_⟩
   have : mkRat (zv x.neg q.den) q.num.natAbs = q⁻¹ := by
     rw [Rat.inv_def, hx.neg]
     by_cases h : q.num < 0
     · rw [decide_eq_true h]
       exact mkRat_neg_abs h
     · rw [decide_eq_false h, ← Rat.divInt_ofNat, Int.natAbs_of_nonneg (by omega)]
       rfl
   rw [← this]; exact hz
theorem R_Quo {A B G : Gh} {z1 z2 : RV} {q1 q2 : Rat} {k1 k2 : Nat} (hz1 : IsR k1 A z1 q1) (hz2 : IsR k2 B z2 q2) [GL A G] [GL B G] (hk : k1 + k2 ≤ 1099511627776) :
  Fn Tryz.prog 194 [.agg ⟨[.int .i64 z1.n, .int .i64 z1.d, .pointer z1.p]⟩, .agg ⟨[.int .i64 z2.n, .int .i64 z2.d, .pointer z2.p]⟩] G (fun v G' => ∃ x : RV, v = x.v ∧ IsR (k1 + k2) G' x (q1 / q2)) := by
 refine Fn.intro Tryz.func194 rfl rfl Tryz.ntmps194 rfl ?_
 intro C _ _
 refine sR <| ?_
 refine sc (ch_box rfl rfl ?_)
 intro b1
 refine sc (ch_box rfl rfl ?_)
 intro b2
 refine sc (ch_alloc rfl ?_)
 intro b3
 refine st_end <| st_seq <| dr (fun i => Nat.beq i 4) [(0, true), (1, true), (2, false), (3, false), (4, false)] follows (by kernel_rfl) <| dL rfl rfl rfl rfl <| dL rfl rfl rfl rfl <| ?_
 refine dc rfl rfl (ch_call rfl rfl (R_Inv hz2 (by omega)) rfl ?_)
 rintro _ G4 _ ⟨x, rfl, hx⟩
 refine dr_s <| ?_
 refine dc rfl rfl (ch_call rfl rfl (R_Mul hz1 hx hk) rfl ?_)
 rintro _ G5 _ ⟨z, rfl, hz⟩
 refine dr_s <| ?_
 refine dc rfl rfl (ch_store rfl rfl (.hd ..) rfl (Nat.le_refl 3) rfl rfl ?_)
 refine dr_f rfl <| dn <| st_ret <| ?_
 exact st_done (.agg rfl ii ii rfl .nil) ⟨z, rfl, by rw [Rat.div_def]; exact hz⟩
theorem R_Half {A G : Gh} {z : RV} {q : Rat} {k : Nat} (hz : IsR k A z q) [GL A G] (hk : k ≤ 1099511627774) :
  Fn Tryz.prog 218 [.agg ⟨[.int .i64 z.n, .int .i64 z.d, .pointer z.p]⟩] G (fun v G' => ∃ x : RV, v = x.v ∧ IsR (k + 2) G' x (q * mkRat 1 2)) := by
 refine Fn.intro Tryz.func218 rfl rfl Tryz.ntmps218 rfl ?_
 intro C _ _
 refine sR <| ?_
 refine sc (ch_box rfl rfl ?_)
 intro b1
 refine sc (ch_alloc rfl ?_)
 intro b2
 have hh : ∀ G : Gh, IsR 2 G ⟨1, 1, none⟩ (mkRat 1 2) := fun G => ⟨by decide, by decide, .inl ⟨rfl, by decide, by decide, by decide, by decide⟩⟩
 refine st_end <| sR <| slo rfl rfl rfl <| sy (yd_build rfl) rfl <| ?_
 refine sc (ch_call rfl rfl (R_Mul (z2 := ⟨1, 1, none⟩) hz (hh G) (by omega)) rfl ?_)
 rintro _ G3 _ ⟨x, rfl, hx⟩
 refine sc (ch_store rfl rfl (.hd ..) rfl (Nat.le_refl 3) rfl rfl ?_)
 refine st_end <| st_ret <| ?_
 exact st_done (.agg rfl ii ii rfl .nil) ⟨x, rfl, hx⟩
end Go.Sx
end
