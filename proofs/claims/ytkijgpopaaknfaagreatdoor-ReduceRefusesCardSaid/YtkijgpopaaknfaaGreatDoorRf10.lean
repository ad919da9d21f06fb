/-
  Package nat: DivMod, Gcd. Package integer. Package integer: Add, Normal, FromInt, Int64. Package integer: Normal, FromInt, Int64. Package frac: the numbers, reduce. Package frac: the simple functions. Package frac: words. Package frac: lowest, Int, Neg, Inv. Package frac: Mul, Inv, Quo, Half. Package frac: Inv, Quo, Half, Add, Sub. Package frac: Add, Sub. Package frac: Sub, Cmp, Equal, Min, Max. Package frac: Min, Max. Package frac: Gcd. Package geo: lines; LnOf. Package geo: points and lines. Package geo: values, bases, points on lines. Numbers as deep values; bounds. Reference: digits (over deep values). Reference: natural numbers of any size: sign, Word, Cmp, Sum, Less. Reference: natural numbers of any size: Product, Left, Right, word.
-/
import Derived.Test.YtkijgpopaaknfaaGreatDoorRf9
set_option linter.unusedSimpArgs false
set_option linter.unusedVariables false
section
set_option maxRecDepth 100000
namespace Go.Sx
open Go Go.Proofs
theorem nat_DivMod {A B G : Gh} {x y : SV} {a b : List Nat} {k1 k2 : Nat} (hx : IsD A x a) (hy : IsD B y b) [GL A G] [GL B G] (hb0 : 0 < dv b)
   (hq : dv a / dv b < 2 ^ k1) (hr : dv a % dv b < 2 ^ k2) (hl : a.length ≤ 112589990684) (hl2 : b.length ≤ 112589990684) :
   Fn Tryz.prog 176 [x.v, y.v] G (fun v G' => ∃ z r : SV, v = .tuple #[z.v, r.v, .bool true] ∧ IsN k1 G' z (dv a / dv b) ∧ IsN k2 G' r (dv a % dv b)) := by
 have hla := trimD_len a
 have hlb := trimD_len b
 have hca := fun G1 (_ : GL A G1) => nat_trim (G := G1) hx (by omega)
 have hcb := fun G1 (_ : GL B G1) => nat_trim (G := G1) hy (by omega)
 have hxt := hx.trim
 have hyt := hy.trim
 have hna := Nrm.trimD a
 have hnb := Nrm.trimD b
 rw [← dv_trimD a, ← dv_trimD b] at hq hr ⊢
 rw [← dv_trimD b] at hb0
 generalize trimD a = a' at *
 generalize trimD b = b' at *
 refine Fn.intro Tryz.func176 rfl rfl Tryz.ntmps176 rfl ?_
 intro C _ _
 refine sR <| sa rfl rfl <| sa rfl rfl <| sa rfl rfl <| zE <| sR <| sm rfl rfl <| ?_
 refine sc (zC rfl rfl (hca _ inferInstance) rfl ?_)
 rintro _ G1 _ rfl
 refine sm rfl rfl <| ?_
 refine sc (zC rfl rfl (hcb _ inferInstance) rfl ?_)
 rintro _ G2 _ rfl
 refine sa rfl rfl <| sa rfl rfl <| zE <| st_seq <| st_block <| sR <| sm rfl rfl <| slen rfl rfl <| sy (yd_eql rfl rfl) rfl <| sa rfl rfl <| zE <| ?_
 refine st_condP rfl (fun hc => ?_) (fun hc => ?_) -- slot 15
 · exfalso
   have : b' = [] := List.eq_nil_of_length_eq_zero (by omega)
   rw [this] at hb0
   exact absurd hb0 (by simp [dv])
 refine sR <| sm rfl rfl <| sm rfl rfl <| ?_
 refine sc (zC rfl rfl (nat_Cmp hxt hyt (by omega) (by omega)) rfl ?_)
 rintro _ G3 _ rfl
 refine sy (yd_lss rfl rfl) rfl <| sa rfl rfl <| zE <| ?_
 refine st_condP rfl (fun hc2 => ?_) (fun hc2 => ?_) -- slot 19
 · have hlt : dv a' < dv b' := by
     unfold cmpN at hc2
     split at hc2
     · assumption
     · split at hc2 <;> omega
   refine sR <| sm rfl rfl <| ?_
   refine sc (zC rfl rfl (nat_Clone hxt (by omega)) rfl ?_)
   rintro _ G4 _ ⟨z, rfl, hz⟩
   refine sa rfl rfl <| sa rfl rfl <| sa rfl rfl <| zE <| st_ret <| ?_
   refine zD (.tmp rfl (.tmp rfl (.tmp rfl .nil))) ⟨⟨none, 0, 0⟩, z, rfl, ?_, ?_⟩
   · rw [Nat.div_eq_of_lt hlt]
     exact ⟨by unfold dg; exact .nil _, Nat.pow_pos (by decide)⟩
   · rw [Nat.mod_eq_of_lt hlt] at hr ⊢
     exact ⟨by rw [dg_dv hxt.ok hna]; exact hz, hr⟩
 have hle : dv b' ≤ dv a' := by
   unfold cmpN at hc2
   split at hc2
   · omega
   · omega
 refine sR <| sm rfl rfl <| slen rfl rfl <| sy (yd_eql rfl rfl) rfl <| sa rfl rfl <| zE <| ?_
 refine st_condP rfl (fun hc3 => ?_) (fun hc3 => ?_) -- slot 26
 · have hb1 : b'.length = 1 := by omega
   obtain ⟨d, rfl⟩ := List.length_eq_one_iff.1 hb1
   have hdv : dv [d] = d := by simp [dv]
   have hdB := hyt.ok.head
   rw [hdv] at hb0 hq hr ⊢
   refine sR <| sm rfl rfl <| sm rfl rfl <| sy (yd_ixD (z := ⟨y.a, 1, y.c⟩) hyt rfl rfl (by omega) (by show (0 : Int) < ((1 : Nat) : Int); omega)) rfl <| sy (yd_ldD (i := 0) hyt rfl (by simp)) rfl <| ?_
   rw [show [d].getD 0 0 = d from rfl]
   refine sc (zC rfl rfl (nat_short (x := ⟨x.a, a'.length, x.c⟩) hxt hb0 hdB hq (by omega)) rfl ?_)
   rintro _ G5 _ ⟨z, rfl, hz⟩
   have hmB : dv a' % d < 4294967296 := Nat.lt_trans (Nat.mod_lt _ hb0) hdB
   refine sm rfl rfl <| sx rfl rfl rfl <| sx rfl rfl rfl <| sa rfl rfl <| sa rfl rfl <| zE <| sR <| sm rfl rfl <| sm rfl rfl <| sy (yd_toU64 rfl) rfl <| ?_
   refine sc (zC rfl rfl (nat_FromUint (by omega)) rfl ?_)
   rintro _ G6 _ ⟨r, rfl, hr6⟩
   refine sa rfl rfl <| sa rfl rfl <| sa rfl rfl <| zE <| st_ret <| ?_
   exact zD (.tmp rfl (.tmp rfl (.tmp rfl .nil))) ⟨z, r, rfl, hz.up, hr6.mono hr⟩
 have hb2 : 2 ≤ b'.length := by omega
 refine zK <| sR <| sm rfl rfl <| sm rfl rfl <| ?_
 refine sc (zC rfl rfl (nat_long (x := ⟨x.a, a'.length, x.c⟩) (y := ⟨y.a, b'.length, y.c⟩) hxt hyt hna hnb hb2 hle hq hr (by omega)) rfl ?_)
 rintro _ G7 _ ⟨z, r, rfl, hz, hr7⟩
 refine sm rfl rfl <| sx rfl rfl rfl <| sx rfl rfl rfl <| sa rfl rfl <| sa rfl rfl <| zE <| sR <| sm rfl rfl <| sm rfl rfl <| sa rfl rfl <| sa rfl rfl <| sa rfl rfl <| zE <| ?_
 refine st_ret <| ?_
 exact zD (.tmp rfl (.tmp rfl (.tmp rfl .nil))) ⟨z, r, rfl, hz, hr7⟩
theorem dg_len_le {u k : Nat} (h : u < 2 ^ k) : 32 * (dg u).length ≤ k + 31 := nrm_len (dg_spec u).2.2 (by rw [(dg_spec u).1]; exact h)
theorem IsN.dvl {k : Nat} {G : Gh} {x : SV} {v : Nat} (_ : IsN k G x v) : dv (dg v) = v := (dg_spec v).1
structure NatGcd where
 a : SV
 b : SV
 u : Nat
 v : Nat
theorem nat_Gcd {A B G : Gh} {x y : SV} {a b : List Nat} {k k0 : Nat} (hx : IsD A x a) (hy : IsD B y b) [GL A G] [GL B G] (ha : dv a < 2 ^ k0) (hb : dv b < 2 ^ k0) (hk0 : k0 ≤ 1099511627776)
   (hg0 : Nat.gcd (dv a) (dv b) < 2 ^ k) (hl : a.length ≤ 112589990684) (hl2 : b.length ≤ 112589990684) :
   Fn Tryz.prog 145 [x.v, y.v] G (fun v G' => ∃ z : SV, v = z.v ∧ IsN k G' z (Nat.gcd (dv a) (dv b))) := by
 refine Fn.intro Tryz.func145 rfl rfl Tryz.ntmps145 rfl ?_
 intro C _ _
 refine sR <| sa rfl rfl <| zE <| sR <| sm rfl rfl <| ?_
 refine sc (zC rfl rfl (nat_Norm hx ha (by omega)) rfl ?_)
 rintro _ G1 _ ⟨x1, rfl, hx1⟩
 refine sm rfl rfl <| ?_
 refine sc (zC rfl rfl (nat_Norm hy hb (by omega)) rfl ?_)
 rintro _ G2 _ ⟨y1, rfl, hy1⟩
 generalize dv a = ua at *
 generalize dv b = ub at *
 refine sa rfl rfl <| sa rfl rfl <| zE <| st_seq <| st_block <| ?_
 refine st_loop (X := NatGcd) (fun q => [(0, .slice q.a.a q.a.n q.a.c), (1, .slice q.b.a q.b.n q.b.c)]) (fun _ => []) (fun q G => IsN k0 G q.a q.u ∧ IsN k0 G q.b q.v ∧ Nat.gcd q.u q.v = Nat.gcd ua ub) (fun q => q.v) ⟨x1, y1, ua, ub⟩
   ⟨hx1.up, hy1, rfl⟩ (.cons rfl (.cons rfl .nil)) rfl ?_
 rintro ⟨p, q, u, v⟩ Gx _ ⟨hp, hq, hgc⟩
 simp only [] at hp hq hgc ⊢
 have hpl := hp.len
 have hql := hq.len
 have hpb := dg_len_le hp.lt
 have hqb := dg_len_le hq.lt
 refine st_seq <| sR <| sm rfl rfl <| slen rfl rfl <| sy (yd_gtr rfl rfl) rfl <| sm rfl rfl <| ?_
 refine st_caseP 19 rfl (fun hg => ?_) (fun hg => ?_)
 · refine ss rfl rfl rfl rfl <| ss rfl rfl rfl rfl <| ss rfl rfl rfl rfl <| sy (yd_pickT rfl rfl) rfl <| zE <| st_condT rfl <| zK <| st_block <| st_seq <| sR <| sm rfl rfl <| ?_
   refine slen rfl rfl <| sy (yd_eql rfl rfl) rfl <| zE <| ?_
   refine st_condP rfl (fun hc1 => ?_) (fun hc1 => ?_) -- slot 26
   · refine sR <| sm rfl rfl <| sa rfl rfl <| zE <| st_ret <| ?_
     have hv0 : v = 0 := by
       have : dg v = [] := List.eq_nil_of_length_eq_zero (by omega)
       have h2 := hq.dvl
       rw [this] at h2
       exact h2.symm
     have hue : u = Nat.gcd ua ub := by rw [← hgc, hv0, Nat.gcd_zero_right]
     exact zD (.tmp rfl .nil) ⟨p, rfl, by rw [← hue] at hg0 ⊢; exact hp.mono hg0⟩
   have hv0 : 0 < v := Nat.pos_of_ne_zero fun h => by
     have h1 : dg v = [] := by rw [h]; unfold dg; rfl
     rw [h1] at hql
     simp only [List.length_nil] at hql
     omega
   have hm := Nat.mod_lt u hv0
   refine zK <| sR <| sm rfl rfl <| sm rfl rfl <| ?_
   refine sc (zC rfl rfl (nat_DivMod (k1 := k0) (k2 := k0) hp.d hq.d (by rw [hq.dvl]; exact hv0) (by rw [hp.dvl]; exact Nat.lt_of_le_of_lt (Nat.div_le_self _ _) hp.lt) (by rw [hp.dvl, hq.dvl]; exact Nat.lt_trans hm hq.lt) (by omega) (by omega)) rfl ?_)
   rintro _ G3 _ ⟨z, r, rfl, hz, hr⟩
   rw [hp.dvl, hq.dvl] at hr
   refine sm rfl rfl <| sx rfl rfl rfl <| sx rfl rfl rfl <| sx rfl rfl rfl <| sa rfl rfl <| sa rfl rfl <| sa rfl rfl <| zE <| st_region <| sm rfl rfl <| sm rfl rfl <| sa rfl rfl <| sa rfl rfl <| ?_
   refine zE <| ?_
   exact st_again ⟨q, r, v, u % v⟩ ⟨hq.up, hr, by show Nat.gcd v (u % v) = _; rw [← hgc, Nat.gcd_comm u, Nat.gcd_rec v u, Nat.gcd_comm]⟩ hm (.cons rfl (.cons rfl .nil)) rfl
 refine syg rfl rfl (yd_move rfl) rfl <| syg rfl rfl (yd_len rfl) rfl <| syg rfl rfl (yd_gtr rfl rfl) rfl <| sy (yd_pickF rfl rfl) rfl <| zE <| ?_
 refine st_condE rfl (fun hc => ?_) (fun hc => ?_) -- slot 23
 · have small : ∀ {w : Nat}, (dg w).length ≤ 2 → w < 18446744073709551616 := fun {w} h => by
     have h1 := dv_lt (dg_spec w).2.1
     rw [(dg_spec w).1] at h1
     exact Nat.lt_of_lt_of_le h1 (Nat.le_trans (Nat.pow_le_pow_right (by decide) h) (by decide))
   have hu64 : u < 18446744073709551616 := small (by omega)
   have hv64 : v < 18446744073709551616 := small (by omega)
   refine st_exit <| st_te <| st_te <| st_inBlock_eq <| sR <| sm rfl rfl <| ?_
   refine sc (zC rfl rfl (nat_Uint hp.d (by omega)) rfl ?_)
   rintro _ G4 _ rfl
   rw [hp.dvl, if_pos hu64]
   refine sm rfl rfl <| sx rfl rfl rfl <| sx rfl rfl rfl <| sa rfl rfl <| sa rfl rfl <| zE <| sR <| sm rfl rfl <| ?_
   refine sc (zC rfl rfl (nat_Uint hq.d (by omega)) rfl ?_)
   rintro _ G5 _ rfl
   rw [hq.dvl, if_pos hv64]
   refine sm rfl rfl <| sx rfl rfl rfl <| sx rfl rfl rfl <| sa rfl rfl <| sa rfl rfl <| zE <| st_seq <| st_block <| ?_
   refine st_loop (X := Nat × Nat) (fun q => [(8, .int .u64 (q.1 : Nat)), (10, .int .u64 (q.2 : Nat))]) (fun _ => []) (fun q _ => q.1 < 18446744073709551616 ∧ q.2 < 18446744073709551616 ∧ Nat.gcd q.1 q.2 = Nat.gcd ua ub) (fun q => q.2) (u, v)
     ⟨hu64, hv64, hgc⟩ (.cons rfl (.cons rfl .nil)) rfl ?_
   rintro ⟨u1, v1⟩ Gy _ ⟨hu1, hv1, hgc1⟩
   simp only [] at hu1 hv1 hgc1 ⊢
   refine st_seq <| sR <| sm rfl rfl <| sy (yd_neq rfl rfl) rfl <| zE <| ?_
   refine st_condE rfl (fun hc5 => ?_) (fun hc5 => ?_) -- slot 48
   · refine st_exit <| st_te <| st_te <| st_inBlock_eq <| sR <| sm rfl rfl <| ?_
     refine sc (zC rfl rfl (nat_FromUint hu1) rfl ?_)
     rintro _ G6 _ ⟨z, rfl, hz⟩
     refine sa rfl rfl <| zE <| st_ret <| ?_
     have hv0 : v1 = 0 := by omega
     have hue : u1 = Nat.gcd ua ub := by rw [← hgc1, hv0, Nat.gcd_zero_right]
     exact zD (.tmp rfl .nil) ⟨z, rfl, by rw [← hue] at hg0 ⊢; exact hz.mono hg0⟩
   have hv0 : 0 < v1 := by omega
   refine zK <| st_block <| dr (fun _ => false) [(0, true), (1, true), (2, true), (3, true), (4, true), (5, true)] follows (by kernel_rfl) <| dM rfl rfl rfl <| dM rfl rfl rfl <| ?_
   refine dM rfl rfl rfl <| dy rfl (fun _ => yd_remU rfl rfl (by omega) (by omega)) rfl rfl <| dA rfl rfl rfl <| dA rfl rfl rfl <| dn <| ?_
   exact st_again (v1, u1 % v1) ⟨hv1, Nat.lt_trans (Nat.mod_lt _ hv0) hv1, by show Nat.gcd v1 (u1 % v1) = _; rw [← hgc1, Nat.gcd_comm u1, Nat.gcd_rec v1 u1, Nat.gcd_comm]⟩ (by show u1 % v1 < v1; exact Nat.mod_lt _ hv0) (.cons rfl (.cons rfl .nil)) rfl
 refine zK <| st_block <| st_seq <| sR <| sm rfl rfl <| ?_
 refine slen rfl rfl <| sy (yd_eql rfl rfl) rfl <| zE <| ?_
 refine st_condP rfl (fun hc1 => ?_) (fun hc1 => ?_) -- slot 26
 · refine sR <| sm rfl rfl <| sa rfl rfl <| zE <| st_ret <| ?_
   have hv0 : v = 0 := by
     have : dg v = [] := List.eq_nil_of_length_eq_zero (by omega)
     have h2 := hq.dvl
     rw [this] at h2
     exact h2.symm
   have hue : u = Nat.gcd ua ub := by rw [← hgc, hv0, Nat.gcd_zero_right]
   exact zD (.tmp rfl .nil) ⟨p, rfl, by rw [← hue] at hg0 ⊢; exact hp.mono hg0⟩
 have hv0 : 0 < v := Nat.pos_of_ne_zero fun h => by
   have h1 : dg v = [] := by rw [h]; unfold dg; rfl
   rw [h1] at hql
   simp only [List.length_nil] at hql
   omega
 have hm := Nat.mod_lt u hv0
 refine zK <| sR <| sm rfl rfl <| sm rfl rfl <| ?_
 refine sc (zC rfl rfl (nat_DivMod (k1 := k0) (k2 := k0) hp.d hq.d (by rw [hq.dvl]; exact hv0) (by rw [hp.dvl]; exact Nat.lt_of_le_of_lt (Nat.div_le_self _ _) hp.lt) (by rw [hp.dvl, hq.dvl]; exact Nat.lt_trans hm hq.lt) (by omega) (by omega)) rfl ?_)
 rintro _ G3 _ ⟨z, r, rfl, hz, hr⟩
 rw [hp.dvl, hq.dvl] at hr
 refine sm rfl rfl <| sx rfl rfl rfl <| sx rfl rfl rfl <| sx rfl rfl rfl <| sa rfl rfl <| sa rfl rfl <| sa rfl rfl <| zE <| st_region <| sm rfl rfl <| sm rfl rfl <| sa rfl rfl <| sa rfl rfl <| ?_
 refine zE <| ?_
 exact st_again ⟨q, r, v, u % v⟩ ⟨hq.up, hr, by show Nat.gcd v (u % v) = _; rw [← hgc, Nat.gcd_comm u, Nat.gcd_rec v u, Nat.gcd_comm]⟩ hm (.cons rfl (.cons rfl .nil)) rfl
end Go.Sx
end

section
set_option maxRecDepth 100000
namespace Go.Sx
open Go Go.Proofs
structure IV where
 neg : Bool
 a : SV
def IV.v (z : IV) : Value := .agg ⟨[.bool z.neg, .slice z.a.a z.a.n z.a.c]⟩
def zv (neg : Bool) (u : Nat) : Int := if neg then -(u : Int) else u
theorem zv_abs (neg : Bool) (u : Nat) : (zv neg u).natAbs = u := by cases neg <;> simp [zv]
theorem zv_neg (neg : Bool) (u : Nat) : zv (!neg) u = - zv neg u := by cases neg <;> simp [zv]
theorem zv_mul (n m : Bool) (u w : Nat) : zv (n != m) (u * w) = zv n u * zv m w := by cases n <;> cases m <;> simp [zv, Int.neg_mul, Int.mul_neg]
theorem zv_neg_lt (neg : Bool) (u : Nat) : decide (zv neg u < 0) = (neg && decide (0 < u)) := by
 cases neg <;> simp [zv]
theorem zv_eta (m : Int) : zv (decide (m < 0)) m.natAbs = m := by
 unfold zv
 by_cases h : m < 0 <;> simp [h] <;> omega
structure IsI (k : Nat) (G : Gh) (z : IV) (m : Int) : Prop where
 neg : z.neg = decide (m < 0)
 abs : IsN k G z.a m.natAbs
theorem IsI.up {k : Nat} {A G : Gh} {z : IV} {m : Int} (h : IsI k A z m) [GL A G] : IsI k G z m := ⟨h.neg, h.abs.up⟩
end Go.Sx
end

section
set_option maxRecDepth 100000
namespace Go.Sx
open Go Go.Proofs
theorem zv_add_same (n : Bool) (u w : Nat) : zv n (u + w) = zv n u + zv n w := by cases n <;> simp [zv] <;> omega
end Go.Sx
end

section
set_option maxRecDepth 100000
namespace Go.Sx
open Go Go.Proofs
theorem wrap_i64 (p : Int) : IntKind.i64.wrap p = (p + 9223372036854775808) % 18446744073709551616 - 9223372036854775808 := by
 have e : IntKind.i64.wrap p = if (true && decide (p % 2 ^ 64 ≥ 2 ^ (64 - 1))) = true then p % 2 ^ 64 - 2 ^ 64 else p % 2 ^ 64 := rfl
 rw [e, show (2 : Int) ^ 64 = 18446744073709551616 by decide, show (2 : Int) ^ (64 - 1) = 9223372036854775808 by decide, Bool.true_and]
 by_cases h : p % 18446744073709551616 ≥ 9223372036854775808
 · rw [decide_eq_true h, if_pos rfl]; omega
 · rw [decide_eq_false h, if_neg (by decide)]; omega
end Go.Sx
end

section
set_option maxRecDepth 100000
namespace Go.Sx
open Go Go.Proofs
structure RV where
 n : Int
 d : Int
 p : Option Addr
def RV.v (z : RV) : Value := .agg ⟨[.int .i64 z.n, .int .i64 z.d, .pointer z.p]⟩
structure SmallR (z : RV) (q : Rat) : Prop where
 p : z.p = none
 n : z.n = q.num
 d : z.d = (q.den : Int) - 1
 b1 : q.num.natAbs < 4611686018427387904
 b2 : q.den < 4611686018427387904
structure BigR (k : Nat) (G : Gh) (z : RV) (q : Rat) : Prop where
 n : z.n = 0
 d : z.d = 0
 ex : ∃ (b : Nat) (x : IV) (y : SV), z.p = some ⟨b, 0, none⟩ ∧ G b = some [.bool x.neg, .slice x.a.a x.a.n x.a.c, .slice y.a y.n y.c] ∧ IsI k G x q.num ∧ IsN k G y q.den
 no : ¬ (q.num.natAbs < 4611686018427387904 ∧ q.den < 4611686018427387904)
def IsR (k : Nat) (G : Gh) (z : RV) (q : Rat) : Prop := q.num.natAbs < 2 ^ k ∧ q.den < 2 ^ k ∧ (SmallR z q ∨ BigR k G z q)
theorem zv_div {neg : Bool} {u g : Nat} (h : g ∣ u) : zv neg (u / g) = zv neg u / (g : Int) := by
 cases neg
 · simp [zv]
 · simp only [zv, if_true]
   rw [Int.neg_ediv_of_dvd (Int.natCast_dvd_natCast.2 h), Int.natCast_ediv]
theorem rat_num {m : Int} {e : Nat} (he : 0 < e) : (mkRat m e).num = m / ((Nat.gcd m.natAbs e : Nat) : Int) ∧ (mkRat m e).den = e / Nat.gcd m.natAbs e := by
 rw [Rat.num_mkRat, Rat.den_mkRat, if_neg (by omega), if_neg (by omega), Nat.gcd_comm]
 exact ⟨rfl, rfl⟩
theorem bl_le62 {x : Nat} : (((bl x : Nat) : Int) ≤ 62) ↔ x < 4611686018427387904 := by
 have : bl x ≤ 62 ↔ x < 2 ^ 62 := bl_le
 omega
structure FracRed where
 x : SV
 y : SV
 ds : List Nat
 es : List Nat
end Go.Sx
end

section
set_option maxRecDepth 100000
namespace Go.Sx
open Go Go.Proofs
end Go.Sx
end

section
set_option maxRecDepth 100000
namespace Go.Sx
open Go Go.Proofs
theorem bits_Mul64' {G : Gh} {x y : Nat} (hx : x < 18446744073709551616) (hy : y < 18446744073709551616) : Fn Tryz.prog 233 [.int .u64 (x : Nat), .int .u64 (y : Nat)] G (fun v _ => v = .tuple #[.int .u64 ((x * y / 18446744073709551616 : Nat) : Int), .int .u64 ((x * y % 18446744073709551616 : Nat) : Int)]) :=
 Fn.of_calls (G := G) (callable_of Tryz.func233 rfl rfl) (fun w => Tryz.bits_Mul64 x y hx hy w)
theorem mul_signs (a b : Int) : a * b = if (a < 0) ↔ (b < 0) then ((a.natAbs * b.natAbs : Nat) : Int) else -((a.natAbs * b.natAbs : Nat) : Int) := by
 rcases (by omega : a < 0 ∨ 0 ≤ a) with h | h <;> rcases (by omega : b < 0 ∨ 0 ≤ b) with h2 | h2
 · rw [if_pos (by simp [h, h2]), Int.natCast_mul, Int.ofNat_natAbs_of_nonpos (Int.le_of_lt h), Int.ofNat_natAbs_of_nonpos (Int.le_of_lt h2), Int.neg_mul_neg]
 · rw [if_neg (by simp [h]; omega), Int.natCast_mul, Int.ofNat_natAbs_of_nonpos (Int.le_of_lt h), Int.natAbs_of_nonneg h2, Int.neg_mul, Int.neg_neg]
 · rw [if_neg (by simp [h2]; omega), Int.natCast_mul, Int.natAbs_of_nonneg h, Int.ofNat_natAbs_of_nonpos (Int.le_of_lt h2), Int.mul_neg, Int.neg_neg]
 · rw [if_pos (by constructor <;> intro <;> omega), Int.natCast_mul, Int.natAbs_of_nonneg h, Int.natAbs_of_nonneg h2]
end Go.Sx
end

section
set_option maxRecDepth 100000
namespace Go.Sx
open Go Go.Proofs
theorem i64_small {p : Int} (h : p.natAbs < 9223372036854775808) : IntKind.i64.wrap p = p := by rw [wrap_i64]; omega
end Go.Sx
end

section
set_option maxRecDepth 100000
namespace Go.Sx
open Go Go.Proofs
end Go.Sx
end

section
set_option maxRecDepth 100000
namespace Go.Sx
open Go Go.Proofs
theorem mkRat_neg_abs {n : Int} {d : Nat} (h : n < 0) : mkRat (-(d : Int)) n.natAbs = Rat.divInt (d : Int) n := by
 rw [← Rat.divInt_ofNat, Int.ofNat_natAbs_of_nonpos (Int.le_of_lt h), Rat.neg_divInt_neg]
theorem rat_inv_num {q : Rat} (h : q.num < 0) : (q⁻¹).num = -(q.den : Int) ∧ (q⁻¹).den = q.num.natAbs := by
 rw [Rat.num_inv, Rat.den_inv, if_neg (by omega), Int.sign_eq_neg_one_of_neg h]
 omega
theorem rat_inv_pos {q : Rat} (h : 0 < q.num) : (q⁻¹).num = (q.den : Int) ∧ (q⁻¹).den = q.num.natAbs := by
 rw [Rat.num_inv, Rat.den_inv, if_neg (by omega), Int.sign_eq_one_of_pos h]
 omega
end Go.Sx
end

section
set_option maxRecDepth 100000
namespace Go.Sx
open Go Go.Proofs
theorem rat_int {q : Rat} (h : q.den = 1) : q = (q.num : Int) := by
 conv => lhs; rw [← Rat.mkRat_self q, h, Rat.mkRat_one]
end Go.Sx
end

section
set_option maxRecDepth 100000
namespace Go.Sx
open Go Go.Proofs
def rcmp (a b : Rat) : Int := if a < b then -1 else if b < a then 1 else 0
theorem sub_num_neg (a b : Rat) : (a - b).num < 0 ↔ a < b := by
 rw [← Rat.not_le, Rat.le_iff_sub_nonneg, ← Rat.num_nonneg]; omega
theorem sub_num_pos (a b : Rat) : 0 < (a - b).num ↔ b < a := by
 have h := sub_num_neg b a
 have h2 : (b - a).num = -(a - b).num := by rw [← Rat.neg_num, Rat.neg_sub]
 rw [h2] at h
 rw [← h]; omega
theorem sign_sub (a b : Rat) : Int.sign (a - b).num = rcmp a b := by
 unfold rcmp
 split
 · rename_i h; exact Int.sign_eq_neg_one_of_neg ((sub_num_neg a b).2 h)
 · rename_i h
   split
   · rename_i h2; exact Int.sign_eq_one_of_pos ((sub_num_pos a b).2 h2)
   · rename_i h2
     rw [← sub_num_neg] at h
     rw [← sub_num_pos] at h2
     rw [show (a - b).num = 0 by omega]; rfl
theorem lt_same {a b : Rat} (h : a.den = b.den) : a < b ↔ a.num < b.num := by
 rw [Rat.lt_iff, h]
 have : (0 : Int) < b.den := by have := b.den_pos; omega
 exact ⟨fun h2 => Int.lt_of_mul_lt_mul_right h2 (Int.le_of_lt this), fun h2 => Int.mul_lt_mul_of_pos_right h2 this⟩
theorem rcmp_eq (a b : Rat) : rcmp a b = 0 ↔ a = b := by
 unfold rcmp
 constructor
 · intro h
   split at h
   · omega
   · rename_i h1
     split at h
     · omega
     · rename_i h2
       exact Rat.le_antisymm (Rat.not_lt.1 h2) (Rat.not_lt.1 h1)
 · intro h
   subst h
   rw [if_neg (Rat.not_lt.2 Rat.le_refl), if_neg (Rat.not_lt.2 Rat.le_refl)]
end Go.Sx
end

section
set_option maxRecDepth 100000
namespace Go.Sx
open Go Go.Proofs
theorem rcmp_pos (a b : Rat) : 0 < rcmp a b ↔ b < a := by
 unfold rcmp
 constructor
 · intro h
   split at h
   · omega
   · split at h
     · assumption
     · omega
 · intro h
   rw [if_neg (fun h2 => Rat.not_lt.2 (Rat.le_of_lt h) h2), if_pos h]; decide
theorem rcmp_neg (a b : Rat) : rcmp a b < 0 ↔ a < b := by
 unfold rcmp
 constructor
 · intro h
   split at h
   · assumption
   · split at h <;> omega
 · intro h
   rw [if_pos h]; decide
end Go.Sx
end

section
set_option maxRecDepth 100000
namespace Go.Sx
open Go Go.Proofs
def rgcd (a b : Rat) : Rat := mkRat ((Nat.gcd (a.num.natAbs * b.den) (b.num.natAbs * a.den) : Nat) : Int) (a.den * b.den)
theorem rgcd_int (a b : Int) : rgcd a b = ((Nat.gcd a.natAbs b.natAbs : Nat) : Int) := by
 unfold rgcd
 show mkRat ((Nat.gcd (a.natAbs * 1) (b.natAbs * 1) : Nat) : Int) (1 * 1) = _
 rw [Nat.mul_one, Nat.mul_one, Nat.mul_one, Rat.mkRat_one]
theorem gcd_lt {a b m : Nat} (ha : a < m) (hb : b < m) : Nat.gcd a b < m := by
 rcases Nat.eq_zero_or_pos a with h | h
 · rw [h, Nat.gcd_zero_left]; exact hb
 · exact Nat.lt_of_le_of_lt (Nat.gcd_le_left _ h) ha
end Go.Sx
end

section
set_option maxRecDepth 100000
namespace Go.Sx
open Go Go.Proofs
structure LV where
 a : RV
 b : RV
 c : RV
def LV.v (z : LV) : Value := .agg ⟨[.int .i64 z.a.n, .int .i64 z.a.d, .pointer z.a.p, .int .i64 z.b.n, .int .i64 z.b.d, .pointer z.b.p, .int .i64 z.c.n, .int .i64 z.c.d, .pointer z.c.p]⟩
structure LnQ where
 a : Int
 b : Int
 c : Int
structure IsL (k : Nat) (G : Gh) (z : LV) (l : LnQ) : Prop where
 a : IsR k G z.a (l.a : Rat)
 b : IsR k G z.b (l.b : Rat)
 c : IsR k G z.c (l.c : Rat)
def LnQ.ok (l : LnQ) : Prop := ¬ (l.a = 0 ∧ l.b = 0) ∧ Nat.gcd (Nat.gcd l.a.natAbs l.b.natAbs) l.c.natAbs = 1
def okI (neg : Bool) (ds : List Nat) : Prop := Nrm ds ∧ (neg = true → ds ≠ [])
end Go.Sx
end

section
set_option maxRecDepth 100000
namespace Go.Sx
open Go Go.Proofs
structure PV where
 x : RV
 y : RV
def PV.v (z : PV) : Value := .agg ⟨[.int .i64 z.x.n, .int .i64 z.x.d, .pointer z.x.p, .int .i64 z.y.n, .int .i64 z.y.d, .pointer z.y.p]⟩
structure PtQ where
 x : Rat
 y : Rat
structure IsP (k : Nat) (G : Gh) (z : PV) (p : PtQ) : Prop where
 x : IsR k G z.x p.x
 y : IsR k G z.y p.y
theorem rat_neg_int (a : Int) : -(a : Rat) = ((-a : Int) : Rat) := rfl
def LnQ.rev (l : LnQ) : LnQ := ⟨-l.a, -l.b, -l.c⟩
def LnQ.nor (l : LnQ) : PtQ := ⟨l.a, l.b⟩
def LnQ.dir (l : LnQ) : PtQ := ⟨l.b, -(l.a : Rat)⟩
def PtQ.dot (p q : PtQ) : Rat := p.x * q.x + p.y * q.y
def PtQ.cross (p q : PtQ) : Rat := p.x * q.y - p.y * q.x
def PtQ.scale (p : PtQ) (c : Rat) : PtQ := ⟨p.x * c, p.y * c⟩
def PtQ.add (p q : PtQ) : PtQ := ⟨p.x + q.x, p.y + q.y⟩
end Go.Sx
end

section
set_option maxRecDepth 100000
namespace Go.Sx
open Go Go.Proofs
def LnQ.value (l : LnQ) (p : PtQ) : Rat := l.nor.dot p + (l.c : Rat)
def LnQ.base (l : LnQ) : PtQ := l.nor.scale (-(l.c : Rat) / l.nor.dot l.nor)
def LnQ.at (l : LnQ) (t : Rat) : PtQ := l.base.add (l.dir.scale t)
end Go.Sx
end

section
set_option maxRecDepth 100000
namespace Go.Sx
open Go
def dU (d : Nat) : DV := .v (.int .u32 (d : Int))
def dLi (ds : List Nat) : DV := .sl (ds.map dU)
def dN (n : Nat) : DV := .sl ((dg n).map dU)
def dD (n : Nat) : DV := .sl (if n = 1 then [] else (dg n).map dU)
def eI (m : Int) : DV := .ag [.v (.bool (decide (m < 0))), dN m.natAbs]
def eQ (q : Rat) : DV := .ag [.v (.bool (decide (q.num < 0))), dN q.num.natAbs, dD q.den]
def eP (p : PtQ) : DV := .ag [.v (.bool (decide (p.x.num < 0))), dN p.x.num.natAbs, dD p.x.den, .v (.bool (decide (p.y.num < 0))), dN p.y.num.natAbs, dD p.y.den]
def eL (l : LnQ) : DV := .ag [.v (.bool (decide (l.a < 0))), dN l.a.natAbs, .v (.bool (decide (l.b < 0))), dN l.b.natAbs, .v (.bool (decide (l.c < 0))), dN l.c.natAbs]
def eR (q : Rat) : DV := .ag [.v (.bool (decide (q.num < 0))), dN q.num.natAbs, dN q.den]
def ePt (p : PtQ) : DV := .ag [.v (.bool (decide (p.x.num < 0))), dN p.x.num.natAbs, dN p.x.den, .v (.bool (decide (p.y.num < 0))), dN p.y.num.natAbs, dN p.y.den]
def vI (n : Int) : DV := .v (.int .i64 n)
def vB (b : Bool) : DV := .v (.bool b)
theorem dN_dg (n : Nat) : dN n = dLi (dg n) := rfl
theorem dL_dv {ds : List Nat} (h : DOk ds) : dLi (trimD ds) = dN (dv ds) := by unfold dLi dN; rw [dg_trim h]
theorem mapU_get {ds : List Nat} {i : Nat} (h : i < ds.length) : (ds.map dU)[i]? = some (dU (ds.getD i 0)) := by
 rw [List.getElem?_map, List.getElem?_eq_getElem h, List.getD_eq_getElem?_getD, List.getElem?_eq_getElem h]; rfl
theorem mapU_getI {ds : List Nat} {i : Nat} (h : i < ds.length) : (ds.map dU)[(i : Int).toNat]? = some (dU (ds.getD i 0)) := by rw [Int.toNat_natCast]; exact mapU_get h
theorem mapU_set (ds : List Nat) (i d : Nat) : (ds.map dU).set i (.v (.int .u32 (d : Int))) = (ds.set i d).map dU := by rw [List.map_set]; rfl
theorem mapU_rep (n : Nat) : List.replicate n (DV.v (.int .u32 0)) = (List.replicate n 0).map dU := by rw [List.map_replicate]; rfl
theorem slOkU (ds : List Nat) : slOk 1 (ds.map dU) := fun d hd => by
 obtain ⟨n, _, rfl⟩ := List.mem_map.1 hd; exact ⟨rfl, rfl⟩
theorem dg_lt (n : Nat) (i : Nat) : (dg n).getD i 0 < 4294967296 := (dg_spec n).2.1.get i
theorem dg_zero : dg 0 = [] := by rw [dg, dif_pos rfl]
theorem dg_one : dg 1 = [1] := by rw [dg, dif_neg (by decide)]; simp [dg_zero]
theorem dg_len_zero {n : Nat} : (dg n).length = 0 ↔ n = 0 := by
 constructor
 · intro h
   have := (dg_spec n).1
   rw [List.eq_nil_of_length_eq_zero h] at this
   exact this.symm
 · rintro rfl; rw [dg_zero]; rfl
theorem dN_zero : dN 0 = .sl [] := by unfold dN; rw [dg_zero]; rfl
/-! ### bridges -/
theorem isl_mapU {G : Gh} : ∀ {ds : List Nat} {es : List Value}, IsLs G (ds.map dU) es ↔ es = ds.map dI
 | [], es => isl_nil
 | d :: t, es => by
   rw [List.map_cons, isl_cons]
   constructor
   · rintro ⟨y, n, rfl, h1, h2⟩
     rw [is_v.1 h1, isl_mapU.1 h2]; rfl
   · rintro rfl
     exact ⟨_, _, rfl, is_v.2 rfl, isl_mapU.2 rfl⟩
theorem is_dL {G : Gh} {ds : List Nat} {v : Value} : Is G (dLi ds) v ↔ ∃ x : SV, v = .slice x.a x.n x.c ∧ IsSl G 1 x (ds.map dI) := by
 unfold dLi
 rw [is_sl]
 constructor
 · rintro ⟨s, x, es, rfl, h1, h2⟩
   have := isl_mapU.1 h2
   subst this
   refine ⟨x, rfl, ?_⟩
   rcases sl_stride (s := 1) h1 h2 (slOkU ds) with h | h
   · rw [h] at h1 ⊢
     exact ⟨h1.len, h1.cap, .inl rfl⟩
   · subst h; exact h1
 · rintro ⟨x, rfl, h⟩
   exact ⟨1, x, _, rfl, h, isl_mapU.2 rfl⟩
theorem is_dN {G : Gh} {n k : Nat} {v : Value} (hk : n < 2 ^ k) : Is G (dN n) v ↔ ∃ x : SV, v = .slice x.a x.n x.c ∧ IsN k G x n := by
 rw [dN_dg, is_dL]
 constructor
 · rintro ⟨x, rfl, h⟩
   exact ⟨x, rfl, ⟨(dg_spec n).2.1, h⟩, hk⟩
 · rintro ⟨x, rfl, h⟩
   exact ⟨x, rfl, h.d.sl⟩
/-! ### spelled otherwise -/
theorem sd_eq (k : Nat) {GB : Gh} {C : Ctx} {n : Nat} {fr : FrF} {own : List OwnD} {bs : List BufD} {Φ : Act → World → Prop} {f : FV} (f' : FV) (hl : lookF fr k = some f) (e : f = f') (h : SD GB C n E0 ((k, f') :: fr) own bs Φ) : SD GB C n E0 fr own bs Φ :=
 sd_re k hl rfl (fun G y hy => e ▸ hy) h
theorem sd_bh {GB : Gh} {C : Ctx} {n : Nat} {E : Ext} {fr : FrF} {own : List OwnD} {bs : List BufD} {Φ : Act → World → Prop} {w : SV} {s : Nat} {ty : TypeId} {ds : List DV} {lo : Bool} (ds' : List DV) (e : ds = ds') (h : SD GB C n E fr own (⟨w, s, ty, ds', lo⟩ :: bs) Φ) : SD GB C n E fr own (⟨w, s, ty, ds, lo⟩ :: bs) Φ := e ▸ h
theorem mapU_getZ {ds : List Nat} {i : Int} {k : Nat} (hi : i = k) (h : k < ds.length) : (ds.map dU)[i.toNat]? = some (dU (ds.getD k 0)) := by subst hi; exact mapU_getI h
/-! ### bounds -/
class BN (n : Nat) (k : outParam Nat) : Prop where h : n < 2 ^ k
class BI (m : Int) (k : outParam Nat) : Prop where h : m.natAbs < 2 ^ k
class BQ (q : Rat) (k : outParam Nat) : Prop where
 hn : q.num.natAbs < 2 ^ k
 hd : q.den < 2 ^ k
theorem BN.mono {n k k' : Nat} (h : BN n k) (hk : k ≤ k') : BN n k' := ⟨Nat.lt_of_lt_of_le h.h (Nat.pow_le_pow_right (by decide) hk)⟩
theorem mul_lt_pow {a b i j : Nat} (h : a < 2 ^ i) (k : b < 2 ^ j) : a * b < 2 ^ (i + j) := by rw [Nat.pow_add]; exact Nat.mul_lt_mul'' h k
theorem add_lt_pow {a b i j : Nat} (h : a < 2 ^ i) (k : b < 2 ^ j) : a + b < 2 ^ (i + j + 1) := by
 have h1 : 2 ^ i ≤ 2 ^ (i + j) := Nat.pow_le_pow_right (by decide) (by omega)
 have h2 : 2 ^ j ≤ 2 ^ (i + j) := Nat.pow_le_pow_right (by decide) (by omega)
 rw [Nat.pow_succ]; omega
instance BN.mul (a b i j : Nat) [h : BN a i] [k : BN b j] : BN (a * b) (i + j) := ⟨mul_lt_pow h.h k.h⟩
instance BN.add (a b i j : Nat) [h : BN a i] [k : BN b j] : BN (a + b) (i + j + 1) := ⟨add_lt_pow h.h k.h⟩
instance BN.sub (a b i : Nat) [h : BN a i] : BN (a - b) i := ⟨by have := h.h; omega⟩
instance BN.div (a b i : Nat) [h : BN a i] : BN (a / b) i := ⟨Nat.lt_of_le_of_lt (Nat.div_le_self _ _) h.h⟩
instance BN.abs (m : Int) (i : Nat) [h : BI m i] : BN m.natAbs i := ⟨h.h⟩
instance BN.den (q : Rat) (i : Nat) [h : BQ q i] : BN q.den i := ⟨h.hd⟩
theorem gcd_lt' {a b i j : Nat} (h : a < 2 ^ i) (k : b < 2 ^ j) : Nat.gcd a b < 2 ^ (i + j) := by
 have h1 : 2 ^ i ≤ 2 ^ (i + j) := Nat.pow_le_pow_right (by decide) (by omega)
 have h2 : 2 ^ j ≤ 2 ^ (i + j) := Nat.pow_le_pow_right (by decide) (by omega)
 rcases Nat.eq_zero_or_pos a with h0 | h0
 · subst h0; rw [Nat.gcd_zero_left]; omega
 · have := Nat.gcd_le_left b h0; omega
instance BN.gcd (a b i j : Nat) [h : BN a i] [k : BN b j] : BN (Nat.gcd a b) (i + j) := ⟨gcd_lt' h.h k.h⟩
instance BN.one : BN 1 1 := ⟨by decide⟩
instance BN.zero : BN 0 0 := ⟨by decide⟩
instance BI.mul (a b : Int) (i j : Nat) [h : BI a i] [k : BI b j] : BI (a * b) (i + j) := ⟨by rw [Int.natAbs_mul]; exact mul_lt_pow h.h k.h⟩
instance BI.add (a b : Int) (i j : Nat) [h : BI a i] [k : BI b j] : BI (a + b) (i + j + 1) := ⟨Nat.lt_of_le_of_lt (Int.natAbs_add_le a b) (add_lt_pow h.h k.h)⟩
instance BI.sub (a b : Int) (i j : Nat) [h : BI a i] [k : BI b j] : BI (a - b) (i + j + 1) := ⟨Nat.lt_of_le_of_lt (Int.natAbs_sub_le a b) (add_lt_pow h.h k.h)⟩
instance BI.neg (a : Int) (i : Nat) [h : BI a i] : BI (-a) i := ⟨by rw [Int.natAbs_neg]; exact h.h⟩
instance BI.num (q : Rat) (i : Nat) [h : BQ q i] : BI q.num i := ⟨h.hn⟩
instance BI.nat (n : Nat) (i : Nat) [h : BN n i] : BI (n : Int) i := ⟨by rw [Int.natAbs_natCast]; exact h.h⟩
theorem den_pos' (q : Rat) : 0 < q.den := Nat.pos_of_ne_zero q.den_nz
theorem mkRat_bd {m : Int} {d i : Nat} (hd : 0 < d) (h : m.natAbs < 2 ^ i) (k : d < 2 ^ i) : BQ (mkRat m d) i := by
 refine ⟨?_, ?_⟩
 · rw [Rat.num_mkRat, if_neg (by omega)]
   have := Int.natAbs_ediv_le_natAbs m (d.gcd m.natAbs : Nat)
   omega
 · rw [Rat.den_mkRat, if_neg (by omega)]
   have := Nat.div_le_self d (d.gcd m.natAbs)
   omega
theorem BQ.mono {q : Rat} {k k' : Nat} (h : BQ q k) (hk : k ≤ k') : BQ q k' := ⟨Nat.lt_of_lt_of_le h.hn (Nat.pow_le_pow_right (by decide) hk), Nat.lt_of_lt_of_le h.hd (Nat.pow_le_pow_right (by decide) hk)⟩
theorem rat_mul_mk (p q : Rat) : p * q = mkRat (p.num * q.num) (p.den * q.den) := by rw [Rat.mul_def, Rat.normalize_eq_mkRat]
theorem rat_add_mk (p q : Rat) : p + q = mkRat (p.num * q.den + q.num * p.den) (p.den * q.den) := by rw [Rat.add_def, Rat.normalize_eq_mkRat]
instance BQ.mul (p q : Rat) (i j : Nat) [h : BQ p i] [k : BQ q j] : BQ (p * q) (i + j) := by
 rw [rat_mul_mk]
 exact mkRat_bd (Nat.mul_pos (den_pos' p) (den_pos' q)) (BI.mul p.num q.num i j).h (mul_lt_pow h.hd k.hd)
instance BQ.add (p q : Rat) (i j : Nat) [h : BQ p i] [k : BQ q j] : BQ (p + q) (i + j + 1) := by
 rw [rat_add_mk]
 refine mkRat_bd (Nat.mul_pos (den_pos' p) (den_pos' q)) ?_ ?_
 · have h1 := mul_lt_pow h.hn k.hd
   have h2 := mul_lt_pow k.hn h.hd
   have h3 : (p.num * q.den + q.num * p.den).natAbs ≤ (p.num * q.den).natAbs + (q.num * p.den).natAbs := Int.natAbs_add_le ..
   rw [Int.natAbs_mul, Int.natAbs_mul, Int.natAbs_natCast, Int.natAbs_natCast] at h3
   rw [Nat.add_comm j i] at h2
   rw [Nat.pow_succ]; omega
 · have h1 := mul_lt_pow h.hd k.hd
   rw [Nat.pow_succ]; omega
instance BQ.neg (p : Rat) (i : Nat) [h : BQ p i] : BQ (-p) i := ⟨by rw [Rat.neg_num, Int.natAbs_neg]; exact h.hn, by rw [Rat.neg_den]; exact h.hd⟩
instance BQ.sub (p q : Rat) (i j : Nat) [h : BQ p i] [k : BQ q j] : BQ (p - q) (i + j + 1) := by
 rw [Rat.sub_eq_add_neg]
 exact BQ.add p (-q) i j
instance BQ.ofInt (m : Int) (i : Nat) [h : BI m i] : BQ (m : Rat) (i + 1) := by
 refine ⟨?_, ?_⟩
 · rw [Rat.num_intCast]; have := h.h; rw [Nat.pow_succ]; omega
 · rw [Rat.den_intCast]; have : 0 < 2 ^ i := Nat.pow_pos (by decide); rw [Nat.pow_succ]; omega
end Go.Sx
end

section
set_option maxRecDepth 100000
namespace Go.Sx
open Go Go.Proofs
def andN (p q : Int) : Nat := (BitVec.ofInt 32 p &&& BitVec.ofInt 32 q).toNat
def orN (p q : Int) : Nat := (BitVec.ofInt 32 p ||| BitVec.ofInt 32 q).toNat
def xorN (p q : Int) : Nat := (BitVec.ofInt 32 p ^^^ BitVec.ofInt 32 q).toNat
theorem trim_zero {ds : List Nat} {n : Nat} (h : 0 < n ∧ n ≤ ds.length) (hz : ds.getD (n - 1) 0 = 0) : trimD (ds.take n) = trimD (ds.take (n - 1)) := by
 obtain ⟨m, rfl⟩ : ∃ m, n = m + 1 := ⟨n - 1, by omega⟩
 rw [List.take_succ_eq_append_getElem (by omega), Nat.add_sub_cancel]
 rw [Nat.add_sub_cancel, List.getD_eq_getElem?_getD, List.getElem?_eq_getElem (by omega)] at hz
 simp only [Option.getD_some] at hz
 rw [hz, trimD_snoc0]
theorem trim_stop {ds : List Nat} {n : Nat} (h : n ≤ ds.length) (hz : 0 < n → ds.getD (n - 1) 0 ≠ 0) : trimD (ds.take n) = ds.take n := by
 rcases Nat.eq_zero_or_pos n with h0 | h0
 · subst h0; simp [trimD]
 · obtain ⟨m, rfl⟩ : ∃ m, n = m + 1 := ⟨n - 1, by omega⟩
   have hz := hz h0
   rw [List.take_succ_eq_append_getElem (by omega)]
   rw [Nat.add_sub_cancel, List.getD_eq_getElem?_getD, List.getElem?_eq_getElem (by omega)] at hz
   exact trimD_snoc (by simpa using hz)
theorem q_Add32 {GB : Gh} {x y c : Nat} (hx : x < 4294967296) (hy : y < 4294967296) (hc : c ≤ 1) : PF GB Tryz.prog 209 [.v (.int .u32 (x : Int)), .v (.int .u32 (y : Int)), .v (.int .u32 (c : Int))] (.tp [.v (.int .u32 (((x + y + c) % 4294967296 : Nat) : Int)), .v (.int .u32 (((x + y + c) / 4294967296 : Nat) : Int))]) := by
 refine fn (hv := by simp only [allP]; exact ⟨⟨⟨⟨⟨by omega, by omega⟩, by omega⟩, by omega⟩, by omega⟩, (by decide)⟩) Tryz.func209 rfl rfl Tryz.ntmps209 rfl rfl (fun C => ?_)
 exact rz rfl (by
  have e1 : ((x : Int) + y + c) % 4294967296 = (((x + y + c) % 4294967296 : Nat) : Int) := by omega
  have e2 : ((x : Int) + y + c).fdiv (2 ^ min (32 : Int).toNat IntKind.u64.bits) % 4294967296 = (((x + y + c) / 4294967296 : Nat) : Int) := by
   rw [show (2 : Int) ^ min (32 : Int).toNat IntKind.u64.bits = ((4294967296 : Nat) : Int) from rfl, Int.fdiv_eq_ediv_of_nonneg _ (by decide)]
   omega
  show DV.tp [.v (.int _ _), .v (.int _ _)] = _
  rw [e1, e2])
theorem msb_ofInt (n : Nat) (h : n < 4294967296) : (BitVec.ofInt 32 (n : Int)).msb = decide (2147483648 ≤ n) := by
 rw [show BitVec.ofInt 32 (n : Int) = BitVec.ofNat 32 n from BitVec.ofInt_natCast ..]
 rw [BitVec.msb_eq_decide, BitVec.toNat_ofNat, Nat.mod_eq_of_lt (by simpa using h)]
theorem toNat_msb (b : BitVec 32) : b.toNat / 2147483648 = if b.msb then 1 else 0 := by
 have := b.isLt
 rw [BitVec.msb_eq_decide]
 simp only [decide_eq_true_eq, Nat.reduceSub, Nat.reducePow] at *
 split <;> omega
theorem bv_toNat_ofInt (b : BitVec 32) : BitVec.ofInt 32 (b.toNat : Int) = b := by rw [BitVec.ofInt_natCast, BitVec.ofNat_toNat, BitVec.setWidth_eq]
theorem sub_borrow {x y c : Nat} (hx : x < 4294967296) (hy : y < 4294967296) (hc : c ≤ 1) :
  ((orN (andN (xorN IntKind.u32.max x : Nat) y : Nat) (andN (xorN IntKind.u32.max (xorN x y : Nat) : Nat) (IntKind.u32.wrap (IntKind.u32.wrap ((x : Int) - y) - c)) : Nat) : Nat) : Int).fdiv (2 ^ min (31 : Int).toNat IntKind.u32.bits) = (((if x < y + c then 1 else 0) : Nat) : Int) := by
 rw [show ((2 : Int) ^ min (31 : Int).toNat IntKind.u32.bits) = ((2147483648 : Nat) : Int) from rfl, Int.fdiv_eq_ediv_of_nonneg _ (by decide), ← Int.natCast_ediv]
 congr 1
 have hd : ∃ d : Nat, d < 4294967296 ∧ IntKind.u32.wrap (IntKind.u32.wrap ((x : Int) - y) - c) = (d : Int) ∧ ((x ≥ y + c ∧ d = x - (y + c)) ∨ (x < y + c ∧ d = x + 4294967296 - (y + c))) := by
  rw [wrap_u32, wrap_u32]
  refine ⟨((((x : Int) - y) % 4294967296 - c) % 4294967296).toNat, by omega, by omega, by omega⟩
 obtain ⟨d, hd1, hd2, hd3⟩ := hd
 rw [hd2]
 unfold orN andN xorN
 simp only [bv_toNat_ofInt]
 rw [toNat_msb]
 simp only [BitVec.msb_or, BitVec.msb_and, BitVec.msb_xor, msb_ofInt x hx, msb_ofInt y hy, msb_ofInt d hd1]
 have h1 : (BitVec.ofInt 32 IntKind.u32.max).msb = true := by decide
 rw [h1]
 rcases Nat.lt_or_ge x 2147483648 with a | a <;> rcases Nat.lt_or_ge y 2147483648 with b | b <;> rcases Nat.lt_or_ge d 2147483648 with e | e <;>
  simp [Nat.not_le.2, *] <;> (first | omega | (split <;> omega))
theorem sub_diff {x y c : Nat} (hx : x < 4294967296) (hy : y < 4294967296) (hc : c ≤ 1) : IntKind.u32.wrap (IntKind.u32.wrap ((x : Int) - y) - c) = (((if x < y + c then x + 4294967296 - (y + c) else x - (y + c)) : Nat) : Int) := by
 rw [wrap_u32, wrap_u32]
 split <;> omega
theorem q_Sub32 {GB : Gh} {x y c : Nat} (hx : x < 4294967296) (hy : y < 4294967296) (hc : c ≤ 1) : PF GB Tryz.prog 210 [.v (.int .u32 (x : Int)), .v (.int .u32 (y : Int)), .v (.int .u32 (c : Int))] (.tp [.v (.int .u32 (((if x < y + c then x + 4294967296 - (y + c) else x - (y + c)) : Nat) : Int)), .v (.int .u32 (((if x < y + c then 1 else 0) : Nat) : Int))]) := by
 refine fn (fu := ⟨10⟩) Tryz.func210 rfl rfl Tryz.ntmps210 rfl rfl (fun C => ?_)
 refine sw (fu := ⟨1⟩) _ rfl (wrap_u32 _).symm rfl <| sw (fu := ⟨6⟩) _ rfl (wrap_u32 _).symm rfl <| nt (fu := ⟨4⟩) _ rfl rfl rfl <| xr (fu := ⟨0⟩) _ rfl rfl rfl <| nt _ rfl rfl rfl <| ?_
 exact rz rfl (by have h1 := sub_borrow hx hy hc; unfold orN andN xorN at h1; show DV.tp [.v (.int _ _), .v (.int _ _)] = _; rw [h1, sub_diff hx hy hc])
theorem q_Trim {GB : Gh} {ds : List Nat} (hl : ds.length ≤ 1125899906842624) : PF GB Tryz.prog 138 [dLi ds] (dLi (trimD ds)) := by
 refine fn Tryz.func138 rfl rfl Tryz.ntmps138 rfl rfl (fun C => ?_)
 refine lp (X := Nat) (fun n => [(0, .d (dLi ds)), (3, .d (vI (n : Nat)))]) (fun n => []) (fun n => n ≤ ds.length ∧ trimD ds = trimD (ds.take n)) (fun n => n) ds.length rfl ⟨Nat.le_refl _, by rw [List.take_length]⟩ (fun _ => rfl) (fun n hk => ?_)
 obtain ⟨h1, h2⟩ := hk
 refine cs 8 rfl rfl rfl (fun hg8 => ?_) (fun hg8 => ?_)
 ·
  refine ix _ rfl (mapU_getZ (k := n - 1) (by omega) (by omega)) rfl <| ?_
  refine br rfl rfl rfl (fun hc15 => ?_) (fun hc15 => ?_)
  ·
   have hz : ds.getD (n - 1) 0 = 0 := by omega
   exact at_ (n - 1) ⟨⟨by omega, by rw [h2, trim_zero (by omega) hz]⟩, (by omega)⟩
  ·
   refine sc' 0 n _ rfl rfl rfl rfl (slOkU _) (by omega) (by simp; omega) rfl <| ?_
   exact rz rfl (by have := trim_stop h1 (fun _ h => hc15 (by omega)); rw [← h2] at this; show DV.sl _ = _; simp [dLi, this])
 ·
  refine sc' 0 n _ rfl rfl rfl rfl (slOkU _) (by omega) (by simp; omega) rfl <| ?_
  exact rz rfl (by obtain rfl : n = 0 := (by omega); show DV.sl _ = _; simp [dLi, h2, trimD])
end Go.Sx
end

section
set_option maxRecDepth 100000
namespace Go.Sx
open Go Go.Proofs
theorem dg_len_bd {a k : Nat} (h : a < 2 ^ k) (hk : k ≤ 1000000000) : (dg a).length ≤ 100000000 := by have := dg_len_le h; omega
theorem dv_dg (a : Nat) : dv (dg a) = a := (dg_spec a).1
theorem dg_ok (a : Nat) : DOk (dg a) := (dg_spec a).2.1
theorem mapU_len (ds : List Nat) : (ds.map dU).length = ds.length := List.length_map ..
theorem take_all {ds : List Nat} {n : Nat} (h : ds.length ≤ n) : ds.take n = ds := List.take_of_length_le h
theorem getD_out {ds : List Nat} {i : Nat} (h : ds.length ≤ i) : ds.getD i 0 = 0 := by
 rw [List.getD_eq_getElem?_getD, List.getElem?_eq_none h]; rfl
theorem dL_trim {ds : List Nat} {n : Nat} (h : DOk ds) (e : dv ds = n) : dLi (trimD ds) = dN n := by rw [dL_dv h, e]
theorem cmpN_lt {a b : Nat} (h : a < b) : cmpN a b = -1 := by unfold cmpN; rw [if_pos h]
theorem cmpN_gt {a b : Nat} (h : b < a) : cmpN a b = 1 := by unfold cmpN; rw [if_neg (by omega), if_neg (by omega)]
theorem cmpN_eq {a b : Nat} (h : a = b) : cmpN a b = 0 := by unfold cmpN; rw [if_neg (by omega), if_pos h]
theorem sign_subN (m n : Nat) : Int.sign ((m : Int) - n) = cmpN m n := by
 unfold cmpN
 split
 · exact Int.sign_eq_neg_one_of_neg (by omega)
 · split
   · rw [show (m : Int) - n = 0 by omega]; rfl
   · exact Int.sign_eq_one_of_pos (by omega)
theorem cmpN_len {a b : Nat} (h : (dg a).length ≠ (dg b).length) : cmpN (dg a).length (dg b).length = cmpN a b := by
 rcases Nat.lt_or_gt_of_ne h with h | h
 · have := dv_len_lt (dg_ok a) (dg_spec b).2.2 h
   rw [dv_dg, dv_dg] at this
   rw [cmpN_lt h, cmpN_lt this]
 · have := dv_len_lt (dg_ok b) (dg_spec a).2.2 h
   rw [dv_dg, dv_dg] at this
   rw [cmpN_gt h, cmpN_gt this]
theorem cmp_dig {a b i : Nat} (hl : (dg a).length = (dg b).length) (hi : i < (dg a).length) (hs : (dg a).drop (i + 1) = (dg b).drop (i + 1)) :
   ((dg a).getD i 0 < (dg b).getD i 0 → a < b) ∧ ((dg b).getD i 0 < (dg a).getD i 0 → b < a) ∧ ((dg a).getD i 0 = (dg b).getD i 0 → (dg a).drop i = (dg b).drop i) := by
 refine ⟨fun h => ?_, fun h => ?_, fun h => ?_⟩
 · have := dv_cmp (dg_ok a) (dg_ok b) i hi (by omega) hl hs h
   rwa [dv_dg, dv_dg] at this
 · have := dv_cmp (dg_ok b) (dg_ok a) i (by omega) hi hl.symm hs.symm h
   rwa [dv_dg, dv_dg] at this
 · rw [List.drop_eq_getElem_cons hi, List.drop_eq_getElem_cons (by omega : i < (dg b).length), hs]
   rw [List.getD_eq_getElem?_getD, List.getD_eq_getElem?_getD, List.getElem?_eq_getElem hi, List.getElem?_eq_getElem (by omega : i < (dg b).length)] at h
   simp only [Option.getD_some] at h
   rw [h]
theorem q_sign {GB : Gh} {z : Int} : PF GB Tryz.prog 122 [vI z] (vI z.sign) := by
 refine fn Tryz.func122 rfl rfl Tryz.ntmps122 rfl rfl (fun C => ?_)
 refine br rfl rfl rfl (fun hc4 => ?_) (fun hc4 => ?_)
 ·
  exact rz rfl (by show DV.v (.int _ 1) = DV.v (.int _ _); rw [Int.sign_eq_one_of_pos (by omega)])
 ·
  refine br rfl rfl rfl (fun hc6 => ?_) (fun hc6 => ?_)
  ·
   exact rz rfl (by show DV.v (.int _ (-1)) = DV.v (.int _ _); rw [Int.sign_eq_neg_one_of_neg (by omega)])
  ·
   exact rz rfl (by show DV.v (.int _ 0) = DV.v (.int _ _); rw [show z = 0 by omega]; rfl)
theorem u64_split (u : Nat) : dv [u % 4294967296, u / 4294967296] = u := by simp only [dv]; omega
theorem u64_ok {u : Nat} (h : u < 18446744073709551616) : DOk [u % 4294967296, u / 4294967296] := .cons (by omega) (.cons (by omega) .nil)
theorem fdiv32 (u : Nat) : (u : Int).fdiv (2 ^ min (32 : Int).toNat IntKind.u64.bits) = ((u / 4294967296 : Nat) : Int) := by
 rw [show (2 : Int) ^ min (32 : Int).toNat IntKind.u64.bits = ((4294967296 : Nat) : Int) from rfl, Int.fdiv_eq_ediv_of_nonneg _ (by decide)]; rfl
theorem q_Word {GB : Gh} {u : Nat} (hu : u < 18446744073709551616) : PF GB Tryz.prog 114 [.v (.int .u64 (u : Int))] (dN u) := by
 refine fn (fu := ⟨11⟩) (hv := by simp only [allP]; exact (by decide)) Tryz.func114 rfl rfl Tryz.ntmps114 rfl rfl (fun C => ?_)
 refine eqF 6 (.d (.v (.int .u64 (u / 4294967296 : Nat)))) rfl (by rw [fdiv32]) ?_
 refine gx rfl <| rf (fu := ⟨0⟩) rfl rfl <| ?_
 refine eqF 8 (.d (dLi [u % 4294967296, u / 4294967296])) rfl (by show FX.d (.sl [.v (.int _ _), .v (.int _ _)]) = .d (.sl [.v (.int _ _), .v (.int _ _)]); congr 6; omega) ?_
 refine gx rfl <| cl rfl (q_Trim (ds := [u % 4294967296, u / 4294967296]) (by simp)) rfl <| ?_
 exact rz rfl (dL_trim (u64_ok hu) (u64_split u))
theorem q_One {GB : Gh}  : PF GB Tryz.prog 75 [] (dN 1) := by
 refine fn Tryz.func75 rfl rfl Tryz.ntmps75 rfl rfl (fun C => ?_)
 refine rf rfl rfl <| ?_
 exact rz rfl (by unfold dN; rw [dg_one]; rfl)
theorem q_Cmp {GB : Gh} {a b : Nat} (ha : (dg a).length ≤ 100000000) (hb : (dg b).length ≤ 100000000) : PF GB Tryz.prog 74 [dN a, dN b] (vI (cmpN a b)) := by
 have hla := mapU_len (dg a)
 have hlb := mapU_len (dg b)
 refine fn Tryz.func74 rfl rfl Tryz.ntmps74 rfl rfl (fun C => ?_)
 refine br rfl rfl rfl (fun hc10 => ?_) (fun hc10 => ?_)
 ·
  refine cl rfl q_sign rfl <| ?_
  exact rz rfl (by show DV.v (.int _ _) = DV.v (.int _ _); rw [hla, hlb, sign_subN, cmpN_len (by omega)])
 ·
  have hl : (dg a).length = (dg b).length := by omega
  refine lp (X := Nat) (fun k => [(0, .d (dN a)), (1, .d (dN b)), (5, .d (vI ((k : Nat) - 1)))]) (fun k => []) (fun k => k ≤ (dg a).length ∧ (dg a).drop k = (dg b).drop k) (fun k => k) (dg a).length rfl ⟨Nat.le_refl _, by rw [List.drop_length, hl, List.drop_length]⟩ (fun _ => rfl) (fun k hk => ?_)
  obtain ⟨h1, h2⟩ := hk
  refine br rfl rfl rfl (fun hc21 => ?_) (fun hc21 => ?_)
  ·
   obtain ⟨k, rfl⟩ : ∃ m, k = m + 1 := ⟨k - 1, by omega⟩
   refine ix _ rfl (mapU_getZ (k := k) (by omega) (by omega)) rfl <| ix _ rfl (mapU_getZ (k := k) (by omega) (by omega)) rfl <| ?_
   refine br rfl rfl rfl (fun hc32 => ?_) (fun hc32 => ?_)
   ·
    exact rz rfl (by show DV.v (.int _ 1) = DV.v (.int _ _); rw [cmpN_gt ((cmp_dig hl (by omega) h2).2.1 (by omega))])
   ·
    refine ix _ rfl (mapU_getZ (k := k) (by omega) (by omega)) rfl <| ix _ rfl (mapU_getZ (k := k) (by omega) (by omega)) rfl <| ?_
    refine br rfl rfl rfl (fun hc41 => ?_) (fun hc41 => ?_)
    ·
     exact rz rfl (by show DV.v (.int _ (-1)) = DV.v (.int _ _); rw [cmpN_lt ((cmp_dig hl (by omega) h2).1 (by omega))])
    ·
     exact at_ k ⟨⟨by omega, (cmp_dig (i := k) hl (by omega) h2).2.2 (by omega)⟩, (by omega)⟩
  ·
   exact rz rfl (by show DV.v (.int _ 0) = DV.v (.int _ _); rw [cmpN_eq]; obtain rfl : k = 0 := (by omega); rw [List.drop_zero, List.drop_zero] at h2; rw [← dv_dg a, h2, dv_dg])
theorem sum_inv {A B W : List Nat} {i c : Nat} (hi : i < W.length) (h : dv (W.take i) + 4294967296 ^ i * c = dv (A.take i) + dv (B.take i)) :
  dv ((W.set i ((A.getD i 0 + B.getD i 0 + c) % 4294967296)).take (i + 1)) + 4294967296 ^ (i + 1) * ((A.getD i 0 + B.getD i 0 + c) / 4294967296) = dv (A.take (i + 1)) + dv (B.take (i + 1)) := by
 rw [dv_set_take hi, dv_take_succ A, dv_take_succ B, Nat.pow_succ, show A.getD i 0 + B.getD i 0 + c = c + A.getD i 0 + B.getD i 0 by omega]
 exact add_step h
theorem sum_end {a b n : Nat} {W : List Nat} {c : Nat} (hn : n = max (dg a).length (dg b).length) (hl : W.length = n + 1) (h : dv (W.take n) + 4294967296 ^ n * c = dv ((dg a).take n) + dv ((dg b).take n)) : dv (W.set n c) = a + b := by
 have e := dv_set_take (ws := W) (k := n) (d := c) (by omega)
 rw [take_all (by rw [List.length_set]; omega)] at e
 rw [e, h, take_all (by omega), take_all (by omega), dv_dg, dv_dg]
set_option maxHeartbeats 1000000 in
theorem q_Sum {GB : Gh} {a b ia ib : Nat} [ha : BN a ia] [hb : BN b ib] (hi : ia ≤ 1000000000 := by decide) (hj : ib ≤ 1000000000 := by decide) : PF GB Tryz.prog 172 [dN a, dN b] (dN (a + b)) := by
 have hla := mapU_len (dg a)
 have hlb := mapU_len (dg b)
 have hba := dg_len_bd ha.h hi
 have hbb := dg_len_bd hb.h hj
 refine fn (fu := ⟨12⟩) Tryz.func172 rfl rfl Tryz.ntmps172 rfl rfl (fun C => ?_)
 obtain ⟨n, hn⟩ : ∃ n, n = max (dg a).length (dg b).length := ⟨_, rfl⟩
 refine eqF 15 (.d (vI (n : Nat))) rfl (by show FX.d (.v (.int _ _)) = .d (.v (.int _ _)); congr 3; split <;> omega) ?_
 refine gx rfl <| mk ((List.replicate (n + 1) 0).map dU) rfl rfl (by rw [← mapU_rep]; rfl) rfl <| ?_
 refine lp (X := List Nat × Nat × Nat) (fun ⟨W, c, i⟩ => [(0, .d (dN a)), (1, .d (dN b)), (5, .d (vI (n : Nat))), (6, .rw 18), (7, .d (.v (.int .u32 (c : Nat)))), (8, .d (vI (i : Nat)))]) (fun ⟨W, c, i⟩ => [(18, some (.b 224 1 (W.map dU) true))]) (fun ⟨W, c, i⟩ => W.length = n + 1 ∧ DOk W ∧ c ≤ 1 ∧ i ≤ n ∧ dv (W.take i) + 4294967296 ^ i * c = dv ((dg a).take i) + dv ((dg b).take i)) (fun ⟨W, c, i⟩ => n - i) ⟨List.replicate (n + 1) 0, 0, 0⟩ rfl ⟨by simp, .replicate _, by omega, by omega, by simp [dv]⟩ (fun _ => rfl) (fun ⟨W, c, i⟩ hk => ?_)
 dsimp only at hk ⊢
 obtain ⟨h1, h2, h3, h4, h5⟩ := hk
 have hlw := mapU_len W
 have hda := dg_lt a i
 have hdb := dg_lt b i
 refine br (fu1 := ⟨11⟩) rfl rfl rfl (fun hc21 => ?_) (fun hc21 => ?_)
 ·
  refine mg (fu := ⟨1⟩) (X := Unit) (fun _ => [(0, .d (dN a)), (1, .d (dN b)), (5, .d (vI (n : Nat))), (6, .rw 18), (7, .d (.v (.int .u32 (c : Nat)))), (8, .d (vI (i : Nat))), (9, .d (dU ((dg a).getD i 0))), (10, .d (.v (.int .u32 0)))]) (fun _ => [(18, some (.b 224 1 (W.map dU) true))]) (fun _ => True) [0, 1, 5, 6, 7, 8, 9, 10] [18] rfl ?_ (fun _ => rfl) (fun _ hm => ?_)
  ·
   refine gx rfl <| ?_
   refine br rfl rfl rfl (fun hc27 => ?_) (fun hc27 => ?_)
   ·
    refine ix _ rfl (mapU_getI (by omega)) rfl <| ?_
    exact at_ () trivial
   ·
    refine eqF 9 (.d (dU ((dg a).getD i 0))) rfl (by rw [getD_out (by omega)]; rfl) ?_
    exact at_ () trivial
  ·
   refine mg (X := Unit) (fun _ => [(0, .d (dN a)), (1, .d (dN b)), (5, .d (vI (n : Nat))), (6, .rw 18), (7, .d (.v (.int .u32 (c : Nat)))), (8, .d (vI (i : Nat))), (9, .d (dU ((dg a).getD i 0))), (10, .d (dU ((dg b).getD i 0)))]) (fun _ => [(18, some (.b 224 1 (W.map dU) true))]) (fun _ => True) [0, 1, 5, 6, 7, 8, 9, 10] [18] rfl ?_ (fun _ => rfl) (fun _ hm => ?_)
   ·
    refine gx rfl <| ?_
    refine br rfl rfl rfl (fun hc35 => ?_) (fun hc35 => ?_)
    ·
     refine ix _ rfl (mapU_getI (by omega)) rfl <| ?_
     exact at_ () trivial
    ·
     refine eqF 10 (.d (dU ((dg b).getD i 0))) rfl (by rw [getD_out (by omega)]; rfl) ?_
     exact at_ () trivial
   ·
    refine cl rfl (q_Add32 (by omega) (by omega) (by omega)) rfl <| sb _ ((W.set i (((dg a).getD i 0 + (dg b).getD i 0 + c) % 4294967296)).map dU) rfl (mapU_getI (by omega)) rfl (by rw [← mapU_set]; rfl) rfl <| ?_
    exact at_ ⟨W.set i (((dg a).getD i 0 + (dg b).getD i 0 + c) % 4294967296), ((dg a).getD i 0 + (dg b).getD i 0 + c) / 4294967296, i + 1⟩ (by dsimp only; exact ⟨⟨by simpa using h1, h2.set _ (by omega), by omega, by omega, sum_inv (by omega) h5⟩, (by omega)⟩)
 ·
  obtain rfl : i = n := by omega
  refine sb _ ((W.set i c).map dU) rfl (mapU_getI (by omega)) rfl (by rw [← mapU_set]; rfl) rfl <| fz 18 rfl rfl <| cl rfl (q_Trim (ds := W.set i c) (by simp; omega)) rfl <| ?_
  exact rz rfl (dL_trim (h2.set _ (by omega)) (sum_end hn h1 h5))
theorem less_inv {A B W : List Nat} {i c d c2 : Nat} (hA : DOk A) (hB : DOk B) (hi : i < W.length) (hc : c ≤ 1) (h : dv (W.take i) + dv (B.take i) = dv (A.take i) + 4294967296 ^ i * c)
   (hd : d = if A.getD i 0 < B.getD i 0 + c then A.getD i 0 + 4294967296 - (B.getD i 0 + c) else A.getD i 0 - (B.getD i 0 + c)) (hc2 : c2 = if A.getD i 0 < B.getD i 0 + c then 1 else 0) :
   dv ((W.set i d).take (i + 1)) + dv (B.take (i + 1)) = dv (A.take (i + 1)) + 4294967296 ^ (i + 1) * c2 := by
 have h1 := hA.get i
 have h2 := hB.get i
 rw [dv_set_take hi, dv_take_succ A, dv_take_succ B, Nat.pow_succ]
 split at hd
 · rename_i q
   rw [if_pos q] at hc2
   subst hc2 hd
   rw [Nat.add_comm (B.getD i 0) c]
   exact sub_yes h (by omega) (by omega)
 · rename_i q
   rw [if_neg q] at hc2
   subst hc2 hd
   rw [Nat.add_comm (B.getD i 0) c]
   exact sub_no h (by omega)
theorem less_end {a b c : Nat} {W : List Nat} (hw : DOk W) (hl : W.length = (dg a).length) (hb : b ≤ a) (h : dv (W.take (dg a).length) + dv ((dg b).take (dg a).length) = dv ((dg a).take (dg a).length) + 4294967296 ^ (dg a).length * c) : dv W = a - b := by
 have hlb : (dg b).length ≤ (dg a).length := by
   rcases Nat.lt_or_ge (dg a).length (dg b).length with q | q
   · have := dv_len_lt (dg_ok a) (dg_spec b).2.2 q
     rw [dv_dg, dv_dg] at this
     omega
   · exact q
 rw [take_all (by omega), take_all hlb, take_all (Nat.le_refl _), dv_dg, dv_dg] at h
 have h2 := dv_lt hw
 rw [hl] at h2
 rcases Nat.eq_zero_or_pos c with q | q
 · subst q; omega
 · have : 4294967296 ^ (dg a).length * 1 ≤ 4294967296 ^ (dg a).length * c := Nat.mul_le_mul_left _ q
   omega
set_option maxHeartbeats 1000000 in
theorem q_Less {GB : Gh} {a b ia : Nat} [ha : BN a ia] (hb : b ≤ a) (hi : ia ≤ 1000000000 := by decide) : PF GB Tryz.prog 173 [dN a, dN b] (dN (a - b)) := by
 have hla := mapU_len (dg a)
 have hlb := mapU_len (dg b)
 have hba := dg_len_bd ha.h hi
 refine fn (fu := ⟨9⟩) Tryz.func173 rfl rfl Tryz.ntmps173 rfl rfl (fun C => ?_)
 refine eqF 10 (.d (vI ((dg a).length : Nat))) rfl (by rw [hla]; rfl) ?_
 refine gx rfl <| mk (fu := ⟨13⟩) ((List.replicate (dg a).length 0).map dU) rfl rfl (by rw [← mapU_rep]; rfl) rfl <| ?_
 refine eqF 13 (.d (vI ((dg a).length : Nat))) rfl (by rw [hla]; rfl) ?_
 refine gx rfl <| ?_
 refine lp (X := List Nat × Nat × Nat) (fun ⟨W, c, i⟩ => [(0, .d (dN a)), (1, .d (dN b)), (5, .rw 11), (6, .d (.v (.int .u32 (c : Nat)))), (13, .d (vI ((dg a).length : Nat))), (14, .d (vI (i : Nat)))]) (fun ⟨W, c, i⟩ => [(11, some (.b 224 1 (W.map dU) true))]) (fun ⟨W, c, i⟩ => W.length = (dg a).length ∧ DOk W ∧ c ≤ 1 ∧ i ≤ (dg a).length ∧ dv (W.take i) + dv ((dg b).take i) = dv ((dg a).take i) + 4294967296 ^ i * c) (fun ⟨W, c, i⟩ => (dg a).length - i) ⟨List.replicate (dg a).length 0, 0, 0⟩ rfl ⟨by simp, .replicate _, by omega, by omega, by simp [dv]⟩ (fun _ => rfl) (fun ⟨W, c, i⟩ hk => ?_)
 dsimp only at hk ⊢
 obtain ⟨h1, h2, h3, h4, h5⟩ := hk
 have hlw := mapU_len W
 have hda := dg_lt a i
 have hdb := dg_lt b i
 refine br (fu1 := ⟨16⟩) rfl rfl rfl (fun hc15 => ?_) (fun hc15 => ?_)
 ·
  refine mg (X := Unit) (fun _ => [(0, .d (dN a)), (1, .d (dN b)), (5, .rw 11), (6, .d (.v (.int .u32 (c : Nat)))), (13, .d (vI ((dg a).length : Nat))), (14, .d (vI (i : Nat))), (7, .d (vI (i : Nat))), (8, .d (dU ((dg b).getD i 0)))]) (fun _ => [(11, some (.b 224 1 (W.map dU) true))]) (fun _ => True) [0, 1, 5, 6, 13, 14, 7, 8] [11] rfl ?_ (fun _ => rfl) (fun _ hm => ?_)
  ·
   refine gx rfl <| ?_
   refine br rfl rfl rfl (fun hc20 => ?_) (fun hc20 => ?_)
   ·
    refine ix _ rfl (mapU_getI (by omega)) rfl <| ?_
    exact at_ () trivial
   ·
    refine eqF 8 (.d (dU ((dg b).getD i 0))) rfl (by rw [getD_out (by omega)]; rfl) ?_
    exact at_ () trivial
  ·
   refine ix _ rfl (mapU_getI (by omega)) rfl <| cl rfl (q_Sub32 (by omega) (by omega) (by omega)) rfl <| sb _ ((W.set i (if (dg a).getD i 0 < (dg b).getD i 0 + c then (dg a).getD i 0 + 4294967296 - ((dg b).getD i 0 + c) else (dg a).getD i 0 - ((dg b).getD i 0 + c))).map dU) rfl (mapU_getI (by omega)) rfl (by rw [← mapU_set]; rfl) rfl <| ?_
   exact at_ ⟨W.set i (if (dg a).getD i 0 < (dg b).getD i 0 + c then (dg a).getD i 0 + 4294967296 - ((dg b).getD i 0 + c) else (dg a).getD i 0 - ((dg b).getD i 0 + c)), (if (dg a).getD i 0 < (dg b).getD i 0 + c then 1 else 0), i + 1⟩ (by dsimp only; exact ⟨⟨by simpa using h1, h2.set _ (by split <;> omega), by split <;> omega, by omega, less_inv (dg_ok a) (dg_ok b) (by omega) h3 h5 rfl rfl⟩, (by omega)⟩)
 ·
  obtain rfl : i = (dg a).length := by omega
  refine fz 11 rfl rfl <| cl rfl (q_Trim (ds := W) (by omega)) rfl <| ?_
  exact rz rfl (dL_trim h2 (less_end h2 h1 hb h5))
end Go.Sx
end

section
set_option maxRecDepth 100000
namespace Go.Sx
open Go Go.Proofs
theorem bv_or (n : Nat) (a b k : Nat) (ha : a < 2 ^ k) (h : a + b * 2 ^ k < 2 ^ n) : (BitVec.ofInt n (a : Int) ||| BitVec.ofInt n ((b * 2 ^ k : Nat) : Int)).toNat = a + b * 2 ^ k := by
 rw [BitVec.toNat_or, BitVec.ofInt_natCast, BitVec.ofInt_natCast, BitVec.toNat_ofNat, BitVec.toNat_ofNat, Nat.mod_eq_of_lt (by omega), Nat.mod_eq_of_lt (by omega)]
 rw [← Nat.shiftLeft_eq, Nat.or_comm, ← Nat.shiftLeft_add_eq_or_of_lt ha, Nat.shiftLeft_eq]
 omega
theorem mul_bd {x y : Nat} (hx : x < 4294967296) (hy : y < 4294967296) : x * y ≤ 18446744065119617025 := by
 have := Nat.mul_le_mul (by omega : x ≤ 4294967295) (by omega : y ≤ 4294967295)
 exact this
theorem mul_lo (x y : Nat) : (0 : Int) ≤ (x : Int) * (y : Int) := by rw [← Int.natCast_mul]; omega
theorem mul_hi {x y : Nat} (hx : x < 4294967296) (hy : y < 4294967296) : (x : Int) * (y : Int) ≤ 18446744073709551615 := by
 have := mul_bd hx hy
 rw [← Int.natCast_mul]; omega
theorem dv_one {ds : List Nat} (h : ds.length = 1) : dv ds = ds.getD 0 0 := by
 match ds, h with
 | [d], _ => simp [dv]
theorem dg_one_digit {a : Nat} (h : (dg a).length = 1) : (dg a).getD 0 0 = a := by rw [← dv_one h, dv_dg]
theorem getD_take {ds : List Nat} {j m : Nat} (h : j < m) : (ds.take m).getD j 0 = ds.getD j 0 := by
 rw [List.getD_eq_getElem?_getD, List.getD_eq_getElem?_getD, List.getElem?_take, if_pos h]
theorem dv_set_in {W : List Nat} {j m d : Nat} (hj : j < m) (hm : m ≤ W.length) : dv ((W.set j d).take m) + 4294967296 ^ j * W.getD j 0 = dv (W.take m) + 4294967296 ^ j * d := by
 rw [List.take_set, ← getD_take (ds := W) hj]
 exact dv_set _ _ _ (by rw [List.length_take]; omega)
theorem prod_inv {W : List Nat} {P X Y m i k c y t S : Nat} (hk : i + k < m) (hm : m ≤ W.length) (h : dv (W.take m) + 4294967296 ^ (i + k) * c = P + X * (4294967296 ^ i * S)) (ht : t = Y + W.getD (i + k) 0 + c) (hY : Y = X * y) :
  dv ((W.set (i + k) (t % 4294967296)).take m) + 4294967296 ^ (i + (k + 1)) * (t / 4294967296) = P + X * (4294967296 ^ i * (S + 4294967296 ^ k * y)) := by
 have h1 := dv_set_in (W := W) (d := t % 4294967296) hk hm
 rw [ht, show Y + W.getD (i + k) 0 + c = c + Y + W.getD (i + k) 0 by omega] at h1 ⊢
 have h2 := mul_step h1 h
 rw [← Nat.add_assoc, Nat.pow_succ, h2, hY, Nat.pow_add]
 simp only [Nat.mul_add, Nat.mul_assoc, Nat.mul_left_comm, Nat.mul_comm, Nat.add_assoc]
theorem prod_end {a b : Nat} {W : List Nat} {i c lb : Nat} (hlb : lb = (dg b).length) (hl : i + lb < W.length) (h : dv (W.take (i + lb)) + 4294967296 ^ (i + lb) * c = dv ((dg a).take i) * b + (dg a).getD i 0 * (4294967296 ^ i * dv ((dg b).take lb))) :
  dv ((W.set (i + lb) c).take (i + 1 + lb)) = dv ((dg a).take (i + 1)) * b := by
 rw [show i + 1 + lb = i + lb + 1 by omega, dv_set_take hl, h, dv_take_succ, take_all (ds := dg b) (by omega), dv_dg b, Nat.add_mul]
 simp only [Nat.mul_assoc, Nat.mul_left_comm, Nat.mul_comm]
theorem rep_getD (n j : Nat) : (List.replicate n 0).getD j 0 = 0 := by
 rw [List.getD_eq_getElem?_getD, List.getElem?_replicate]
 split <;> rfl
theorem quo32 {k : Nat} (h : k ≤ 1000000000) : IntKind.i64.wrap ((k : Int).tdiv 32) = ((k / 32 : Nat) : Int) := by
 rw [show (k : Int).tdiv 32 = ((k / 32 : Nat) : Int) from rfl, wrap_i64]; omega
theorem rem32 (k : Nat) : (k : Int).tmod 32 = ((k % 32 : Nat) : Int) := rfl
set_option maxHeartbeats 2000000 in
theorem q_Product {GB : Gh} {a b ia ib : Nat} [ha : BN a ia] [hb : BN b ib] (hi : ia ≤ 1000000000 := by decide) (hj : ib ≤ 1000000000 := by decide) : PF GB Tryz.prog 91 [dN a, dN b] (dN (a * b)) := by
 have hla := mapU_len (dg a)
 have hlb := mapU_len (dg b)
 have hba := dg_len_bd ha.h hi
 have hbb := dg_len_bd hb.h hj
 refine fn (fu := ⟨6⟩) Tryz.func91 rfl rfl Tryz.ntmps91 rfl rfl (fun C => ?_)
 refine mg (fu := ⟨4⟩) (X := Unit) (fun _ => [(0, .d (dN a)), (1, .d (dN b))]) (fun _ => []) (fun _ => True) [0, 1] [] rfl ?_ (fun _ => rfl) (fun _ hm => ?_)
 ·
  refine gx rfl <| ?_
  refine cs 15 rfl rfl rfl (fun hg15 => ?_) (fun hg15 => ?_)
  ·
   refine br rfl rfl rfl (fun hc19 => ?_) (fun hc19 => ?_)
   ·
    have hd0 := dg_lt a 0
    have hd1 := dg_lt b 0
    refine ix _ rfl (mapU_getZ (k := 0) rfl (by omega)) rfl <| ix (hv := by simp only [allP]; exact ⟨by omega, ⟨(mul_lo _ _), (mul_hi (dg_lt _ _) (dg_lt _ _))⟩⟩) _ rfl (mapU_getZ (k := 0) rfl (by omega)) rfl <| cl rfl (q_Word (u := (dg a).getD 0 0 * (dg b).getD 0 0) (by have := mul_bd (dg_lt a 0) (dg_lt b 0); omega)) rfl <| ?_
    exact rz rfl (by rw [dg_one_digit (by omega), dg_one_digit (by omega)]; rfl)
   ·
    exact at_ () trivial
  ·
   exact at_ () trivial
 ·
  refine eqF 31 (.d (vI ((dg a).length : Nat))) rfl (by rw [hla]; rfl) ?_
  refine gx (fu := ⟨2⟩) rfl <| ?_
  refine eqF 33 (.d (vI ((dg b).length : Nat))) rfl (by rw [hlb]; rfl) ?_
  refine gx rfl <| mk (fu := ⟨8⟩) ((List.replicate ((dg a).length + (dg b).length) 0).map dU) rfl rfl (by rw [← mapU_rep]; rfl) rfl <| ?_
  refine eqF 37 (.d (vI ((dg a).length : Nat))) rfl (by rw [hla]; rfl) ?_
  refine gx rfl <| ?_
  refine lp (X := List Nat × Nat) (fun ⟨W, i⟩ => [(0, .d (dN a)), (1, .d (dN b)), (5, .rw 35), (36, .d (dN a)), (37, .d (vI ((dg a).length : Nat))), (38, .d (vI (i : Nat)))]) (fun ⟨W, i⟩ => [(35, some (.b 224 1 (W.map dU) true))]) (fun ⟨W, i⟩ => W.length = (dg a).length + (dg b).length ∧ DOk W ∧ i ≤ (dg a).length ∧ dv (W.take (i + (dg b).length)) = dv ((dg a).take i) * b) (fun ⟨W, i⟩ => (dg a).length - i) ⟨List.replicate ((dg a).length + (dg b).length) 0, 0⟩ rfl ⟨by simp, .replicate _, by omega, by rw [List.take_replicate, dv_replicate]; simp [dv]⟩ (fun _ => rfl) (fun ⟨W, i⟩ hk => ?_)
  dsimp only at hk ⊢
  obtain ⟨h1, h2, h3, h4⟩ := hk
  refine br rfl rfl rfl (fun hc39 => ?_) (fun hc39 => ?_)
  ·
   refine ix (fu := ⟨15⟩) _ rfl (mapU_getI (by omega)) rfl <| ?_
   refine eqF 44 (.d (vI ((dg b).length : Nat))) rfl (by rw [hlb]; rfl) ?_
   refine gx rfl <| ?_
   refine lp (X := List Nat × Nat × Nat) (fun ⟨W2, c, k⟩ => [(0, .d (dN a)), (1, .d (dN b)), (5, .rw 35), (6, .d (vI (i : Nat))), (7, .d (dU ((dg a).getD i 0))), (8, .d (.v (.int .u64 (c : Nat)))), (36, .d (dN a)), (37, .d (vI ((dg a).length : Nat))), (38, .d (vI (i : Nat))), (43, .d (dN b)), (44, .d (vI ((dg b).length : Nat))), (45, .d (vI (k : Nat)))]) (fun ⟨W2, c, k⟩ => [(35, some (.b 224 1 (W2.map dU) true))]) (fun ⟨W2, c, k⟩ => W2.length = (dg a).length + (dg b).length ∧ DOk W2 ∧ c < 4294967296 ∧ k ≤ (dg b).length ∧ dv (W2.take (i + (dg b).length)) + 4294967296 ^ (i + k) * c = dv ((dg a).take i) * b + (dg a).getD i 0 * (4294967296 ^ i * dv ((dg b).take k))) (fun ⟨W2, c, k⟩ => (dg b).length - k) ⟨W, 0, 0⟩ rfl ⟨h1, h2, by omega, by omega, by rw [h4]; simp [dv]⟩ (fun _ => rfl) (fun ⟨W2, c, k⟩ hk => ?_)
   dsimp only at hk ⊢
   obtain ⟨g1, g2, g3, g4, g5⟩ := hk
   have hlw := mapU_len W2
   have hw := g2.get (i + k)
   have hda := dg_lt a i
   have hdb := dg_lt b k
   refine br (fu2 := ⟨10⟩) rfl rfl rfl (fun hc46 => ?_) (fun hc46 => ?_)
   ·
    refine ix (fu := ⟨12⟩) (hv := by simp only [allP]; exact ⟨⟨by omega, by omega⟩, ⟨(mul_lo _ _), (mul_hi (dg_lt _ _) (dg_lt _ _))⟩⟩) _ rfl (mapU_getI (by omega)) rfl <| ?_
    obtain ⟨p, hp⟩ : ∃ p, p = (dg a).getD i 0 * (dg b).getD k 0 := ⟨_, rfl⟩
    have hp1 : p ≤ 18446744065119617025 := hp ▸ mul_bd hda hdb
    refine eqF 54 (.d (.v (.int .u64 (p : Nat)))) rfl (by rw [hp, Int.natCast_mul]) ?_
    refine gx rfl <| lb (fu := ⟨4⟩) _ rfl (mapU_getZ (k := i + k) (by omega) (by omega)) rfl <| ?_
    obtain ⟨t, ht⟩ : ∃ t, t = p + W2.getD (i + k) 0 + c := ⟨_, rfl⟩
    refine eqF 64 (.d (.v (.int .u64 (t : Nat)))) rfl (by congr 3; omega) ?_
    refine gx (fu := ⟨11⟩) rfl <| ?_
    refine eqF 70 (.d (dU (t % 4294967296))) rfl (by show FX.d (.v (.int _ _)) = .d (.v (.int _ _)); congr 3) ?_
    refine gx rfl <| sb (fu := ⟨5⟩) (hv := by simp only [allP]; exact (by decide)) _ ((W2.set (i + k) (t % 4294967296)).map dU) rfl (mapU_getZ (k := i + k) (by omega) (by omega)) rfl (by (rw [show ((i : Int) + k).toNat = i + k by omega, ← mapU_set]) <;> rfl) rfl <| ?_
    refine eqF 73 (.d (.v (.int .u64 (t / 4294967296 : Nat)))) rfl (by rw [fdiv32]) ?_
    refine gx rfl <| ?_
    exact at_ ⟨W2.set (i + k) (t % 4294967296), t / 4294967296, k + 1⟩ (by dsimp only; exact ⟨⟨by simpa using g1, g2.set _ (by omega), by omega, by omega, by rw [dv_take_succ]; exact prod_inv (by omega) (by omega) g5 ht hp⟩, (by omega)⟩)
   ·
    obtain rfl : k = (dg b).length := by omega
    refine eqF 78 (.d (vI ((dg b).length : Nat))) rfl (by rw [hlb]; rfl) ?_
    refine gx (fu := ⟨3⟩) rfl <| ?_
    refine eqF 81 (.d (dU c)) rfl (by show FX.d (.v (.int _ _)) = .d (.v (.int _ _)); congr 3; omega) ?_
    refine gx rfl <| sb _ ((W2.set (i + (dg b).length) c).map dU) rfl (mapU_getZ (k := i + (dg b).length) (by omega) (by omega)) rfl (by (rw [show ((i : Int) + ((dg b).length : Nat)).toNat = i + (dg b).length by omega, ← mapU_set]) <;> rfl) rfl <| ?_
    exact at_ ⟨W2.set (i + (dg b).length) c, i + 1⟩ (by dsimp only; exact ⟨⟨by simpa using g1, g2.set _ g3, by omega, prod_end rfl (by omega) g5⟩, (by omega)⟩)
  ·
   obtain rfl : i = (dg a).length := by omega
   refine fz 35 rfl rfl <| cl rfl (q_Trim (ds := W) (by omega)) rfl <| ?_
   exact rz rfl (dL_trim h2 (by have := h4; rw [take_all (by omega), take_all (by omega), dv_dg] at this; exact this))
theorem left_parts (x s : Nat) : x * 2 ^ s = x * 2 ^ s % 4294967296 + 4294967296 * (x * 2 ^ s / 4294967296) := by omega
theorem left_hi {x s : Nat} (hx : x < 4294967296) (hs : s < 32) : x * 2 ^ s / 4294967296 < 2 ^ s := by
 rw [Nat.div_lt_iff_lt_mul (by decide), Nat.mul_comm (2 ^ s)]
 exact Nat.mul_lt_mul_of_lt_of_le hx (Nat.le_refl _) (Nat.pow_pos (by decide))
theorem pow32s {s : Nat} (hs : s < 32) : 2 ^ s * 2 ^ (32 - s) = 4294967296 := by rw [← Nat.pow_add, show s + (32 - s) = 32 by omega]
theorem left_lo (x s : Nat) (hs : s < 32) : x * 2 ^ s % 4294967296 = x % 2 ^ (32 - s) * 2 ^ s := by
 rw [← pow32s hs, Nat.mul_comm (2 ^ s), Nat.mul_mod_mul_right]
theorem left_fit {x s : Nat} (hx : x < 4294967296) (hs : s < 32) : x * 2 ^ s < 18446744073709551616 := by
 have h1 : 2 ^ s ≤ 2 ^ 31 := Nat.pow_le_pow_right (by decide) (by omega)
 have := Nat.mul_lt_mul_of_lt_of_le hx h1 (by decide)
 omega
theorem left_or {w x s : Nat} (hw : w < 2 ^ s) (hs : s < 32) : (BitVec.ofInt 32 (w : Int) ||| BitVec.ofInt 32 ((x * 2 ^ s % 4294967296 : Nat) : Int)).toNat = w + x * 2 ^ s % 4294967296 := by
 rw [left_lo x s hs]
 refine bv_or 32 _ _ _ hw ?_
 have h1 : x % 2 ^ (32 - s) + 1 ≤ 2 ^ (32 - s) := Nat.mod_lt _ (Nat.pow_pos (by decide))
 have h2 := Nat.mul_le_mul_right (2 ^ s) h1
 rw [Nat.mul_comm (2 ^ (32 - s)), pow32s hs, Nat.add_mul, Nat.one_mul] at h2
 show _ < 4294967296
 omega
theorem or_zero32 {h : Nat} (hh : h < 4294967296) : (BitVec.ofInt 32 ((0 : Nat) : Int) ||| BitVec.ofInt 32 (h : Int)).toNat = h := by
 have := bv_or 32 0 h 0 (by decide) (by simpa using hh)
 simpa using this
theorem pow32k (k : Nat) : 2 ^ k = 4294967296 ^ (k / 32) * 2 ^ (k % 32) := by
 rw [show (4294967296 : Nat) = 2 ^ 32 from rfl, ← Nat.pow_mul, ← Nat.pow_add, Nat.div_add_mod]
theorem getD_set_ne {W : List Nat} {i j d : Nat} (h : i ≠ j) : (W.set i d).getD j 0 = W.getD j 0 := by
 rw [List.getD_eq_getElem?_getD, List.getD_eq_getElem?_getD, List.getElem?_set_ne h]
theorem getD_set_eq {W : List Nat} {i d : Nat} (h : i < W.length) : (W.set i d).getD i 0 = d := by
 rw [List.getD_eq_getElem?_getD, List.getElem?_set_self h]; rfl
theorem left_inv {A W : List Nat} {k q s i x : Nat} (hq : q = k / 32) (hs : s = k % 32) (hl : q + i + 1 < W.length) (hx : x = A.getD i 0)
  (h : dv (W.take (q + i + 1)) = dv (A.take i) * 2 ^ k) :
  dv (((W.set (q + i) (W.getD (q + i) 0 + x * 2 ^ s % 4294967296)).set (q + i + 1) (x * 2 ^ s / 4294967296)).take (q + (i + 1) + 1)) = dv (A.take (i + 1)) * 2 ^ k := by
 have e1 := dv_set_in (W := W) (j := q + i) (m := q + i + 1) (d := W.getD (q + i) 0 + x * 2 ^ s % 4294967296) (by omega) (by omega)
 rw [show q + (i + 1) + 1 = q + i + 1 + 1 by omega, dv_set_take (by rw [List.length_set]; omega), dv_take_succ A, ← hx]
 have e2 : dv ((W.set (q + i) (W.getD (q + i) 0 + x * 2 ^ s % 4294967296)).take (q + i + 1)) = dv (A.take i) * 2 ^ k + 4294967296 ^ (q + i) * (x * 2 ^ s % 4294967296) := by
  rw [Nat.mul_add, h] at e1; omega
 rw [e2, Nat.pow_succ, Nat.mul_assoc, Nat.add_assoc, ← Nat.mul_add, ← left_parts, Nat.add_mul, pow32k k, ← hq, ← hs, Nat.pow_add]
 simp only [Nat.mul_assoc, Nat.mul_left_comm, Nat.mul_comm]
set_option maxHeartbeats 2000000 in
theorem q_Left {GB : Gh} {a k ia : Nat} [ha : BN a ia] (hk : k ≤ 1000000000) (hi : ia ≤ 1000000000 := by decide) : PF GB Tryz.prog 203 [dN a, vI (k : Nat)] (dN (a * 2 ^ k)) := by
 have hla := mapU_len (dg a)
 have hba := dg_len_bd ha.h hi
 refine fn (fu := ⟨9⟩) Tryz.func203 rfl rfl Tryz.ntmps203 rfl rfl (fun C => ?_)
 refine eqF 11 (.d (vI (k / 32 : Nat))) rfl (by show FX.d (.v (.int _ _)) = .d (.v (.int _ _)); rw [quo32 hk]) ?_
 refine gx (fu := ⟨2⟩) rfl <| ?_
 refine eqF 13 (.d (vI ((dg a).length : Nat))) rfl (by rw [hla]; rfl) ?_
 refine gx (fu := ⟨2⟩) rfl <| ?_
 refine eqF 15 (.d (vI (k / 32 + (dg a).length + 1 : Nat))) rfl (by show FX.d (.v (.int _ _)) = .d (.v (.int _ _)); congr 3) ?_
 refine gx rfl <| mk (fu := ⟨7⟩) (hv := by simp only [allP]; exact (by decide)) ((List.replicate (k / 32 + (dg a).length + 1) 0).map dU) rfl rfl (by rw [← mapU_rep]; rfl) rfl <| ?_
 refine eqF 18 (.d (vI (k % 32 : Nat))) rfl (by show FX.d (.v (.int _ _)) = .d (.v (.int _ _)); rw [rem32]) ?_
 refine gx (fu := ⟨9⟩) rfl <| ?_
 refine eqF 21 (.d (vI ((dg a).length : Nat))) rfl (by rw [hla]; rfl) ?_
 refine gx rfl <| ?_
 refine lp (X := List Nat × Nat) (fun ⟨W, i⟩ => [(0, .d (dN a)), (1, .d (vI (k : Nat))), (5, .rw 16), (6, .d (.v (.int .u64 (k % 32 : Nat)))), (20, .d (dN a)), (21, .d (vI ((dg a).length : Nat))), (22, .d (vI (i : Nat)))]) (fun ⟨W, i⟩ => [(16, some (.b 224 1 (W.map dU) true))]) (fun ⟨W, i⟩ => W.length = k / 32 + (dg a).length + 1 ∧ DOk W ∧ i ≤ (dg a).length ∧ dv (W.take (k / 32 + i + 1)) = dv ((dg a).take i) * 2 ^ k ∧ W.getD (k / 32 + i) 0 < 2 ^ (k % 32) ∧ ∀ j, k / 32 + i < j → W.getD j 0 = 0) (fun ⟨W, i⟩ => (dg a).length - i) ⟨List.replicate (k / 32 + (dg a).length + 1) 0, 0⟩ rfl ⟨by simp, .replicate _, by omega, by rw [List.take_replicate, dv_replicate]; simp [dv], by rw [rep_getD]; exact Nat.pow_pos (by decide), fun j _ => rep_getD _ _⟩ (fun _ => rfl) (fun ⟨W, i⟩ hk => ?_)
 dsimp only at hk ⊢
 obtain ⟨h1, h2, h3, h4, h5, h6⟩ := hk
 have hlw := mapU_len W
 have hda := dg_lt a i
 have hsk : k % 32 < 32 := Nat.mod_lt _ (by decide)
 have hpp : 2 ^ (k % 32) ≤ 2 ^ 31 := Nat.pow_le_pow_right (by decide) (by omega)
 refine br rfl rfl rfl (fun hc23 => ?_) (fun hc23 => ?_)
 ·
  refine ix (fu := ⟨11⟩) (hv := by simp only [allP]; exact ⟨by omega, (by omega)⟩) _ rfl (mapU_getI (by omega)) rfl <| ?_
  have hhi := left_hi hda hsk
  have hfit0 := left_fit hda hsk
  have hor := left_or (x := (dg a).getD i 0) h5 hsk
  have hfit : W.getD (k / 32 + i) 0 + (dg a).getD i 0 * 2 ^ (k % 32) % 4294967296 < 4294967296 := by rw [← hor]; exact BitVec.isLt _
  have hlp := left_parts ((dg a).getD i 0) (k % 32)
  refine eqF 30 (.d (.v (.int .u64 ((dg a).getD i 0 * 2 ^ (k % 32) : Nat)))) rfl (by show FX.d (.v (.int _ _)) = .d (.v (.int _ _)); rw [shl_u64 _ (k % 32) (by omega) hfit0 (by omega)]) ?_
  obtain ⟨t, ht⟩ : ∃ t, t = (dg a).getD i 0 * 2 ^ (k % 32) := ⟨_, rfl⟩
  simp only [← ht] at hhi hfit0 hor hfit hlp
  rw [← ht]
  refine gx (fu := ⟨8⟩) rfl <| ?_
  refine eqF 33 (.d (vI (k / 32 : Nat))) rfl (by show FX.d (.v (.int _ _)) = .d (.v (.int _ _)); rw [quo32 hk]) ?_
  refine gx rfl <| lb (fu := ⟨2⟩) _ rfl (mapU_getZ (k := k / 32 + i) (by omega) (by omega)) rfl <| ?_
  refine eqF 39 (.d (dU (t % 4294967296))) rfl (by show FX.d (.v (.int _ _)) = .d (.v (.int _ _)); congr 3) ?_
  refine gx (fu := ⟨1⟩) rfl <| ?_
  refine eqF 40 _ rfl (congrArg (fun z : Nat => FX.d (.v (.int .u32 (z : Int)))) hor) ?_
  refine gx rfl <| sb (fu := ⟨6⟩) _ ((W.set (k / 32 + i) (W.getD (k / 32 + i) 0 + t % 4294967296)).map dU) rfl (mapU_getZ (k := k / 32 + i) (by omega) (by omega)) rfl (by (rw [show (((k / 32 : Nat) : Int) + i).toNat = k / 32 + i by omega]; simp only [List.map_set]; rfl) <;> rfl) rfl <| ?_
  refine eqF 44 (.d (vI (k / 32 : Nat))) rfl (by show FX.d (.v (.int _ _)) = .d (.v (.int _ _)); rw [quo32 hk]) ?_
  refine gx rfl <| lb (fu := ⟨0⟩) _ rfl (mapU_getZ (k := k / 32 + i + 1) (by omega) (by rw [List.length_set]; omega)) rfl <| ?_
  refine eqF 49 (.d (dU 0)) rfl (by rw [getD_set_ne (by omega), h6 _ (by omega)]) ?_
  refine gx (fu := ⟨2⟩) (hv := by simp only [allP]; exact (by decide)) rfl <| ?_
  refine eqF 51 (.d (.v (.int .u64 (t / 4294967296 : Nat)))) rfl (by rw [fdiv32]) ?_
  refine gx (fu := ⟨1⟩) rfl <| ?_
  refine eqF 52 (.d (dU (t / 4294967296))) rfl (by show FX.d (.v (.int _ _)) = .d (.v (.int _ _)); congr 3; omega) ?_
  refine gx (fu := ⟨1⟩) rfl <| ?_
  refine eqF 53 _ rfl (congrArg (fun z : Nat => FX.d (.v (.int .u32 (z : Int)))) (or_zero32 (by omega))) ?_
  refine gx rfl <| sb _ (((W.set (k / 32 + i) (W.getD (k / 32 + i) 0 + t % 4294967296)).set (k / 32 + i + 1) (t / 4294967296)).map dU) rfl (mapU_getZ (k := k / 32 + i + 1) (by omega) (by rw [List.length_set]; omega)) rfl (by (rw [show (((k / 32 : Nat) : Int) + i + 1).toNat = k / 32 + i + 1 by omega]; simp only [List.map_set]; rfl) <;> rfl) rfl <| ?_
  exact at_ ⟨(W.set (k / 32 + i) (W.getD (k / 32 + i) 0 + t % 4294967296)).set (k / 32 + i + 1) (t / 4294967296), i + 1⟩ (by dsimp only; exact ⟨⟨by simpa using h1, (h2.set _ hfit).set _ (by omega), by omega, by have q := left_inv (x := (dg a).getD i 0) rfl rfl (by omega) rfl h4; rw [← ht] at q; exact q, by rw [show k / 32 + (i + 1) = k / 32 + i + 1 by omega, getD_set_eq (by simp; omega)]; exact hhi, fun j hj => by rw [getD_set_ne (by omega), getD_set_ne (by omega)]; exact h6 j (by omega)⟩, (by omega)⟩)
 ·
  obtain rfl : i = (dg a).length := by omega
  refine fz 16 rfl rfl <| cl rfl (q_Trim (ds := W) (by omega)) rfl <| ?_
  exact rz rfl (dL_trim h2 (by have := h4; rw [take_all (by omega), take_all (by omega), dv_dg] at this; exact this))
theorem right_zero {a k : Nat} (h : (dg a).length ≤ k / 32) : a / 2 ^ k = 0 := by
 refine Nat.div_eq_of_lt ?_
 have h1 := dv_lt (dg_ok a)
 rw [dv_dg] at h1
 have h2 : 4294967296 ^ (dg a).length ≤ 4294967296 ^ (k / 32) := Nat.pow_le_pow_right (by decide) h
 have h3 : 4294967296 ^ (k / 32) * 1 ≤ 4294967296 ^ (k / 32) * 2 ^ (k % 32) := Nat.mul_le_mul_left _ (Nat.pow_pos (by decide))
 rw [pow32k k]
 omega
theorem dv_dropD {ds : List Nat} (h : DOk ds) (q : Nat) : dv (ds.drop q) = dv ds / 4294967296 ^ q := by
 rcases Nat.lt_or_ge ds.length q with hq | hq
 · rw [List.drop_eq_nil_of_le (by omega)]
   have h1 := dv_lt h
   have h2 : 4294967296 ^ ds.length ≤ 4294967296 ^ q := Nat.pow_le_pow_right (by decide) (by omega)
   rw [Nat.div_eq_of_lt (by omega)]; rfl
 · have e := dv_split ds q hq
   have h1 := dv_lt (h.take q)
   rw [List.length_take, Nat.min_eq_left hq] at h1
   rw [e, Nat.add_mul_div_left _ _ (Nat.pow_pos (by decide)), Nat.div_eq_of_lt h1, Nat.zero_add]
theorem dv_two {ds : List Nat} (h : DOk ds) (i : Nat) : dv ds / 4294967296 ^ i = ds.getD i 0 + 4294967296 * ds.getD (i + 1) 0 + 18446744073709551616 * (dv ds / 4294967296 ^ (i + 2)) := by
 have e0 := dv_dropD h i
 have e2 := dv_dropD h (i + 2)
 rw [← e0, ← e2]
 have g0 : ds.getD i 0 = (ds.drop i).getD 0 0 := by rw [List.getD_eq_getElem?_getD, List.getD_eq_getElem?_getD, List.getElem?_drop]; rfl
 have g1 : ds.getD (i + 1) 0 = (ds.drop i).getD 1 0 := by rw [List.getD_eq_getElem?_getD, List.getD_eq_getElem?_getD, List.getElem?_drop]
 have g2 : ds.drop (i + 2) = (ds.drop i).drop 2 := by rw [List.drop_drop]
 rw [g0, g1, g2]
 match ds.drop i with
 | [] => rfl
 | [u] => simp [dv]
 | u :: v :: t => simp only [dv, List.getD_cons_zero, List.getD_cons_succ, List.drop_succ_cons, List.drop_zero]; omega
theorem right_step {D s i u v w Z : Nat} (hs : s < 32) (hZ : D / 4294967296 ^ i = u + 4294967296 * v + 18446744073709551616 * Z) (hw : w = (u + v * 4294967296) / 2 ^ s % 4294967296) : (D / 2 ^ s) % 4294967296 ^ (i + 1) = (D / 2 ^ s) % 4294967296 ^ i + 4294967296 ^ i * w := by
 rw [Nat.pow_succ, Nat.mod_mul]
 congr 2
 rw [Nat.div_div_eq_div_mul, Nat.mul_comm (2 ^ s), ← Nat.div_div_eq_div_mul, hZ, hw]
 have h1 : 18446744073709551616 = 2 ^ s * (2 ^ (32 - s) * 4294967296) := by rw [← Nat.mul_assoc, pow32s hs]
 rw [h1, Nat.mul_assoc (2 ^ s), Nat.add_mul_div_left _ _ (Nat.pow_pos (by decide)), Nat.mul_comm v]
 rw [Nat.mul_comm (2 ^ (32 - s)), Nat.mul_assoc, Nat.add_mul_mod_self_left]
theorem right_end {a k : Nat} {W : List Nat} {q s : Nat} (hq : q = k / 32) (hs : s = k % 32) (hl : W.length = (dg a).length - q) (h : dv (W.take ((dg a).length - q)) = (dv ((dg a).drop q) / 2 ^ s) % 4294967296 ^ ((dg a).length - q)) : dv W = a / 2 ^ k := by
 rw [take_all (by omega)] at h
 have h1 := dv_lt ((dg_ok a).drop q)
 rw [List.length_drop] at h1
 have h2 := Nat.div_le_self (dv ((dg a).drop q)) (2 ^ s)
 rw [h, Nat.mod_eq_of_lt (by omega), dv_dropD (dg_ok a), dv_dg, pow32k k, ← hq, ← hs, Nat.div_div_eq_div_mul]
set_option maxHeartbeats 2000000 in
theorem q_Right {GB : Gh} {a k ia : Nat} [ha : BN a ia] (hk : k ≤ 1000000000) (hi : ia ≤ 1000000000 := by decide) : PF GB Tryz.prog 204 [dN a, vI (k : Nat)] (dN (a / 2 ^ k)) := by
 have hla := mapU_len (dg a)
 have hba := dg_len_bd ha.h hi
 refine fn (fu := ⟨10⟩) Tryz.func204 rfl rfl Tryz.ntmps204 rfl rfl (fun C => ?_)
 refine eqF 12 (.d (vI (k / 32 : Nat))) rfl (by show FX.d (.v (.int _ _)) = .d (.v (.int _ _)); rw [quo32 hk]) ?_
 refine gx (fu := ⟨2⟩) rfl <| ?_
 refine eqF 14 (.d (vI ((dg a).length : Nat))) rfl (by rw [hla]; rfl) ?_
 refine gx rfl <| ?_
 refine br (fu2 := ⟨6⟩) (v2 := fun _ => by simp only [allP]; exact (by decide)) rfl rfl rfl (fun hc15 => ?_) (fun hc15 => ?_)
 ·
  exact rz rfl (by rw [right_zero (by omega), dN_zero]; rfl)
 ·
  refine eqF 17 (.d (vI (k % 32 : Nat))) rfl (by show FX.d (.v (.int _ _)) = .d (.v (.int _ _)); rw [rem32]) ?_
  refine gx (fu := ⟨9⟩) rfl <| ?_
  refine eqF 21 (.d (vI (k / 32 : Nat))) rfl (by show FX.d (.v (.int _ _)) = .d (.v (.int _ _)); rw [quo32 hk]) ?_
  refine gx rfl <| sc' (fu := ⟨0⟩) (k / 32) (dg a).length _ rfl rfl (by rw [hla]) rfl (slOkU _) (by omega) (by omega) rfl <| ?_
  obtain ⟨I, hI⟩ : ∃ I, I = (dg a).drop (k / 32) := ⟨_, rfl⟩
  have hIl : I.length = (dg a).length - k / 32 := by rw [hI, List.length_drop]
  have hIm := mapU_len I
  have hIo : DOk I := hI ▸ (dg_ok a).drop _
  refine eqF 22 (.d (dLi I)) rfl (by show FX.d (.sl _) = .d (.sl _); rw [hI, ← hla, List.take_length, List.map_drop]) ?_
  refine gx (fu := ⟨7⟩) rfl <| ?_
  refine eqF 24 (.d (vI (I.length : Nat))) rfl (by rw [hIm]; rfl) ?_
  refine gx rfl <| mk (fu := ⟨8⟩) ((List.replicate I.length 0).map dU) rfl rfl (by rw [← mapU_rep]; rfl) rfl <| ?_
  refine eqF 27 (.d (vI (I.length : Nat))) rfl (by rw [hIm]; rfl) ?_
  refine gx rfl <| ?_
  refine lp (X := List Nat × Nat) (fun ⟨W, i⟩ => [(0, .d (dN a)), (5, .d (.v (.int .u64 (k % 32 : Nat)))), (6, .d (dLi I)), (7, .rw 25), (26, .d (dLi I)), (27, .d (vI (I.length : Nat))), (28, .d (vI (i : Nat)))]) (fun ⟨W, i⟩ => [(25, some (.b 224 1 (W.map dU) true))]) (fun ⟨W, i⟩ => W.length = I.length ∧ DOk W ∧ i ≤ I.length ∧ dv (W.take i) = (dv I / 2 ^ (k % 32)) % 4294967296 ^ i) (fun ⟨W, i⟩ => I.length - i) ⟨List.replicate I.length 0, 0⟩ rfl ⟨by simp, .replicate _, by omega, by simp [dv, Nat.mod_one]⟩ (fun _ => rfl) (fun ⟨W, i⟩ hk => ?_)
  dsimp only at hk ⊢
  obtain ⟨h1, h2, h3, h4⟩ := hk
  have hlw := mapU_len W
  have hda := hIo.get i
  have hdb := hIo.get (i + 1)
  have hsk : k % 32 < 32 := Nat.mod_lt _ (by decide)
  refine br rfl rfl rfl (fun hc29 => ?_) (fun hc29 => ?_)
  ·
   refine ix (fu := ⟨13⟩) _ rfl (mapU_getI (by omega)) rfl <| ?_
   refine mg (fu := ⟨6⟩) (hv := fun _ _ => by simp only [allP]; exact (by omega)) (X := Unit) (fun _ => [(0, .d (dN a)), (5, .d (.v (.int .u64 (k % 32 : Nat)))), (6, .d (dLi I)), (7, .rw 25), (26, .d (dLi I)), (27, .d (vI (I.length : Nat))), (28, .d (vI (i : Nat))), (8, .d (vI (i : Nat))), (10, .d (.v (.int .u64 (I.getD i 0 + I.getD (i + 1) 0 * 4294967296 : Nat))))]) (fun _ => [(25, some (.b 224 1 (W.map dU) true))]) (fun _ => True) [0, 5, 6, 7, 26, 27, 28, 8, 10] [25] rfl ?_ (fun _ => rfl) (fun _ hm => ?_)
   ·
    refine gx (fu := ⟨6⟩) rfl <| ?_
    refine eqF 38 (.d (vI (I.length : Nat))) rfl (by rw [hIm]; rfl) ?_
    refine gx rfl <| ?_
    refine br rfl rfl rfl (fun hc39 => ?_) (fun hc39 => ?_)
    ·
     refine ix (fu := ⟨3⟩) (hv := by simp only [allP]; exact ⟨by omega, (by decide)⟩) _ rfl (mapU_getZ (k := i + 1) (by omega) (by omega)) rfl <| ?_
     refine eqF 47 (.d (.v (.int .u64 (I.getD (i + 1) 0 * 4294967296 : Nat)))) rfl (by show FX.d (.v (.int _ _)) = .d (.v (.int _ _)); rw [shl_u64 _ 32 (by decide) (by show _ * 4294967296 < _; omega) rfl]) ?_
     refine gx (fu := ⟨1⟩) rfl <| ?_
     refine eqF 48 _ rfl (congrArg (fun z : Nat => FX.d (.v (.int .u64 (z : Int)))) (bv_or 64 (I.getD i 0) (I.getD (i + 1) 0) 32 hda (by show _ + _ * 4294967296 < 18446744073709551616; omega))) ?_
     refine gx rfl <| ?_
     exact at_ () trivial
    ·
     refine eqF 10 (.d (.v (.int .u64 (I.getD i 0 + I.getD (i + 1) 0 * 4294967296 : Nat)))) rfl (by rw [getD_out (by omega : I.length ≤ i + 1), Nat.zero_mul, Nat.add_zero]) ?_
     exact at_ () trivial
   ·
    refine eqF 53 (.d (.v (.int .u64 ((I.getD i 0 + I.getD (i + 1) 0 * 4294967296) / 2 ^ (k % 32) : Nat)))) rfl (by show FX.d (.v (.int _ _)) = .d (.v (.int _ _)); rw [shr_u64 _ (k % 32) (by omega) (by omega)]) ?_
    refine gx (fu := ⟨1⟩) rfl <| ?_
    obtain ⟨w, hw⟩ : ∃ w, w = (I.getD i 0 + I.getD (i + 1) 0 * 4294967296) / 2 ^ (k % 32) % 4294967296 := ⟨_, rfl⟩
    have hw1 : w < 4294967296 := hw ▸ Nat.mod_lt _ (by decide)
    refine eqF 54 (.d (dU w)) rfl (by show FX.d (.v (.int _ _)) = .d (.v (.int _ _)); rw [hw]; congr 3) ?_
    refine gx rfl <| sb _ ((W.set i w).map dU) rfl (mapU_getI (by omega)) rfl (by (rw [← mapU_set]; rfl) <;> rfl) rfl <| ?_
    exact at_ ⟨W.set i w, i + 1⟩ (by dsimp only; exact ⟨⟨by simpa using h1, h2.set _ (by omega), by omega, by rw [dv_set_take (by omega), h4]; exact (right_step hsk (dv_two hIo i) hw).symm⟩, (by omega)⟩)
  ·
   refine fz 25 rfl rfl <| cl rfl (q_Trim (ds := W) (by omega)) rfl <| ?_
   exact rz rfl (dL_trim h2 (by obtain rfl : i = I.length := (by omega); rw [hIl] at h1 h4; rw [hI] at h4; exact right_end rfl rfl h1 h4))
theorem dg_len_of {a k : Nat} (h : a < 4294967296 ^ k) : (dg a).length ≤ k := by
 rcases Nat.lt_or_ge k (dg a).length with q | q
 · have h1 := nrm_ge (dg_spec a).2.2 (by intro e; rw [e] at q; simp at q)
   rw [dv_dg] at h1
   have h2 : 4294967296 ^ k ≤ 4294967296 ^ ((dg a).length - 1) := Nat.pow_le_pow_right (by decide) (by omega)
   omega
 · exact q
theorem word_two {a : Nat} (h : (dg a).length = 2) : (dg a).getD 0 0 + (dg a).getD 1 0 * 4294967296 = a := by
 have e := dv_dg a
 revert e
 match dg a, h with
 | [x, y], _ => intro e; simp [dv] at e ⊢; omega
def wordV (a : Nat) : DV := .tp [.v (.int .u64 ((if a < 18446744073709551616 then a else 0 : Nat) : Int)), vB (decide (a < 18446744073709551616))]
theorem wordV_lt {a : Nat} (h : a < 18446744073709551616) : wordV a = .tp [.v (.int .u64 (a : Int)), vB true] := by unfold wordV; rw [if_pos h, decide_eq_true h]
theorem wordV_ge {a : Nat} (h : ¬ a < 18446744073709551616) : wordV a = .tp [.v (.int .u64 0), vB false] := by unfold wordV; rw [if_neg h, decide_eq_false h]; rfl
theorem dg_lt_pow (a : Nat) : a < 4294967296 ^ (dg a).length := by have := dv_lt (dg_ok a); rwa [dv_dg] at this
set_option maxHeartbeats 1000000 in
theorem q_word {GB : Gh} {a ia : Nat} [ha : BN a ia] (hi : ia ≤ 1000000000 := by decide) : PF GB Tryz.prog 120 [dN a] (wordV a) := by
 have hla := mapU_len (dg a)
 have hba := dg_len_bd ha.h hi
 have hlt := dg_lt_pow a
 have hd00 := dg_lt a 0
 refine fn (fu := ⟨11⟩) Tryz.func120 rfl rfl Tryz.ntmps120 rfl rfl (fun C => ?_)
 refine eqF 5 (.d (vI ((dg a).length : Nat))) rfl (by rw [hla]; rfl) ?_
 refine gx rfl <| ?_
 refine br rfl rfl rfl (fun hc6 => ?_) (fun hc6 => ?_)
 ·
  exact rz rfl (by rw [show (dg a).length = 0 by omega] at hlt; obtain rfl : a = 0 := (by omega); rfl)
 ·
  refine br rfl rfl rfl (fun hc8 => ?_) (fun hc8 => ?_)
  ·
   refine ix (fu := ⟨2⟩) _ rfl (mapU_getZ (k := 0) rfl (by omega)) rfl <| ?_
   refine eqF 13 (.d (.v (.int .u64 (a : Nat)))) rfl (by rw [dg_one_digit (by omega)]) ?_
   refine gx rfl <| ?_
   exact rz rfl (by rw [show (dg a).length = 1 by omega] at hlt; rw [wordV_lt (by omega), ← dg_one_digit (a := a) (by omega), dg_one_digit (a := a) (by omega)]; rfl)
  ·
   refine br rfl rfl rfl (fun hc14 => ?_) (fun hc14 => ?_)
   ·
    have hd0 := dg_lt a 0
    have hd1 := dg_lt a 1
    refine ix (hv := by simp only [allP]; exact ⟨by omega, (by decide)⟩) _ rfl (mapU_getZ (k := 1) rfl (by omega)) rfl <| ix (fu := ⟨3⟩) _ rfl (mapU_getZ (k := 0) rfl (by omega)) rfl <| ?_
    refine eqF 25 (.d (.v (.int .u64 (a : Nat)))) rfl (congrArg (fun z : Nat => FX.d (.v (.int .u64 (z : Int)))) (by rw [shl_u64 _ 32 (by decide) (by show _ * 4294967296 < _; omega) rfl, BitVec.or_comm]; exact (bv_or 64 ((dg a).getD 0 0) ((dg a).getD 1 0) 32 hd0 (by show _ + _ * 4294967296 < 18446744073709551616; omega)).trans (word_two (by omega)))) ?_
    refine gx rfl <| ?_
    exact rz rfl (by rw [show (dg a).length = 2 by omega] at hlt; rw [wordV_lt (by omega)]; rfl)
   ·
    exact rz rfl (by rw [wordV_ge]; rfl; intro h; have := dg_len_of (a := a) (k := 2) (by omega); omega)
end Go.Sx
end
