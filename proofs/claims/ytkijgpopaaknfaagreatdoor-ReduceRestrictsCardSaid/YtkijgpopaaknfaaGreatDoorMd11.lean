/-
  Package frac: the simple functions. Package frac: words. Package frac: lowest, Int, Neg, Inv. Package frac: Mul, Inv, Quo, Half. Package frac: Inv, Quo, Half, Add, Sub. Package frac: Add, Sub. Package frac: Sub, Cmp, Equal, Min, Max. Package frac: Min, Max. Package frac: Gcd.
-/
import Derived.Test.YtkijgpopaaknfaaGreatDoorMd10
set_option linter.unusedSimpArgs false
set_option linter.unusedVariables false
section
set_option maxRecDepth 100000
namespace Go.Sx
open Go Go.Proofs
theorem frac_abs {G : Gh} {n : Int} (h0 : -9223372036854775808 < n) (h1 : n ≤ 9223372036854775807) :
   Fn Tryz.prog 142 [.int .i64 n] G (fun v _ => v = .int .u64 (n.natAbs : Nat)) := by
 refine Fn.intro Tryz.func142 rfl rfl Tryz.ntmps142 rfl ?_
 intro C _ _
 refine sR <| sa rfl rfl <| zE <| st_seq <| sR <| sm rfl rfl <| sy (yd_lss rfl rfl) rfl <| zE <| ?_
 refine st_condP rfl (fun hc => ?_) (fun hc => ?_) -- slot 4
 · refine sR <| sm rfl rfl <| sy (yd_neg rfl) rfl <| ?_
   rw [wrap_i64, show (0 - n + 9223372036854775808) % 18446744073709551616 - 9223372036854775808 = (n.natAbs : Nat) by omega]
   refine sy (yd_toU64 rfl) rfl <| sa rfl rfl <| zE <| st_ret <| ?_
   exact zD (.tmp rfl .nil) rfl
 refine zK <| sR <| sm rfl rfl <| sy (yd_toU64 rfl) rfl <| ?_
 rw [show n = (n.natAbs : Nat) by omega]
 refine sa rfl rfl <| zE <| st_ret <| ?_
 exact zD (.tmp rfl .nil) rfl
theorem frac_gcd {G : Gh} {a b : Nat} (ha : a < 18446744073709551616) (hb : b < 18446744073709551616) :
   Fn Tryz.prog 141 [.int .u64 (a : Nat), .int .u64 (b : Nat)] G (fun v _ => v = .int .u64 (Nat.gcd a b : Nat)) := by
 refine Fn.intro Tryz.func141 rfl rfl Tryz.ntmps141 rfl ?_
 intro C _ _
 refine sR <| sa rfl rfl <| zE <| st_seq <| st_block <| ?_
 refine st_loop (X := Nat × Nat) (fun q => [(1, .int .u64 (q.2 : Nat)), (0, .int .u64 (q.1 : Nat))]) (fun _ => []) (fun q _ => q.1 < 18446744073709551616 ∧ q.2 < 18446744073709551616 ∧ Nat.gcd q.1 q.2 = Nat.gcd a b) (fun q => q.2) (a, b)
   ⟨ha, hb, rfl⟩ (.cons rfl (.cons rfl .nil)) rfl ?_
 rintro ⟨u1, v1⟩ Gy _ ⟨hu1, hv1, hgc1⟩
 simp only [] at hu1 hv1 hgc1 ⊢
 refine st_seq <| sR <| sm rfl rfl <| sy (yd_neq rfl rfl) rfl <| zE <| ?_
 refine st_condE rfl (fun hc => ?_) (fun hc => ?_) -- slot 6
 · have hv0 : v1 = 0 := by omega
   have hue : u1 = Nat.gcd a b := by rw [← hgc1, hv0, Nat.gcd_zero_right]
   refine st_exit <| st_te <| st_te <| st_inBlock_eq <| sR <| sm rfl rfl <| sa rfl rfl <| zE <| st_ret <| ?_
   exact zD (.tmp rfl .nil) (by rw [hue]; rfl)
 have hv0 : 0 < v1 := by omega
 refine zK <| st_block <| dr (fun _ => false) [(0, true), (1, true), (2, true), (3, true), (4, true), (5, true)] follows (by kernel_rfl) <| dM rfl rfl rfl <| dM rfl rfl rfl <| ?_
 refine dM rfl rfl rfl <| dy rfl (fun _ => yd_remU rfl rfl (by omega) (by omega)) rfl rfl <| dA rfl rfl rfl <| dA rfl rfl rfl <| dn <| ?_
 exact st_again (v1, u1 % v1) ⟨hv1, Nat.lt_trans (Nat.mod_lt _ hv0) hv1, by show Nat.gcd v1 (u1 % v1) = _; rw [← hgc1, Nat.gcd_comm u1, Nat.gcd_rec v1 u1, Nat.gcd_comm]⟩ (by show u1 % v1 < v1; exact Nat.mod_lt _ hv0) (.cons rfl (.cons rfl .nil)) rfl
theorem R_Zero {A G : Gh} {z : RV} {q : Rat} {k : Nat} (hz : IsR k A z q) [GL A G] :
   Fn Tryz.prog 99 [.agg ⟨[.int .i64 z.n, .int .i64 z.d, .pointer z.p]⟩] G (fun v _ => v = .bool (decide (q.num = 0))) := by
 obtain ⟨hb1, hb2, hz⟩ := hz
 obtain ⟨zn, zd, zp⟩ := z
 show Fn _ _ [.agg ⟨[.int .i64 zn, .int .i64 zd, .pointer zp]⟩] _ _
 refine Fn.intro Tryz.func99 rfl rfl Tryz.ntmps99 rfl ?_
 intro C _ _
 refine sR <| ?_
 refine sc (ch_box rfl rfl ?_)
 intro b1
 refine sa rfl rfl <| zE <| sR <| sf rfl rfl <| slo1 rfl rfl rfl <| sy (yd_eqP rfl rfl) rfl <| sm rfl rfl <| ?_
 rcases hz with ⟨hp, hn, hd, _, _⟩ | ⟨hn, hd, ⟨b, x, y, hp, hg, hx, hy⟩, hno⟩
 · simp only [] at hp hn hd
   subst hp hn hd
   refine syg rfl rfl (yd_fieldAddr rfl) rfl <| syg rfl rfl (yd_load_own1 rfl rfl) rfl <| syg rfl rfl (yd_eql rfl rfl) rfl <| sy (yd_pickT rfl rfl) rfl <| sa rfl rfl <| zE <| st_ret <| ?_
   exact zD (.tmp rfl .nil) rfl
 · simp only [] at hp hn hd
   subst hp hn hd
   have h0 : ¬ q.num = 0 := fun h => hno ⟨by rw [h]; decide, by rw [show q.den = 1 from by have := q.reduced; rw [h] at this; simpa using this]; decide⟩
   refine ss rfl rfl rfl rfl <| ss rfl rfl rfl rfl <| ss rfl rfl rfl rfl <| sy (yd_pickF rfl rfl) rfl <| sa rfl rfl <| zE <| st_ret <| ?_
   exact zD (.tmp rfl .nil) (by rw [decide_eq_false h0]; rfl)
theorem R_Sign {A G : Gh} {z : RV} {q : Rat} {k : Nat} (hz : IsR k A z q) [GL A G] (hk : k ≤ 1099511627776) :
   Fn Tryz.prog 184 [.agg ⟨[.int .i64 z.n, .int .i64 z.d, .pointer z.p]⟩] G (fun v _ => v = .int .i64 (Int.sign q.num)) := by
 obtain ⟨hb1, hb2, hz⟩ := hz
 obtain ⟨zn, zd, zp⟩ := z
 show Fn _ _ [.agg ⟨[.int .i64 zn, .int .i64 zd, .pointer zp]⟩] _ _
 refine Fn.intro Tryz.func184 rfl rfl Tryz.ntmps184 rfl ?_
 intro C _ _
 refine sR <| ?_
 refine sc (ch_box rfl rfl ?_)
 intro b1
 refine sa rfl rfl <| zE <| st_seq <| st_block <| sR <| sf rfl rfl <| slo1 rfl rfl rfl <| sy (yd_neP rfl rfl) rfl <| sa rfl rfl <| zE <| ?_
 rcases hz with ⟨hp, hn, hd, _, _⟩ | ⟨hn, hd, ⟨b, x, y, hp, hg, hx, hy⟩, hno⟩
 · simp only [] at hp hn hd
   subst hp hn hd
   refine st_condF rfl <| ?_
   refine sR <| sf rfl rfl <| slo1 rfl rfl rfl <| sy (yd_lss rfl rfl) rfl <| sa rfl rfl <| zE <| ?_
   refine st_condP rfl (fun hc => ?_) (fun hc => ?_) -- slot 13
   · refine sR <| sa rfl rfl <| zE <| st_ret <| ?_
     exact zD (.tmp rfl .nil) (by rw [Int.sign_eq_neg_one_of_neg hc]; rfl)
   refine sR <| sf rfl rfl <| slo1 rfl rfl rfl <| sy (yd_gtr rfl rfl) rfl <| sa rfl rfl <| zE <| ?_
   refine st_condP rfl (fun hc2 => ?_) (fun hc2 => ?_) -- slot 17
   · refine sR <| sa rfl rfl <| zE <| st_ret <| ?_
     exact zD (.tmp rfl .nil) (by rw [Int.sign_eq_one_of_pos hc2]; rfl)
   refine zK <| sR <| sa rfl rfl <| zE <| st_ret <| ?_
   exact zD (.tmp rfl .nil) (by rw [show q.num = 0 by omega]; rfl)
 · simp only [] at hp hn hd
   subst hp hn hd
   have hg' : GHas A b _ := ⟨hg⟩
   have hl := hx.len
   refine st_condT rfl <| ?_
   refine sR <| sf rfl rfl <| slo1 rfl rfl rfl <| sn rfl rfl <| sf rfl rfl <| slg rfl rfl rfl <| ?_
   refine sc (zC rfl rfl (integer_Sign (neg := x.neg) (x := x.a) hx.abs.d (by omega)) rfl ?_)
   rintro _ G2 _ rfl
   rw [hx.dvl, hx.zv]
   refine sa rfl rfl <| zE <| st_ret <| ?_
   exact zD (.tmp rfl .nil) rfl
theorem R_Num {A G : Gh} {z : RV} {q : Rat} {k : Nat} (hz : IsR k A z q) [GL A G] (hk : k ≤ 1099511627776) :
   Fn Tryz.prog 146 [.agg ⟨[.int .i64 z.n, .int .i64 z.d, .pointer z.p]⟩] G (fun v G' => ∃ x : IV, v = x.v ∧ IsI k G' x q.num) := by
 obtain ⟨hb1, hb2, hz⟩ := hz
 obtain ⟨zn, zd, zp⟩ := z
 show Fn _ _ [.agg ⟨[.int .i64 zn, .int .i64 zd, .pointer zp]⟩] _ _
 refine Fn.intro Tryz.func146 rfl rfl Tryz.ntmps146 rfl ?_
 intro C _ _
 refine sR <| ?_
 refine sc (ch_box rfl rfl ?_)
 intro b1
 refine sc (ch_alloc rfl ?_)
 intro b2
 refine zE <| st_seq <| sR <| sf rfl rfl <| slo1 rfl rfl rfl <| sy (yd_neP rfl rfl) rfl <| zE <| ?_
 rcases hz with ⟨hp, hn, hd, _, _⟩ | ⟨hn, hd, ⟨b, x, y, hp, hg, hx, hy⟩, hno⟩
 · simp only [] at hp hn hd
   subst hp hn hd
   refine st_condF rfl <| ?_
   refine zK <| sR <| sf rfl rfl <| slo1 rfl rfl rfl <| ?_
   refine sc (zC rfl rfl (integer_FromInt (k := k) (by omega) (by omega) hb1) rfl ?_)
   rintro _ G4 _ ⟨x, rfl, hx⟩
   refine sc (ch_store rfl rfl (.hd ..) rfl (Nat.le_refl 2) rfl rfl ?_)
   refine zE <| st_ret <| ?_
   exact zD (.agg rfl ii ii rfl .nil) ⟨x, rfl, hx⟩
 · simp only [] at hp hn hd
   subst hp hn hd
   have hg' : GHas A b _ := ⟨hg⟩
   have hl := hx.len
   refine st_condT rfl <| ?_
   refine sR <| sf rfl rfl <| slo1 rfl rfl rfl <| sn rfl rfl <| sf rfl rfl <| slg rfl rfl rfl <| ?_
   refine sc (zC rfl rfl (integer_Norm (neg := x.neg) (x := x.a) (k := k) hx.abs.d (by rw [hx.dvl]; exact hb1) (by omega)) rfl ?_)
   rintro _ G3 _ ⟨x2, rfl, hx2⟩
   rw [hx.dvl, hx.zv] at hx2
   refine sc (ch_store rfl rfl (.hd ..) rfl (Nat.le_refl 2) rfl rfl ?_)
   refine zE <| st_ret <| ?_
   exact zD (.agg rfl ii ii rfl .nil) ⟨x2, rfl, hx2⟩
theorem R_Den {A G : Gh} {z : RV} {q : Rat} {k : Nat} (hz : IsR k A z q) [GL A G] (hk : k ≤ 1099511627776) :
   Fn Tryz.prog 144 [.agg ⟨[.int .i64 z.n, .int .i64 z.d, .pointer z.p]⟩] G (fun v G' => ∃ x : SV, v = x.v ∧ IsN k G' x q.den) := by
 obtain ⟨hb1, hb2, hz⟩ := hz
 obtain ⟨zn, zd, zp⟩ := z
 show Fn _ _ [.agg ⟨[.int .i64 zn, .int .i64 zd, .pointer zp]⟩] _ _
 have hqd : 0 < q.den := Nat.pos_of_ne_zero q.den_nz
 refine Fn.intro Tryz.func144 rfl rfl Tryz.ntmps144 rfl ?_
 intro C _ _
 refine sR <| ?_
 refine sc (ch_box rfl rfl ?_)
 intro b1
 refine sa rfl rfl <| zE <| st_seq <| sR <| sf rfl rfl <| slo1 rfl rfl rfl <| sy (yd_neP rfl rfl) rfl <| zE <| ?_
 rcases hz with ⟨hp, hn, hd, _, _⟩ | ⟨hn, hd, ⟨b, x, y, hp, hg, hx, hy⟩, hno⟩
 · simp only [] at hp hn hd
   subst hp hn hd
   refine st_condF rfl <| ?_
   refine zK <| sR <| sf rfl rfl <| slo1 rfl rfl rfl <| sy (yd_add64 rfl rfl) rfl <| ?_
   rw [show (q.den : Int) - 1 + 1 = (q.den : Nat) by omega]
   refine sy (yd_toU64 rfl) rfl <| ?_
   refine sc (zC rfl rfl (nat_FromUint (by omega)) rfl ?_)
   rintro _ G3 _ ⟨x, rfl, hx⟩
   refine sa rfl rfl <| zE <| st_ret <| ?_
   exact zD (.tmp rfl .nil) ⟨x, rfl, hx.mono hb2⟩
 · simp only [] at hp hn hd
   subst hp hn hd
   have hg' : GHas A b _ := ⟨hg⟩
   have hl := dg_len_le hy.lt
   refine st_condT rfl <| ?_
   refine sR <| sf rfl rfl <| slo1 rfl rfl rfl <| sn rfl rfl <| sf rfl rfl <| slg1 rfl rfl rfl <| ?_
   refine sc (zC rfl rfl (nat_Norm (x := y) (k := k) hy.d (by rw [hy.dvl]; exact hb2) (by omega)) rfl ?_)
   rintro _ G2 _ ⟨x2, rfl, hx2⟩
   rw [hy.dvl] at hx2
   refine sa rfl rfl <| zE <| st_ret <| ?_
   exact zD (.tmp rfl .nil) ⟨x2, rfl, hx2⟩
end Go.Sx
end

section
set_option maxRecDepth 100000
namespace Go.Sx
open Go Go.Proofs
theorem bits_Mul64' {G : Gh} {x y : Nat} (hx : x < 18446744073709551616) (hy : y < 18446744073709551616) : Fn Tryz.prog 233 [.int .u64 (x : Nat), .int .u64 (y : Nat)] G (fun v _ => v = .tuple #[.int .u64 ((x * y / 18446744073709551616 : Nat) : Int), .int .u64 ((x * y % 18446744073709551616 : Nat) : Int)]) :=
 Fn.of_calls (G := G) (callable_of Tryz.func233 rfl rfl) (fun w => Tryz.bits_Mul64 x y hx hy w)
theorem mul_signs (a b : Int) : a * b = if (a < 0) ↔ (b < 0) then ((a.natAbs * b.natAbs : Nat) : Int) else -((a.natAbs * b.natAbs : Nat) : Int) := by
 rcases (by omega : a < 0 ∨ 0 ≤ a) with h | h <;> rcases (by omega : b < 0 ∨ 0 ≤ b) with h2 | h2
 · rw [if_pos (by simp [h, h2]), Int.natCast_mul, Int.ofNat_natAbs_of_nonpos (Int.le_of_lt h), Int.ofNat_natAbs_of_nonpos (Int.le_of_lt h2), Int.neg_mul_neg]
 · rw [if_neg (by simp [h]; omega), Int.natCast_mul, Int.ofNat_natAbs_of_nonpos (Int.le_of_lt h), Int.natAbs_of_nonneg h2, Int.neg_mul, Int.neg_neg]
 · rw [if_neg (by simp [h2]; omega), Int.natCast_mul, Int.natAbs_of_nonneg h, Int.ofNat_natAbs_of_nonpos (Int.le_of_lt h2), Int.mul_neg, Int.neg_neg]
 · rw [if_pos (by constructor <;> intro <;> omega), Int.natCast_mul, Int.natAbs_of_nonneg h, Int.natAbs_of_nonneg h2]
theorem frac_times {G : Gh} {a b : Int} (ha : a.natAbs < 4611686018427387904) (hb : b.natAbs < 4611686018427387904) :
   Fn Tryz.prog 228 [.int .i64 a, .int .i64 b] G (fun v _ => v = .tuple #[.int .i64 (if a.natAbs * b.natAbs < 4611686018427387904 then a * b else 0), .bool (decide (a.natAbs * b.natAbs < 4611686018427387904))]) := by
 refine Fn.intro Tryz.func228 rfl rfl Tryz.ntmps228 rfl ?_
 intro C _ _
 refine sR <| sa rfl rfl <| sa rfl rfl <| zE <| sR <| sm rfl rfl <| ?_
 refine sc (zC rfl rfl (frac_abs (by omega) (by omega)) rfl ?_)
 rintro _ G1 _ rfl
 refine sm rfl rfl <| ?_
 refine sc (zC rfl rfl (frac_abs (by omega) (by omega)) rfl ?_)
 rintro _ G2 _ rfl
 refine sc (zC rfl rfl (bits_Mul64' (by omega) (by omega)) rfl ?_)
 rintro _ G3 _ rfl
 have hms := mul_signs a b
 generalize hP : a.natAbs * b.natAbs = P at *
 refine sm rfl rfl <| sx rfl rfl rfl <| sx rfl rfl rfl <| sa rfl rfl <| sa rfl rfl <| zE <| st_seq <| sR <| sm rfl rfl <| sy (yd_neq rfl rfl) rfl <| sm rfl rfl <| ?_
 refine st_caseP 18 rfl (fun hg => ?_) (fun hg => ?_)
 · have hbig : ¬ P < 4611686018427387904 := by omega
   refine ss rfl rfl rfl rfl <| ss rfl rfl rfl rfl <| sy (yd_pickT rfl rfl) rfl <| zE <| st_condT rfl <| sR <| sa rfl rfl <| sa rfl rfl <| zE <| st_ret <| ?_
   exact zD (.tmp rfl (.tmp rfl .nil)) (by rw [if_neg hbig, decide_eq_false hbig]; rfl)
 have hPm : P % 18446744073709551616 = P := by omega
 rw [hPm]
 refine syg rfl rfl (yd_move rfl) rfl <| syg rfl rfl (yd_geq rfl rfl) rfl <| sy (yd_pickF rfl rfl) rfl <| zE <| ?_
 refine st_condP rfl (fun hc => ?_) (fun hc => ?_) -- slot 21
 · have hbig : ¬ P < 4611686018427387904 := by omega
   refine sR <| sa rfl rfl <| sa rfl rfl <| zE <| st_ret <| ?_
   exact zD (.tmp rfl (.tmp rfl .nil)) (by rw [if_neg hbig, decide_eq_false hbig]; rfl)
 have hsm : P < 4611686018427387904 := by omega
 refine zK <| st_seq <| sR <| sm rfl rfl <| sy (yd_lss rfl rfl) rfl <| sm rfl rfl <| sy (yd_lss rfl rfl) rfl <| sy (yd_neB rfl rfl) rfl <| zE <| ?_
 refine st_condB rfl (fun hc => ?_) (fun hc => ?_) -- slot 26
 · have hne : ¬ ((a < 0) ↔ (b < 0)) := by
     intro h
     simp [h] at hc
   rw [if_neg hne] at hms
   refine sR <| sm rfl rfl <| sy (yd_toI64 rfl) rfl <| sy (yd_neg rfl) rfl <| ?_
   rw [wrap_i64, show (0 - (P : Int) + 9223372036854775808) % 18446744073709551616 - 9223372036854775808 = a * b by omega]
   refine sa rfl rfl <| sa rfl rfl <| zE <| st_ret <| ?_
   exact zD (.tmp rfl (.tmp rfl .nil)) (by rw [if_pos hsm, decide_eq_true hsm]; rfl)
 have he : ((a < 0) ↔ (b < 0)) := by
   simp only [Bool.not_eq_false', beq_iff_eq, decide_eq_decide] at hc
   exact hc
 rw [if_pos he] at hms
 refine zK <| sR <| sm rfl rfl <| sy (yd_toI64 rfl) rfl <| ?_
 rw [← hms]
 refine sa rfl rfl <| sa rfl rfl <| zE <| st_ret <| ?_
 exact zD (.tmp rfl (.tmp rfl .nil)) (by rw [if_pos hsm, decide_eq_true hsm]; rfl)
theorem frac_Whole {A G : Gh} {x : SV} {neg : Bool} {ds : List Nat} {k : Nat} (hx : IsD A x ds) [GL A G] (h1 : dv ds < 2 ^ k) (hk1 : 1 ≤ k) (hk : k ≤ 1099511627776) (hl1 : ds.length ≤ 112589990684) :
  Fn Tryz.prog 98 [.agg ⟨[.bool neg, .slice x.a x.n x.c]⟩] G (fun v G' => ∃ z : RV, v = z.v ∧ IsR k G' z (zv neg (dv ds) : Int)) := by
 refine Fn.intro Tryz.func98 rfl rfl Tryz.ntmps98 rfl ?_
 intro C _ _
 refine sR <| ?_
 refine sc (ch_box rfl rfl ?_)
 intro b1
 refine sc (ch_alloc rfl ?_)
 intro b2
 refine zE <| sR <| slo rfl rfl rfl <| ?_
 refine sc (ch_slice1 rfl (by rfl) (by rfl) (by decide) (by decide) rfl ?_)
 intro b3
 refine st_freeze b3 (.hd ..) (fun G3 _ hgb => ?_)
 have h1D : IsD G3 ⟨some ⟨b3, 0, none⟩, 1, 1⟩ [1] := .of_block (.cons (by decide) .nil) hgb.h rfl (Nat.le_refl _) rfl
 refine sc (zC rfl rfl (frac_reduce (k := k) (neg := neg) hx h1D h1 (Nat.lt_of_lt_of_le (by decide : dv [1] < 2 ^ 1) (Nat.pow_le_pow_right (by decide) hk1)) hk1 hk hl1 (by decide)) rfl ?_)
 rintro _ G4 _ ⟨z, rfl, hz⟩
 refine sc (ch_store rfl rfl (.hd ..) rfl (Nat.le_refl 3) rfl rfl ?_)
 refine zE <| st_ret <| ?_
 refine zD (.agg rfl ii ii rfl .nil) ⟨z, rfl, ?_⟩
 rw [show dv [1] = 1 by simp [dv], Rat.mkRat_one] at hz
 exact hz
end Go.Sx
end

section
set_option maxRecDepth 100000
namespace Go.Sx
open Go Go.Proofs
theorem i64_small {p : Int} (h : p.natAbs < 9223372036854775808) : IntKind.i64.wrap p = p := by rw [wrap_i64]; omega
theorem frac_lowest {G : Gh} {n : Int} {d k : Nat} (hn : n.natAbs < 4611686018427387904) (hd0 : 0 < d) (hd : d < 4611686018427387904) (h1 : n.natAbs < 2 ^ k) (h2 : d < 2 ^ k) :
   Fn Tryz.prog 229 [.int .i64 n, .int .i64 (d : Nat)] G (fun v G' => ∃ z : RV, v = z.v ∧ IsR k G' z (mkRat n d)) := by
 obtain ⟨hrn, hrd⟩ := rat_num (m := n) hd0
 have hgp : 0 < Nat.gcd n.natAbs d := Nat.gcd_pos_of_pos_right _ hd0
 have hgd : Nat.gcd n.natAbs d ≤ d := Nat.gcd_le_right _ hd0
 have hdv : ((Nat.gcd n.natAbs d : Nat) : Int) ∣ n := Int.ofNat_dvd_left.2 (Nat.gcd_dvd_left ..)
 have hna : (n / ((Nat.gcd n.natAbs d : Nat) : Int)).natAbs ≤ n.natAbs := Int.natAbs_ediv_le_natAbs _ _
 have hda : d / Nat.gcd n.natAbs d ≤ d := Nat.div_le_self _ _
 have hdp : 0 < d / Nat.gcd n.natAbs d := Nat.div_pos hgd hgp
 refine Fn.intro Tryz.func229 rfl rfl Tryz.ntmps229 rfl ?_
 intro C _ _
 refine sR <| ?_
 refine sc (ch_alloc rfl ?_)
 intro b1
 refine zE <| ?_
 generalize mkRat n d = q at *
 generalize hg : Nat.gcd n.natAbs d = g at *
 refine st_cut Unit (fun _ => [(0, .int .i64 q.num), (1, .int .i64 (q.den : Nat)), (4, .pointer (some ⟨b1, 0, none⟩))]) (fun _ => [⟨b1, [.int .i64 0, .int .i64 0, .pointer none], 103, true⟩]) (fun _ _ => True) ?_ ?_
 · refine sR <| sm rfl rfl <| ?_
   refine sc (zC rfl rfl (frac_abs (by omega) (by omega)) rfl ?_)
   rintro _ G2 _ rfl
   refine sm rfl rfl <| sy (yd_toU64 rfl) rfl <| ?_
   refine sc (zC rfl rfl (frac_gcd (by omega) (by omega)) rfl ?_)
   rintro _ G3 _ rfl
   rw [hg]
   refine sy (yd_toI64 rfl) rfl <| sa rfl rfl <| zE <| sR <| sm rfl rfl <| sy (yd_gtr rfl rfl) rfl <| zE <| ?_
   refine st_condP rfl (fun hc => ?_) (fun hc => ?_) -- slot 13
   · refine dr (fun _ => false) [(0, true), (1, true), (2, true), (3, true), (4, true), (5, true), (6, true), (7, true)] follows (by kernel_rfl) <| dM rfl rfl rfl <| dM rfl rfl rfl <| ?_
     refine dy rfl (fun _ => yd_quow rfl rfl (by omega)) rfl rfl <| ?_
     rw [Int.tdiv_eq_ediv_of_dvd hdv, i64_small (by omega), ← hrn]
     refine dM rfl rfl rfl <| dM rfl rfl rfl <| dy rfl (fun _ => yd_quow rfl rfl (by omega)) rfl rfl <| ?_
     rw [Int.tdiv_eq_ediv_of_nonneg (Int.natCast_nonneg _), ← Int.natCast_ediv, i64_small (by omega), ← hrd]
     refine dA rfl rfl rfl <| dA rfl rfl rfl <| dn <| ?_
     exact st_at () trivial (.cons rfl (.cons rfl (.cons rfl .nil))) rfl
   have hg1 : g = 1 := by omega
   rw [hg1, Int.natCast_one, Int.ediv_one] at hrn
   rw [hg1, Nat.div_one] at hrd
   rw [← hrn, ← hrd]
   refine zK <| ?_
   exact st_at () trivial (.cons rfl (.cons rfl (.cons rfl .nil))) rfl
 rintro _ Gx _ _
 refine sR <| sm rfl rfl <| sm rfl rfl <| sy (yd_sub64 rfl rfl) rfl <| sy (yd_build rfl) rfl <| ?_
 refine sc (ch_store rfl rfl (.hd ..) rfl (Nat.le_refl 3) rfl rfl ?_)
 refine zE <| st_ret <| ?_
 exact zD (.agg rfl ii ii rfl .nil) ⟨⟨q.num, (q.den : Int) - 1, none⟩, rfl, by omega, by omega, .inl ⟨rfl, rfl, rfl, by omega, by omega⟩⟩
theorem IsR.int {k : Nat} {G : Gh} {n : Int} (hk : 1 ≤ k) (h : n.natAbs < 2 ^ k) (hs : n.natAbs < 4611686018427387904) : IsR k G ⟨n, 0, none⟩ (n : Rat) :=
 ⟨h, Nat.one_lt_two_pow (by omega), .inl ⟨rfl, rfl, rfl, hs, by show 1 < 4611686018427387904; decide⟩⟩
theorem frac_Int {G : Gh} {n : Int} {k : Nat} (h0 : -9223372036854775808 ≤ n) (h1 : n ≤ 9223372036854775807) (hn : n.natAbs < 2 ^ k) (hk1 : 1 ≤ k) (hk : k ≤ 1099511627776) :
   Fn Tryz.prog 102 [.int .i64 n] G (fun v G' => ∃ z : RV, v = z.v ∧ IsR k G' z (n : Rat)) := by
 refine Fn.intro Tryz.func102 rfl rfl Tryz.ntmps102 rfl ?_
 intro C _ _
 refine sR <| ?_
 refine sc (ch_alloc rfl ?_)
 intro b1
 have big : ∀ (G1 : Gh) (z1 : IV) (b : Nat), IsI k G1 z1 n → GHas G1 b [dI 1] → Fn Tryz.prog 140 [.agg ⟨[.bool z1.neg, .slice z1.a.a z1.a.n z1.a.c]⟩, .slice (some ⟨b, 0, none⟩) 1 1] G1 (fun v G' => ∃ z : RV, v = z.v ∧ IsR k G' z (n : Rat)) := by
   intro G1 z1 b hz hb
   have h1D : IsD G1 ⟨some ⟨b, 0, none⟩, 1, 1⟩ [1] := .of_block (.cons (by decide) .nil) hb.h rfl (Nat.le_refl _) rfl
   have hl := hz.len
   have := frac_reduce (G := G1) (k := k) (neg := z1.neg) (x := z1.a) hz.abs.d h1D (by rw [hz.dvl]; exact hn) (Nat.lt_of_lt_of_le (by decide : dv [1] < 2 ^ 1) (Nat.pow_le_pow_right (by decide) hk1)) hk1 hk (by omega) (by decide)
   rw [show dv [1] = 1 by simp [dv], Rat.mkRat_one, hz.dvl, hz.zv] at this
   exact this
 refine zE <| st_seq <| sR <| sm rfl rfl <| sy (yd_leq rfl rfl) rfl <| sm rfl rfl <| ?_
 refine st_caseP 5 rfl (fun hg => ?_) (fun hg => ?_)
 · refine ss rfl rfl rfl rfl <| ss rfl rfl rfl rfl <| sy (yd_pickT rfl rfl) rfl <| zE <| st_condT rfl <| sR <| sm rfl rfl <| ?_
   refine sc (zC rfl rfl (integer_FromInt (k := k) h0 h1 hn) rfl ?_)
   rintro _ G2 _ ⟨z1, rfl, hz1⟩
   refine sc (ch_slice1 rfl (by rfl) (by rfl) (by decide) (by decide) rfl ?_)
   intro b3
   refine st_freeze b3 (.hd ..) (fun G3 _ hgb => ?_)
   refine sc (zC rfl rfl (big G3 z1 b3 hz1.up hgb) rfl ?_)
   rintro _ G4 _ ⟨z, rfl, hz⟩
   refine sc (ch_store rfl rfl (.hd ..) rfl (Nat.le_refl 3) rfl rfl ?_)
   refine zE <| st_ret <| ?_
   exact zD (.agg rfl ii ii rfl .nil) ⟨z, rfl, hz⟩
 refine syg rfl rfl (yd_move rfl) rfl <| syg rfl rfl (yd_geq rfl rfl) rfl <| sy (yd_pickF rfl rfl) rfl <| zE <| ?_
 refine st_condP rfl (fun hc => ?_) (fun hc => ?_) -- slot 8
 · refine sR <| sm rfl rfl <| ?_
   refine sc (zC rfl rfl (integer_FromInt (k := k) h0 h1 hn) rfl ?_)
   rintro _ G2 _ ⟨z1, rfl, hz1⟩
   refine sc (ch_slice1 rfl (by rfl) (by rfl) (by decide) (by decide) rfl ?_)
   intro b3
   refine st_freeze b3 (.hd ..) (fun G3 _ hgb => ?_)
   refine sc (zC rfl rfl (big G3 z1 b3 hz1.up hgb) rfl ?_)
   rintro _ G4 _ ⟨z, rfl, hz⟩
   refine sc (ch_store rfl rfl (.hd ..) rfl (Nat.le_refl 3) rfl rfl ?_)
   refine zE <| st_ret <| ?_
   exact zD (.agg rfl ii ii rfl .nil) ⟨z, rfl, hz⟩
 refine zK <| sR <| sm rfl rfl <| sy (yd_build rfl) rfl <| ?_
 refine sc (ch_store rfl rfl (.hd ..) rfl (Nat.le_refl 3) rfl rfl ?_)
 refine zE <| st_ret <| ?_
 exact zD (.agg rfl ii ii rfl .nil) ⟨⟨n, 0, none⟩, rfl, .int hk1 hn (by omega)⟩
theorem R_Neg {A G : Gh} {z : RV} {q : Rat} {k : Nat} (hz : IsR k A z q) [GL A G] (hk : k ≤ 1099511627776) :
   Fn Tryz.prog 157 [.agg ⟨[.int .i64 z.n, .int .i64 z.d, .pointer z.p]⟩] G (fun v G' => ∃ x : RV, v = x.v ∧ IsR k G' x (-q)) := by
 obtain ⟨hb1, hb2, hz⟩ := hz
 obtain ⟨zn, zd, zp⟩ := z
 show Fn _ _ [.agg ⟨[.int .i64 zn, .int .i64 zd, .pointer zp]⟩] _ _
 refine Fn.intro Tryz.func157 rfl rfl Tryz.ntmps157 rfl ?_
 intro C _ _
 refine sR <| ?_
 refine sc (ch_box rfl rfl ?_)
 intro b1
 refine sc (ch_alloc rfl ?_)
 intro b2
 refine zE <| st_seq <| sR <| sf rfl rfl <| slo1 rfl rfl rfl <| sy (yd_neP rfl rfl) rfl <| zE <| ?_
 rcases hz with ⟨hp, hn, hd, hs1, hs2⟩ | ⟨hn, hd, ⟨b, x, y, hp, hg, hx, hy⟩, hno⟩
 · simp only [] at hp hn hd
   subst hp hn hd
   refine st_condF rfl <| ?_
   refine zK <| sR <| sf rfl rfl <| slo1 rfl rfl rfl <| sy (yd_neg rfl) rfl <| ?_
   rw [i64_small (by omega), Int.zero_sub]
   refine sf rfl rfl <| slo1 rfl rfl rfl <| sy (yd_build rfl) rfl <| ?_
   refine sc (ch_store rfl rfl (.hd ..) rfl (Nat.le_refl 3) rfl rfl ?_)
   refine zE <| st_ret <| ?_
   exact zD (.agg rfl ii ii rfl .nil) ⟨⟨-q.num, (q.den : Int) - 1, none⟩, rfl, by rw [Rat.neg_num, Int.natAbs_neg]; exact hb1, hb2, .inl ⟨rfl, rfl, rfl, by rw [Rat.neg_num, Int.natAbs_neg]; exact hs1, hs2⟩⟩
 · simp only [] at hp hn hd
   subst hp hn hd
   have hg' : GHas A b _ := ⟨hg⟩
   have hl := hx.len
   refine st_condT rfl <| ?_
   refine st_seq <| dr (fun i => Nat.beq i 14) [(0, true), (1, true), (2, true), (3, true), (4, true), (6, true), (7, true), (8, true), (9, true), (10, true), (5, false), (11, true), (12, false), (13, true), (14, false)] follows (by kernel_rfl) <| ?_
   refine dF rfl rfl rfl <| dL1 rfl rfl rfl rfl <| dy rfl (fun _ => yd_nilCheck rfl) rfl rfl <| dF rfl rfl rfl <| ?_
   refine dy rfl (fun _ => yd_load_gh rfl ghi rfl) rfl rfl <| dF rfl rfl rfl <| dL1 rfl rfl rfl rfl <| dy rfl (fun _ => yd_nilCheck rfl) rfl rfl <| ?_
   refine dF rfl rfl rfl <| dy rfl (fun _ => yd_load_gh1 rfl ghi rfl) rfl rfl <| ?_
   refine dc rfl rfl (zC rfl rfl (integer_Neg (neg := x.neg) (x := x.a) (k := k) hx.abs.d (by rw [hx.dvl]; exact hb1) (by omega)) rfl ?_)
   rintro _ G3 _ ⟨x2, rfl, hx2⟩
   rw [hx.dvl, hx.zv] at hx2
   refine dr_s <| dy rfl (fun _ => yd_build rfl) rfl rfl <| ?_
   refine dc rfl rfl (ch_box rfl rfl ?_)
   intro b4
   refine st_freeze b4 (.hd ..) (fun G4 _ hgb => ?_)
   refine dr_s <| dy rfl (fun _ => yd_build rfl) rfl rfl <| ?_
   refine dc rfl rfl (ch_store rfl rfl (.hd ..) rfl (Nat.le_refl 3) rfl rfl ?_)
   refine dr_f rfl <| dn <| st_ret <| ?_
   exact zD (.agg rfl ii ii rfl .nil) ⟨⟨0, 0, some ⟨b4, 0, none⟩⟩, rfl, by rw [Rat.neg_num, Int.natAbs_neg]; exact hb1, hb2, .inr ⟨rfl, rfl, ⟨b4, x2, y, rfl, hgb.h, hx2.up, hy.up⟩, by rw [Rat.neg_num, Int.natAbs_neg]; exact hno⟩⟩
end Go.Sx
end

section
set_option maxRecDepth 100000
namespace Go.Sx
open Go Go.Proofs
theorem reduce_I {A B G : Gh} {x : IV} {y : SV} {m : Int} {e k : Nat} (hx : IsI k A x m) (hy : IsN k B y e) [GL A G] [GL B G] (hk1 : 1 ≤ k) (hk : k ≤ 1099511627776) :
  Fn Tryz.prog 140 [x.v, y.v] G (fun v G' => ∃ z : RV, v = z.v ∧ IsR k G' z (mkRat m e)) := by
 have hl := hx.len
 have hl2 := dg_len_le hy.lt
 have := frac_reduce (G := G) (neg := x.neg) (x := x.a) (y := y) hx.abs.d hy.d (by rw [hx.dvl]; exact hx.abs.lt) (by rw [hy.dvl]; exact hy.lt) hk1 hk (by omega) (by omega)
 rw [hx.dvl, hx.zv, hy.dvl] at this
 exact this
theorem mul_I {A B G : Gh} {x y : IV} {m e : Int} {k1 k2 : Nat} (hx : IsI k1 A x m) (hy : IsI k2 B y e) [GL A G] [GL B G] (hk : k1 + k2 ≤ 1099511627776) :
  Fn Tryz.prog 231 [x.v, y.v] G (fun v G' => ∃ z : IV, v = z.v ∧ IsI (k1 + k2) G' z (m * e)) := by
 have hl := hx.len
 have hl2 := hy.len
 have := integer_Mul (G := G) (n1 := x.neg) (n2 := y.neg) (x := x.a) (y := y.a) (k := k1 + k2) hx.abs.d hy.abs.d (by rw [hx.dvl, hy.dvl, Nat.pow_add]; exact Nat.mul_lt_mul'' hx.abs.lt hy.abs.lt) (by omega) (by omega)
 rw [hx.dvl, hx.zv, hy.dvl, hy.zv] at this
 exact this
theorem mul_N {A B G : Gh} {x y : SV} {m e : Nat} {k1 k2 : Nat} (hx : IsN k1 A x m) (hy : IsN k2 B y e) [GL A G] [GL B G] (hk : k1 + k2 ≤ 1099511627776) :
  Fn Tryz.prog 143 [x.v, y.v] G (fun v G' => ∃ z : SV, v = z.v ∧ IsN (k1 + k2) G' z (m * e)) := by
 have hl := dg_len_le hx.lt
 have hl2 := dg_len_le hy.lt
 have := nat_Mul (G := G) (x := x) (y := y) (kk := k1 + k2) hx.d hy.d (by rw [hx.dvl, hy.dvl, Nat.pow_add]; exact Nat.mul_lt_mul'' hx.lt hy.lt) (by omega) (by omega)
 rw [hx.dvl, hy.dvl] at this
 exact this
theorem IsR.k1 {k : Nat} {G : Gh} {z : RV} {q : Rat} (h : IsR k G z q) : 1 ≤ k := by
 have h1 := h.2.1
 have h2 : 0 < q.den := Nat.pos_of_ne_zero q.den_nz
 rcases Nat.eq_zero_or_pos k with h3 | h3
 · subst h3; simp at h1; omega
 · exact h3
theorem lt_pow_add {a b k l : Nat} (h : a < 2 ^ k) (h2 : b < 2 ^ l) : a * b < 2 ^ (k + l) := by rw [Nat.pow_add]; exact Nat.mul_lt_mul'' h h2
set_option maxHeartbeats 1000000 in
theorem R_Mul {A B G : Gh} {z1 z2 : RV} {q1 q2 : Rat} {k1 k2 : Nat} (hz1 : IsR k1 A z1 q1) (hz2 : IsR k2 B z2 q2) [GL A G] [GL B G] (hk : k1 + k2 ≤ 1099511627776) :
   Fn Tryz.prog 219 [.agg ⟨[.int .i64 z1.n, .int .i64 z1.d, .pointer z1.p]⟩, .agg ⟨[.int .i64 z2.n, .int .i64 z2.d, .pointer z2.p]⟩] G (fun v G' => ∃ x : RV, v = x.v ∧ IsR (k1 + k2) G' x (q1 * q2)) := by
 have hk11 := hz1.k1
 have hd1 : 0 < q1.den := Nat.pos_of_ne_zero q1.den_nz
 have hd2 : 0 < q2.den := Nat.pos_of_ne_zero q2.den_nz
 have hbn : (q1.num * q2.num).natAbs < 2 ^ (k1 + k2) := by rw [Int.natAbs_mul]; exact lt_pow_add hz1.1 hz2.1
 have hbd : q1.den * q2.den < 2 ^ (k1 + k2) := lt_pow_add hz1.2.1 hz2.2.1
 rw [Rat.mul_def']
 obtain ⟨z1n, z1d, z1p⟩ := z1
 obtain ⟨z2n, z2d, z2p⟩ := z2
 show Fn _ _ [.agg ⟨[.int .i64 z1n, .int .i64 z1d, .pointer z1p]⟩, .agg ⟨[.int .i64 z2n, .int .i64 z2d, .pointer z2p]⟩] _ _
 refine Fn.intro Tryz.func219 rfl rfl Tryz.ntmps219 rfl ?_
 intro C _ _
 refine sR <| ?_
 refine sc (ch_box rfl rfl ?_)
 intro b1
 refine sc (ch_box rfl rfl ?_)
 intro b2
 refine sc (ch_alloc rfl ?_)
 intro b3
 refine zE <| ?_
 refine st_cut Unit (fun _ => [(2, .pointer (some ⟨b1, 0, none⟩)), (3, .pointer (some ⟨b2, 0, none⟩)), (4, .pointer (some ⟨b3, 0, none⟩))]) (fun _ => [⟨b3, [.int .i64 0, .int .i64 0, .pointer none], 103, true⟩, ⟨b2, [.int .i64 z2n, .int .i64 z2d, .pointer z2p], 103, true⟩, ⟨b1, [.int .i64 z1n, .int .i64 z1d, .pointer z1p], 103, true⟩]) (fun _ _ => True) ?_ ?_
 · refine sR <| sf rfl rfl <| slo1 rfl rfl rfl <| sy (yd_eqP rfl rfl) rfl <| sm rfl rfl <| ?_
   rcases hz1.2.2 with ⟨hp, hn, hd, hs1, hs2⟩ | ⟨hn, hd, ⟨b, x, y, hp, hg, hx, hy⟩, hno⟩
   · simp only [] at hp hn hd
     subst hp hn hd
     refine syg rfl rfl (yd_fieldAddr rfl) rfl <| syg rfl rfl (yd_load_own1 rfl rfl) rfl <| syg rfl rfl (yd_eqP rfl rfl) rfl <| sy (yd_pickT rfl rfl) rfl <| zE <| ?_
     rcases hz2.2.2 with ⟨hp, hn, hd, hs3, hs4⟩ | ⟨hn, hd, ⟨b, x, y, hp, hg, hx, hy⟩, hno⟩
     · simp only [] at hp hn hd
       subst hp hn hd
       refine st_condT rfl <| ?_
       refine sR <| sf rfl rfl <| slo1 rfl rfl rfl <| sf rfl rfl <| slo1 rfl rfl rfl <| ?_
       refine sc (zC rfl rfl (frac_times hs1 hs3) rfl ?_)
       rintro _ G4 _ rfl
       refine sm rfl rfl <| sx rfl rfl rfl <| sx rfl rfl rfl <| sa rfl rfl <| sa rfl rfl <| zE <| sR <| sf rfl rfl <| slo1 rfl rfl rfl <| sy (yd_add64 rfl rfl) rfl <| ?_
       rw [show (q1.den : Int) - 1 + 1 = (q1.den : Nat) by omega]
       refine sf rfl rfl <| slo1 rfl rfl rfl <| sy (yd_add64 rfl rfl) rfl <| ?_
       rw [show (q2.den : Int) - 1 + 1 = (q2.den : Nat) by omega]
       refine sc (zC rfl rfl (frac_times (by rw [Int.natAbs_natCast]; exact hs2) (by rw [Int.natAbs_natCast]; exact hs4)) rfl ?_)
       rintro _ G5 _ rfl
       rw [Int.natAbs_natCast, Int.natAbs_natCast]
       refine sm rfl rfl <| sx rfl rfl rfl <| sx rfl rfl rfl <| sa rfl rfl <| sa rfl rfl <| zE <| sR <| sm rfl rfl <| sm rfl rfl <| ?_
       by_cases hP1 : q1.num.natAbs * q2.num.natAbs < 4611686018427387904
       · rw [if_pos hP1, decide_eq_true hP1]
         refine syg rfl rfl (yd_move rfl) rfl <| sy (yd_pickT rfl rfl) rfl <| zE <| ?_
         by_cases hP2 : q1.den * q2.den < 4611686018427387904
         · rw [if_pos hP2, decide_eq_true hP2, ← Int.natCast_mul]
           refine st_condT rfl <| ?_
           refine sR <| sm rfl rfl <| sm rfl rfl <| ?_
           refine sc (zC rfl rfl (frac_lowest (k := k1 + k2) (by rw [Int.natAbs_mul]; exact hP1) (Nat.mul_pos hd1 hd2) hP2 hbn hbd) rfl ?_)
           rintro _ G6 _ ⟨z, rfl, hz⟩
           refine sc (ch_store rfl rfl (.hd ..) rfl (Nat.le_refl 3) rfl rfl ?_)
           refine zE <| st_ret <| ?_
           exact zD (.agg rfl ii ii rfl .nil) ⟨z, rfl, hz⟩
         rw [decide_eq_false hP2]
         refine st_condF rfl <| zK <| ?_
         exact st_at () trivial (.cons rfl (.cons rfl (.cons rfl .nil))) rfl
       rw [decide_eq_false hP1]
       refine ss rfl rfl rfl rfl <| sy (yd_pickF rfl rfl) rfl <| zE <| st_condF rfl <| zK <| ?_
       exact st_at () trivial (.cons rfl (.cons rfl (.cons rfl .nil))) rfl
     · simp only [] at hp hn hd
       subst hp hn hd
       refine st_condF rfl <| zK <| ?_
       exact st_at () trivial (.cons rfl (.cons rfl (.cons rfl .nil))) rfl
   · simp only [] at hp hn hd
     subst hp hn hd
     refine ss rfl rfl rfl rfl <| ss rfl rfl rfl rfl <| ss rfl rfl rfl rfl <| sy (yd_pickF rfl rfl) rfl <| zE <| st_condF rfl <| zK <| ?_
     exact st_at () trivial (.cons rfl (.cons rfl (.cons rfl .nil))) rfl
 rintro _ Gx _ _
 refine st_seq <| dr (fun i => Nat.beq i 11) [(0, true), (2, true), (5, true), (7, true), (1, false), (3, false), (4, false), (6, false), (8, false), (9, false), (10, false), (11, false)] follows (by kernel_rfl) <| ?_
 refine dL rfl rfl rfl rfl <| dL rfl rfl rfl rfl <| dL rfl rfl rfl rfl <| dL rfl rfl rfl rfl <| ?_
 refine dc rfl rfl (zC rfl rfl (R_Num (z := ⟨z1n, z1d, z1p⟩) hz1 (by omega)) rfl ?_)
 rintro _ G7 _ ⟨x1, rfl, hx1⟩
 refine dr_s <| ?_
 refine dc rfl rfl (zC rfl rfl (R_Num (z := ⟨z2n, z2d, z2p⟩) hz2 (by omega)) rfl ?_)
 rintro _ G8 _ ⟨x2, rfl, hx2⟩
 refine dr_s <| ?_
 refine dc rfl rfl (zC rfl rfl (mul_I hx1 hx2 hk) rfl ?_)
 rintro _ G9 _ ⟨x3, rfl, hx3⟩
 refine dr_s <| ?_
 refine dc rfl rfl (zC rfl rfl (R_Den (z := ⟨z1n, z1d, z1p⟩) hz1 (by omega)) rfl ?_)
 rintro _ G10 _ ⟨y1, rfl, hy1⟩
 refine dr_s <| ?_
 refine dc rfl rfl (zC rfl rfl (R_Den (z := ⟨z2n, z2d, z2p⟩) hz2 (by omega)) rfl ?_)
 rintro _ G11 _ ⟨y2, rfl, hy2⟩
 refine dr_s <| ?_
 refine dc rfl rfl (zC rfl rfl (mul_N hy1 hy2 hk) rfl ?_)
 rintro _ G12 _ ⟨y3, rfl, hy3⟩
 refine dr_s <| ?_
 refine dc rfl rfl (zC rfl rfl (reduce_I hx3 hy3 (by omega) hk) rfl ?_)
 rintro _ G13 _ ⟨z, rfl, hz⟩
 refine dr_s <| ?_
 refine dc rfl rfl (ch_store rfl rfl (.hd ..) rfl (Nat.le_refl 3) rfl rfl ?_)
 refine dr_f rfl <| dn <| st_ret <| ?_
 exact zD (.agg rfl ii ii rfl .nil) ⟨z, rfl, hz⟩
end Go.Sx
end

section
set_option maxRecDepth 100000
namespace Go.Sx
open Go Go.Proofs
theorem mkRat_neg_abs {n : Int} {d : Nat} (h : n < 0) : mkRat (-(d : Int)) n.natAbs = Rat.divInt (d : Int) n := by
 rw [← Rat.divInt_ofNat, Int.ofNat_natAbs_of_nonpos (Int.le_of_lt h), Rat.neg_divInt_neg]
theorem rat_inv_num {q : Rat} (h : q.num < 0) : (q⁻¹).num = -(q.den : Int) ∧ (q⁻¹).den = q.num.natAbs := by
 rw [Rat.num_inv, Rat.den_inv, if_neg (by omega), Int.sign_eq_neg_one_of_neg h]
 omega
theorem rat_inv_pos {q : Rat} (h : 0 < q.num) : (q⁻¹).num = (q.den : Int) ∧ (q⁻¹).den = q.num.natAbs := by
 rw [Rat.num_inv, Rat.den_inv, if_neg (by omega), Int.sign_eq_one_of_pos h]
 omega
set_option maxHeartbeats 1000000 in
theorem R_Inv {A G : Gh} {z : RV} {q : Rat} {k : Nat} (hz : IsR k A z q) [GL A G] (hk : k ≤ 1099511627776) :
   Fn Tryz.prog 223 [.agg ⟨[.int .i64 z.n, .int .i64 z.d, .pointer z.p]⟩] G (fun v G' => ∃ x : RV, v = x.v ∧ IsR k G' x q⁻¹) := by
 have hk1 := hz.k1
 obtain ⟨hb1, hb2, hz⟩ := hz
 have hq0 : 0 < q.den := Nat.pos_of_ne_zero q.den_nz
 obtain ⟨zn, zd, zp⟩ := z
 show Fn _ _ [.agg ⟨[.int .i64 zn, .int .i64 zd, .pointer zp]⟩] _ _
 refine Fn.intro Tryz.func223 rfl rfl Tryz.ntmps223 rfl ?_
 intro C _ _
 refine sR <| ?_
 refine sc (ch_box rfl rfl ?_)
 intro b1
 refine sc (ch_alloc rfl ?_)
 intro b2
 refine zE <| st_seq <| st_block <| sR <| sf rfl rfl <| slo1 rfl rfl rfl <| sy (yd_neP rfl rfl) rfl <| sa rfl rfl <| zE <| ?_
 rcases hz with ⟨hp, hn, hd, hs1, hs2⟩ | ⟨hn, hd, ⟨b, x, y, hp, hg, hx, hy⟩, hno⟩
 · simp only [] at hp hn hd
   subst hp hn hd
   refine st_condF rfl <| ?_
   refine sR <| sf rfl rfl <| slo1 rfl rfl rfl <| sy (yd_lss rfl rfl) rfl <| sa rfl rfl <| zE <| ?_
   refine st_condP rfl (fun hc => ?_) (fun hc => ?_) -- slot 26
   · obtain ⟨hi1, hi2⟩ := rat_inv_num hc
     refine sR <| sf rfl rfl <| slo1 rfl rfl rfl <| sy (yd_add64 rfl rfl) rfl <| sy (yd_neg rfl) rfl <| ?_
     rw [i64_small (by omega), show 0 - ((q.den : Int) - 1 + 1) = (q⁻¹).num by omega]
     refine sf rfl rfl <| slo1 rfl rfl rfl <| sy (yd_neg rfl) rfl <| ?_
     rw [i64_small (by omega)]
     refine sy (yd_sub64 rfl rfl) rfl <| ?_
     rw [show 0 - q.num - 1 = ((q⁻¹).den : Int) - 1 by omega]
     refine sy (yd_build rfl) rfl <| ?_
     refine sc (ch_store rfl rfl (.hd ..) rfl (Nat.le_refl 3) rfl rfl ?_)
     refine zE <| st_ret <| ?_
     exact zD (.agg rfl ii ii rfl .nil) ⟨⟨_, _, none⟩, rfl, by omega, by omega, .inl ⟨rfl, rfl, rfl, by omega, by omega⟩⟩
   refine sR <| sf rfl rfl <| slo1 rfl rfl rfl <| sy (yd_eql rfl rfl) rfl <| sa rfl rfl <| zE <| ?_
   refine st_condP rfl (fun hc2 => ?_) (fun hc2 => ?_) -- slot 39
   · refine sR <| sy (yd_build rfl) rfl <| ?_
     refine sc (ch_store rfl rfl (.hd ..) rfl (Nat.le_refl 3) rfl rfl ?_)
     refine zE <| st_ret <| ?_
     exact zD (.agg rfl ii ii rfl .nil) ⟨⟨0, 0, none⟩, rfl, by rw [Rat.num_eq_zero.1 hc2, Rat.inv_zero]; exact .zero hk1⟩
   obtain ⟨hi1, hi2⟩ := rat_inv_pos (q := q) (by omega)
   refine zK <| sR <| sf rfl rfl <| slo1 rfl rfl rfl <| sy (yd_add64 rfl rfl) rfl <| ?_
   rw [show (q.den : Int) - 1 + 1 = (q⁻¹).num by omega]
   refine sf rfl rfl <| slo1 rfl rfl rfl <| sy (yd_sub64 rfl rfl) rfl <| ?_
   rw [show q.num - 1 = ((q⁻¹).den : Int) - 1 by omega]
   refine sy (yd_build rfl) rfl <| ?_
   refine sc (ch_store rfl rfl (.hd ..) rfl (Nat.le_refl 3) rfl rfl ?_)
   refine zE <| st_ret <| ?_
   exact zD (.agg rfl ii ii rfl .nil) ⟨⟨_, _, none⟩, rfl, by omega, by omega, .inl ⟨rfl, rfl, rfl, by omega, by omega⟩⟩
 · simp only [] at hp hn hd
   subst hp hn hd
   have hg' : GHas A b _ := ⟨hg⟩
   have hl := hx.len
   have hl2 := dg_len_le hy.lt
   refine st_condT rfl <| ?_
   refine st_seq <| dr (fun i => Nat.beq i 19) [(0, true), (1, true), (2, true), (3, true), (4, true), (5, true), (6, true), (7, true), (8, true), (9, true), (10, true), (11, true), (12, true), (13, true), (14, true), (15, true), (16, true), (17, true), (18, false), (19, false)] follows (by kernel_rfl) <| ?_
   refine dF rfl rfl rfl <| dL1 rfl rfl rfl rfl <| dy rfl (fun _ => yd_nilCheck rfl) rfl rfl <| dF rfl rfl rfl <| ?_
   refine dF rfl rfl rfl <| dy rfl (fun _ => yd_load_gh1 rfl ghi rfl) rfl rfl <| dF rfl rfl rfl <| dL1 rfl rfl rfl rfl <| ?_
   refine dy rfl (fun _ => yd_nilCheck rfl) rfl rfl <| dF rfl rfl rfl <| dy rfl (fun _ => yd_load_gh1 rfl ghi rfl) rfl rfl <| dy rfl (fun _ => yd_build rfl) rfl rfl <| ?_
   refine dF rfl rfl rfl <| dL1 rfl rfl rfl rfl <| dy rfl (fun _ => yd_nilCheck rfl) rfl rfl <| dF rfl rfl rfl <| ?_
   refine dF rfl rfl rfl <| dy rfl (fun _ => yd_load_gh1 rfl ghi rfl) rfl rfl <| ?_
   refine dc rfl rfl (zC rfl rfl (frac_reduce (k := k) (neg := x.neg) (x := y) (y := x.a) hy.d hx.abs.d (by rw [hy.dvl]; exact hb2) (by rw [hx.dvl]; exact hb1) hk1 hk (by omega) (by omega)) rfl ?_)
   rintro _ G3 _ ⟨z, rfl, hz⟩
   rw [hy.dvl, hx.dvl] at hz
   refine dr_s <| ?_
   refine dc rfl rfl (ch_store rfl rfl (.hd ..) rfl (Nat.le_refl 3) rfl rfl ?_)
   refine dr_f rfl <| dn <| st_ret <| ?_
   refine zD (.agg rfl ii ii rfl .nil) ⟨z, rfl, ?_⟩
   have : mkRat (zv x.neg q.den) q.num.natAbs = q⁻¹ := by
     rw [Rat.inv_def, hx.neg]
     by_cases h : q.num < 0
     · rw [decide_eq_true h]
       exact mkRat_neg_abs h
     · rw [decide_eq_false h, ← Rat.divInt_ofNat, Int.natAbs_of_nonneg (by omega)]
       rfl
   rw [← this]; exact hz
theorem R_Quo {A B G : Gh} {z1 z2 : RV} {q1 q2 : Rat} {k1 k2 : Nat} (hz1 : IsR k1 A z1 q1) (hz2 : IsR k2 B z2 q2) [GL A G] [GL B G] (hk : k1 + k2 ≤ 1099511627776) :
  Fn Tryz.prog 194 [.agg ⟨[.int .i64 z1.n, .int .i64 z1.d, .pointer z1.p]⟩, .agg ⟨[.int .i64 z2.n, .int .i64 z2.d, .pointer z2.p]⟩] G (fun v G' => ∃ x : RV, v = x.v ∧ IsR (k1 + k2) G' x (q1 / q2)) := by
 refine Fn.intro Tryz.func194 rfl rfl Tryz.ntmps194 rfl ?_
 intro C _ _
 refine sR <| ?_
 refine sc (ch_box rfl rfl ?_)
 intro b1
 refine sc (ch_box rfl rfl ?_)
 intro b2
 refine sc (ch_alloc rfl ?_)
 intro b3
 refine zE <| st_seq <| dr (fun i => Nat.beq i 4) [(0, true), (1, true), (2, false), (3, false), (4, false)] follows (by kernel_rfl) <| dL rfl rfl rfl rfl <| dL rfl rfl rfl rfl <| ?_
 refine dc rfl rfl (zC rfl rfl (R_Inv hz2 (by omega)) rfl ?_)
 rintro _ G4 _ ⟨x, rfl, hx⟩
 refine dr_s <| ?_
 refine dc rfl rfl (zC rfl rfl (R_Mul hz1 hx hk) rfl ?_)
 rintro _ G5 _ ⟨z, rfl, hz⟩
 refine dr_s <| ?_
 refine dc rfl rfl (ch_store rfl rfl (.hd ..) rfl (Nat.le_refl 3) rfl rfl ?_)
 refine dr_f rfl <| dn <| st_ret <| ?_
 exact zD (.agg rfl ii ii rfl .nil) ⟨z, rfl, by rw [Rat.div_def]; exact hz⟩
theorem R_Half {A G : Gh} {z : RV} {q : Rat} {k : Nat} (hz : IsR k A z q) [GL A G] (hk : k ≤ 1099511627774) :
  Fn Tryz.prog 218 [.agg ⟨[.int .i64 z.n, .int .i64 z.d, .pointer z.p]⟩] G (fun v G' => ∃ x : RV, v = x.v ∧ IsR (k + 2) G' x (q * mkRat 1 2)) := by
 refine Fn.intro Tryz.func218 rfl rfl Tryz.ntmps218 rfl ?_
 intro C _ _
 refine sR <| ?_
 refine sc (ch_box rfl rfl ?_)
 intro b1
 refine sc (ch_alloc rfl ?_)
 intro b2
 have hh : ∀ G : Gh, IsR 2 G ⟨1, 1, none⟩ (mkRat 1 2) := fun G => ⟨by decide, by decide, .inl ⟨rfl, by decide, by decide, by decide, by decide⟩⟩
 refine zE <| sR <| slo rfl rfl rfl <| sy (yd_build rfl) rfl <| ?_
 refine sc (zC rfl rfl (R_Mul (z2 := ⟨1, 1, none⟩) hz (hh G) (by omega)) rfl ?_)
 rintro _ G3 _ ⟨x, rfl, hx⟩
 refine sc (ch_store rfl rfl (.hd ..) rfl (Nat.le_refl 3) rfl rfl ?_)
 refine zE <| st_ret <| ?_
 exact zD (.agg rfl ii ii rfl .nil) ⟨x, rfl, hx⟩
end Go.Sx
end

section
set_option maxRecDepth 100000
namespace Go.Sx
open Go Go.Proofs
theorem add_I {A B G : Gh} {x y : IV} {m e : Int} {k : Nat} (hx : IsI k A x m) (hy : IsI k B y e) [GL A G] [GL B G] (hk : k + 1 ≤ 1099511627776) :
  Fn Tryz.prog 230 [x.v, y.v] G (fun v G' => ∃ z : IV, v = z.v ∧ IsI (k + 1) G' z (m + e)) := by
 have hl := hx.len
 have hl2 := hy.len
 have h1 := hx.abs.lt
 have h2 := hy.abs.lt
 have := integer_Add (G := G) (n1 := x.neg) (n2 := y.neg) (x := x.a) (y := y.a) (k := k + 1) hx.abs.d hy.abs.d (by rw [hx.dvl, hy.dvl, Nat.pow_succ]; omega) (by omega) (by omega)
 rw [hx.dvl, hx.zv, hy.dvl, hy.zv] at this
 exact this
theorem IsN.mono' {k l : Nat} {G : Gh} {z : SV} {m : Nat} (h : IsN k G z m) (hk : k ≤ l) : IsN l G z m := h.mono (Nat.lt_of_lt_of_le h.lt (Nat.pow_le_pow_right (by decide) hk))
theorem IsR.mono' {k l : Nat} {G : Gh} {z : RV} {q : Rat} (h : IsR k G z q) (hk : k ≤ l) : IsR l G z q := h.mono (Nat.lt_of_lt_of_le h.1 (Nat.pow_le_pow_right (by decide) hk)) (Nat.lt_of_lt_of_le h.2.1 (Nat.pow_le_pow_right (by decide) hk))
theorem rat_int {q : Rat} (h : q.den = 1) : q = (q.num : Int) := by
 conv => lhs; rw [← Rat.mkRat_self q, h, Rat.mkRat_one]
set_option maxHeartbeats 2000000 in
theorem R_Add {A B G : Gh} {z1 z2 : RV} {q1 q2 : Rat} {k1 k2 : Nat} (hz1 : IsR k1 A z1 q1) (hz2 : IsR k2 B z2 q2) [GL A G] [GL B G] (hk : k1 + k2 + 1 ≤ 1099511627776) :
   Fn Tryz.prog 215 [.agg ⟨[.int .i64 z1.n, .int .i64 z1.d, .pointer z1.p]⟩, .agg ⟨[.int .i64 z2.n, .int .i64 z2.d, .pointer z2.p]⟩] G (fun v G' => ∃ x : RV, v = x.v ∧ IsR (k1 + k2 + 1) G' x (q1 + q2)) := by
 have hk11 := hz1.k1
 have hd1 : 0 < q1.den := Nat.pos_of_ne_zero q1.den_nz
 have hd2 : 0 < q2.den := Nat.pos_of_ne_zero q2.den_nz
 have hna : (q1.num * (q2.den : Nat)).natAbs < 2 ^ (k1 + k2) := by rw [Int.natAbs_mul, Int.natAbs_natCast]; exact lt_pow_add hz1.1 hz2.2.1
 have hnb : (q2.num * (q1.den : Nat)).natAbs < 2 ^ (k1 + k2) := by rw [Int.natAbs_mul, Int.natAbs_natCast, Nat.mul_comm]; exact lt_pow_add hz1.2.1 hz2.1
 have hbn : (q1.num * (q2.den : Nat) + q2.num * (q1.den : Nat)).natAbs < 2 ^ (k1 + k2 + 1) := by rw [Nat.pow_succ]; omega
 have hbd' : q1.den * q2.den < 2 ^ (k1 + k2) := lt_pow_add hz1.2.1 hz2.2.1
 have hbd : q1.den * q2.den < 2 ^ (k1 + k2 + 1) := by rw [Nat.pow_succ]; omega
 have hadd := Rat.add_def' q1 q2
 obtain ⟨z1n, z1d, z1p⟩ := z1
 obtain ⟨z2n, z2d, z2p⟩ := z2
 show Fn _ _ [.agg ⟨[.int .i64 z1n, .int .i64 z1d, .pointer z1p]⟩, .agg ⟨[.int .i64 z2n, .int .i64 z2d, .pointer z2p]⟩] _ _
 refine Fn.intro Tryz.func215 rfl rfl Tryz.ntmps215 rfl ?_
 intro C _ _
 refine sR <| ?_
 refine sc (ch_box rfl rfl ?_)
 intro b1
 refine sc (ch_box rfl rfl ?_)
 intro b2
 refine sc (ch_alloc rfl ?_)
 intro b3
 refine zE <| ?_
 refine st_cut Unit (fun _ => [(2, .pointer (some ⟨b1, 0, none⟩)), (3, .pointer (some ⟨b2, 0, none⟩)), (4, .pointer (some ⟨b3, 0, none⟩))]) (fun _ => [⟨b3, [.int .i64 0, .int .i64 0, .pointer none], 103, true⟩, ⟨b2, [.int .i64 z2n, .int .i64 z2d, .pointer z2p], 103, true⟩, ⟨b1, [.int .i64 z1n, .int .i64 z1d, .pointer z1p], 103, true⟩]) (fun _ _ => True) ?_ ?_
 · refine sR <| sf rfl rfl <| slo1 rfl rfl rfl <| sy (yd_eqP rfl rfl) rfl <| sm rfl rfl <| ?_
   rcases hz1.2.2 with ⟨hp, hn, hd, hs1, hs2⟩ | ⟨hn, hd, ⟨b, x, y, hp, hg, hx, hy⟩, hno⟩
   · simp only [] at hp hn hd
     subst hp hn hd
     refine syg rfl rfl (yd_fieldAddr rfl) rfl <| syg rfl rfl (yd_load_own1 rfl rfl) rfl <| syg rfl rfl (yd_eqP rfl rfl) rfl <| sy (yd_pickT rfl rfl) rfl <| zE <| ?_
     rcases hz2.2.2 with ⟨hp, hn, hd, hs3, hs4⟩ | ⟨hn, hd, ⟨b, x, y, hp, hg, hx, hy⟩, hno⟩
     · simp only [] at hp hn hd
       subst hp hn hd
       refine st_condT rfl <| ?_
       refine st_cut Unit (fun _ => [(2, .pointer (some ⟨b1, 0, none⟩)), (3, .pointer (some ⟨b2, 0, none⟩)), (4, .pointer (some ⟨b3, 0, none⟩))]) (fun _ => [⟨b3, [.int .i64 0, .int .i64 0, .pointer none], 103, true⟩, ⟨b2, [.int .i64 q2.num, .int .i64 ((q2.den : Int) - 1), .pointer none], 103, true⟩, ⟨b1, [.int .i64 q1.num, .int .i64 ((q1.den : Int) - 1), .pointer none], 103, true⟩]) (fun _ _ => True) ?_ ?_
       · refine sR <| sf rfl rfl <| slo1 rfl rfl rfl <| sy (yd_eql rfl rfl) rfl <| sm rfl rfl <| ?_
         refine st_caseP 24 rfl (fun hg => ?_) (fun hg => ?_)
         · refine syg rfl rfl (yd_fieldAddr rfl) rfl <| syg rfl rfl (yd_load_own1 rfl rfl) rfl <| syg rfl rfl (yd_eql rfl rfl) rfl <| sy (yd_pickT rfl rfl) rfl <| zE <| ?_
           refine st_condP rfl (fun hc => ?_) (fun hc => ?_) -- slot 28
           · have e1 : q1.den = 1 := by omega
             have e2 : q2.den = 1 := by omega
             rw [e1, e2, Nat.mul_one, Int.natCast_one, Int.mul_one, Int.mul_one, Rat.mkRat_one] at hadd
             rw [e1, e2, Int.natCast_one, Int.mul_one, Int.mul_one] at hbn
             refine sR <| sf rfl rfl <| slo1 rfl rfl rfl <| sf rfl rfl <| slo1 rfl rfl rfl <| sy (yd_add64 rfl rfl) rfl <| ?_
             refine sc (zC rfl rfl (frac_Int (k := k1 + k2 + 1) (by omega) (by omega) hbn (by omega) hk) rfl ?_)
             rintro _ G4 _ ⟨z, rfl, hz⟩
             refine sc (ch_store rfl rfl (.hd ..) rfl (Nat.le_refl 3) rfl rfl ?_)
             refine zE <| st_ret <| ?_
             exact zD (.agg rfl ii ii rfl .nil) ⟨z, rfl, by rw [hadd]; exact hz⟩
           refine zK <| ?_
           exact st_at () trivial (.cons rfl (.cons rfl (.cons rfl .nil))) rfl
         refine ss rfl rfl rfl rfl <| ss rfl rfl rfl rfl <| ss rfl rfl rfl rfl <| sy (yd_pickF rfl rfl) rfl <| zE <| st_condF rfl <| zK <| ?_
         exact st_at () trivial (.cons rfl (.cons rfl (.cons rfl .nil))) rfl
       rintro _ G4 _ _
       refine sR <| sf rfl rfl <| slo1 rfl rfl rfl <| sf rfl rfl <| slo1 rfl rfl rfl <| sy (yd_add64 rfl rfl) rfl <| ?_
       rw [show (q2.den : Int) - 1 + 1 = (q2.den : Nat) by omega]
       refine sc (zC rfl rfl (frac_times hs1 (by rw [Int.natAbs_natCast]; exact hs4)) rfl ?_)
       rintro _ G5 _ rfl
       obtain ⟨va, hva⟩ : ∃ va, va = if q1.num.natAbs * (q2.den : Int).natAbs < 4611686018427387904 then q1.num * (q2.den : Int) else 0 := ⟨_, rfl⟩
       rw [← hva]
       rw [Int.natAbs_natCast] at hva ⊢
       have hva2 : va.natAbs < 4611686018427387904 := by
         rw [hva]
         split
         · rw [Int.natAbs_mul, Int.natAbs_natCast]; assumption
         · decide
       refine sm rfl rfl <| sx rfl rfl rfl <| sx rfl rfl rfl <| sa rfl rfl <| sa rfl rfl <| zE <| sR <| sf rfl rfl <| slo1 rfl rfl rfl <| sf rfl rfl <| slo1 rfl rfl rfl <| sy (yd_add64 rfl rfl) rfl <| ?_
       rw [show (q1.den : Int) - 1 + 1 = (q1.den : Nat) by omega]
       refine sc (zC rfl rfl (frac_times hs3 (by rw [Int.natAbs_natCast]; exact hs2)) rfl ?_)
       rintro _ G6 _ rfl
       obtain ⟨vb, hvb⟩ : ∃ vb, vb = if q2.num.natAbs * (q1.den : Int).natAbs < 4611686018427387904 then q2.num * (q1.den : Int) else 0 := ⟨_, rfl⟩
       rw [← hvb]
       rw [Int.natAbs_natCast] at hvb ⊢
       have hvb2 : vb.natAbs < 4611686018427387904 := by
         rw [hvb]
         split
         · rw [Int.natAbs_mul, Int.natAbs_natCast]; assumption
         · decide
       refine sm rfl rfl <| sx rfl rfl rfl <| sx rfl rfl rfl <| sa rfl rfl <| sa rfl rfl <| zE <| sR <| sf rfl rfl <| slo1 rfl rfl rfl <| sy (yd_add64 rfl rfl) rfl <| ?_
       rw [show (q1.den : Int) - 1 + 1 = (q1.den : Nat) by omega]
       refine sf rfl rfl <| slo1 rfl rfl rfl <| sy (yd_add64 rfl rfl) rfl <| ?_
       rw [show (q2.den : Int) - 1 + 1 = (q2.den : Nat) by omega]
       refine sc (zC rfl rfl (frac_times (by rw [Int.natAbs_natCast]; exact hs2) (by rw [Int.natAbs_natCast]; exact hs4)) rfl ?_)
       rintro _ G7 _ rfl
       rw [Int.natAbs_natCast, Int.natAbs_natCast, ← Int.natCast_mul]
       refine sm rfl rfl <| sx rfl rfl rfl <| sx rfl rfl rfl <| sa rfl rfl <| sa rfl rfl <| zE <| sR <| sm rfl rfl <| sm rfl rfl <| sy (yd_add64 rfl rfl) rfl <| ?_
       refine sa rfl rfl <| zE <| sR <| sm rfl rfl <| sm rfl rfl <| ?_
       refine st_caseP 67 rfl (fun hP1 => ?_) (fun hP1 => ?_)
       · rw [if_pos hP1] at hva
         refine syg rfl rfl (yd_move rfl) rfl <| sy (yd_pickT rfl rfl) rfl <| sm rfl rfl <| ?_
         refine st_caseP 70 rfl (fun hP2 => ?_) (fun hP2 => ?_)
         · rw [if_pos hP2] at hvb
           refine syg rfl rfl (yd_move rfl) rfl <| sy (yd_pickT rfl rfl) rfl <| sm rfl rfl <| ?_
           refine st_caseP 73 rfl (fun hP3 => ?_) (fun hP3 => ?_)
           · rw [if_pos hP3]
             refine syg rfl rfl (yd_move rfl) rfl <| syg rfl rfl (yd_gtr rfl rfl) rfl <| sy (yd_pickT rfl rfl) rfl <| sm rfl rfl <| ?_
             refine st_caseP 77 rfl (fun hg1 => ?_) (fun hg1 => ?_)
             · refine syg rfl rfl (yd_move rfl) rfl <| syg rfl rfl (yd_lss rfl rfl) rfl <| sy (yd_pickT rfl rfl) rfl <| zE <| ?_
               refine st_condP rfl (fun hg2 => ?_) (fun hg2 => ?_) -- slot 80
               · refine sR <| sm rfl rfl <| sm rfl rfl <| ?_
                 refine sc (zC rfl rfl (frac_lowest (n := va + vb) (k := k1 + k2 + 1) (by omega) (Nat.mul_pos hd1 hd2) hP3 (by rw [hva, hvb]; exact hbn) hbd) rfl ?_)
                 rintro _ G8 _ ⟨z, rfl, hz⟩
                 refine sc (ch_store rfl rfl (.hd ..) rfl (Nat.le_refl 3) rfl rfl ?_)
                 refine zE <| st_ret <| ?_
                 exact zD (.agg rfl ii ii rfl .nil) ⟨z, rfl, by rw [hadd, ← hva, ← hvb]; exact hz⟩
               refine zK <| ?_
               exact st_at () trivial (.cons rfl (.cons rfl (.cons rfl .nil))) rfl
             refine ss rfl rfl rfl rfl <| ss rfl rfl rfl rfl <| sy (yd_pickF rfl rfl) rfl <| zE <| st_condF rfl <| zK <| ?_
             exact st_at () trivial (.cons rfl (.cons rfl (.cons rfl .nil))) rfl
           refine ss rfl rfl rfl rfl <| ss rfl rfl rfl rfl <| sy (yd_pickF rfl rfl) rfl <| sm rfl rfl <| ss rfl rfl rfl rfl <| ss rfl rfl rfl rfl <| sy (yd_pickF rfl rfl) rfl <| zE <| st_condF rfl <| ?_
           refine zK <| ?_
           exact st_at () trivial (.cons rfl (.cons rfl (.cons rfl .nil))) rfl
         refine ss rfl rfl rfl rfl <| sy (yd_pickF rfl rfl) rfl <| sm rfl rfl <| ss rfl rfl rfl rfl <| ss rfl rfl rfl rfl <| sy (yd_pickF rfl rfl) rfl <| sm rfl rfl <| ss rfl rfl rfl rfl <| ss rfl rfl rfl rfl <| ?_
         refine sy (yd_pickF rfl rfl) rfl <| zE <| st_condF rfl <| zK <| ?_
         exact st_at () trivial (.cons rfl (.cons rfl (.cons rfl .nil))) rfl
       refine ss rfl rfl rfl rfl <| sy (yd_pickF rfl rfl) rfl <| sm rfl rfl <| ss rfl rfl rfl rfl <| sy (yd_pickF rfl rfl) rfl <| sm rfl rfl <| ss rfl rfl rfl rfl <| ss rfl rfl rfl rfl <| sy (yd_pickF rfl rfl) rfl <| ?_
       refine sm rfl rfl <| ss rfl rfl rfl rfl <| ss rfl rfl rfl rfl <| sy (yd_pickF rfl rfl) rfl <| zE <| st_condF rfl <| zK <| ?_
       exact st_at () trivial (.cons rfl (.cons rfl (.cons rfl .nil))) rfl
     · simp only [] at hp hn hd
       subst hp hn hd
       refine st_condF rfl <| zK <| ?_
       exact st_at () trivial (.cons rfl (.cons rfl (.cons rfl .nil))) rfl
   · simp only [] at hp hn hd
     subst hp hn hd
     refine ss rfl rfl rfl rfl <| ss rfl rfl rfl rfl <| ss rfl rfl rfl rfl <| sy (yd_pickF rfl rfl) rfl <| zE <| st_condF rfl <| zK <| ?_
     exact st_at () trivial (.cons rfl (.cons rfl (.cons rfl .nil))) rfl
 rintro _ Gx _ _
 refine st_seq <| drF 12 44 (.agg ⟨[.bool false, .slice none 0 0]⟩) (fun i => Nat.beq i 14) 13 [(0, true), (2, true), (6, true), (8, true), (1, false), (3, false), (4, true), (5, false), (7, false), (9, false), (10, true), (11, false), (12, false)] [(14, false)] follows (by kernel_rfl) (fun fl => ?_)
 refine dyF rfl (fun _ => yd_load_own rfl rfl) rfl rfl (List.sublist_append_left _ _) ?_
 refine dyF rfl (fun _ => yd_load_own rfl rfl) rfl rfl (List.sublist_append_left _ _) ?_
 refine dyF rfl (fun _ => yd_load_own rfl rfl) rfl rfl (List.sublist_append_left _ _) ?_
 refine dyF rfl (fun _ => yd_load_own rfl rfl) rfl rfl (List.sublist_append_left _ _) ?_
 apply dcF (fl := fl) (t := 44) (z := .agg ⟨[.bool false, .slice none 0 0]⟩)
 case ho => exact rfl
 case hg => exact rfl
 case hk => exact rfl
 case hd => exact rfl
 case hF => intro b; repeat (first | exact .nil | refine .cons rfl ?_)
 case hO => exact fun _ => (List.perm_append_singleton _ _).symm
 case hs => exact List.sublist_append_left _ _
 intro fl
 refine zC rfl rfl (R_Num (z := ⟨z1n, z1d, z1p⟩) hz1 (by omega)) rfl ?_
 rintro _ G13 _ ⟨x1, rfl, hx1⟩
 refine dr_s' (List.sublist_append_left _ _) <| ?_
 apply dcF (fl := fl) (t := 44) (z := .agg ⟨[.bool false, .slice none 0 0]⟩)
 case ho => exact rfl
 case hg => exact rfl
 case hk => exact rfl
 case hd => exact rfl
 case hF => intro b; repeat (first | exact .nil | refine .cons rfl ?_)
 case hO => exact fun _ => (List.perm_append_singleton _ _).symm
 case hs => exact List.sublist_append_left _ _
 intro fl
 refine zC rfl rfl (R_Den (z := ⟨z2n, z2d, z2p⟩) hz2 (by omega)) rfl ?_
 rintro _ G14 _ ⟨y2, rfl, hy2⟩
 have hy2I : IsI k2 G14 ⟨false, y2⟩ (q2.den : Int) := ⟨by simp, hy2⟩
 refine dr_s' (List.sublist_append_left _ _) <| ?_
 refine dyF rfl (fun _ => yd_build rfl) rfl rfl (List.sublist_append_left _ _) ?_
 apply dcF (fl := fl) (t := 44) (z := .agg ⟨[.bool false, .slice none 0 0]⟩)
 case ho => exact rfl
 case hg => exact rfl
 case hk => exact rfl
 case hd => exact rfl
 case hF => intro b; repeat (first | exact .nil | refine .cons rfl ?_)
 case hO => exact fun _ => (List.perm_append_singleton _ _).symm
 case hs => exact List.sublist_append_left _ _
 intro fl
 refine zC rfl rfl (mul_I (y := ⟨false, y2⟩) hx1 hy2I (by omega)) rfl ?_
 rintro _ G15 _ ⟨m1, rfl, hm1⟩
 refine dr_s' (List.sublist_append_left _ _) <| ?_
 apply dcF (fl := fl) (t := 44) (z := .agg ⟨[.bool false, .slice none 0 0]⟩)
 case ho => exact rfl
 case hg => exact rfl
 case hk => exact rfl
 case hd => exact rfl
 case hF => intro b; repeat (first | exact .nil | refine .cons rfl ?_)
 case hO => exact fun _ => (List.perm_append_singleton _ _).symm
 case hs => exact List.sublist_append_left _ _
 intro fl
 refine zC rfl rfl (R_Num (z := ⟨z2n, z2d, z2p⟩) hz2 (by omega)) rfl ?_
 rintro _ G16 _ ⟨x2, rfl, hx2⟩
 refine dr_s' (List.sublist_append_left _ _) <| ?_
 apply dcF (fl := fl) (t := 44) (z := .agg ⟨[.bool false, .slice none 0 0]⟩)
 case ho => exact rfl
 case hg => exact rfl
 case hk => exact rfl
 case hd => exact rfl
 case hF => intro b; repeat (first | exact .nil | refine .cons rfl ?_)
 case hO => exact fun _ => (List.perm_append_singleton _ _).symm
 case hs => exact List.sublist_append_left _ _
 intro fl
 refine zC rfl rfl (R_Den (z := ⟨z1n, z1d, z1p⟩) hz1 (by omega)) rfl ?_
 rintro _ G17 _ ⟨y1, rfl, hy1⟩
 have hy1I : IsI k1 G17 ⟨false, y1⟩ (q1.den : Int) := ⟨by simp, hy1⟩
 refine dr_s' (List.sublist_append_left _ _) <| ?_
 refine dyF rfl (fun _ => yd_build rfl) rfl rfl (List.sublist_append_left _ _) ?_
 apply dcF (fl := fl) (t := 44) (z := .agg ⟨[.bool false, .slice none 0 0]⟩)
 case ho => exact rfl
 case hg => exact rfl
 case hk => exact rfl
 case hd => exact rfl
 case hF => intro b; repeat (first | exact .nil | refine .cons rfl ?_)
 case hO => exact fun _ => (List.perm_append_singleton _ _).symm
 case hs => exact List.sublist_append_left _ _
 intro fl
 refine zC rfl rfl (mul_I (y := ⟨false, y1⟩) hx2 hy1I (by omega)) rfl ?_
 rintro _ G18 _ ⟨m2, rfl, hm2⟩
 rw [Nat.add_comm k2 k1] at hm2
 refine dr_s' (List.sublist_append_left _ _) <| ?_
 apply dcF (fl := fl) (t := 44) (z := .agg ⟨[.bool false, .slice none 0 0]⟩)
 case ho => exact rfl
 case hg => exact rfl
 case hk => exact rfl
 case hd => exact rfl
 case hF => intro b; repeat (first | exact .nil | refine .cons rfl ?_)
 case hO => exact fun _ => (List.perm_append_singleton _ _).symm
 case hs => exact List.sublist_append_left _ _
 intro fl
 refine zC rfl rfl (add_I hm1 hm2 (by omega)) rfl ?_
 rintro _ G19 _ ⟨m3, rfl, hm3⟩
 refine dr_s' (List.sublist_append_left _ _) <| ?_
 apply dF_out (fl := fl) (t := 44) (z := .agg ⟨[.bool false, .slice none 0 0]⟩)
 case hk => exact rfl
 case hd => exact rfl
 case hF => intro b; repeat (first | exact .nil | refine .cons rfl ?_)
 case hO => exact fun _ => List.perm_append_singleton _ _
 case hs => exact List.sublist_append_left _ _
 intro b20
 simp only [fO, fF, List.append_nil]
 refine dc rfl rfl (ch_store rfl rfl (.hd ..) rfl (Nat.le_refl 2) rfl rfl ?_)
 refine dr_f rfl <| dn <| ?_
 refine st_seq <| dr (fun i => Nat.beq i 7) [(0, true), (1, true), (3, true), (2, false), (4, false), (5, false), (6, false), (7, false)] follows (by kernel_rfl) <| dL rfl rfl rfl rfl <| ?_
 refine dL rfl rfl rfl rfl <| dL rfl rfl rfl rfl <| ?_
 refine dc rfl rfl (zC rfl rfl (R_Den (z := ⟨z1n, z1d, z1p⟩) hz1 (by omega)) rfl ?_)
 rintro _ G21 _ ⟨y3, rfl, hy3⟩
 refine dr_s <| ?_
 refine dc rfl rfl (zC rfl rfl (R_Den (z := ⟨z2n, z2d, z2p⟩) hz2 (by omega)) rfl ?_)
 rintro _ G22 _ ⟨y4, rfl, hy4⟩
 refine dr_s <| ?_
 refine dc rfl rfl (zC rfl rfl (mul_N hy3 hy4 (by omega)) rfl ?_)
 rintro _ G23 _ ⟨y5, rfl, hy5⟩
 refine dr_s <| ?_
 refine dc rfl rfl (zC rfl rfl (reduce_I hm3 (hy5.mono' (Nat.le_succ _)) (by omega) hk) rfl ?_)
 rintro _ G24 _ ⟨z, rfl, hz⟩
 refine dr_s <| ?_
 refine dc rfl rfl (ch_store rfl rfl (.tl _ _ _ _ _ _ _ _ (.hd ..)) rfl (Nat.le_refl 3) rfl rfl ?_)
 refine dr_f rfl <| dn <| st_ret <| ?_
 exact zD (.agg rfl ii ii rfl .nil) ⟨z, rfl, by rw [hadd]; exact hz⟩
end Go.Sx
end

section
set_option maxRecDepth 100000
namespace Go.Sx
open Go Go.Proofs
theorem R_Sub {A B G : Gh} {z1 z2 : RV} {q1 q2 : Rat} {k1 k2 : Nat} (hz1 : IsR k1 A z1 q1) (hz2 : IsR k2 B z2 q2) [GL A G] [GL B G] (hk : k1 + k2 + 1 ≤ 1099511627776) :
  Fn Tryz.prog 183 [.agg ⟨[.int .i64 z1.n, .int .i64 z1.d, .pointer z1.p]⟩, .agg ⟨[.int .i64 z2.n, .int .i64 z2.d, .pointer z2.p]⟩] G (fun v G' => ∃ x : RV, v = x.v ∧ IsR (k1 + k2 + 1) G' x (q1 - q2)) := by
 refine Fn.intro Tryz.func183 rfl rfl Tryz.ntmps183 rfl ?_
 intro C _ _
 refine sR <| ?_
 refine sc (ch_box rfl rfl ?_)
 intro b1
 refine sc (ch_box rfl rfl ?_)
 intro b2
 refine sc (ch_alloc rfl ?_)
 intro b3
 refine zE <| st_seq <| dr (fun i => Nat.beq i 4) [(0, true), (1, true), (2, false), (3, false), (4, false)] follows (by kernel_rfl) <| dL rfl rfl rfl rfl <| dL rfl rfl rfl rfl <| ?_
 refine dc rfl rfl (zC rfl rfl (R_Neg hz2 (by omega)) rfl ?_)
 rintro _ G4 _ ⟨x, rfl, hx⟩
 refine dr_s <| ?_
 refine dc rfl rfl (zC rfl rfl (R_Add hz1 hx hk) rfl ?_)
 rintro _ G5 _ ⟨z, rfl, hz⟩
 refine dr_s <| ?_
 refine dc rfl rfl (ch_store rfl rfl (.hd ..) rfl (Nat.le_refl 3) rfl rfl ?_)
 refine dr_f rfl <| dn <| st_ret <| ?_
 exact zD (.agg rfl ii ii rfl .nil) ⟨z, rfl, by rw [Rat.sub_eq_add_neg]; exact hz⟩
def rcmp (a b : Rat) : Int := if a < b then -1 else if b < a then 1 else 0
theorem sub_num_neg (a b : Rat) : (a - b).num < 0 ↔ a < b := by
 rw [← Rat.not_le, Rat.le_iff_sub_nonneg, ← Rat.num_nonneg]; omega
theorem sub_num_pos (a b : Rat) : 0 < (a - b).num ↔ b < a := by
 have h := sub_num_neg b a
 have h2 : (b - a).num = -(a - b).num := by rw [← Rat.neg_num, Rat.neg_sub]
 rw [h2] at h
 rw [← h]; omega
theorem sign_sub (a b : Rat) : Int.sign (a - b).num = rcmp a b := by
 unfold rcmp
 split
 · rename_i h; exact Int.sign_eq_neg_one_of_neg ((sub_num_neg a b).2 h)
 · rename_i h
   split
   · rename_i h2; exact Int.sign_eq_one_of_pos ((sub_num_pos a b).2 h2)
   · rename_i h2
     rw [← sub_num_neg] at h
     rw [← sub_num_pos] at h2
     rw [show (a - b).num = 0 by omega]; rfl
theorem lt_same {a b : Rat} (h : a.den = b.den) : a < b ↔ a.num < b.num := by
 rw [Rat.lt_iff, h]
 have : (0 : Int) < b.den := by have := b.den_pos; omega
 exact ⟨fun h2 => Int.lt_of_mul_lt_mul_right h2 (Int.le_of_lt this), fun h2 => Int.mul_lt_mul_of_pos_right h2 this⟩
set_option maxHeartbeats 1000000 in
theorem R_Cmp {A B G : Gh} {z1 z2 : RV} {q1 q2 : Rat} {k1 k2 : Nat} (hz1 : IsR k1 A z1 q1) (hz2 : IsR k2 B z2 q2) [GL A G] [GL B G] (hk : k1 + k2 + 1 ≤ 1099511627776) :
   Fn Tryz.prog 147 [.agg ⟨[.int .i64 z1.n, .int .i64 z1.d, .pointer z1.p]⟩, .agg ⟨[.int .i64 z2.n, .int .i64 z2.d, .pointer z2.p]⟩] G (fun v _ => v = .int .i64 (rcmp q1 q2)) := by
 obtain ⟨z1n, z1d, z1p⟩ := z1
 obtain ⟨z2n, z2d, z2p⟩ := z2
 show Fn _ _ [.agg ⟨[.int .i64 z1n, .int .i64 z1d, .pointer z1p]⟩, .agg ⟨[.int .i64 z2n, .int .i64 z2d, .pointer z2p]⟩] _ _
 refine Fn.intro Tryz.func147 rfl rfl Tryz.ntmps147 rfl ?_
 intro C _ _
 refine sR <| ?_
 refine sc (ch_box rfl rfl ?_)
 intro b1
 refine sc (ch_box rfl rfl ?_)
 intro b2
 refine sa rfl rfl <| zE <| st_seq <| sR <| sf rfl rfl <| slo1 rfl rfl rfl <| sy (yd_eqP rfl rfl) rfl <| sm rfl rfl <| ?_
 rcases hz1.2.2 with ⟨hp, hn, hd, hs1, hs2⟩ | ⟨hn, hd, ⟨b, x, y, hp, hg, hx, hy⟩, hno⟩
 · simp only [] at hp hn hd
   subst hp hn hd
   refine syg rfl rfl (yd_fieldAddr rfl) rfl <| syg rfl rfl (yd_load_own1 rfl rfl) rfl <| syg rfl rfl (yd_eqP rfl rfl) rfl <| sy (yd_pickT rfl rfl) rfl <| sm rfl rfl <| ?_
   rcases hz2.2.2 with ⟨hp, hn, hd, hs3, hs4⟩ | ⟨hn, hd, ⟨b, x, y, hp, hg, hx, hy⟩, hno⟩
   · simp only [] at hp hn hd
     subst hp hn hd
     refine syg rfl rfl (yd_fieldAddr rfl) rfl <| syg rfl rfl (yd_load_own1 rfl rfl) rfl <| syg rfl rfl (yd_fieldAddr rfl) rfl <| syg rfl rfl (yd_load_own1 rfl rfl) rfl <| syg rfl rfl (yd_eql rfl rfl) rfl <| ?_
     refine sy (yd_pickT rfl rfl) rfl <| zE <| ?_
     refine st_condP rfl (fun hc => ?_) (fun hc => ?_) -- slot 19
     · have hden : q1.den = q2.den := by omega
       refine st_seq <| st_block <| sR <| sf rfl rfl <| slo1 rfl rfl rfl <| sf rfl rfl <| slo1 rfl rfl rfl <| sy (yd_lss rfl rfl) rfl <| sa rfl rfl <| zE <| ?_
       refine st_condP rfl (fun hc1 => ?_) (fun hc1 => ?_) -- slot 20
       · refine sR <| sa rfl rfl <| zE <| st_ret <| ?_
         exact zD (.tmp rfl .nil) (by rw [rcmp, if_pos ((lt_same hden).2 hc1)]; rfl)
       refine sR <| sf rfl rfl <| slo1 rfl rfl rfl <| sf rfl rfl <| slo1 rfl rfl rfl <| sy (yd_gtr rfl rfl) rfl <| sa rfl rfl <| zE <| ?_
       refine st_condP rfl (fun hc2 => ?_) (fun hc2 => ?_) -- slot 26
       · refine sR <| sa rfl rfl <| zE <| st_ret <| ?_
         exact zD (.tmp rfl .nil) (by rw [rcmp, if_neg (fun h => hc1 ((lt_same hden).1 h)), if_pos ((lt_same hden.symm).2 hc2)]; rfl)
       refine zK <| sR <| sa rfl rfl <| zE <| st_ret <| ?_
       exact zD (.tmp rfl .nil) (by rw [rcmp, if_neg (fun h => hc1 ((lt_same hden).1 h)), if_neg (fun h => hc2 ((lt_same hden.symm).1 h))]; rfl)
     refine zK <| sR <| slo rfl rfl rfl <| slo rfl rfl rfl <| ?_
     refine sc (zC rfl rfl (R_Sub hz1 hz2 hk) rfl ?_)
     rintro _ G3 _ ⟨z, rfl, hz⟩
     refine sc (zC rfl rfl (R_Sign hz hk) rfl ?_)
     rintro _ G4 _ rfl
     rw [sign_sub]
     refine sa rfl rfl <| zE <| st_ret <| ?_
     exact zD (.tmp rfl .nil) rfl
   · simp only [] at hp hn hd
     subst hp hn hd
     refine ss rfl rfl rfl rfl <| ss rfl rfl rfl rfl <| ss rfl rfl rfl rfl <| ss rfl rfl rfl rfl <| ss rfl rfl rfl rfl <| sy (yd_pickF rfl rfl) rfl <| zE <| st_condF rfl <| zK <| st_seq <| ?_
     refine st_region <| slo rfl rfl rfl <| slo rfl rfl rfl <| ?_
     refine sc (zC rfl rfl (R_Sub hz1 hz2 hk) rfl ?_)
     rintro _ G3 _ ⟨z, rfl, hz⟩
     refine sc (zC rfl rfl (R_Sign hz hk) rfl ?_)
     rintro _ G4 _ rfl
     rw [sign_sub]
     refine sa rfl rfl <| zE <| st_ret <| ?_
     exact zD (.tmp rfl .nil) rfl
 · simp only [] at hp hn hd
   subst hp hn hd
   refine ss rfl rfl rfl rfl <| ss rfl rfl rfl rfl <| ss rfl rfl rfl rfl <| sy (yd_pickF rfl rfl) rfl <| sm rfl rfl <| ss rfl rfl rfl rfl <| ss rfl rfl rfl rfl <| ss rfl rfl rfl rfl <| ss rfl rfl rfl rfl <| ?_
   refine ss rfl rfl rfl rfl <| sy (yd_pickF rfl rfl) rfl <| zE <| st_condF rfl <| zK <| sR <| slo rfl rfl rfl <| slo rfl rfl rfl <| ?_
   refine sc (zC rfl rfl (R_Sub hz1 hz2 hk) rfl ?_)
   rintro _ G3 _ ⟨z, rfl, hz⟩
   refine sc (zC rfl rfl (R_Sign hz hk) rfl ?_)
   rintro _ G4 _ rfl
   rw [sign_sub]
   refine sa rfl rfl <| zE <| st_ret <| ?_
   exact zD (.tmp rfl .nil) rfl
theorem rcmp_eq (a b : Rat) : rcmp a b = 0 ↔ a = b := by
 unfold rcmp
 constructor
 · intro h
   split at h
   · omega
   · rename_i h1
     split at h
     · omega
     · rename_i h2
       exact Rat.le_antisymm (Rat.not_lt.1 h2) (Rat.not_lt.1 h1)
 · intro h
   subst h
   rw [if_neg (Rat.not_lt.2 Rat.le_refl), if_neg (Rat.not_lt.2 Rat.le_refl)]
theorem R_Equal {A B G : Gh} {z1 z2 : RV} {q1 q2 : Rat} {k1 k2 : Nat} (hz1 : IsR k1 A z1 q1) (hz2 : IsR k2 B z2 q2) [GL A G] [GL B G] (hk : k1 + k2 + 1 ≤ 1099511627776) :
  Fn Tryz.prog 101 [.agg ⟨[.int .i64 z1.n, .int .i64 z1.d, .pointer z1.p]⟩, .agg ⟨[.int .i64 z2.n, .int .i64 z2.d, .pointer z2.p]⟩] G (fun v _ => v = .bool (decide (q1 = q2))) := by
 refine Fn.intro Tryz.func101 rfl rfl Tryz.ntmps101 rfl ?_
 intro C _ _
 refine sR <| ?_
 refine sc (ch_box rfl rfl ?_)
 intro b1
 refine sc (ch_box rfl rfl ?_)
 intro b2
 refine sa rfl rfl <| zE <| sR <| slo rfl rfl rfl <| slo rfl rfl rfl <| ?_
 refine sc (zC rfl rfl (R_Cmp hz1 hz2 hk) rfl ?_)
 rintro _ G3 _ rfl
 refine sy (yd_eql rfl rfl) rfl <| sa rfl rfl <| zE <| st_ret <| ?_
 refine zD (.tmp rfl .nil) ?_
 show Value.bool (decide (rcmp q1 q2 = 0)) = _
 rw [decide_eq_decide.2 (rcmp_eq q1 q2)]
end Go.Sx
end

section
set_option maxRecDepth 100000
namespace Go.Sx
open Go Go.Proofs
theorem rcmp_pos (a b : Rat) : 0 < rcmp a b ↔ b < a := by
 unfold rcmp
 constructor
 · intro h
   split at h
   · omega
   · split at h
     · assumption
     · omega
 · intro h
   rw [if_neg (fun h2 => Rat.not_lt.2 (Rat.le_of_lt h) h2), if_pos h]; decide
theorem rcmp_neg (a b : Rat) : rcmp a b < 0 ↔ a < b := by
 unfold rcmp
 constructor
 · intro h
   split at h
   · assumption
   · split at h <;> omega
 · intro h
   rw [if_pos h]; decide
theorem frac_Max {A B G : Gh} {z1 z2 : RV} {q1 q2 : Rat} {k1 k2 : Nat} (hz1 : IsR k1 A z1 q1) (hz2 : IsR k2 B z2 q2) [GL A G] [GL B G] (hk : k1 + k2 + 1 ≤ 1099511627776) :
   Fn Tryz.prog 220 [.agg ⟨[.int .i64 z1.n, .int .i64 z1.d, .pointer z1.p]⟩, .agg ⟨[.int .i64 z2.n, .int .i64 z2.d, .pointer z2.p]⟩] G (fun v G' => ∃ x : RV, v = x.v ∧ IsR (max k1 k2) G' x (if q1 < q2 then q2 else q1)) := by
 refine Fn.intro Tryz.func220 rfl rfl Tryz.ntmps220 rfl ?_
 intro C _ _
 refine sR <| ?_
 refine sc (ch_box rfl rfl ?_)
 intro b1
 refine sc (ch_box rfl rfl ?_)
 intro b2
 refine sc (ch_alloc rfl ?_)
 intro b3
 refine zE <| st_seq <| sR <| slo rfl rfl rfl <| slo rfl rfl rfl <| ?_
 refine sc (zC rfl rfl (R_Cmp hz2 hz1 (by omega)) rfl ?_)
 rintro _ G4 _ rfl
 refine sy (yd_gtr rfl rfl) rfl <| zE <| ?_
 refine st_condP rfl (fun hc => ?_) (fun hc => ?_) -- slot 8
 · refine sR <| slo rfl rfl rfl <| ?_
   refine sc (ch_store rfl rfl (.hd ..) rfl (Nat.le_refl 3) rfl rfl ?_)
   refine zE <| st_ret <| ?_
   exact zD (.agg rfl ii ii rfl .nil) ⟨z2, rfl, by rw [if_pos ((rcmp_pos q2 q1).1 hc)]; exact hz2.up.mono' (by omega)⟩
 refine zK <| sR <| slo rfl rfl rfl <| ?_
 refine sc (ch_store rfl rfl (.hd ..) rfl (Nat.le_refl 3) rfl rfl ?_)
 refine zE <| st_ret <| ?_
 exact zD (.agg rfl ii ii rfl .nil) ⟨z1, rfl, by rw [if_neg (fun h => hc ((rcmp_pos q2 q1).2 h))]; exact hz1.up.mono' (by omega)⟩
theorem frac_Min {A B G : Gh} {z1 z2 : RV} {q1 q2 : Rat} {k1 k2 : Nat} (hz1 : IsR k1 A z1 q1) (hz2 : IsR k2 B z2 q2) [GL A G] [GL B G] (hk : k1 + k2 + 1 ≤ 1099511627776) :
   Fn Tryz.prog 221 [.agg ⟨[.int .i64 z1.n, .int .i64 z1.d, .pointer z1.p]⟩, .agg ⟨[.int .i64 z2.n, .int .i64 z2.d, .pointer z2.p]⟩] G (fun v G' => ∃ x : RV, v = x.v ∧ IsR (max k1 k2) G' x (if q2 < q1 then q2 else q1)) := by
 refine Fn.intro Tryz.func221 rfl rfl Tryz.ntmps221 rfl ?_
 intro C _ _
 refine sR <| ?_
 refine sc (ch_box rfl rfl ?_)
 intro b1
 refine sc (ch_box rfl rfl ?_)
 intro b2
 refine sc (ch_alloc rfl ?_)
 intro b3
 refine zE <| st_seq <| sR <| slo rfl rfl rfl <| slo rfl rfl rfl <| ?_
 refine sc (zC rfl rfl (R_Cmp hz2 hz1 (by omega)) rfl ?_)
 rintro _ G4 _ rfl
 refine sy (yd_lss rfl rfl) rfl <| zE <| ?_
 refine st_condP rfl (fun hc => ?_) (fun hc => ?_) -- slot 8
 · refine sR <| slo rfl rfl rfl <| ?_
   refine sc (ch_store rfl rfl (.hd ..) rfl (Nat.le_refl 3) rfl rfl ?_)
   refine zE <| st_ret <| ?_
   exact zD (.agg rfl ii ii rfl .nil) ⟨z2, rfl, by rw [if_pos ((rcmp_neg q2 q1).1 hc)]; exact hz2.up.mono' (by omega)⟩
 refine zK <| sR <| slo rfl rfl rfl <| ?_
 refine sc (ch_store rfl rfl (.hd ..) rfl (Nat.le_refl 3) rfl rfl ?_)
 refine zE <| st_ret <| ?_
 exact zD (.agg rfl ii ii rfl .nil) ⟨z1, rfl, by rw [if_neg (fun h => hc ((rcmp_neg q2 q1).2 h))]; exact hz1.up.mono' (by omega)⟩
end Go.Sx
end

section
set_option maxRecDepth 100000
namespace Go.Sx
open Go Go.Proofs
def rgcd (a b : Rat) : Rat := mkRat ((Nat.gcd (a.num.natAbs * b.den) (b.num.natAbs * a.den) : Nat) : Int) (a.den * b.den)
theorem rgcd_int (a b : Int) : rgcd a b = ((Nat.gcd a.natAbs b.natAbs : Nat) : Int) := by
 unfold rgcd
 show mkRat ((Nat.gcd (a.natAbs * 1) (b.natAbs * 1) : Nat) : Int) (1 * 1) = _
 rw [Nat.mul_one, Nat.mul_one, Nat.mul_one, Rat.mkRat_one]
theorem gcd_lt {a b m : Nat} (ha : a < m) (hb : b < m) : Nat.gcd a b < m := by
 rcases Nat.eq_zero_or_pos a with h | h
 · rw [h, Nat.gcd_zero_left]; exact hb
 · exact Nat.lt_of_le_of_lt (Nat.gcd_le_left _ h) ha
set_option maxHeartbeats 1000000 in
theorem frac_Gcd {A B G : Gh} {z1 z2 : RV} {q1 q2 : Rat} {k1 k2 : Nat} (hz1 : IsR k1 A z1 q1) (hz2 : IsR k2 B z2 q2) [GL A G] [GL B G] (hk : k1 + k2 ≤ 1099511627776) :
   Fn Tryz.prog 100 [.agg ⟨[.int .i64 z1.n, .int .i64 z1.d, .pointer z1.p]⟩, .agg ⟨[.int .i64 z2.n, .int .i64 z2.d, .pointer z2.p]⟩] G (fun v G' => ∃ x : RV, v = x.v ∧ IsR (k1 + k2) G' x (rgcd q1 q2)) := by
 have hk11 := hz1.k1
 have hb1 : q1.num.natAbs * q2.den < 2 ^ (k1 + k2) := lt_pow_add hz1.1 hz2.2.1
 have hb2 : q2.num.natAbs * q1.den < 2 ^ (k1 + k2) := by rw [Nat.mul_comm]; exact lt_pow_add hz1.2.1 hz2.1
 have hbg := gcd_lt hb1 hb2
 obtain ⟨z1n, z1d, z1p⟩ := z1
 obtain ⟨z2n, z2d, z2p⟩ := z2
 show Fn _ _ [.agg ⟨[.int .i64 z1n, .int .i64 z1d, .pointer z1p]⟩, .agg ⟨[.int .i64 z2n, .int .i64 z2d, .pointer z2p]⟩] _ _
 refine Fn.intro Tryz.func100 rfl rfl Tryz.ntmps100 rfl ?_
 intro C _ _
 refine sR <| ?_
 refine sc (ch_box rfl rfl ?_)
 intro b1
 refine sc (ch_box rfl rfl ?_)
 intro b2
 refine sc (ch_alloc rfl ?_)
 intro b3
 refine zE <| ?_
 refine st_cut Unit (fun _ => [(2, .pointer (some ⟨b1, 0, none⟩)), (3, .pointer (some ⟨b2, 0, none⟩)), (4, .pointer (some ⟨b3, 0, none⟩))]) (fun _ => [⟨b3, [.int .i64 0, .int .i64 0, .pointer none], 103, true⟩, ⟨b2, [.int .i64 z2n, .int .i64 z2d, .pointer z2p], 103, true⟩, ⟨b1, [.int .i64 z1n, .int .i64 z1d, .pointer z1p], 103, true⟩]) (fun _ _ => True) ?_ ?_
 · refine sR <| sf rfl rfl <| slo1 rfl rfl rfl <| sy (yd_eqP rfl rfl) rfl <| sm rfl rfl <| ?_
   rcases hz1.2.2 with ⟨hp, hn, hd, hs1, hs2⟩ | ⟨hn, hd, ⟨b, x, y, hp, hg, hx, hy⟩, hno⟩
   · simp only [] at hp hn hd
     subst hp hn hd
     refine syg rfl rfl (yd_fieldAddr rfl) rfl <| syg rfl rfl (yd_load_own1 rfl rfl) rfl <| syg rfl rfl (yd_eqP rfl rfl) rfl <| sy (yd_pickT rfl rfl) rfl <| sm rfl rfl <| ?_
     rcases hz2.2.2 with ⟨hp, hn, hd, hs3, hs4⟩ | ⟨hn, hd, ⟨b, x, y, hp, hg, hx, hy⟩, hno⟩
     · simp only [] at hp hn hd
       subst hp hn hd
       refine syg rfl rfl (yd_fieldAddr rfl) rfl <| syg rfl rfl (yd_load_own1 rfl rfl) rfl <| syg rfl rfl (yd_eql rfl rfl) rfl <| sy (yd_pickT rfl rfl) rfl <| sm rfl rfl <| ?_
       refine st_caseP 20 rfl (fun hd1 => ?_) (fun hd1 => ?_)
       · refine syg rfl rfl (yd_fieldAddr rfl) rfl <| syg rfl rfl (yd_load_own1 rfl rfl) rfl <| syg rfl rfl (yd_eql rfl rfl) rfl <| sy (yd_pickT rfl rfl) rfl <| zE <| ?_
         refine st_condP rfl (fun hd2 => ?_) (fun hd2 => ?_) -- slot 24
         · have e1 : q1.den = 1 := by omega
           have e2 : q2.den = 1 := by omega
           have hr : rgcd q1 q2 = ((Nat.gcd q1.num.natAbs q2.num.natAbs : Nat) : Int) := by
             conv => lhs; rw [rat_int e1, rat_int e2]
             exact rgcd_int _ _
           have hg62 := gcd_lt hs1 hs3
           rw [e1, e2, Nat.mul_one, Nat.mul_one] at hbg
           refine st_seq <| dr (fun i => Nat.beq i 9) [(0, true), (1, true), (3, true), (4, true), (2, false), (5, false), (6, false), (7, true), (8, true), (9, false)] follows (by kernel_rfl) <| dF rfl rfl rfl <| ?_
           refine dL1 rfl rfl rfl rfl <| dF rfl rfl rfl <| dL1 rfl rfl rfl rfl <| ?_
           refine dc rfl rfl (zC rfl rfl (frac_abs (by omega) (by omega)) rfl ?_)
           rintro _ G4 _ rfl
           refine dr_s <| ?_
           refine dc rfl rfl (zC rfl rfl (frac_abs (by omega) (by omega)) rfl ?_)
           rintro _ G5 _ rfl
           refine dr_s <| ?_
           refine dc rfl rfl (zC rfl rfl (frac_gcd (by omega) (by omega)) rfl ?_)
           rintro _ G6 _ rfl
           refine dr_s <| dy rfl (fun _ => yd_toI64 rfl (by omega) (by omega)) rfl rfl <| dy rfl (fun _ => yd_build rfl) rfl rfl <| ?_
           refine dc rfl rfl (ch_store rfl rfl (.hd ..) rfl (Nat.le_refl 3) rfl rfl ?_)
           refine dr_f rfl <| dn <| st_ret <| ?_
           exact zD (.agg rfl ii ii rfl .nil) ⟨⟨_, 0, none⟩, rfl, by rw [hr]; exact .int (by omega) (by rw [Int.natAbs_natCast]; exact hbg) (by rw [Int.natAbs_natCast]; exact hg62)⟩
         refine zK <| ?_
         exact st_at () trivial (.cons rfl (.cons rfl (.cons rfl .nil))) rfl
       refine ss rfl rfl rfl rfl <| ss rfl rfl rfl rfl <| ss rfl rfl rfl rfl <| sy (yd_pickF rfl rfl) rfl <| zE <| st_condF rfl <| zK <| ?_
       exact st_at () trivial (.cons rfl (.cons rfl (.cons rfl .nil))) rfl
     · simp only [] at hp hn hd
       subst hp hn hd
       refine ss rfl rfl rfl rfl <| ss rfl rfl rfl rfl <| ss rfl rfl rfl rfl <| sy (yd_pickF rfl rfl) rfl <| sm rfl rfl <| ss rfl rfl rfl rfl <| ss rfl rfl rfl rfl <| ss rfl rfl rfl rfl <| sy (yd_pickF rfl rfl) rfl <| ?_
       refine zE <| st_condF rfl <| zK <| ?_
       exact st_at () trivial (.cons rfl (.cons rfl (.cons rfl .nil))) rfl
   · simp only [] at hp hn hd
     subst hp hn hd
     refine ss rfl rfl rfl rfl <| ss rfl rfl rfl rfl <| ss rfl rfl rfl rfl <| sy (yd_pickF rfl rfl) rfl <| sm rfl rfl <| ss rfl rfl rfl rfl <| ss rfl rfl rfl rfl <| ss rfl rfl rfl rfl <| sy (yd_pickF rfl rfl) rfl <| ?_
     refine sm rfl rfl <| ss rfl rfl rfl rfl <| ss rfl rfl rfl rfl <| ss rfl rfl rfl rfl <| sy (yd_pickF rfl rfl) rfl <| zE <| st_condF rfl <| zK <| ?_
     exact st_at () trivial (.cons rfl (.cons rfl (.cons rfl .nil))) rfl
 rintro _ Gx _ _
 refine st_seq <| dr (fun _ => false) [(0, true), (2, true), (1, false), (3, false), (4, false), (5, true)] follows (by kernel_rfl) <| dL rfl rfl rfl rfl <| ?_
 refine dL rfl rfl rfl rfl <| ?_
 refine dc rfl rfl (zC rfl rfl (R_Den (z := ⟨z1n, z1d, z1p⟩) hz1 (by omega)) rfl ?_)
 rintro _ G7 _ ⟨y1, rfl, hy1⟩
 refine dr_s <| ?_
 refine dc rfl rfl (zC rfl rfl (R_Den (z := ⟨z2n, z2d, z2p⟩) hz2 (by omega)) rfl ?_)
 rintro _ G8 _ ⟨y2, rfl, hy2⟩
 refine dr_s <| ?_
 refine dc rfl rfl (zC rfl rfl (mul_N hy1 hy2 hk) rfl ?_)
 rintro _ G9 _ ⟨y3, rfl, hy3⟩
 refine dr_s <| dA rfl rfl rfl <| dn <| st_seq <| dr (fun _ => false) [(0, true), (3, true), (6, true), (9, true), (1, false), (2, true), (4, false), (5, false), (7, false), (8, true), (10, false), (11, false), (12, false), (13, true)] follows (by kernel_rfl) <| ?_
 refine dL rfl rfl rfl rfl <| dL rfl rfl rfl rfl <| dL rfl rfl rfl rfl <| dL rfl rfl rfl rfl <| ?_
 refine dc rfl rfl (zC rfl rfl (R_Num (z := ⟨z1n, z1d, z1p⟩) hz1 (by omega)) rfl ?_)
 rintro _ G10 _ ⟨x1, rfl, hx1⟩
 refine dr_s <| dy rfl (fun _ => yd_fieldS rfl rfl) rfl rfl <| ?_
 refine dc rfl rfl (zC rfl rfl (R_Den (z := ⟨z2n, z2d, z2p⟩) hz2 (by omega)) rfl ?_)
 rintro _ G11 _ ⟨y4, rfl, hy4⟩
 refine dr_s <| ?_
 refine dc rfl rfl (zC rfl rfl (mul_N hx1.abs hy4 hk) rfl ?_)
 rintro _ G12 _ ⟨y5, rfl, hy5⟩
 refine dr_s <| ?_
 refine dc rfl rfl (zC rfl rfl (R_Num (z := ⟨z2n, z2d, z2p⟩) hz2 (by omega)) rfl ?_)
 rintro _ G13 _ ⟨x2, rfl, hx2⟩
 refine dr_s <| dy rfl (fun _ => yd_fieldS rfl rfl) rfl rfl <| ?_
 refine dc rfl rfl (zC rfl rfl (R_Den (z := ⟨z1n, z1d, z1p⟩) hz1 (by omega)) rfl ?_)
 rintro _ G14 _ ⟨y6, rfl, hy6⟩
 refine dr_s <| ?_
 refine dc rfl rfl (zC rfl rfl (mul_N hx2.abs hy6 (by omega)) rfl ?_)
 rintro _ G15 _ ⟨y7, rfl, hy7⟩
 refine dr_s <| ?_
 have hl5 := dg_len_le hy5.lt
 have hl7 := dg_len_le hy7.lt
 refine dc rfl rfl (zC rfl rfl (nat_Gcd (k := k1 + k2) (k0 := k1 + k2) hy5.d hy7.d (by rw [hy5.dvl]; exact hb1) (by rw [hy7.dvl]; exact hb2) hk (by rw [hy5.dvl, hy7.dvl]; exact hbg) (by omega) (by omega)) rfl ?_)
 rintro _ G16 _ ⟨g, rfl, hg⟩
 rw [hy5.dvl, hy7.dvl] at hg
 refine dr_s <| dA rfl rfl rfl <| dn <| sR <| sm rfl rfl <| sy (yd_build rfl) rfl <| sm rfl rfl <| ?_
 have hgI : IsI (k1 + k2) G16 ⟨false, g⟩ ((Nat.gcd (q1.num.natAbs * q2.den) (q2.num.natAbs * q1.den) : Nat) : Int) := ⟨by simp, by rw [Int.natAbs_natCast]; exact hg⟩
 refine sc (zC rfl rfl (reduce_I (x := ⟨false, g⟩) hgI hy3 (by omega) hk) rfl ?_)
 rintro _ G17 _ ⟨z, rfl, hz⟩
 refine sc (ch_store rfl rfl (.hd ..) rfl (Nat.le_refl 3) rfl rfl ?_)
 refine zE <| st_ret <| ?_
 exact zD (.agg rfl ii ii rfl .nil) ⟨z, rfl, hz⟩
end Go.Sx
end
