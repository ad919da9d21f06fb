/-
  Reference: fractions of any size. What the reference computes of lines and points. Reference: sides of a point, lines reversed and written, rows of lines; what is the same. Reference: cells around a point; what is the same; Restrict over deep values. Reference: what is the same; Restrict over deep values. Restrict over deep values; the law ReduceTwice: its walk. Reference: points and lines of any size; spans.
-/
import Derived.Test.YtkijgpopaaknfaaGreatDoorMc16
set_option linter.unusedSimpArgs false
set_option linter.unusedVariables false
section
set_option maxRecDepth 100000
namespace Go.Sx
open Go Go.Proofs
theorem mkRat_self' (a : Rat) : mkRat a.num a.den = a := by simp [Rat.mkRat_self]
theorem over_mk {a b : Rat} (h : b ≠ 0) : a / b = mkRat (a.num * zv (decide (b.num < 0)) b.den) (a.den * b.num.natAbs) := by
 rw [Rat.mkRat_eq_div]
 have ha : (a.num : Rat) / (a.den : Rat) = a := by rw [← Rat.mkRat_eq_div, mkRat_self']
 have hb : (b.num : Rat) / (b.den : Rat) = b := by rw [← Rat.mkRat_eq_div, mkRat_self']
 have h1 : (a.den : Rat) ≠ 0 := by have := a.den_nz; exact_mod_cast this
 have h2 : (b.den : Rat) ≠ 0 := by have := b.den_nz; exact_mod_cast this
 have h3 : (b.num : Rat) ≠ 0 := by
   intro e
   rw [e] at hb
   apply h; rw [← hb]; grind
 rw [Rat.intCast_mul, Rat.natCast_mul]
 by_cases q : b.num < 0
 · have e1 : ((zv (decide (b.num < 0)) b.den : Int) : Rat) = -(b.den : Rat) := by
     unfold zv; rw [if_pos (by simpa using q), Rat.intCast_neg]; rfl
   have e2 : ((b.num.natAbs : Nat) : Rat) = -(b.num : Rat) := by
     have : ((b.num.natAbs : Nat) : Int) = -b.num := by omega
     rw [← Rat.intCast_neg, ← this]; rfl
   rw [e1, e2]
   generalize (a.num : Rat) = an at *
   generalize (a.den : Rat) = ad at *
   generalize (b.num : Rat) = bn at *
   generalize (b.den : Rat) = bd at *
   subst ha hb
   grind
 · have e1 : ((zv (decide (b.num < 0)) b.den : Int) : Rat) = (b.den : Rat) := by
     unfold zv; rw [if_neg (by simpa using q)]; rfl
   have e2 : ((b.num.natAbs : Nat) : Rat) = (b.num : Rat) := by
     have : ((b.num.natAbs : Nat) : Int) = b.num := by omega
     rw [← this]; rfl
   rw [e1, e2]
   generalize (a.num : Rat) = an at *
   generalize (a.den : Rat) = ad at *
   generalize (b.num : Rat) = bn at *
   generalize (b.den : Rat) = bd at *
   subst ha hb
   grind
theorem le_of_frac {q : Rat} {n : Int} {d : Nat} (hd : 0 < d) (h : q * (d : Rat) = (n : Rat)) : q.num.natAbs ≤ n.natAbs ∧ q.den ≤ d := by
 have e : q = mkRat n d := by
  rw [Rat.mkRat_eq_div]
  have : (d : Rat) ≠ 0 := by exact_mod_cast (by omega : d ≠ 0)
  rw [← h]; grind
 rw [e, Rat.num_mkRat, Rat.den_mkRat, if_neg (by omega), if_neg (by omega)]
 exact ⟨Int.natAbs_ediv_le_natAbs n (d.gcd n.natAbs : Nat), Nat.div_le_self ..⟩
theorem BQ.of_frac {q : Rat} {n : Int} {d i : Nat} (hd : 0 < d) (h : q * (d : Rat) = (n : Rat)) (hn : n.natAbs < 2 ^ i) (hdi : d < 2 ^ i) : BQ q i := by
 have := le_of_frac hd h
 exact ⟨by omega, by omega⟩
theorem num_pos_of {b : Rat} (h : b ≠ 0) : 0 < b.num.natAbs := by
 have : b.num ≠ 0 := fun e => h (Rat.num_eq_zero.1 e)
 omega
instance BQ.over (a b : Rat) (i j : Nat) [ha : BQ a i] [hb : BQ b j] : BQ (a / b) (i + j) := by
 by_cases h : b = 0
 · subst h
   rw [Rat.div_def, Rat.inv_zero, Rat.mul_zero]
   have h2 := ha.hd
   have h3 : 0 < a.den := den_pos' a
   have h4 : 2 ^ i * 1 ≤ 2 ^ i * 2 ^ j := Nat.mul_le_mul_left _ (Nat.pow_pos (by decide))
   rw [← Nat.pow_add] at h4
   exact ⟨by show 0 < _; omega, by show 1 < _; omega⟩
 · rw [over_mk h]
   have hb0 := num_pos_of h
   refine mkRat_bd (Nat.mul_pos (den_pos' a) hb0) ?_ (mul_lt_pow ha.hd hb.hn)
   rw [Int.natAbs_mul, zv_abs]
   exact mul_lt_pow ha.hn hb.hd
theorem q_Of {GB : Gh} {n : Int} (h0 : -4611686018427387904 ≤ n) (h1 : n ≤ 4611686018427387904) : PF GB Tryz.prog 43 [.v (.int .i64 n)] (eQ (n : Rat)) := by
 refine PF.intro Tryz.func43 rfl rfl Tryz.ntmps43 rfl ?_
 intro C
 refine qR <| tF (tf_alloc rfl) <| ?_
 intro b1
 refine sd_end <| qR <| tM rfl rfl <| tC (td_call rfl rfl (q_Int (by omega) (by omega)) rfl) <| tY (yq_build rfl) rfl <| tC (tdS rfl rfl rfl rfl rfl rfl) <| ?_
 refine sd_end <| sd_ret <| ?_
 exact sd_done (.agg rfl ii ii rfl .nil) (by rw [eQ_int]; rfl)
theorem q_S {GB : Gh} {q : Rat} : PF GB Tryz.prog 115 [eQ q] (vI q.num.sign) := by
 refine PF.intro Tryz.func115 rfl rfl Tryz.ntmps115 rfl ?_
 intro C
 refine qR <| tF (tf_box rfl rfl rfl) <| ?_
 intro b1
 refine tA rfl rfl <| sd_end <| qR <| tY (yq_faP rfl) rfl <| tY (yq_ldO rfl rfl) rfl <| tC (td_call rfl rfl (q_Sign) rfl) <| tA rfl rfl <| sd_end <| ?_
 refine sd_ret <| ?_
 exact sd_done (.tmp rfl .nil) rfl
theorem q_Opp {GB : Gh} {q : Rat} : PF GB Tryz.prog 88 [eQ q] (eQ (-q)) := by
 refine PF.intro Tryz.func88 rfl rfl Tryz.ntmps88 rfl ?_
 intro C
 refine qR <| tF (tf_box rfl rfl rfl) <| ?_
 intro b1
 refine tF (tf_alloc rfl) <| ?_
 intro b2
 refine sd_end <| sd_seq <| ?_
 refine sd_selO [1, 0] (by decide) rfl ?_
 simp only [pickL, zf1, zf2, zf3, zf4]
 refine drX (own0 := [_]) (own1 := [_]) (bs0 := []) (bs1 := _) [] [(0, true), (1, true), (3, true), (4, true), (2, false), (5, true), (6, false)] [] follows (List.Perm.refl _) (List.Perm.refl _) (by kernel_rfl) ?_
 refine dyX rfl (yq_faP rfl) rfl <| ?_
 refine dyX rfl (yq_ldO rfl rfl) rfl <| ?_
 refine dyX rfl (yq_faP rfl) rfl <| ?_
 refine dyX rfl (yq_ldO1 rfl rfl) rfl <| ?_
 refine dcX rfl (td_call rfl rfl (q_Minus) rfl) FDok.nil rfl <| ?_
 refine dyX rfl (yq_build rfl) rfl <| ?_
 refine dcX rfl (tdS rfl rfl rfl rfl rfl rfl) FDok.nil rfl <| ?_
 refine outX0 <| onX <| outX0 <| dnX <| ?_
 simp only [List.nil_append, List.append_nil, List.cons_append]
 refine sd_ret <| ?_
 exact sd_done (.agg rfl ii ii rfl .nil) (by unfold eQ; rw [Rat.neg_num, Rat.neg_den]; rfl)
set_option maxHeartbeats 1000000 in
theorem q_Times {GB : Gh} {a b : Rat} {i j : Nat} [ha : BQ a i] [hb : BQ b j] (hi : i ≤ 20000000 := by decide) (hj : j ≤ 20000000 := by decide) : PF GB Tryz.prog 90 [eQ a, eQ b] (eQ (a * b)) := by
 refine PF.intro Tryz.func90 rfl rfl Tryz.ntmps90 rfl ?_
 intro C
 have had := den_pos' a
 have hbd := den_pos' b
 have hdp := Nat.mul_pos had hbd
 have e1 := dD_len a.den had
 have e2 := dD_len b.den hbd
 refine qR <| tF (tf_box rfl rfl rfl) <| ?_
 intro b1
 refine tF (tf_box rfl rfl rfl) <| ?_
 intro b2
 refine tF (tf_alloc rfl) <| ?_
 intro b3
 refine sd_end <| sd_seq <| qR <| tY (yq_faP rfl) rfl <| tY (yq_ldO1 rfl rfl) rfl <| tY (yq_len rfl) rfl <| tY (yq_eql rfl rfl) rfl <| tM rfl rfl <| ?_
 refine sd_caseP 9 rfl (fun hg9 => ?_) (fun hg9 => ?_)
 ·
  refine tYg rfl rfl (yq_faP rfl) rfl <| tYg rfl rfl (yq_ldO1 rfl rfl) rfl <| tYg rfl rfl (yq_len rfl) rfl <| tYg rfl rfl (yq_eql rfl rfl) rfl <| tY (yq_pickT rfl rfl) rfl <| sd_end <| ?_
  refine sd_condP rfl (fun hc14 => ?_) (fun hc14 => ?_)
  ·
   refine qR <| tY (yq_faP rfl) rfl <| tY (yq_ldO rfl rfl) rfl <| tY (yq_faP rfl) rfl <| tY (yq_ldO rfl rfl) rfl <| tC (td_call rfl rfl (q_Mul (a := a.num) (b := b.num) (by omega) (by omega)) rfl) <| ?_
   refine tY (yq_build rfl) rfl <| tC (tdS rfl rfl rfl rfl rfl rfl) <| ?_
   refine sd_end <| sd_ret <| ?_
   exact sd_done (.agg rfl ii ii rfl .nil) (by rw [times_int (e1.1 (by omega)) (e2.1 (by omega)), eQ_int]; rfl)
  ·
   refine sd_skipc <| sd_seq <| ?_
   refine sd_selO [1, 2, 0] (by decide) rfl ?_
   simp only [pickL, zf1, zf2, zf3, zf4]
   refine drX (own0 := [_, _]) (own1 := [_]) (bs0 := []) (bs1 := _) [] [(0, true), (1, true), (2, true), (3, true), (5, true), (7, true), (4, false), (6, false), (8, false), (9, false), (10, false), (11, false)] [] follows (List.Perm.refl _) (List.Perm.refl _) (by kernel_rfl) ?_
   refine dyX rfl (yq_faP rfl) rfl <| ?_
   refine dyX rfl (yq_ldO rfl rfl) rfl <| ?_
   refine dyX rfl (yq_faP rfl) rfl <| ?_
   refine dyX rfl (yq_ldO rfl rfl) rfl <| ?_
   refine dyX rfl (yq_ldO rfl rfl) rfl <| ?_
   refine dyX rfl (yq_ldO rfl rfl) rfl <| ?_
   refine dcX rfl (td_call rfl rfl (q_Mul (a := a.num) (b := b.num) (by omega) (by omega)) rfl) FDok.nil rfl <| ?_
   refine dcX rfl (td_call rfl rfl (q_Den) rfl) FDok.nil rfl <| ?_
   refine dcX rfl (td_call rfl rfl (q_Den) rfl) FDok.nil rfl <| ?_
   refine dcX rfl (td_call rfl rfl (q_Product (by omega) (by omega)) rfl) FDok.nil rfl <| ?_
   refine dcX rfl (td_call rfl rfl (q_Frac hdp (by omega) (by omega)) rfl) FDok.nil rfl <| ?_
   refine dcX rfl (tdS rfl rfl rfl rfl rfl rfl) FDok.nil rfl <| ?_
   refine outX0 <| onX <| outX0 <| dnX <| ?_
   simp only [List.nil_append, List.append_nil, List.cons_append]
   refine sd_ret <| ?_
   exact sd_done (.agg rfl ii ii rfl .nil) (by rw [rat_mul_mk]; rfl)
 ·
  refine tS rfl rfl rfl rfl <| tS rfl rfl rfl rfl <| tS rfl rfl rfl rfl <| tS rfl rfl rfl rfl <| tY (yq_pickF rfl rfl) rfl <| sd_end <| sd_condF rfl <| sd_skipc <| sd_seq <| ?_
  refine sd_selO [1, 2, 0] (by decide) rfl ?_
  simp only [pickL, zf1, zf2, zf3, zf4]
  refine drX (own0 := [_, _]) (own1 := [_]) (bs0 := []) (bs1 := _) [] [(0, true), (1, true), (2, true), (3, true), (5, true), (7, true), (4, false), (6, false), (8, false), (9, false), (10, false), (11, false)] [] follows (List.Perm.refl _) (List.Perm.refl _) (by kernel_rfl) ?_
  refine dyX rfl (yq_faP rfl) rfl <| ?_
  refine dyX rfl (yq_ldO rfl rfl) rfl <| ?_
  refine dyX rfl (yq_faP rfl) rfl <| ?_
  refine dyX rfl (yq_ldO rfl rfl) rfl <| ?_
  refine dyX rfl (yq_ldO rfl rfl) rfl <| ?_
  refine dyX rfl (yq_ldO rfl rfl) rfl <| ?_
  refine dcX rfl (td_call rfl rfl (q_Mul (a := a.num) (b := b.num) (by omega) (by omega)) rfl) FDok.nil rfl <| ?_
  refine dcX rfl (td_call rfl rfl (q_Den) rfl) FDok.nil rfl <| ?_
  refine dcX rfl (td_call rfl rfl (q_Den) rfl) FDok.nil rfl <| ?_
  refine dcX rfl (td_call rfl rfl (q_Product (by omega) (by omega)) rfl) FDok.nil rfl <| ?_
  refine dcX rfl (td_call rfl rfl (q_Frac hdp (by omega) (by omega)) rfl) FDok.nil rfl <| ?_
  refine dcX rfl (tdS rfl rfl rfl rfl rfl rfl) FDok.nil rfl <| ?_
  refine outX0 <| onX <| outX0 <| dnX <| ?_
  simp only [List.nil_append, List.append_nil, List.cons_append]
  refine sd_ret <| ?_
  exact sd_done (.agg rfl ii ii rfl .nil) (by rw [rat_mul_mk]; rfl)
set_option maxHeartbeats 1000000 in
theorem q_Plus {GB : Gh} {a b : Rat} {i j : Nat} [ha : BQ a i] [hb : BQ b j] (hi : i ≤ 20000000 := by decide) (hj : j ≤ 20000000 := by decide) : PF GB Tryz.prog 89 [eQ a, eQ b] (eQ (a + b)) := by
 refine PF.intro Tryz.func89 rfl rfl Tryz.ntmps89 rfl ?_
 intro C
 have had := den_pos' a
 have hbd := den_pos' b
 have hdp := Nat.mul_pos had hbd
 have e1 := dD_len a.den had
 have e2 := dD_len b.den hbd
 refine qR <| tF (tf_box rfl rfl rfl) <| ?_
 intro b1
 refine tF (tf_box rfl rfl rfl) <| ?_
 intro b2
 refine tF (tf_alloc rfl) <| ?_
 intro b3
 refine sd_end <| sd_seq <| qR <| tY (yq_faP rfl) rfl <| tY (yq_ldO1 rfl rfl) rfl <| tY (yq_len rfl) rfl <| tY (yq_eql rfl rfl) rfl <| tM rfl rfl <| ?_
 refine sd_caseP 9 rfl (fun hg9 => ?_) (fun hg9 => ?_)
 ·
  refine tYg rfl rfl (yq_faP rfl) rfl <| tYg rfl rfl (yq_ldO1 rfl rfl) rfl <| tYg rfl rfl (yq_len rfl) rfl <| tYg rfl rfl (yq_eql rfl rfl) rfl <| tY (yq_pickT rfl rfl) rfl <| sd_end <| ?_
  refine sd_condP rfl (fun hc14 => ?_) (fun hc14 => ?_)
  ·
   refine qR <| tY (yq_faP rfl) rfl <| tY (yq_ldO rfl rfl) rfl <| tY (yq_faP rfl) rfl <| tY (yq_ldO rfl rfl) rfl <| tC (td_call rfl rfl (q_Add (by omega) (by omega)) rfl) <| ?_
   refine tY (yq_build rfl) rfl <| tC (tdS rfl rfl rfl rfl rfl rfl) <| ?_
   refine sd_end <| sd_ret <| ?_
   exact sd_done (.agg rfl ii ii rfl .nil) (by rw [plus_int (e1.1 (by omega)) (e2.1 (by omega)), eQ_int]; rfl)
  ·
   refine sd_skipc <| sd_seq <| ?_
   refine sd_selO [1, 2, 0] (by decide) rfl ?_
   simp only [pickL, zf1, zf2, zf3, zf4]
   refine drX (own0 := [_, _]) (own1 := [_]) (bs0 := []) (bs1 := _) [] [(0, true), (1, true), (2, true), (6, true), (7, true), (8, true), (13, true), (15, true), (3, false), (4, false), (5, false), (9, false), (10, false), (11, false), (12, false), (14, false), (16, false), (17, false), (18, false), (19, false)] [] follows (List.Perm.refl _) (List.Perm.refl _) (by kernel_rfl) ?_
   refine dyX rfl (yq_faP rfl) rfl <| ?_
   refine dyX rfl (yq_ldO rfl rfl) rfl <| ?_
   refine dyX rfl (yq_ldO rfl rfl) rfl <| ?_
   refine dyX rfl (yq_faP rfl) rfl <| ?_
   refine dyX rfl (yq_ldO rfl rfl) rfl <| ?_
   refine dyX rfl (yq_ldO rfl rfl) rfl <| ?_
   refine dyX rfl (yq_ldO rfl rfl) rfl <| ?_
   refine dyX rfl (yq_ldO rfl rfl) rfl <| ?_
   refine dcX rfl (td_call rfl rfl (q_Den) rfl) FDok.nil rfl <| ?_
   refine dcX rfl (td_call rfl rfl (q_Make) rfl) FDok.nil rfl <| ?_
   refine dcX rfl (td_call rfl rfl (q_Mul (a := a.num) (b := zv false b.den) (by omega) (by omega)) rfl) FDok.nil rfl <| ?_
   refine dcX rfl (td_call rfl rfl (q_Den) rfl) FDok.nil rfl <| ?_
   refine dcX rfl (td_call rfl rfl (q_Make) rfl) FDok.nil rfl <| ?_
   refine dcX rfl (td_call rfl rfl (q_Mul (a := b.num) (b := zv false a.den) (by omega) (by omega)) rfl) FDok.nil rfl <| ?_
   refine dcX rfl (td_call rfl rfl (q_Add (by omega) (by omega)) rfl) FDok.nil rfl <| ?_
   refine dcX rfl (td_call rfl rfl (q_Den) rfl) FDok.nil rfl <| ?_
   refine dcX rfl (td_call rfl rfl (q_Den) rfl) FDok.nil rfl <| ?_
   refine dcX rfl (td_call rfl rfl (q_Product (by omega) (by omega)) rfl) FDok.nil rfl <| ?_
   refine dcX rfl (td_call rfl rfl (q_Frac hdp (by omega) (by omega)) rfl) FDok.nil rfl <| ?_
   refine dcX rfl (tdS rfl rfl rfl rfl rfl rfl) FDok.nil rfl <| ?_
   refine outX0 <| onX <| outX0 <| dnX <| ?_
   simp only [List.nil_append, List.append_nil, List.cons_append]
   refine sd_ret <| ?_
   exact sd_done (.agg rfl ii ii rfl .nil) (by rw [rat_add_mk]; rfl)
 ·
  refine tS rfl rfl rfl rfl <| tS rfl rfl rfl rfl <| tS rfl rfl rfl rfl <| tS rfl rfl rfl rfl <| tY (yq_pickF rfl rfl) rfl <| sd_end <| sd_condF rfl <| sd_skipc <| sd_seq <| ?_
  refine sd_selO [1, 2, 0] (by decide) rfl ?_
  simp only [pickL, zf1, zf2, zf3, zf4]
  refine drX (own0 := [_, _]) (own1 := [_]) (bs0 := []) (bs1 := _) [] [(0, true), (1, true), (2, true), (6, true), (7, true), (8, true), (13, true), (15, true), (3, false), (4, false), (5, false), (9, false), (10, false), (11, false), (12, false), (14, false), (16, false), (17, false), (18, false), (19, false)] [] follows (List.Perm.refl _) (List.Perm.refl _) (by kernel_rfl) ?_
  refine dyX rfl (yq_faP rfl) rfl <| ?_
  refine dyX rfl (yq_ldO rfl rfl) rfl <| ?_
  refine dyX rfl (yq_ldO rfl rfl) rfl <| ?_
  refine dyX rfl (yq_faP rfl) rfl <| ?_
  refine dyX rfl (yq_ldO rfl rfl) rfl <| ?_
  refine dyX rfl (yq_ldO rfl rfl) rfl <| ?_
  refine dyX rfl (yq_ldO rfl rfl) rfl <| ?_
  refine dyX rfl (yq_ldO rfl rfl) rfl <| ?_
  refine dcX rfl (td_call rfl rfl (q_Den) rfl) FDok.nil rfl <| ?_
  refine dcX rfl (td_call rfl rfl (q_Make) rfl) FDok.nil rfl <| ?_
  refine dcX rfl (td_call rfl rfl (q_Mul (a := a.num) (b := zv false b.den) (by omega) (by omega)) rfl) FDok.nil rfl <| ?_
  refine dcX rfl (td_call rfl rfl (q_Den) rfl) FDok.nil rfl <| ?_
  refine dcX rfl (td_call rfl rfl (q_Make) rfl) FDok.nil rfl <| ?_
  refine dcX rfl (td_call rfl rfl (q_Mul (a := b.num) (b := zv false a.den) (by omega) (by omega)) rfl) FDok.nil rfl <| ?_
  refine dcX rfl (td_call rfl rfl (q_Add (by omega) (by omega)) rfl) FDok.nil rfl <| ?_
  refine dcX rfl (td_call rfl rfl (q_Den) rfl) FDok.nil rfl <| ?_
  refine dcX rfl (td_call rfl rfl (q_Den) rfl) FDok.nil rfl <| ?_
  refine dcX rfl (td_call rfl rfl (q_Product (by omega) (by omega)) rfl) FDok.nil rfl <| ?_
  refine dcX rfl (td_call rfl rfl (q_Frac hdp (by omega) (by omega)) rfl) FDok.nil rfl <| ?_
  refine dcX rfl (tdS rfl rfl rfl rfl rfl rfl) FDok.nil rfl <| ?_
  refine outX0 <| onX <| outX0 <| dnX <| ?_
  simp only [List.nil_append, List.append_nil, List.cons_append]
  refine sd_ret <| ?_
  exact sd_done (.agg rfl ii ii rfl .nil) (by rw [rat_add_mk]; rfl)
theorem q_Sub {GB : Gh} {a b : Rat} {i j : Nat} [ha : BQ a i] [hb : BQ b j] (hi : i ≤ 20000000 := by decide) (hj : j ≤ 20000000 := by decide) : PF GB Tryz.prog 166 [eQ a, eQ b] (eQ (a - b)) := by
 refine PF.intro Tryz.func166 rfl rfl Tryz.ntmps166 rfl ?_
 intro C
 refine qR <| tF (tf_box rfl rfl rfl) <| ?_
 intro b1
 refine tF (tf_box rfl rfl rfl) <| ?_
 intro b2
 refine tF (tf_alloc rfl) <| ?_
 intro b3
 refine sd_end <| sd_seq <| ?_
 refine sd_selO [1, 2, 0] (by decide) rfl ?_
 simp only [pickL, zf1, zf2, zf3, zf4]
 refine drX (own0 := [_, _]) (own1 := [_]) (bs0 := []) (bs1 := _) [] [(0, true), (1, true), (2, false), (3, false), (4, false)] [] follows (List.Perm.refl _) (List.Perm.refl _) (by kernel_rfl) ?_
 refine dyX rfl (yq_ldO rfl rfl) rfl <| ?_
 refine dyX rfl (yq_ldO rfl rfl) rfl <| ?_
 refine dcX rfl (td_call rfl rfl (q_Opp (q := b)) rfl) FDok.nil rfl <| ?_
 refine dcX rfl (td_call rfl rfl (q_Plus (a := a) (b := -b) hi hj) rfl) FDok.nil rfl <| ?_
 refine dcX rfl (tdS rfl rfl rfl rfl rfl rfl) FDok.nil rfl <| ?_
 refine outX0 <| onX <| outX0 <| dnX <| ?_
 simp only [List.nil_append, List.append_nil, List.cons_append]
 refine sd_ret <| ?_
 exact sd_done (.agg rfl ii ii rfl .nil) (by rw [Rat.sub_eq_add_neg]; rfl)
set_option maxHeartbeats 1000000 in
theorem q_Over {GB : Gh} {a b : Rat} {i j : Nat} [ha : BQ a i] [hb : BQ b j] (hb0 : b ≠ 0) (hi : i ≤ 20000000 := by decide) (hj : j ≤ 20000000 := by decide) : PF GB Tryz.prog 167 [eQ a, eQ b] (eQ (a / b)) := by
 refine PF.intro Tryz.func167 rfl rfl Tryz.ntmps167 rfl ?_
 intro C
 have hbp := num_pos_of hb0
 have hdp := Nat.mul_pos (den_pos' a) hbp
 refine qR <| tF (tf_box rfl rfl rfl) <| ?_
 intro b1
 refine tF (tf_box rfl rfl rfl) <| ?_
 intro b2
 refine tF (tf_alloc rfl) <| ?_
 intro b3
 refine sd_end <| sd_seq <| ?_
 refine drX (own0 := _) (own1 := []) (bs0 := []) (bs1 := _) [⟨9, 5, 30, .agg ⟨[.bool false, .slice none 0 0]⟩⟩] [(0, true), (1, true), (2, true), (3, true), (4, true), (5, true), (6, false), (7, false), (8, false)] [(10, false)] follows (by rw [List.append_nil]) (List.Perm.refl _) (by kernel_rfl) ?_
 refine dyX rfl (yq_faP rfl) rfl <| ?_
 refine dyX rfl (yq_ldO rfl rfl) rfl <| ?_
 refine dyX rfl (yq_faP rfl) rfl <| ?_
 refine dyX rfl (yq_faP rfl) rfl <| ?_
 refine dyX rfl (yq_ldO1 rfl rfl) rfl <| ?_
 refine dyX rfl (yq_ldO rfl rfl) rfl <| ?_
 refine dcX rfl (td_call rfl rfl (q_Den) rfl) (by exact .o ⟨_, _, _, rfl, rfl⟩ ii) rfl <| ?_
 refine dcX rfl (td_call rfl rfl (q_Make) rfl) (by exact .o ⟨_, _, _, rfl, rfl⟩ ii) rfl <| ?_
 refine dcX rfl (td_call rfl rfl (q_Mul (a := a.num) (b := zv (decide (b.num < 0)) b.den) (by omega) (by omega)) rfl) (by exact .o ⟨_, _, _, rfl, rfl⟩ ii) rfl <| ?_
 refine outX1 ⟨(inferInstance : TyZD Tryz.prog 30 _ _).iz, trivial⟩ (by exact .o ⟨_, _, _, rfl, rfl⟩ ii) rfl (fun b4 => ?_)
 simp only [List.cons_append, List.nil_append]
 refine onX <| ?_
 refine dcX rfl (tdS rfl rfl rfl rfl rfl rfl) FDok.nil rfl <| ?_
 refine outX0 <| dnX <| ?_
 simp only [List.nil_append, List.append_nil, List.cons_append]
 refine sd_seq <| ?_
 refine sd_selO [0, 2, 3, 1] (by decide) rfl ?_
 simp only [pickL, zf1, zf2, zf3, zf4]
 refine drX (own0 := [_, _, _]) (own1 := [_]) (bs0 := []) (bs1 := _) [] [(0, true), (1, true), (3, true), (4, true), (5, true), (2, false), (6, false), (7, false), (8, false)] [] follows (List.Perm.refl _) (List.Perm.refl _) (by kernel_rfl) ?_
 refine dyX rfl (yq_ldO rfl rfl) rfl <| ?_
 refine dyX rfl (yq_ldO rfl rfl) rfl <| ?_
 refine dyX rfl (yq_faP rfl) rfl <| ?_
 refine dyX rfl (yq_faP rfl) rfl <| ?_
 refine dyX rfl (yq_ldO1 rfl rfl) rfl <| ?_
 refine dcX rfl (td_call rfl rfl (q_Den) rfl) FDok.nil rfl <| ?_
 refine dcX rfl (td_call rfl rfl (q_Product (a := a.den) (b := b.num.natAbs) (by omega) (by omega)) rfl) FDok.nil rfl <| ?_
 refine dcX rfl (td_call rfl rfl (q_Frac (x := a.num * zv (decide (b.num < 0)) b.den) (d := a.den * b.num.natAbs) hdp (by omega) (by omega)) rfl) FDok.nil rfl <| ?_
 refine dcX rfl (tdS rfl rfl rfl rfl rfl rfl) FDok.nil rfl <| ?_
 refine outX0 <| onX <| outX0 <| dnX <| ?_
 simp only [List.nil_append, List.append_nil, List.cons_append]
 refine sd_ret <| ?_
 exact sd_done (.agg rfl ii ii rfl .nil) (by rw [over_mk hb0]; rfl)
theorem q_C {GB : Gh} {a b : Rat} {i j : Nat} [ha : BQ a i] [hb : BQ b j] (hi : i ≤ 20000000 := by decide) (hj : j ≤ 20000000 := by decide) : PF GB Tryz.prog 128 [eQ a, eQ b] (vI (rcmp a b)) := by
 refine PF.intro Tryz.func128 rfl rfl Tryz.ntmps128 rfl ?_
 intro C
 refine qR <| tF (tf_box rfl rfl rfl) <| ?_
 intro b1
 refine tF (tf_box rfl rfl rfl) <| ?_
 intro b2
 refine tA rfl rfl <| sd_end <| qR <| tY (yq_ldO rfl rfl) rfl <| tY (yq_ldO rfl rfl) rfl <| tC (td_call rfl rfl (q_Sub hi hj) rfl) <| tC (td_call rfl rfl (q_S) rfl) <| ?_
 refine tA rfl rfl <| sd_end <| sd_ret <| ?_
 exact sd_done (.tmp rfl .nil) (by show vI _ = vI _; rw [sign_sub])
theorem two_ne : ((2 : Int) : Rat) ≠ 0 := by decide
instance BI.two : BI 2 2 := ⟨by decide⟩
theorem q_Half {GB : Gh} {a : Rat} {i : Nat} [ha : BQ a i] (hi : i ≤ 20000000 := by decide) : PF GB Tryz.prog 200 [eQ a] (eQ (a / 2)) := by
 refine PF.intro Tryz.func200 rfl rfl Tryz.ntmps200 rfl ?_
 intro C
 refine qR <| tF (tf_box rfl rfl rfl) <| ?_
 intro b1
 refine tF (tf_alloc rfl) <| ?_
 intro b2
 refine sd_end <| sd_seq <| ?_
 refine sd_selO [1, 0] (by decide) rfl ?_
 simp only [pickL, zf1, zf2, zf3, zf4]
 refine drX (own0 := [_]) (own1 := [_]) (bs0 := []) (bs1 := _) [] [(0, true), (1, false), (2, false), (3, false)] [] follows (List.Perm.refl _) (List.Perm.refl _) (by kernel_rfl) ?_
 refine dyX rfl (yq_ldO rfl rfl) rfl <| ?_
 refine dcX rfl (td_call rfl rfl (q_Of (n := 2) (by decide) (by decide)) rfl) FDok.nil rfl <| ?_
 refine dcX rfl (td_call rfl rfl (q_Over (a := a) (b := ((2 : Int) : Rat)) two_ne hi (by decide)) rfl) FDok.nil rfl <| ?_
 refine dcX rfl (tdS rfl rfl rfl rfl rfl rfl) FDok.nil rfl <| ?_
 refine outX0 <| onX <| outX0 <| dnX <| ?_
 simp only [List.nil_append, List.append_nil, List.cons_append]
 refine sd_ret <| ?_
 exact sd_done (.agg rfl ii ii rfl .nil) rfl
theorem q_Mid {GB : Gh} {a b : Rat} {i j : Nat} [ha : BQ a i] [hb : BQ b j] (hi : i ≤ 2000000 := by decide) (hj : j ≤ 2000000 := by decide) : PF GB Tryz.prog 201 [eQ a, eQ b] (eQ ((a + b) / 2)) := by
 refine PF.intro Tryz.func201 rfl rfl Tryz.ntmps201 rfl ?_
 intro C
 refine qR <| tF (tf_box rfl rfl rfl) <| ?_
 intro b1
 refine tF (tf_box rfl rfl rfl) <| ?_
 intro b2
 refine tF (tf_alloc rfl) <| ?_
 intro b3
 refine sd_end <| qR <| tY (yq_ldO rfl rfl) rfl <| tY (yq_ldO rfl rfl) rfl <| tC (td_call rfl rfl (q_Plus (by omega) (by omega)) rfl) <| tC (td_call rfl rfl (q_Half (a := a + b) (by omega)) rfl) <| ?_
 refine tC (tdS rfl rfl rfl rfl rfl rfl) <| ?_
 refine sd_end <| sd_ret <| ?_
 exact sd_done (.agg rfl ii ii rfl .nil) rfl
end Go.Sx
end

section
set_option maxRecDepth 100000
namespace Go.Sx
open Go
def crossI (l m : LnQ) : Int := l.a * m.b - m.a * l.b
def meetX (l m : LnQ) : Int := l.b * m.c - m.b * l.c
def meetY (l m : LnQ) : Int := m.a * l.c - l.a * m.c
def meetP (l m : LnQ) : PtQ := if crossI l m = 0 then ⟨0, 0⟩ else ⟨(meetX l m : Rat) / (crossI l m : Rat), (meetY l m : Rat) / (crossI l m : Rat)⟩
def paramQ (l : LnQ) (p : PtQ) : Rat := p.dot l.dir / l.dir.dot l.dir
theorem dd_nn (l : LnQ) : l.dir.dot l.dir = l.nor.dot l.nor := by
 simp only [LnQ.dir, LnQ.nor, PtQ.dot]; grind
theorem dd_pos {l : LnQ} (h : l.Ne) : 0 < l.dir.dot l.dir := by rw [dd_nn]; exact nn_pos h
theorem cross_cast (l m : LnQ) : ((crossI l m : Int) : Rat) = (l.a : Rat) * m.b - (m.a : Rat) * l.b := by
 unfold crossI; rw [Rat.intCast_sub, Rat.intCast_mul, Rat.intCast_mul]
theorem meetX_cast (l m : LnQ) : ((meetX l m : Int) : Rat) = (l.b : Rat) * m.c - (m.b : Rat) * l.c := by
 unfold meetX; rw [Rat.intCast_sub, Rat.intCast_mul, Rat.intCast_mul]
theorem meetY_cast (l m : LnQ) : ((meetY l m : Int) : Rat) = (m.a : Rat) * l.c - (l.a : Rat) * m.c := by
 unfold meetY; rw [Rat.intCast_sub, Rat.intCast_mul, Rat.intCast_mul]
theorem cutK_cross (l m : LnQ) : l.cutK m = -((crossI l m : Int) : Rat) := by
 rw [cross_cast]; simp only [LnQ.cutK, LnQ.nor, LnQ.dir, PtQ.dot]; grind
theorem cutK_dir (l m : LnQ) : m.dir.cross l.dir = l.cutK m := by
 simp only [LnQ.cutK, LnQ.nor, LnQ.dir, PtQ.dot, PtQ.cross]; grind
theorem base_ref {l : LnQ} : (⟨-((l.c : Rat) / l.dir.dot l.dir) * (l.a : Rat), -((l.c : Rat) / l.dir.dot l.dir) * (l.b : Rat)⟩ : PtQ) = l.base := by
 unfold LnQ.base
 rw [dd_nn]
 simp only [LnQ.nor, PtQ.scale, PtQ.mk.injEq]
 constructor <;> grind
theorem at_ref (l : LnQ) (t : Rat) : movQ l.base l.dir t = l.at t := by
 simp only [movQ, LnQ.at, PtQ.add, PtQ.scale, PtQ.mk.injEq]
 constructor <;> grind
theorem param_meet {l m : LnQ} (hl : l.Ne) (h : crossI l m ≠ 0) : paramQ l (meetP l m) = -(l.cutC m / l.cutK m) := by
 have hd : ((crossI l m : Int) : Rat) ≠ 0 := fun e => h (Rat.intCast_eq_zero_iff.1 e)
 have hn := dd_pos hl
 obtain ⟨q, q1, q2⟩ := base_q hl
 rw [cutK_cross]
 unfold paramQ meetP LnQ.cutC
 rw [if_neg h, q2, val_def, meetX_cast, meetY_cast]
 have hc := cross_cast l m
 rw [dd_nn] at hn ⊢
 simp only [LnQ.dir, LnQ.nor, PtQ.dot] at hn q1 ⊢
 generalize ((crossI l m : Int) : Rat) = d at *
 generalize (l.a : Rat) = a at *
 generalize (l.b : Rat) = b at *
 generalize (l.c : Rat) = c at *
 generalize (m.a : Rat) = x at *
 generalize (m.b : Rat) = y at *
 generalize (m.c : Rat) = z at *
 have hn' : a * a + b * b ≠ 0 := by grind
 have e : ((b * z - y * c) / d * b + (x * c - a * z) / d * -a) = ((b * z - y * c) * b - (x * c - a * z) * a) / d := by grind
 rw [e]
 have k1 : (b * z - y * c) * b - (x * c - a * z) * a = (a * a + b * b) * (x * (a * q) + y * (b * q) + z) := by grind
 rw [k1]
 grind
theorem param_frac {l m : LnQ} (hl : l.Ne) (h : crossI l m ≠ 0) : paramQ l (meetP l m) * ((crossI l m * (l.a * l.a + l.b * l.b) : Int) : Rat) = ((meetX l m * l.b - meetY l m * l.a : Int) : Rat) := by
 have hd : ((crossI l m : Int) : Rat) ≠ 0 := fun e => h (Rat.intCast_eq_zero_iff.1 e)
 have hn := dd_pos hl
 unfold paramQ meetP
 rw [if_neg h]
 simp only [Rat.intCast_mul, Rat.intCast_sub, Rat.intCast_add]
 simp only [LnQ.dir, PtQ.dot] at hn ⊢
 generalize ((crossI l m : Int) : Rat) = d at *
 generalize ((meetX l m : Int) : Rat) = x at *
 generalize ((meetY l m : Int) : Rat) = y at *
 generalize (l.a : Rat) = a at *
 generalize (l.b : Rat) = b at *
 have hn' : b * b + -a * -a ≠ 0 := by grind
 grind
theorem partL_cons (l m : LnQ) (t : List LnQ) (v : IvQ) : partL l (m :: t) v = if m = l then partL l t v else if l.cutB v m then partL l t (l.cutV v m) else none := rfl
def updLo (v : IvQ) (t : Rat) : IvQ := if v.nl = true ∨ 0 < rcmp t v.lo then ⟨t, v.hi, false, v.nh⟩ else v
def updHi (v : IvQ) (t : Rat) : IvQ := if v.nh = true ∨ rcmp t v.hi < 0 then ⟨v.lo, t, v.nl, false⟩ else v
structure IvZ (v : IvQ) : Prop where
 lo : v.nl = true → v.lo = 0
 hi : v.nh = true → v.hi = 0
theorem rcmp_pos' (a b : Rat) : 0 < rcmp a b ↔ b < a := by
 unfold rcmp; split
 · constructor
   · intro h; exact absurd h (by decide)
   · intro h; grind
 · split
   · exact ⟨fun _ => by assumption, fun _ => by decide⟩
   · constructor
     · intro h; exact absurd h (by decide)
     · intro h; exact absurd h (by assumption)
theorem rcmp_neg' (a b : Rat) : rcmp a b < 0 ↔ a < b := by
 unfold rcmp; split
 · exact ⟨fun _ => by assumption, fun _ => by decide⟩
 · split
   · constructor
     · intro h; exact absurd h (by decide)
     · intro h; grind
   · constructor
     · intro h; exact absurd h (by decide)
     · intro h; exact absurd h (by assumption)
theorem updLo_meet {v : IvQ} (h : IvZ v) (t : Rat) : updLo v t = v.meet ⟨t, 0, false, true⟩ := by
 obtain ⟨lo, hi, nl, nh⟩ := v
 obtain ⟨h1, h2⟩ := h
 unfold updLo IvQ.meet
 simp only [rcmp_pos'] at *
 cases nl <;> cases nh <;> simp at * <;> (try (split <;> split <;> simp_all <;> grind)) <;> grind
theorem updHi_meet {v : IvQ} (h : IvZ v) (t : Rat) : updHi v t = v.meet ⟨0, t, true, false⟩ := by
 obtain ⟨lo, hi, nl, nh⟩ := v
 obtain ⟨h1, h2⟩ := h
 unfold updHi IvQ.meet
 simp only [rcmp_neg'] at *
 cases nl <;> cases nh <;> simp at * <;> (try (split <;> split <;> simp_all <;> grind)) <;> grind
theorem IvZ.all : IvZ IvQ.all := ⟨fun _ => rfl, fun _ => rfl⟩
theorem IvZ.lo' {v : IvQ} (h : IvZ v) (t : Rat) : IvZ (updLo v t) := by
 obtain ⟨lo, hi, nl, nh⟩ := v
 unfold updLo; split
 · exact ⟨fun h => by simp at h, h.hi⟩
 · exact h
theorem IvZ.hi' {v : IvQ} (h : IvZ v) (t : Rat) : IvZ (updHi v t) := by
 obtain ⟨lo, hi, nl, nh⟩ := v
 unfold updHi; split
 · exact ⟨h.lo, fun h => by simp at h⟩
 · exact h
theorem step_par {l m : LnQ} {v : IvQ} (h : crossI l m = 0) : l.cutV v m = v ∧ (l.cutB v m = true ↔ 0 < m.value l.base) := by
 have hk : l.cutK m = 0 := by rw [cutK_cross, h]; rfl
 exact cut_zero v hk
theorem step_lo {l m : LnQ} {v : IvQ} (hl : l.Ne) (hz : IvZ v) (h : 0 < m.dir.cross l.dir) : crossI l m ≠ 0 ∧ l.cutV v m = updLo v (paramQ l (meetP l m)) ∧ l.cutB v m = !(updLo v (paramQ l (meetP l m))).empty := by
 rw [cutK_dir] at h
 have hc : crossI l m ≠ 0 := fun e => by rw [cutK_cross, e] at h; exact absurd h (by decide)
 obtain ⟨h1, h2⟩ := cut_up v h
 refine ⟨hc, ?_, ?_⟩
 · rw [updLo_meet hz, param_meet hl hc, h1]
 · rw [updLo_meet hz, param_meet hl hc, ← h1]
   rw [← empty_iff] at h2
   cases hb : l.cutB v m <;> cases he : (l.cutV v m).empty <;> simp_all
theorem step_hi {l m : LnQ} {v : IvQ} (hl : l.Ne) (hz : IvZ v) (h0 : crossI l m ≠ 0) (h : ¬ 0 < m.dir.cross l.dir) : l.cutV v m = updHi v (paramQ l (meetP l m)) ∧ l.cutB v m = !(updHi v (paramQ l (meetP l m))).empty := by
 rw [cutK_dir] at h
 have hk : l.cutK m ≠ 0 := fun e => by
   rw [cutK_cross] at e
   have : ((crossI l m : Int) : Rat) = 0 := by grind
   exact h0 (Rat.intCast_eq_zero_iff.1 this)
 obtain ⟨h1, h2⟩ := cut_dn (l := l) (m := m) v (by grind)
 refine ⟨?_, ?_⟩
 · rw [updHi_meet hz, param_meet hl h0, h1]
 · rw [updHi_meet hz, param_meet hl h0, ← h1]
   rw [← empty_iff] at h2
   cases hb : l.cutB v m <;> cases he : (l.cutV v m).empty <;> simp_all
end Go.Sx
end

section
set_option maxRecDepth 100000
namespace Go.Sx
open Go Go.Proofs
def p7 : PtQ := ⟨mkRat 1 7, mkRat 1 5⟩
theorem q_sq {GB : Gh} {z : Int} : PF GB Tryz.prog 130 [eI z] (eQ (z : Rat)) := by
 refine PF.intro Tryz.func130 rfl rfl Tryz.ntmps130 rfl ?_
 intro C
 refine qR <| tF (tf_box rfl rfl rfl) <| ?_
 intro b1
 refine tF (tf_alloc rfl) <| ?_
 intro b2
 refine sd_end <| qR <| tY (yq_ldO rfl rfl) rfl <| tY (yq_build rfl) rfl <| tC (tdS rfl rfl rfl rfl rfl rfl) <| ?_
 refine sd_end <| sd_ret <| ?_
 exact sd_done (.agg rfl ii ii rfl .nil) (by rw [eQ_int]; rfl)
theorem mapL_get {xs : List LnQ} {i : Nat} (h : i < xs.length) : (xs.map eL)[(i : Int).toNat]? = some (eL xs[i]) := by simp [h]
theorem mapL_len (xs : List LnQ) : (xs.map eL).length = xs.length := List.length_map ..
end Go.Sx
end

section
set_option maxRecDepth 100000
namespace Go.Sx
open Go Go.Proofs
structure LP (l : LnQ) : Prop where
 s : LS l
 p : 0 < l.value p7
theorem take_next {α : Type} {xs : List α} {i : Nat} {p : α → Prop} (h : ∀ x ∈ xs.take i, p x) (hi : i < xs.length) (hy : p xs[i]) : ∀ x ∈ xs.take (i + 1), p x := by
 intro x hx
 rw [List.take_succ_eq_append_getElem hi] at hx
 simp only [List.mem_append, List.mem_singleton] at hx
 rcases hx with hx | rfl
 · exact h x hx
 · exact hy
theorem same_dg {a b : Nat} (hl : (dg a).length = (dg b).length) (h : ∀ j, j < (dg a).length → (dg a).getD j 0 = (dg b).getD j 0) : a = b := by
 have e : dg a = dg b := by
  apply List.ext_getElem hl
  intro i h1 h2
  have := h i h1
  rw [List.getD_eq_getElem?_getD, List.getD_eq_getElem?_getD, List.getElem?_eq_getElem h1, List.getElem?_eq_getElem h2] at this
  exact this
 rw [← dv_dg a, e, dv_dg]
theorem q_SameN {GB : Gh} {a b : Nat} (ha : a < 4294967296) (hb : b < 4294967296) : PF GB Tryz.prog 158 [dN a, dN b] (vB (decide (a = b))) := by
 refine PF.intro Tryz.func158 rfl rfl Tryz.ntmps158 rfl ?_
 intro C
 have hla := mapU_len (dg a)
 have hlb := mapU_len (dg b)
 have hba := dg_small ha
 refine qR <| tA rfl rfl <| sd_end <| sd_seq <| qR <| tM rfl rfl <| tY (yq_len rfl) rfl <| tM rfl rfl <| tY (yq_len rfl) rfl <| ?_
 refine tY (yq_neq rfl rfl) rfl <| sd_end <| ?_
 refine sd_condP rfl (fun hc10 => ?_) (fun hc10 => ?_)
 ·
  refine qR <| tA rfl rfl <| sd_end <| sd_ret <| ?_
  exact sd_done (.tmp rfl .nil) (by rw [decide_eq_false (fun e : a = b => hc10 (by rw [e]))]; rfl)
 ·
  refine sd_skipc <| sd_seq <| qR <| tM rfl rfl <| tY (yq_len rfl) rfl <| ?_
  refine sd_eq 12 (.d (vI ((dg a).length : Nat))) rfl (by rw [hla]; rfl) ?_
  refine tM rfl rfl <| sd_end <| sd_block <| ?_
  refine sd_loop (X := Nat) (fun x => [(13, .d (vI (x : Nat))), (12, .d (vI ((dg a).length : Nat))), (0, .d (dN a)), (1, .d (dN b))]) (fun x => []) (fun x => []) (fun x => x ≤ (dg a).length ∧ ∀ j, j < x → (dg a).getD j 0 = (dg b).getD j 0) (fun x => (dg a).length - x) 0 ⟨Nat.zero_le _, fun j hj => absurd hj (by omega)⟩ (by repeat (first | exact .nil | refine .cons rfl ?_ | refine .cons' rfl (by first | (simp [vI]; done) | (congr 3; omega) | (simp [vI]; omega)) ?_)) rfl rfl ?_
  rintro GB1 hGB1 i ⟨h1, h2⟩
  try dsimp only at *
  refine qR <| tY (yq_lss rfl rfl) rfl <| sd_end <| sd_seq <| ?_
  refine sd_condP rfl (fun hc14 => ?_) (fun hc14 => ?_)
  ·
   refine sd_skipc <| sd_seq <| sd_block <| qR <| tM rfl rfl <| tA rfl rfl <| sd_end <| sd_seq <| ?_
   refine drX (own0 := _) (own1 := []) (bs0 := []) (bs1 := _) [] [(0, true), (1, true), (2, true), (3, true), (4, true), (5, true), (6, true), (7, true), (8, true)] [] follows (by rw [List.append_nil]) (List.Perm.refl _) (by kernel_rfl) ?_
   refine dyX rfl (yq_move rfl) rfl <| ?_
   refine dyX rfl (yq_move rfl) rfl <| ?_
   refine dyX rfl (yq_ix rfl rfl (by omega) (mapU_getI (by omega)) rfl rfl) rfl <| ?_
   refine dyX rfl (yq_ldE1 rfl rfl) rfl <| ?_
   refine dyX rfl (yq_move rfl) rfl <| ?_
   refine dyX rfl (yq_move rfl) rfl <| ?_
   refine dyX rfl (yq_ix rfl rfl (by omega) (mapU_getI (by omega)) rfl rfl) rfl <| ?_
   refine dyX rfl (yq_ldE1 rfl rfl) rfl <| ?_
   refine dyX rfl (yq_neq rfl rfl) rfl <| ?_
   refine outX0 <| onX <| outX0 <| dnX <| ?_
   simp only [List.nil_append, List.append_nil, List.cons_append]
   refine sd_condP rfl (fun hc24 => ?_) (fun hc24 => ?_)
   ·
    refine qR <| tA rfl rfl <| sd_end <| sd_ret <| ?_
    exact sd_done (.tmp rfl .nil) (by rw [decide_eq_false (fun e : a = b => hc24 (by rw [e]))]; rfl)
   ·
    refine sd_skipc <| sd_region <| tY (yq_add64 rfl rfl) rfl <| tM rfl rfl <| sd_end <| ?_
    exact sd_again (i + 1) ⟨by omega, fun j hj => by by_cases q : j = i; (subst q; omega); exact h2 j (by omega)⟩ (by omega) (by repeat (first | exact .nil | refine .cons rfl ?_ | refine .cons' rfl (by first | (simp [vI]; done) | (congr 3; omega) | (simp [vI]; omega)) ?_)) rfl rfl
  ·
   refine sd_exit <| sd_ts <| sd_te <| sd_inBlock_eq <| qR <| tA rfl rfl <| sd_end <| sd_ret <| ?_
   exact sd_done (.tmp rfl .nil) (by rw [decide_eq_true (same_dg (by omega) (fun j hj => h2 j (by omega)))]; rfl)
end Go.Sx
end

section
set_option maxRecDepth 100000
namespace Go.Sx
open Go Go.Proofs
theorem sameI_yes {a b : Int} (h : decide (a < 0) = decide (b < 0)) : decide (a.natAbs = b.natAbs) = decide (a = b) := by
 have h' : a < 0 ↔ b < 0 := by simpa using h
 exact decide_eq_decide.2 ⟨fun e => by omega, fun e => by rw [e]⟩
theorem LnQ.ext' {l m : LnQ} (h1 : l.a = m.a) (h2 : l.b = m.b) (h3 : l.c = m.c) : l = m := by cases l; cases m; simp_all
instance : DecidableEq NQ := fun x y => decidable_of_iff (x.l = y.l ∧ x.a = y.a ∧ x.b = y.b) (by
 cases x; cases y; simp)
theorem NQ.ext' {n m : NQ} (h1 : n.l = m.l) (h2 : n.a = m.a) (h3 : n.b = m.b) : n = m := by cases n; cases m; simp_all
theorem mapN_len (ns : List NQ) : (ns.map eN).length = ns.length := List.length_map ..
theorem same_list {ns ms : List NQ} (hl : ns.length = ms.length) (h : ∀ j (h1 : j < ns.length) (h2 : j < ms.length), ns[j] = ms[j]) : ns = ms := List.ext_getElem hl h
theorem q_SameI {GB : Gh} {a b : Int} (ha : a.natAbs < 4294967296) (hb : b.natAbs < 4294967296) : PF GB Tryz.prog 110 [eI a, eI b] (vB (decide (a = b))) := by
 refine PF.intro Tryz.func110 rfl rfl Tryz.ntmps110 rfl ?_
 intro C
 refine qR <| tF (tf_box rfl rfl rfl) <| ?_
 intro b1
 refine tF (tf_box rfl rfl rfl) <| ?_
 intro b2
 refine tA rfl rfl <| sd_end <| qR <| tY (yq_faP rfl) rfl <| tY (yq_ldO1 rfl rfl) rfl <| tY (yq_faP rfl) rfl <| tY (yq_ldO1 rfl rfl) rfl <| tY (yq_eqB rfl rfl) rfl <| ?_
 refine sd_eq 9 (.d (.v (.bool (decide (decide (a < 0) = decide (b < 0)))))) rfl (by congr 2) ?_
 refine tM rfl rfl <| ?_
 refine sd_caseP 10 rfl (fun hg10 => ?_) (fun hg10 => ?_)
 ·
  refine tYg rfl rfl (yq_faP rfl) rfl <| tYg rfl rfl (yq_ldO1 rfl rfl) rfl <| tYg rfl rfl (yq_faP rfl) rfl <| tYg rfl rfl (yq_ldO1 rfl rfl) rfl <| tCg rfl rfl (td_call rfl rfl (q_SameN ha hb) rfl) <| ?_
  refine tY (yq_pickT rfl rfl) rfl <| tA rfl rfl <| sd_end <| sd_ret <| ?_
  exact sd_done (.tmp rfl .nil) (by show DV.v (.bool _) = DV.v (.bool _); rw [← sameI_yes hg10])
 ·
  refine tS rfl rfl rfl rfl <| tS rfl rfl rfl rfl <| tS rfl rfl rfl rfl <| tS rfl rfl rfl rfl <| tS rfl rfl rfl rfl <| tY (yq_pickF rfl rfl) rfl <| tA rfl rfl <| sd_end <| ?_
  refine sd_ret <| ?_
  exact sd_done (.tmp rfl .nil) (by rw [decide_eq_false (fun e : a = b => hg10 (by rw [e]))]; rfl)
theorem q_SameL {GB : Gh} {l m : LnQ} (hl : BL l 32) (hm : BL m 32) : PF GB Tryz.prog 52 [eL l, eL m] (vB (decide (l = m))) := by
 refine PF.intro Tryz.func52 rfl rfl Tryz.ntmps52 rfl ?_
 intro C
 have h1 := hl.a
 have h2 := hl.b
 have h3 := hl.c
 have k1 := hm.a
 have k2 := hm.b
 have k3 := hm.c
 refine qR <| tF (tf_box rfl rfl rfl) <| ?_
 intro b1
 refine tF (tf_box rfl rfl rfl) <| ?_
 intro b2
 refine tA rfl rfl <| sd_end <| qR <| tY (yq_faP rfl) rfl <| tY (yq_ldO rfl rfl) rfl <| tY (yq_faP rfl) rfl <| tY (yq_ldO rfl rfl) rfl <| tC (td_call rfl rfl (q_SameI (a := l.a) (b := m.a) h1 k1) rfl) <| ?_
 refine tM rfl rfl <| ?_
 refine sd_caseP 10 rfl (fun hg10 => ?_) (fun hg10 => ?_)
 ·
  refine tYg rfl rfl (yq_faP rfl) rfl <| tYg rfl rfl (yq_ldO rfl rfl) rfl <| tYg rfl rfl (yq_faP rfl) rfl <| tYg rfl rfl (yq_ldO rfl rfl) rfl <| tCg rfl rfl (td_call rfl rfl (q_SameI (by omega) (by omega)) rfl) <| ?_
  refine tY (yq_pickT rfl rfl) rfl <| tM rfl rfl <| ?_
  refine sd_caseP 17 rfl (fun hg17 => ?_) (fun hg17 => ?_)
  ·
   refine tYg rfl rfl (yq_faP rfl) rfl <| tYg rfl rfl (yq_ldO rfl rfl) rfl <| tYg rfl rfl (yq_faP rfl) rfl <| tYg rfl rfl (yq_ldO rfl rfl) rfl <| tCg rfl rfl (td_call rfl rfl (q_SameI (by omega) (by omega)) rfl) <| ?_
   refine tY (yq_pickT rfl rfl) rfl <| tA rfl rfl <| sd_end <| sd_ret <| ?_
   exact sd_done (.tmp rfl .nil) (by show DV.v (.bool _) = DV.v (.bool _); rw [decide_eq_decide.2 ⟨fun e => LnQ.ext' hg10 hg17 e, fun e => by rw [e]⟩])
  ·
   refine tS rfl rfl rfl rfl <| tS rfl rfl rfl rfl <| tS rfl rfl rfl rfl <| tS rfl rfl rfl rfl <| tS rfl rfl rfl rfl <| tY (yq_pickF rfl rfl) rfl <| tA rfl rfl <| sd_end <| ?_
   refine sd_ret <| ?_
   exact sd_done (.tmp rfl .nil) (by rw [decide_eq_false (fun e : l = m => hg17 (by rw [e]))]; rfl)
 ·
  refine tS rfl rfl rfl rfl <| tS rfl rfl rfl rfl <| tS rfl rfl rfl rfl <| tS rfl rfl rfl rfl <| tS rfl rfl rfl rfl <| tY (yq_pickF rfl rfl) rfl <| tM rfl rfl <| tS rfl rfl rfl rfl <| ?_
  refine tS rfl rfl rfl rfl <| tS rfl rfl rfl rfl <| tS rfl rfl rfl rfl <| tS rfl rfl rfl rfl <| tY (yq_pickF rfl rfl) rfl <| tA rfl rfl <| sd_end <| sd_ret <| ?_
  exact sd_done (.tmp rfl .nil) (by rw [decide_eq_false (fun e : l = m => hg10 (by rw [e]))]; rfl)
theorem q_TSame {GB : Gh} {s t : Tr} (hs : s.all (fun l => BL l 32)) (ht : t.all (fun l => BL l 32)) (hn : s.size ≤ 1000000) : PF GB Tryz.prog 16 [eA s, eA t] (vB (decide (s.num 0 = t.num 0 ∧ s.wr 0 = t.wr 0))) := by
 refine PF.intro Tryz.func16 rfl rfl Tryz.ntmps16 rfl ?_
 intro C
 have hbs := Tr.all_wr 0 hs
 have hbt := Tr.all_wr 0 ht
 have hsl := s.wr_len 0
 have hls := mapN_len (s.wr 0)
 have hlt := mapN_len (t.wr 0)
 generalize hns : s.wr 0 = ns at *
 generalize hms : t.wr 0 = ms at *
 generalize ha : s.num 0 = a at *
 generalize hb : t.num 0 = b at *
 have goal0 : args0F 0 [eA s, eA t] = args0F 0 [.ag [.v (.int .i64 a), .sl (ns.map eN)], .ag [.v (.int .i64 b), .sl (ms.map eN)]] := by unfold eA; rw [hns, hms, ha, hb]
 rw [goal0]
 refine qR <| tF (tf_box rfl rfl rfl) <| ?_
 intro b1
 refine tF (tf_box rfl rfl rfl) <| ?_
 intro b2
 refine tA rfl rfl <| sd_end <| sd_seq <| qR <| tY (yq_faP rfl) rfl <| tY (yq_ldO1 rfl rfl) rfl <| tY (yq_faP rfl) rfl <| tY (yq_ldO1 rfl rfl) rfl <| tY (yq_neq rfl rfl) rfl <| ?_
 refine tM rfl rfl <| ?_
 refine sd_caseP 13 rfl (fun hg13 => ?_) (fun hg13 => ?_)
 ·
  refine tS rfl rfl rfl rfl <| tS rfl rfl rfl rfl <| tS rfl rfl rfl rfl <| tS rfl rfl rfl rfl <| tS rfl rfl rfl rfl <| tS rfl rfl rfl rfl <| tS rfl rfl rfl rfl <| tY (yq_pickT rfl rfl) rfl <| ?_
  refine sd_end <| sd_condT rfl <| qR <| tA rfl rfl <| sd_end <| sd_ret <| ?_
  exact sd_done (.tmp rfl .nil) (by rw [decide_eq_false (fun e : a = b ∧ ns = ms => by obtain ⟨e1, e2⟩ := e; subst e2; exact hg13 e1)]; rfl)
 ·
  refine tYg rfl rfl (yq_faP rfl) rfl <| tYg rfl rfl (yq_ldO1 rfl rfl) rfl <| tYg rfl rfl (yq_len rfl) rfl <| tYg rfl rfl (yq_faP rfl) rfl <| tYg rfl rfl (yq_ldO1 rfl rfl) rfl <| tYg rfl rfl (yq_len rfl) rfl <| ?_
  refine tYg rfl rfl (yq_neq rfl rfl) rfl <| tY (yq_pickF rfl rfl) rfl <| sd_end <| ?_
  refine sd_condP rfl (fun hc21 => ?_) (fun hc21 => ?_)
  ·
   refine qR <| tA rfl rfl <| sd_end <| sd_ret <| ?_
   exact sd_done (.tmp rfl .nil) (by rw [decide_eq_false (fun e : a = b ∧ ns = ms => by obtain ⟨e1, e2⟩ := e; subst e2; exact hc21 rfl)]; rfl)
  ·
   refine sd_skipc <| sd_seq <| qR <| tY (yq_faP rfl) rfl <| tY (yq_ldO1 rfl rfl) rfl <| tY (yq_len rfl) rfl <| ?_
   refine sd_eq 24 (.d (vI (ns.length : Nat))) rfl (by rw [hls]; rfl) ?_
   refine tM rfl rfl <| sd_end <| sd_block <| ?_
   refine sd_selO [0] (by decide) rfl ?_
   simp only [pickL, zf1, zf2, zf3, zf4]
   refine sd_loop (X := Nat) (fun x => [(25, .d (vI (x : Nat))), (24, .d (vI (ns.length : Nat))), (23, .d (.sl (ns.map eN))), (3, .d (.v (.pointer (some ⟨b2, 0, none⟩))))]) (fun x => [⟨b2, [.v (.int .i64 b), .sl (ms.map eN)], 36, true⟩]) (fun x => []) (fun x => x ≤ ns.length ∧ ∀ j (h1 : j < ns.length) (h2 : j < ms.length), j < x → ns[j] = ms[j]) (fun x => ns.length - x) 0 ⟨Nat.zero_le _, fun j _ _ hj => absurd hj (by omega)⟩ (by repeat (first | exact .nil | refine .cons rfl ?_ | refine .cons' rfl (by first | (simp [vI]; done) | (congr 3; omega) | (simp [vI]; omega)) ?_)) rfl rfl ?_
   rintro GB1 hGB1 i ⟨h1, h2⟩
   try dsimp only at *
   have hi2 : i < ns.length → i < ms.length := fun h => by omega
   refine qR <| tY (yq_lss rfl rfl) rfl <| sd_end <| sd_seq <| ?_
   refine sd_condP rfl (fun hc26 => ?_) (fun hc26 => ?_)
   ·
    refine sd_skipc <| sd_seq <| sd_block <| qR <| tM rfl rfl <| tY (yq_ix rfl rfl (by omega) (mapN_get (by omega)) rfl rfl) rfl <| tY (yq_ldE rfl rfl) rfl <| ?_
    refine tF (tf_alloc rfl) <| ?_
    intro b3
    refine tA rfl rfl <| tC (tdS rfl rfl rfl rfl rfl rfl) <| ?_
    refine sd_end <| qR <| tY (yq_faP rfl) rfl <| tY (yq_ldO1 rfl rfl) rfl <| tM rfl rfl <| tY (yq_ix rfl rfl (by omega) (mapN_get (by omega)) rfl rfl) rfl <| ?_
    refine tY (yq_ldE rfl rfl) rfl <| tF (tf_alloc rfl) <| ?_
    intro b4
    refine tC (tdS rfl rfl rfl rfl rfl rfl) <| ?_
    refine sd_end <| qR <| tY (yq_faP rfl) rfl <| tY (yq_ldO1 rfl rfl) rfl <| tY (yq_faP rfl) rfl <| tY (yq_ldO1 rfl rfl) rfl <| tY (yq_neq rfl rfl) rfl <| tM rfl rfl <| ?_
    refine sd_caseP 40 rfl (fun hg40 => ?_) (fun hg40 => ?_)
    ·
     refine tS rfl rfl rfl rfl <| tS rfl rfl rfl rfl <| tS rfl rfl rfl rfl <| tS rfl rfl rfl rfl <| tS rfl rfl rfl rfl <| tY (yq_pickT rfl rfl) rfl <| tM rfl rfl <| tS rfl rfl rfl rfl <| ?_
     refine tS rfl rfl rfl rfl <| tS rfl rfl rfl rfl <| tS rfl rfl rfl rfl <| tS rfl rfl rfl rfl <| tS rfl rfl rfl rfl <| tY (yq_pickT rfl rfl) rfl <| sd_end <| sd_condT rfl <| sd_seq <| ?_
     refine sd_region <| tA rfl rfl <| sd_end <| sd_ret <| ?_
     exact sd_done (.tmp rfl .nil) (by rw [decide_eq_false (fun e : a = b ∧ ns = ms => by obtain ⟨e1, e2⟩ := e; subst e2; exact hg40 rfl)]; rfl)
    ·
     refine tYg rfl rfl (yq_faP rfl) rfl <| tYg rfl rfl (yq_ldO1 rfl rfl) rfl <| tYg rfl rfl (yq_faP rfl) rfl <| tYg rfl rfl (yq_ldO1 rfl rfl) rfl <| tYg rfl rfl (yq_neq rfl rfl) rfl <| tY (yq_pickF rfl rfl) rfl <| ?_
     refine tM rfl rfl <| ?_
     refine sd_caseP 47 rfl (fun hg47 => ?_) (fun hg47 => ?_)
     ·
      refine tS rfl rfl rfl rfl <| tS rfl rfl rfl rfl <| tS rfl rfl rfl rfl <| tS rfl rfl rfl rfl <| tS rfl rfl rfl rfl <| tS rfl rfl rfl rfl <| tY (yq_pickT rfl rfl) rfl <| sd_end <| sd_condT rfl <| ?_
      refine qR <| tA rfl rfl <| sd_end <| sd_ret <| ?_
      exact sd_done (.tmp rfl .nil) (by rw [decide_eq_false (fun e : a = b ∧ ns = ms => by obtain ⟨e1, e2⟩ := e; subst e2; exact hg47 rfl)]; rfl)
     ·
      refine tYg rfl rfl (yq_faP rfl) rfl <| tYg rfl rfl (yq_ldO rfl rfl) rfl <| tYg rfl rfl (yq_faP rfl) rfl <| tYg rfl rfl (yq_ldO rfl rfl) rfl <| tCg rfl rfl (td_call rfl rfl (q_SameL (l := (ns[i]'(by omega)).l) (m := (ms[i]'(by omega)).l) (hbs _ (List.getElem_mem (by omega))) (hbt _ (List.getElem_mem (by omega)))) rfl) <| ?_
      refine tYg rfl rfl (yq_not rfl) rfl <| ?_
      refine sd_eq 53 (.d (.v (.bool (decide (¬ (ns[i]'(by omega)).l = (ms[i]'(by omega)).l))))) rfl (by rw [decide_not]) ?_
      refine tY (yq_pickF rfl rfl) rfl <| sd_end <| ?_
      refine sd_condP rfl (fun hc54 => ?_) (fun hc54 => ?_)
      ·
       refine qR <| tA rfl rfl <| sd_end <| sd_ret <| ?_
       exact sd_done (.tmp rfl .nil) (by rw [decide_eq_false (fun e : a = b ∧ ns = ms => by obtain ⟨e1, e2⟩ := e; subst e2; exact hc54 rfl)]; rfl)
      ·
       refine sd_skipc <| sd_region <| tY (yq_add64 rfl rfl) rfl <| tM rfl rfl <| sd_end <| ?_
       refine sd_selO [2] (by decide) rfl ?_
       simp only [pickL, zf1, zf2, zf3, zf4]
       exact sd_again (i + 1) ⟨by omega, fun j p q hj => by by_cases e : j = i; (subst e; exact NQ.ext' (Decidable.not_not.1 hc54) (Decidable.not_not.1 hg40) (Decidable.not_not.1 hg47)); exact h2 j p q (by omega)⟩ (by omega) (by repeat (first | exact .nil | refine .cons rfl ?_ | refine .cons' rfl (by first | (simp [vI]; done) | (congr 3; omega) | (simp [vI]; omega)) ?_)) rfl rfl
   ·
    refine sd_exit <| sd_ts <| sd_te <| sd_inBlock_eq <| qR <| tA rfl rfl <| sd_end <| sd_ret <| ?_
    exact sd_done (.tmp rfl .nil) (by rw [decide_eq_true (⟨Decidable.not_not.1 hg13, same_list (by omega) (fun j p q => h2 j p q (by omega))⟩ : a = b ∧ ns = ms)]; rfl)
end Go.Sx
end

section
set_option maxRecDepth 100000
namespace Go.Sx
open Go Go.Proofs
theorem slOkL (ls : List LnQ) : slOk 6 (ls.map eL) := fun d hd => by
 obtain ⟨n, _, rfl⟩ := List.mem_map.1 hd; exact ⟨rfl, rfl⟩
end Go.Sx
end

section
set_option maxRecDepth 100000
namespace Go.Sx
open Go Go.Proofs
class LB (l : LnQ) : Prop where bl : BL l 32
instance LB.a (l : LnQ) [h : LB l] : BI l.a 32 := ⟨h.bl.a⟩
instance LB.b (l : LnQ) [h : LB l] : BI l.b 32 := ⟨h.bl.b⟩
instance LB.c (l : LnQ) [h : LB l] : BI l.c 32 := ⟨h.bl.c⟩
class BPt (p : PtQ) (k : outParam Nat) : Prop where
 x : BQ p.x k
 y : BQ p.y k
instance BPt.ix (p : PtQ) (k : Nat) [h : BPt p k] : BQ p.x k := h.x
instance BPt.iy (p : PtQ) (k : Nat) [h : BPt p k] : BQ p.y k := h.y
instance BPt.dir (l : LnQ) [LB l] : BPt l.dir 33 := ⟨inferInstanceAs (BQ (l.b : Rat) 33), inferInstanceAs (BQ (-(l.a : Rat)) 33)⟩
instance BQ.dot (p q : PtQ) (i j : Nat) [BPt p i] [BPt q j] : BQ (p.dot q) (i + j + (i + j) + 1) := inferInstanceAs (BQ (p.x * q.x + p.y * q.y) _)
instance BQ.cross (p q : PtQ) (i j : Nat) [BPt p i] [BPt q j] : BQ (p.cross q) (i + j + (i + j) + 1) := inferInstanceAs (BQ (p.x * q.y - p.y * q.x) _)
instance BPt.mov (p q : PtQ) (c : Rat) (i j k : Nat) [BPt p i] [BPt q j] [BQ c k] : BPt (movQ p q c) (i + (k + j) + 1) := ⟨inferInstanceAs (BQ (p.x + c * q.x) _), inferInstanceAs (BQ (p.y + c * q.y) _)⟩
instance BQ.value (l : LnQ) (p : PtQ) (i : Nat) [LB l] [BPt p i] : BQ (l.value p) (32 + 1 + i + (32 + 1 + i) + 1 + (32 + 1) + 1) := inferInstanceAs (BQ ((l.a : Rat) * p.x + (l.b : Rat) * p.y + (l.c : Rat)) _)
theorem dd_ne {l : LnQ} (h : l.Ne) : l.dir.dot l.dir ≠ 0 := by have := dd_pos h; grind
theorem q_Dir {GB : Gh} {l : LnQ} : PF GB Tryz.prog 78 [eL l] (eP l.dir) := by
 refine PF.intro Tryz.func78 rfl rfl Tryz.ntmps78 rfl ?_
 intro C
 refine qR <| tF (tf_box rfl rfl rfl) <| ?_
 intro b1
 refine tF (tf_alloc rfl) <| ?_
 intro b2
 refine sd_end <| sd_seq <| ?_
 refine sd_selO [1, 0] (by decide) rfl ?_
 simp only [pickL, zf1, zf2, zf3, zf4]
 refine drX (own0 := [_]) (own1 := [_]) (bs0 := []) (bs1 := _) [] [(0, true), (1, true), (3, true), (4, true), (2, false), (5, false), (6, false), (7, true), (8, false)] [] follows (List.Perm.refl _) (List.Perm.refl _) (by kernel_rfl) ?_
 refine dyX rfl (yq_faP rfl) rfl <| ?_
 refine dyX rfl (yq_ldO rfl rfl) rfl <| ?_
 refine dyX rfl (yq_faP rfl) rfl <| ?_
 refine dyX rfl (yq_ldO rfl rfl) rfl <| ?_
 refine dcX rfl (td_call rfl rfl (q_sq) rfl) FDok.nil rfl <| ?_
 refine dcX rfl (td_call rfl rfl (q_sq) rfl) FDok.nil rfl <| ?_
 refine dcX rfl (td_call rfl rfl (q_Opp) rfl) FDok.nil rfl <| ?_
 refine dyX rfl (yq_build rfl) rfl <| ?_
 refine dcX rfl (tdS rfl rfl rfl rfl rfl rfl) FDok.nil rfl <| ?_
 refine outX0 <| onX <| outX0 <| dnX <| ?_
 simp only [List.nil_append, List.append_nil, List.cons_append]
 refine sd_ret <| ?_
 exact sd_done (.agg rfl ii ii rfl .nil) rfl
theorem q_Dot {GB : Gh} {p q : PtQ} {i j : Nat} [hp : BPt p i] [hq : BPt q j] (hi : i ≤ 200000 := by decide) (hj : j ≤ 200000 := by decide) : PF GB Tryz.prog 168 [eP p, eP q] (eQ (p.dot q)) := by
 refine PF.intro Tryz.func168 rfl rfl Tryz.ntmps168 rfl ?_
 intro C
 refine qR <| tF (tf_box rfl rfl rfl) <| ?_
 intro b1
 refine tF (tf_box rfl rfl rfl) <| ?_
 intro b2
 refine tF (tf_alloc rfl) <| ?_
 intro b3
 refine sd_end <| sd_seq <| ?_
 refine sd_selO [1, 2, 0] (by decide) rfl ?_
 simp only [pickL, zf1, zf2, zf3, zf4]
 refine drX (own0 := [_, _]) (own1 := [_]) (bs0 := []) (bs1 := _) [] [(0, true), (1, true), (2, true), (3, true), (5, true), (6, true), (7, true), (8, true), (4, false), (9, false), (10, false), (11, false)] [] follows (List.Perm.refl _) (List.Perm.refl _) (by kernel_rfl) ?_
 refine dyX rfl (yq_faP rfl) rfl <| ?_
 refine dyX rfl (yq_ldO rfl rfl) rfl <| ?_
 refine dyX rfl (yq_faP rfl) rfl <| ?_
 refine dyX rfl (yq_ldO rfl rfl) rfl <| ?_
 refine dyX rfl (yq_faP rfl) rfl <| ?_
 refine dyX rfl (yq_ldO rfl rfl) rfl <| ?_
 refine dyX rfl (yq_faP rfl) rfl <| ?_
 refine dyX rfl (yq_ldO rfl rfl) rfl <| ?_
 refine dcX rfl (td_call rfl rfl (q_Times (by omega) (by omega)) rfl) FDok.nil rfl <| ?_
 refine dcX rfl (td_call rfl rfl (q_Times (by omega) (by omega)) rfl) FDok.nil rfl <| ?_
 refine dcX rfl (td_call rfl rfl (q_Plus (by omega) (by omega)) rfl) FDok.nil rfl <| ?_
 refine dcX rfl (tdS rfl rfl rfl rfl rfl rfl) FDok.nil rfl <| ?_
 refine outX0 <| onX <| outX0 <| dnX <| ?_
 simp only [List.nil_append, List.append_nil, List.cons_append]
 refine sd_ret <| ?_
 exact sd_done (.agg rfl ii ii rfl .nil) rfl
theorem q_Cross {GB : Gh} {p q : PtQ} {i j : Nat} [hp : BPt p i] [hq : BPt q j] (hi : i ≤ 200000 := by decide) (hj : j ≤ 200000 := by decide) : PF GB Tryz.prog 127 [eP p, eP q] (eQ (p.cross q)) := by
 refine PF.intro Tryz.func127 rfl rfl Tryz.ntmps127 rfl ?_
 intro C
 refine qR <| tF (tf_box rfl rfl rfl) <| ?_
 intro b1
 refine tF (tf_box rfl rfl rfl) <| ?_
 intro b2
 refine tF (tf_alloc rfl) <| ?_
 intro b3
 refine sd_end <| sd_seq <| ?_
 refine sd_selO [1, 2, 0] (by decide) rfl ?_
 simp only [pickL, zf1, zf2, zf3, zf4]
 refine drX (own0 := [_, _]) (own1 := [_]) (bs0 := []) (bs1 := _) [] [(0, true), (1, true), (2, true), (3, true), (5, true), (6, true), (7, true), (8, true), (4, false), (9, false), (10, false), (11, false)] [] follows (List.Perm.refl _) (List.Perm.refl _) (by kernel_rfl) ?_
 refine dyX rfl (yq_faP rfl) rfl <| ?_
 refine dyX rfl (yq_ldO rfl rfl) rfl <| ?_
 refine dyX rfl (yq_faP rfl) rfl <| ?_
 refine dyX rfl (yq_ldO rfl rfl) rfl <| ?_
 refine dyX rfl (yq_faP rfl) rfl <| ?_
 refine dyX rfl (yq_ldO rfl rfl) rfl <| ?_
 refine dyX rfl (yq_faP rfl) rfl <| ?_
 refine dyX rfl (yq_ldO rfl rfl) rfl <| ?_
 refine dcX rfl (td_call rfl rfl (q_Times (by omega) (by omega)) rfl) FDok.nil rfl <| ?_
 refine dcX rfl (td_call rfl rfl (q_Times (by omega) (by omega)) rfl) FDok.nil rfl <| ?_
 refine dcX rfl (td_call rfl rfl (q_Sub (by omega) (by omega)) rfl) FDok.nil rfl <| ?_
 refine dcX rfl (tdS rfl rfl rfl rfl rfl rfl) FDok.nil rfl <| ?_
 refine outX0 <| onX <| outX0 <| dnX <| ?_
 simp only [List.nil_append, List.append_nil, List.cons_append]
 refine sd_ret <| ?_
 exact sd_done (.agg rfl ii ii rfl .nil) rfl
theorem q_PAdd {GB : Gh} {p q : PtQ} {c : Rat} {i j k : Nat} [hp : BPt p i] [hq : BPt q j] [hc : BQ c k] (hi : i ≤ 200000 := by decide) (hj : j ≤ 200000 := by decide) (hk : k ≤ 200000 := by decide) : PF GB Tryz.prog 42 [eP p, eQ c, eP q] (eP (movQ p q c)) := by
 refine PF.intro Tryz.func42 rfl rfl Tryz.ntmps42 rfl ?_
 intro C
 refine qR <| tF (tf_box rfl rfl rfl) <| ?_
 intro b1
 refine tF (tf_box rfl rfl rfl) <| ?_
 intro b2
 refine tF (tf_box rfl rfl rfl) <| ?_
 intro b3
 refine tF (tf_alloc rfl) <| ?_
 intro b4
 refine sd_end <| sd_seq <| ?_
 refine sd_selO [1, 2, 3, 0] (by decide) rfl ?_
 simp only [pickL, zf1, zf2, zf3, zf4]
 refine drX (own0 := [_, _, _]) (own1 := [_]) (bs0 := []) (bs1 := _) [] [(0, true), (1, true), (2, true), (3, true), (4, true), (7, true), (8, true), (9, true), (10, true), (11, true), (5, false), (6, false), (12, false), (13, false), (14, true), (15, false)] [] follows (List.Perm.refl _) (List.Perm.refl _) (by kernel_rfl) ?_
 refine dyX rfl (yq_faP rfl) rfl <| ?_
 refine dyX rfl (yq_ldO rfl rfl) rfl <| ?_
 refine dyX rfl (yq_ldO rfl rfl) rfl <| ?_
 refine dyX rfl (yq_faP rfl) rfl <| ?_
 refine dyX rfl (yq_ldO rfl rfl) rfl <| ?_
 refine dyX rfl (yq_faP rfl) rfl <| ?_
 refine dyX rfl (yq_ldO rfl rfl) rfl <| ?_
 refine dyX rfl (yq_ldO rfl rfl) rfl <| ?_
 refine dyX rfl (yq_faP rfl) rfl <| ?_
 refine dyX rfl (yq_ldO rfl rfl) rfl <| ?_
 refine dcX rfl (td_call rfl rfl (q_Times (by omega) (by omega)) rfl) FDok.nil rfl <| ?_
 refine dcX rfl (td_call rfl rfl (q_Plus (by omega) (by omega)) rfl) FDok.nil rfl <| ?_
 refine dcX rfl (td_call rfl rfl (q_Times (by omega) (by omega)) rfl) FDok.nil rfl <| ?_
 refine dcX rfl (td_call rfl rfl (q_Plus (by omega) (by omega)) rfl) FDok.nil rfl <| ?_
 refine dyX rfl (yq_build rfl) rfl <| ?_
 refine dcX rfl (tdS rfl rfl rfl rfl rfl rfl) FDok.nil rfl <| ?_
 refine outX0 <| onX <| outX0 <| dnX <| ?_
 simp only [List.nil_append, List.append_nil, List.cons_append]
 refine sd_ret <| ?_
 exact sd_done (.agg rfl ii ii rfl .nil) rfl
theorem q_Value {GB : Gh} {l : LnQ} {p : PtQ} {i : Nat} [hl : LB l] [hp : BPt p i] (hi : i ≤ 400000 := by decide) : PF GB Tryz.prog 116 [eL l, eP p] (eQ (l.value p)) := by
 refine PF.intro Tryz.func116 rfl rfl Tryz.ntmps116 rfl ?_
 intro C
 refine qR <| tF (tf_box rfl rfl rfl) <| ?_
 intro b1
 refine tF (tf_box rfl rfl rfl) <| ?_
 intro b2
 refine tF (tf_alloc rfl) <| ?_
 intro b3
 refine sd_end <| sd_seq <| ?_
 refine sd_selO [1, 2, 0] (by decide) rfl ?_
 simp only [pickL, zf1, zf2, zf3, zf4]
 refine drX (own0 := [_, _]) (own1 := [_]) (bs0 := []) (bs1 := _) [] [(0, true), (1, true), (3, true), (4, true), (6, true), (7, true), (9, true), (10, true), (13, true), (14, true), (2, false), (5, false), (8, false), (11, false), (12, false), (15, false), (16, false), (17, false)] [] follows (List.Perm.refl _) (List.Perm.refl _) (by kernel_rfl) ?_
 refine dyX rfl (yq_faP rfl) rfl <| ?_
 refine dyX rfl (yq_ldO rfl rfl) rfl <| ?_
 refine dyX rfl (yq_faP rfl) rfl <| ?_
 refine dyX rfl (yq_ldO rfl rfl) rfl <| ?_
 refine dyX rfl (yq_faP rfl) rfl <| ?_
 refine dyX rfl (yq_ldO rfl rfl) rfl <| ?_
 refine dyX rfl (yq_faP rfl) rfl <| ?_
 refine dyX rfl (yq_ldO rfl rfl) rfl <| ?_
 refine dyX rfl (yq_faP rfl) rfl <| ?_
 refine dyX rfl (yq_ldO rfl rfl) rfl <| ?_
 refine dcX rfl (td_call rfl rfl (q_sq (z := l.a)) rfl) FDok.nil rfl <| ?_
 refine dcX rfl (td_call rfl rfl (q_Times (by omega) (by omega)) rfl) FDok.nil rfl <| ?_
 refine dcX rfl (td_call rfl rfl (q_sq (z := l.b)) rfl) FDok.nil rfl <| ?_
 refine dcX rfl (td_call rfl rfl (q_Times (by omega) (by omega)) rfl) FDok.nil rfl <| ?_
 refine dcX rfl (td_call rfl rfl (q_Plus (by omega) (by omega)) rfl) FDok.nil rfl <| ?_
 refine dcX rfl (td_call rfl rfl (q_sq (z := l.c)) rfl) FDok.nil rfl <| ?_
 refine dcX rfl (td_call rfl rfl (q_Plus (by omega) (by omega)) rfl) FDok.nil rfl <| ?_
 refine dcX rfl (tdS rfl rfl rfl rfl rfl rfl) FDok.nil rfl <| ?_
 refine outX0 <| onX <| outX0 <| dnX <| ?_
 simp only [List.nil_append, List.append_nil, List.cons_append]
 refine sd_ret <| ?_
 exact sd_done (.agg rfl ii ii rfl .nil) rfl
theorem q_Side {GB : Gh} {l : LnQ} {p : PtQ} {i : Nat} [hl : LB l] [hp : BPt p i] (hi : i ≤ 400000 := by decide) : PF GB Tryz.prog 62 [eL l, eP p] (vI (l.value p).num.sign) := by
 refine PF.intro Tryz.func62 rfl rfl Tryz.ntmps62 rfl ?_
 intro C
 refine qR <| tF (tf_box rfl rfl rfl) <| ?_
 intro b1
 refine tF (tf_box rfl rfl rfl) <| ?_
 intro b2
 refine tA rfl rfl <| sd_end <| qR <| tY (yq_ldO rfl rfl) rfl <| tY (yq_ldO rfl rfl) rfl <| tC (td_call rfl rfl (q_Value hi) rfl) <| tC (td_call rfl rfl (q_S) rfl) <| ?_
 refine tA rfl rfl <| sd_end <| sd_ret <| ?_
 exact sd_done (.tmp rfl .nil) rfl
theorem q_Base {GB : Gh} {l : LnQ} [hl : LB l] (hn : l.Ne) : PF GB Tryz.prog 125 [eL l] (eP l.base) := by
 refine PF.intro Tryz.func125 rfl rfl Tryz.ntmps125 rfl ?_
 intro C
 refine qR <| tF (tf_box rfl rfl rfl) <| ?_
 intro b1
 refine tF (tf_alloc rfl) <| ?_
 intro b2
 refine sd_end <| qR <| tY (yq_ldO rfl rfl) rfl <| tC (td_call rfl rfl (q_Dir) rfl) <| tF (tf_alloc rfl) <| ?_
 intro b3
 refine tC (tdS rfl rfl rfl rfl rfl rfl) <| ?_
 refine sd_end <| sd_seq <| ?_
 refine drX (own0 := _) (own1 := []) (bs0 := []) (bs1 := _) [⟨8, 4, 87, .agg ⟨[.bool false, .slice none 0 0, .slice none 0 0]⟩⟩] [(0, true), (1, true), (3, true), (4, true), (2, false), (5, false), (6, false), (7, false)] [(9, false)] follows (by rw [List.append_nil]) (List.Perm.refl _) (by kernel_rfl) ?_
 refine dyX rfl (yq_faP rfl) rfl <| ?_
 refine dyX rfl (yq_ldO rfl rfl) rfl <| ?_
 refine dyX rfl (yq_ldO rfl rfl) rfl <| ?_
 refine dyX rfl (yq_ldO rfl rfl) rfl <| ?_
 refine dcX rfl (td_call rfl rfl (q_sq (z := l.c)) rfl) (by exact .o ⟨_, _, _, rfl, rfl⟩ ii) rfl <| ?_
 refine dcX rfl (td_call rfl rfl (q_Dot) rfl) (by exact .o ⟨_, _, _, rfl, rfl⟩ ii) rfl <| ?_
 refine dcX rfl (td_call rfl rfl (q_Over (dd_ne hn)) rfl) (by exact .o ⟨_, _, _, rfl, rfl⟩ ii) rfl <| ?_
 refine dcX rfl (td_call rfl rfl (q_Opp) rfl) (by exact .o ⟨_, _, _, rfl, rfl⟩ ii) rfl <| ?_
 refine outX1 ⟨(inferInstance : TyZD Tryz.prog 87 _ _).iz, trivial⟩ (by exact .o ⟨_, _, _, rfl, rfl⟩ ii) rfl (fun b4 => ?_)
 simp only [List.cons_append, List.nil_append]
 refine onX <| ?_
 refine dcX rfl (tdS rfl rfl rfl rfl rfl rfl) FDok.nil rfl <| ?_
 refine outX0 <| dnX <| ?_
 simp only [List.nil_append, List.append_nil, List.cons_append]
 refine sd_seq <| ?_
 refine sd_selO [0, 1, 3, 2] (by decide) rfl ?_
 simp only [pickL, zf1, zf2, zf3, zf4]
 refine drX (own0 := [_, _, _]) (own1 := [_]) (bs0 := []) (bs1 := _) [] [(0, true), (1, true), (2, true), (5, true), (6, true), (7, true), (3, false), (4, false), (8, false), (9, false), (10, true), (11, false)] [] follows (List.Perm.refl _) (List.Perm.refl _) (by kernel_rfl) ?_
 refine dyX rfl (yq_ldO rfl rfl) rfl <| ?_
 refine dyX rfl (yq_faP rfl) rfl <| ?_
 refine dyX rfl (yq_ldO rfl rfl) rfl <| ?_
 refine dyX rfl (yq_ldO rfl rfl) rfl <| ?_
 refine dyX rfl (yq_faP rfl) rfl <| ?_
 refine dyX rfl (yq_ldO rfl rfl) rfl <| ?_
 refine dcX rfl (td_call rfl rfl (q_sq (z := l.a)) rfl) FDok.nil rfl <| ?_
 refine dcX rfl (td_call rfl rfl (q_Times) rfl) FDok.nil rfl <| ?_
 refine dcX rfl (td_call rfl rfl (q_sq (z := l.b)) rfl) FDok.nil rfl <| ?_
 refine dcX rfl (td_call rfl rfl (q_Times) rfl) FDok.nil rfl <| ?_
 refine dyX rfl (yq_build rfl) rfl <| ?_
 refine dcX rfl (tdS rfl rfl rfl rfl rfl rfl) FDok.nil rfl <| ?_
 refine outX0 <| onX <| outX0 <| dnX <| ?_
 simp only [List.nil_append, List.append_nil, List.cons_append]
 refine sd_ret <| ?_
 exact sd_done (.agg rfl ii ii rfl .nil) (by rw [← base_ref]; rfl)
instance BPt.base (l : LnQ) [LB l] : BPt l.base 300 := by
 rw [← base_ref]
 constructor
 · exact BQ.mono (inferInstance : BQ (-((l.c : Rat) / l.dir.dot l.dir) * (l.a : Rat)) _) (by decide)
 · exact BQ.mono (inferInstance : BQ (-((l.c : Rat) / l.dir.dot l.dir) * (l.b : Rat)) _) (by decide)
theorem q_At {GB : Gh} {l : LnQ} {t : Rat} {k : Nat} [hl : LB l] [ht : BQ t k] (hn : l.Ne) (hk : k ≤ 200000 := by decide) : PF GB Tryz.prog 160 [eL l, eQ t] (eP (l.at t)) := by
 refine PF.intro Tryz.func160 rfl rfl Tryz.ntmps160 rfl ?_
 intro C
 refine qR <| tF (tf_box rfl rfl rfl) <| ?_
 intro b1
 refine tF (tf_box rfl rfl rfl) <| ?_
 intro b2
 refine tF (tf_alloc rfl) <| ?_
 intro b3
 refine sd_end <| sd_seq <| ?_
 refine sd_selO [1, 2, 0] (by decide) rfl ?_
 simp only [pickL, zf1, zf2, zf3, zf4]
 refine drX (own0 := [_, _]) (own1 := [_]) (bs0 := []) (bs1 := _) [] [(0, true), (2, true), (3, true), (1, false), (4, false), (5, false), (6, false)] [] follows (List.Perm.refl _) (List.Perm.refl _) (by kernel_rfl) ?_
 refine dyX rfl (yq_ldO rfl rfl) rfl <| ?_
 refine dyX rfl (yq_ldO rfl rfl) rfl <| ?_
 refine dyX rfl (yq_ldO rfl rfl) rfl <| ?_
 refine dcX rfl (td_call rfl rfl (q_Base hn) rfl) FDok.nil rfl <| ?_
 refine dcX rfl (td_call rfl rfl (q_Dir) rfl) FDok.nil rfl <| ?_
 refine dcX rfl (td_call rfl rfl (q_PAdd (by decide) (by decide) hk) rfl) FDok.nil rfl <| ?_
 refine dcX rfl (tdS rfl rfl rfl rfl rfl rfl) FDok.nil rfl <| ?_
 refine outX0 <| onX <| outX0 <| dnX <| ?_
 simp only [List.nil_append, List.append_nil, List.cons_append]
 refine sd_ret <| ?_
 exact sd_done (.agg rfl ii ii rfl .nil) (by rw [← at_ref]; rfl)
theorem q_Param {GB : Gh} {l : LnQ} {p : PtQ} {k : Nat} [hl : LB l] [hp : BPt p k] (hn : l.Ne) (hk : k ≤ 200000 := by decide) : PF GB Tryz.prog 126 [eL l, eP p] (eQ (paramQ l p)) := by
 refine PF.intro Tryz.func126 rfl rfl Tryz.ntmps126 rfl ?_
 intro C
 refine qR <| tF (tf_box rfl rfl rfl) <| ?_
 intro b1
 refine tF (tf_box rfl rfl rfl) <| ?_
 intro b2
 refine tF (tf_alloc rfl) <| ?_
 intro b3
 refine sd_end <| qR <| tY (yq_ldO rfl rfl) rfl <| tC (td_call rfl rfl (q_Dir) rfl) <| tF (tf_alloc rfl) <| ?_
 intro b4
 refine tC (tdS rfl rfl rfl rfl rfl rfl) <| ?_
 refine sd_end <| sd_seq <| ?_
 refine sd_selO [0, 2, 3, 1] (by decide) rfl ?_
 simp only [pickL, zf1, zf2, zf3, zf4]
 refine drX (own0 := [_, _, _]) (own1 := [_]) (bs0 := []) (bs1 := _) [] [(0, true), (1, true), (3, true), (4, true), (2, false), (5, false), (6, false), (7, false)] [] follows (List.Perm.refl _) (List.Perm.refl _) (by kernel_rfl) ?_
 refine dyX rfl (yq_ldO rfl rfl) rfl <| ?_
 refine dyX rfl (yq_ldO rfl rfl) rfl <| ?_
 refine dyX rfl (yq_ldO rfl rfl) rfl <| ?_
 refine dyX rfl (yq_ldO rfl rfl) rfl <| ?_
 refine dcX rfl (td_call rfl rfl (q_Dot (by omega) (by decide)) rfl) FDok.nil rfl <| ?_
 refine dcX rfl (td_call rfl rfl (q_Dot (by omega) (by decide)) rfl) FDok.nil rfl <| ?_
 refine dcX rfl (td_call rfl rfl (q_Over (dd_ne hn) (by omega) (by decide)) rfl) FDok.nil rfl <| ?_
 refine dcX rfl (tdS rfl rfl rfl rfl rfl rfl) FDok.nil rfl <| ?_
 refine outX0 <| onX <| outX0 <| dnX <| ?_
 simp only [List.nil_append, List.append_nil, List.cons_append]
 refine sd_ret <| ?_
 exact sd_done (.agg rfl ii ii rfl .nil) rfl
instance BI.crossI (l m : LnQ) [LB l] [LB m] : BI (crossI l m) 129 := inferInstanceAs (BI (l.a * m.b - m.a * l.b) 129)
instance BI.meetX (l m : LnQ) [LB l] [LB m] : BI (meetX l m) 129 := inferInstanceAs (BI (l.b * m.c - m.b * l.c) 129)
instance BI.meetY (l m : LnQ) [LB l] [LB m] : BI (meetY l m) 129 := inferInstanceAs (BI (m.a * l.c - l.a * m.c) 129)
instance BPt.imeet (l m : LnQ) [LB l] [LB m] : BPt (meetP l m) 260 := by
 unfold meetP
 split
 · exact ⟨BQ.mono (k := 1) ⟨by decide, by decide⟩ (by decide), BQ.mono (k := 1) ⟨by decide, by decide⟩ (by decide)⟩
 · exact ⟨inferInstanceAs (BQ ((meetX l m : Rat) / (crossI l m : Rat)) 260), inferInstanceAs (BQ ((meetY l m : Rat) / (crossI l m : Rat)) 260)⟩
theorem cross_zero (l m : LnQ) : (((l.a : Rat) * (m.b : Rat) - (m.a : Rat) * (l.b : Rat)).num.sign = 0) ↔ crossI l m = 0 := by
 rw [sgn_zero, ← cross_cast]
 exact Rat.intCast_eq_zero_iff
theorem cross_ne {l m : LnQ} (h : crossI l m ≠ 0) : (l.a : Rat) * (m.b : Rat) - (m.a : Rat) * (l.b : Rat) ≠ 0 := by
 rw [← cross_cast]
 exact fun e => h (Rat.intCast_eq_zero_iff.1 e)
set_option maxHeartbeats 1000000 in
theorem q_Meet {GB : Gh} {l m : LnQ} [hl : LB l] [hm : LB m] : PF GB Tryz.prog 124 [eL l, eL m] (.tp [eP (meetP l m), vB (decide (crossI l m ≠ 0))]) := by
 refine PF.intro Tryz.func124 rfl rfl Tryz.ntmps124 rfl ?_
 intro C
 refine qR <| tF (tf_box rfl rfl rfl) <| ?_
 intro b1
 refine tF (tf_box rfl rfl rfl) <| ?_
 intro b2
 refine tF (tf_alloc rfl) <| ?_
 intro b3
 refine tA rfl rfl <| sd_end <| sd_seq <| ?_
 refine drX (own0 := _) (own1 := []) (bs0 := []) (bs1 := _) [⟨15, 6, 87, .agg ⟨[.bool false, .slice none 0 0, .slice none 0 0]⟩⟩] [(0, true), (1, true), (3, true), (4, true), (7, true), (8, true), (10, true), (11, true), (2, false), (5, false), (6, false), (9, false), (12, false), (13, false), (14, false)] [(16, false)] follows (by rw [List.append_nil]) (List.Perm.refl _) (by kernel_rfl) ?_
 refine dyX rfl (yq_faP rfl) rfl <| ?_
 refine dyX rfl (yq_ldO rfl rfl) rfl <| ?_
 refine dyX rfl (yq_faP rfl) rfl <| ?_
 refine dyX rfl (yq_ldO rfl rfl) rfl <| ?_
 refine dyX rfl (yq_faP rfl) rfl <| ?_
 refine dyX rfl (yq_ldO rfl rfl) rfl <| ?_
 refine dyX rfl (yq_faP rfl) rfl <| ?_
 refine dyX rfl (yq_ldO rfl rfl) rfl <| ?_
 refine dcX rfl (td_call rfl rfl (q_sq (z := l.a)) rfl) (by exact .o ⟨_, _, _, rfl, rfl⟩ ii) rfl <| ?_
 refine dcX rfl (td_call rfl rfl (q_sq (z := m.b)) rfl) (by exact .o ⟨_, _, _, rfl, rfl⟩ ii) rfl <| ?_
 refine dcX rfl (td_call rfl rfl (q_Times) rfl) (by exact .o ⟨_, _, _, rfl, rfl⟩ ii) rfl <| ?_
 refine dcX rfl (td_call rfl rfl (q_sq (z := m.a)) rfl) (by exact .o ⟨_, _, _, rfl, rfl⟩ ii) rfl <| ?_
 refine dcX rfl (td_call rfl rfl (q_sq (z := l.b)) rfl) (by exact .o ⟨_, _, _, rfl, rfl⟩ ii) rfl <| ?_
 refine dcX rfl (td_call rfl rfl (q_Times) rfl) (by exact .o ⟨_, _, _, rfl, rfl⟩ ii) rfl <| ?_
 refine dcX rfl (td_call rfl rfl (q_Sub) rfl) (by exact .o ⟨_, _, _, rfl, rfl⟩ ii) rfl <| ?_
 refine outX1 ⟨(inferInstance : TyZD Tryz.prog 87 _ _).iz, trivial⟩ (by exact .o ⟨_, _, _, rfl, rfl⟩ ii) rfl (fun b4 => ?_)
 simp only [List.cons_append, List.nil_append]
 refine onX <| ?_
 refine dcX rfl (tdS rfl rfl rfl rfl rfl rfl) FDok.nil rfl <| ?_
 refine outX0 <| dnX <| ?_
 simp only [List.nil_append, List.append_nil, List.cons_append]
 refine sd_seq <| qR <| tY (yq_ldO rfl rfl) rfl <| tC (td_call rfl rfl (q_S) rfl) <| tY (yq_eql rfl rfl) rfl <| sd_end <| ?_
 refine sd_condP rfl (fun hc26 => ?_) (fun hc26 => ?_)
 ·
  have hcr := (cross_zero l m).1 hc26
  refine qR <| tY (yq_build rfl) rfl <| tC (tdS rfl rfl rfl rfl rfl rfl) <| ?_
  refine tA rfl rfl <| sd_end <| sd_ret <| ?_
  exact sd_done (.agg rfl ii ii rfl (.tmp rfl .nil)) (by unfold meetP; rw [if_pos hcr, decide_eq_false (fun e => e hcr)]; show DV.tp [.ag [_, .sl [], .sl [], _, .sl [], .sl []], _] = .tp [eP ⟨0, 0⟩, _]; unfold eP dD; simp only [show (0 : Rat).num = 0 from rfl, show (0 : Rat).den = 1 from rfl, Int.natAbs_zero, dN_zero]; rfl)
 ·
  have hcr : crossI l m ≠ 0 := fun e => hc26 ((cross_zero l m).2 e)
  refine sd_skipc <| sd_seq <| ?_
  refine drX (own0 := _) (own1 := []) (bs0 := []) (bs1 := _) [⟨15, 7, 87, .agg ⟨[.bool false, .slice none 0 0, .slice none 0 0]⟩⟩] [(0, true), (1, true), (3, true), (4, true), (7, true), (8, true), (10, true), (11, true), (2, false), (5, false), (6, false), (9, false), (12, false), (13, false), (14, false)] [(16, false)] follows (by rw [List.append_nil]) (List.Perm.refl _) (by kernel_rfl) ?_
  refine dyX rfl (yq_faP rfl) rfl <| ?_
  refine dyX rfl (yq_ldO rfl rfl) rfl <| ?_
  refine dyX rfl (yq_faP rfl) rfl <| ?_
  refine dyX rfl (yq_ldO rfl rfl) rfl <| ?_
  refine dyX rfl (yq_faP rfl) rfl <| ?_
  refine dyX rfl (yq_ldO rfl rfl) rfl <| ?_
  refine dyX rfl (yq_faP rfl) rfl <| ?_
  refine dyX rfl (yq_ldO rfl rfl) rfl <| ?_
  refine dcX rfl (td_call rfl rfl (q_sq (z := l.b)) rfl) (by exact .o ⟨_, _, _, rfl, rfl⟩ ii) rfl <| ?_
  refine dcX rfl (td_call rfl rfl (q_sq (z := m.c)) rfl) (by exact .o ⟨_, _, _, rfl, rfl⟩ ii) rfl <| ?_
  refine dcX rfl (td_call rfl rfl (q_Times) rfl) (by exact .o ⟨_, _, _, rfl, rfl⟩ ii) rfl <| ?_
  refine dcX rfl (td_call rfl rfl (q_sq (z := m.b)) rfl) (by exact .o ⟨_, _, _, rfl, rfl⟩ ii) rfl <| ?_
  refine dcX rfl (td_call rfl rfl (q_sq (z := l.c)) rfl) (by exact .o ⟨_, _, _, rfl, rfl⟩ ii) rfl <| ?_
  refine dcX rfl (td_call rfl rfl (q_Times) rfl) (by exact .o ⟨_, _, _, rfl, rfl⟩ ii) rfl <| ?_
  refine dcX rfl (td_call rfl rfl (q_Sub) rfl) (by exact .o ⟨_, _, _, rfl, rfl⟩ ii) rfl <| ?_
  refine outX1 ⟨(inferInstance : TyZD Tryz.prog 87 _ _).iz, trivial⟩ (by exact .o ⟨_, _, _, rfl, rfl⟩ ii) rfl (fun b5 => ?_)
  simp only [List.cons_append, List.nil_append]
  refine onX <| ?_
  refine dcX rfl (tdS rfl rfl rfl rfl rfl rfl) FDok.nil rfl <| ?_
  refine outX0 <| dnX <| ?_
  simp only [List.nil_append, List.append_nil, List.cons_append]
  refine sd_seq <| ?_
  refine drX (own0 := _) (own1 := []) (bs0 := []) (bs1 := _) [⟨15, 8, 87, .agg ⟨[.bool false, .slice none 0 0, .slice none 0 0]⟩⟩] [(0, true), (1, true), (3, true), (4, true), (7, true), (8, true), (10, true), (11, true), (2, false), (5, false), (6, false), (9, false), (12, false), (13, false), (14, false)] [(16, false)] follows (by rw [List.append_nil]) (List.Perm.refl _) (by kernel_rfl) ?_
  refine dyX rfl (yq_faP rfl) rfl <| ?_
  refine dyX rfl (yq_ldO rfl rfl) rfl <| ?_
  refine dyX rfl (yq_faP rfl) rfl <| ?_
  refine dyX rfl (yq_ldO rfl rfl) rfl <| ?_
  refine dyX rfl (yq_faP rfl) rfl <| ?_
  refine dyX rfl (yq_ldO rfl rfl) rfl <| ?_
  refine dyX rfl (yq_faP rfl) rfl <| ?_
  refine dyX rfl (yq_ldO rfl rfl) rfl <| ?_
  refine dcX rfl (td_call rfl rfl (q_sq (z := m.a)) rfl) (by exact .o ⟨_, _, _, rfl, rfl⟩ ii) rfl <| ?_
  refine dcX rfl (td_call rfl rfl (q_sq (z := l.c)) rfl) (by exact .o ⟨_, _, _, rfl, rfl⟩ ii) rfl <| ?_
  refine dcX rfl (td_call rfl rfl (q_Times) rfl) (by exact .o ⟨_, _, _, rfl, rfl⟩ ii) rfl <| ?_
  refine dcX rfl (td_call rfl rfl (q_sq (z := l.a)) rfl) (by exact .o ⟨_, _, _, rfl, rfl⟩ ii) rfl <| ?_
  refine dcX rfl (td_call rfl rfl (q_sq (z := m.c)) rfl) (by exact .o ⟨_, _, _, rfl, rfl⟩ ii) rfl <| ?_
  refine dcX rfl (td_call rfl rfl (q_Times) rfl) (by exact .o ⟨_, _, _, rfl, rfl⟩ ii) rfl <| ?_
  refine dcX rfl (td_call rfl rfl (q_Sub) rfl) (by exact .o ⟨_, _, _, rfl, rfl⟩ ii) rfl <| ?_
  refine outX1 ⟨(inferInstance : TyZD Tryz.prog 87 _ _).iz, trivial⟩ (by exact .o ⟨_, _, _, rfl, rfl⟩ ii) rfl (fun b6 => ?_)
  simp only [List.cons_append, List.nil_append]
  refine onX <| ?_
  refine dcX rfl (tdS rfl rfl rfl rfl rfl rfl) FDok.nil rfl <| ?_
  refine outX0 <| dnX <| ?_
  simp only [List.nil_append, List.append_nil, List.cons_append]
  refine sd_seq <| ?_
  refine sd_selO [0, 1, 2, 4, 5, 3] (by decide) rfl ?_
  simp only [pickL, zf1, zf2, zf3, zf4]
  refine drX (own0 := [_, _, _, _, _]) (own1 := [_]) (bs0 := []) (bs1 := _) [] [(0, true), (1, true), (3, true), (4, true), (2, false), (5, false), (6, true), (7, false), (8, true)] [] follows (List.Perm.refl _) (List.Perm.refl _) (by kernel_rfl) ?_
  refine dyX rfl (yq_ldO rfl rfl) rfl <| ?_
  refine dyX rfl (yq_ldO rfl rfl) rfl <| ?_
  refine dyX rfl (yq_ldO rfl rfl) rfl <| ?_
  refine dyX rfl (yq_ldO rfl rfl) rfl <| ?_
  refine dcX rfl (td_call rfl rfl (q_Over (cross_ne hcr)) rfl) FDok.nil rfl <| ?_
  refine dcX rfl (td_call rfl rfl (q_Over (cross_ne hcr)) rfl) FDok.nil rfl <| ?_
  refine dyX rfl (yq_build rfl) rfl <| ?_
  refine dcX rfl (tdS rfl rfl rfl rfl rfl rfl) FDok.nil rfl <| ?_
  refine dyX rfl (yq_assign rfl) rfl <| ?_
  refine outX0 <| onX <| outX0 <| dnX <| ?_
  simp only [List.nil_append, List.append_nil, List.cons_append]
  refine sd_ret <| ?_
  exact sd_done (.agg rfl ii ii rfl (.tmp rfl .nil)) (by unfold meetP; rw [if_neg hcr, decide_eq_true hcr, meetX_cast, meetY_cast, cross_cast]; rfl)
def lcmp (l m : LnQ) : Int := if (l.a - m.a).sign ≠ 0 then (l.a - m.a).sign else if (l.b - m.b).sign ≠ 0 then (l.b - m.b).sign else (l.c - m.c).sign
theorem lcmp_zero (l m : LnQ) : lcmp l m = 0 ↔ l = m := by
 unfold lcmp
 constructor
 · intro h
   split at h
   · contradiction
   · split at h
     · contradiction
     · rename_i h1 h2
       have a1 := Int.sign_eq_zero_iff_zero.1 (Decidable.not_not.1 h1)
       have a2 := Int.sign_eq_zero_iff_zero.1 (Decidable.not_not.1 h2)
       have a3 := Int.sign_eq_zero_iff_zero.1 h
       exact LnQ.ext' (by omega) (by omega) (by omega)
 · rintro rfl
   simp
theorem q_LCmp {GB : Gh} {l m : LnQ} [hl : LB l] [hm : LB m] : PF GB Tryz.prog 79 [eL l, eL m] (vI (lcmp l m)) := by
 refine PF.intro Tryz.func79 rfl rfl Tryz.ntmps79 rfl ?_
 intro C
 refine qR <| tF (tf_box rfl rfl rfl) <| ?_
 intro b1
 refine tF (tf_box rfl rfl rfl) <| ?_
 intro b2
 refine tA rfl rfl <| sd_end <| sd_seq <| qR <| tY (yq_faP rfl) rfl <| tY (yq_ldO rfl rfl) rfl <| tY (yq_faP rfl) rfl <| tY (yq_ldO rfl rfl) rfl <| tC (td_call rfl rfl (q_CompareI (a := l.a) (b := m.a)) rfl) <| ?_
 refine tA rfl rfl <| sd_end <| qR <| tM rfl rfl <| tY (yq_neq rfl rfl) rfl <| sd_end <| ?_
 refine sd_condP rfl (fun hc13 => ?_) (fun hc13 => ?_)
 ·
  refine qR <| tM rfl rfl <| tA rfl rfl <| sd_end <| sd_ret <| ?_
  exact sd_done (.tmp rfl .nil) (by show vI _ = _; unfold lcmp; rw [if_pos hc13])
 ·
  refine sd_skipc <| sd_seq <| qR <| tY (yq_faP rfl) rfl <| tY (yq_ldO rfl rfl) rfl <| tY (yq_faP rfl) rfl <| tY (yq_ldO rfl rfl) rfl <| tC (td_call rfl rfl (q_CompareI (a := l.b) (b := m.b)) rfl) <| ?_
  refine tA rfl rfl <| sd_end <| qR <| tM rfl rfl <| tY (yq_neq rfl rfl) rfl <| sd_end <| ?_
  refine sd_condP rfl (fun hc21 => ?_) (fun hc21 => ?_)
  ·
   refine qR <| tM rfl rfl <| tA rfl rfl <| sd_end <| sd_ret <| ?_
   exact sd_done (.tmp rfl .nil) (by show vI _ = _; unfold lcmp; rw [if_neg hc13, if_pos hc21])
  ·
   refine sd_skipc <| qR <| tY (yq_faP rfl) rfl <| tY (yq_ldO rfl rfl) rfl <| tY (yq_faP rfl) rfl <| tY (yq_ldO rfl rfl) rfl <| tC (td_call rfl rfl (q_CompareI (a := l.c) (b := m.c)) rfl) <| ?_
   refine tA rfl rfl <| sd_end <| sd_ret <| ?_
   exact sd_done (.tmp rfl .nil) (by show vI _ = _; unfold lcmp; rw [if_neg hc13, if_neg hc21])
end Go.Sx
end
