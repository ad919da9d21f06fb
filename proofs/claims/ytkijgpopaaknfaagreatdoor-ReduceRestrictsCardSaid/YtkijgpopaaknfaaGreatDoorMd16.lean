/-
  Reference: division of natural numbers of any size. Reference: Divide, Common; integers and fractions of any size. Plane geometry of the cells: clipping a cell with an interior cuts it exactly; the place of a cell; trees restricted twice. What the reference does with cells and trees: the same as the code, since both go by the points inside.
-/
import Derived.Test.YtkijgpopaaknfaaGreatDoorMd15
set_option linter.unusedSimpArgs false
set_option linter.unusedVariables false
section
set_option maxRecDepth 100000
namespace Go.Sx
open Go Go.Proofs
theorem q_Div32 {GB : Gh} {h l y : Nat} (hh : h < y) (hl : l < 4294967296) (hy : y < 4294967296) : PF GB Tryz.prog 164 [.v (.int .u32 (h : Int)), .v (.int .u32 (l : Int)), .v (.int .u32 (y : Int))] (.tp [dU ((h * 4294967296 + l) / y), dU ((h * 4294967296 + l) % y)]) := by
 refine fn (fu := ⟨11⟩) Tryz.func164 rfl rfl Tryz.ntmps164 rfl rfl (fun C => ?_)
 refine kT 10 rfl (by omega) ?_
 refine gx (fu := ⟨4⟩) rfl <| ?_
 refine kF 14 rfl (by omega) ?_
 refine gx (fu := ⟨11⟩) (hv := by simp only [allP]; exact ⟨by omega, (by decide)⟩) rfl <| ?_
 refine eqF 19 (.d (.v (.int .u64 (h * 2 ^ 32 : Nat)))) rfl (by show FX.d (.v (.int _ _)) = .d (.v (.int _ _)); rw [shl_u64 _ 32 (by decide) (by show _ * 4294967296 < _; omega) rfl]) ?_
 refine gx (fu := ⟨3⟩) rfl <| ?_
 refine eqF 22 (.d (.v (.int .u64 (l + h * 2 ^ 32 : Nat)))) rfl (congrArg (fun z : Nat => FX.d (.v (.int .u64 (z : Int)))) (by rw [BitVec.or_comm]; exact bv_or 64 l h 32 hl (by show _ + _ * 4294967296 < 18446744073709551616; omega))) ?_
 obtain ⟨t, ht⟩ : ∃ t, t = h * 4294967296 + l := ⟨_, rfl⟩
 have hq : t / y < 4294967296 := by rw [Nat.div_lt_iff_lt_mul (by omega)]; have := Nat.mul_le_mul_left 4294967296 (show h + 1 ≤ y from hh); omega
 have hr : t % y < y := Nat.mod_lt _ (by omega)
 refine eqF 22 (.d (.v (.int .u64 (t : Nat)))) rfl (by show FX.d (.v (.int _ _)) = .d (.v (.int _ _)); congr 3; rw [ht]; omega) ?_
 refine gx (hv := by simp only [allP]; exact ⟨⟨⟨⟨by omega, ⟨(by omega), (by omega), (by omega)⟩⟩, by omega⟩, ⟨(by omega), (by omega)⟩⟩, by kernel_rfl⟩) rfl <| ?_
 exact rz rfl (by show DV.tp [.v (.int _ _), .v (.int _ _)] = .tp [.v (.int _ _), .v (.int _ _)]; rw [← ht, ← Int.natCast_ediv, ← Int.natCast_emod]; generalize t / y = q at *; generalize t % y = r at *; congr 4 <;> (first | omega | (congr 3; omega)))
theorem div_dig {A r i b : Nat} (d : Nat) (hb : 0 < b) : (A * 4294967296 + d) / b = A / b * 4294967296 + (A % b * 4294967296 + d) / b ∧ (A * 4294967296 + d) % b = (A % b * 4294967296 + d) % b := by
 have h := Nat.div_add_mod A b
 have e : A * 4294967296 + d = (A % b * 4294967296 + d) + b * (A / b * 4294967296) := by
  rw [← Nat.mul_assoc, Nat.add_right_comm, ← Nat.add_mul, Nat.add_comm (A % b), h]
 rw [e, Nat.add_mul_div_left _ _ hb, Nat.add_mul_mod_self_left]
 exact ⟨Nat.add_comm _ _, rfl⟩
theorem drop_dig {ds : List Nat} {i : Nat} (h : i < ds.length) : dv (ds.drop i) = dv (ds.drop (i + 1)) * 4294967296 + ds.getD i 0 := by
 rw [List.drop_eq_getElem_cons h, List.getD_eq_getElem?_getD, List.getElem?_eq_getElem h]
 simp only [dv, Option.getD_some]; omega
theorem drop_set_dig {W : List Nat} {i q : Nat} (h : i < W.length) : dv ((W.set i q).drop i) = dv (W.drop (i + 1)) * 4294967296 + q := by
 rw [drop_dig (by rw [List.length_set]; exact h), List.drop_set_of_lt (by omega), getD_set_eq h]
theorem short_inv {a b k : Nat} {W : List Nat} (hb : 0 < b) (hk : k < (dg a).length) (hl : W.length = (dg a).length) (h : dv (W.drop (k + 1)) = dv ((dg a).drop (k + 1)) / b) :
  dv ((W.set k ((dv ((dg a).drop (k + 1)) % b * 4294967296 + (dg a).getD k 0) / b)).drop k) = dv ((dg a).drop k) / b ∧ dv ((dg a).drop k) % b = (dv ((dg a).drop (k + 1)) % b * 4294967296 + (dg a).getD k 0) % b := by
 have := div_dig (A := dv ((dg a).drop (k + 1))) (r := 0) (i := 0) ((dg a).getD k 0) hb
 rw [drop_set_dig (by omega), h, drop_dig hk, this.1, this.2]
 exact ⟨rfl, rfl⟩
theorem cmpN_neg {a b : Nat} : cmpN a b < 0 ↔ a < b := by unfold cmpN; split <;> (try split) <;> omega
theorem cmpN_pos {a b : Nat} : 0 < cmpN a b ↔ b < a := by unfold cmpN; split <;> (try split) <;> omega
theorem q_lz32 {GB : Gh} {x : Nat} (hx : x < 4294967296) : PF GB Tryz.prog 202 [dU x] (vI (32 - (bl x : Int))) := by
 intro G vs hg hv
 obtain ⟨v, m, rfl, h1, h2⟩ := isl_cons.1 hv
 rw [isl_nil] at h2; subst h2
 rw [is_v.1 h1]
 exact (bits_lz32 hx).mono fun v G' _ h => is_v.2 h
theorem dg_len_ge {a k : Nat} (h : 4294967296 ^ k ≤ a) : k < (dg a).length := by
 have h1 := dg_lt_pow a
 rcases Nat.lt_or_ge k (dg a).length with q | q
 · exact q
 · have : 4294967296 ^ (dg a).length ≤ 4294967296 ^ k := Nat.pow_le_pow_right (by decide) q
   omega
theorem dg_top {v L : Nat} (hL : L = (dg v).length) (h1 : 1 ≤ L) : (dg v).getD (L - 1) 0 = v / 4294967296 ^ (L - 1) ∧ 0 < v / 4294967296 ^ (L - 1) := by
 have h := dv_two (dg_ok v) (L - 1)
 rw [getD_out (by omega : (dg v).length ≤ L - 1 + 1), dv_dg, Nat.mul_zero, Nat.add_zero] at h
 have h2 := dg_lt_pow v
 rw [← hL] at h2
 rw [Nat.div_eq_of_lt (show v < 4294967296 ^ (L - 1 + 2) from Nat.lt_of_lt_of_le h2 (Nat.pow_le_pow_right (by decide) (by omega))), Nat.mul_zero, Nat.add_zero] at h
 have h3 := nrm_ge (dg_spec v).2.2 (by intro e; rw [e] at hL; simp at hL; omega)
 rw [dv_dg, ← hL] at h3
 exact ⟨h.symm, Nat.div_pos h3 (Nat.pow_pos (by decide))⟩
theorem lead_eq {R n : Nat} (h1 : 1 ≤ n) (h : R < 4294967296 ^ (n + 1)) : R / 4294967296 ^ (n - 1) = (dg R).getD (n - 1) 0 + (dg R).getD n 0 * 4294967296 := by
 have e := dv_two (dg_ok R) (n - 1)
 rw [dv_dg, show n - 1 + 1 = n by omega, Nat.div_eq_of_lt (show R < 4294967296 ^ (n - 1 + 2) by rwa [show n - 1 + 2 = n + 1 by omega]), Nat.mul_zero, Nat.add_zero, Nat.mul_comm] at e
 exact e
theorem guess_ge {R v j L : Nat} (hL : L = (dg v).length) (h1 : 1 ≤ L) (hR : R < v * 4294967296 ^ (j + 1)) : R / (v * 4294967296 ^ j) ≤ min (R / 4294967296 ^ (L + j - 1) / (v / 4294967296 ^ (L - 1))) 4294967295 := by
 have ht := (dg_top hL h1).2
 have hp : 0 < 4294967296 ^ j := Nat.pow_pos (by decide)
 have hv0 : 0 < v := by
   rcases Nat.eq_zero_or_pos v with q | q
   · subst q; simp at ht
   · exact q
 have hvp : 0 < v * 4294967296 ^ j := Nat.mul_pos hv0 hp
 refine Nat.le_min.2 ⟨?_, ?_⟩
 · rw [Nat.le_div_iff_mul_le ht, Nat.le_div_iff_mul_le (Nat.pow_pos (by decide))]
   have h3 : v / 4294967296 ^ (L - 1) * 4294967296 ^ (L - 1) ≤ v := Nat.div_mul_le_self _ _
   have h4 : R / (v * 4294967296 ^ j) * (v * 4294967296 ^ j) ≤ R := Nat.div_mul_le_self _ _
   rw [show L + j - 1 = L - 1 + j by omega, Nat.pow_add]
   calc R / (v * 4294967296 ^ j) * (v / 4294967296 ^ (L - 1)) * (4294967296 ^ (L - 1) * 4294967296 ^ j)
       = R / (v * 4294967296 ^ j) * ((v / 4294967296 ^ (L - 1) * 4294967296 ^ (L - 1)) * 4294967296 ^ j) := by simp only [Nat.mul_assoc]
     _ ≤ R / (v * 4294967296 ^ j) * (v * 4294967296 ^ j) := Nat.mul_le_mul_left _ (Nat.mul_le_mul_right _ h3)
     _ ≤ R := h4
 · have : R / (v * 4294967296 ^ j) < 4294967296 := by
     rw [Nat.div_lt_iff_lt_mul hvp]
     rw [Nat.pow_succ] at hR
     rwa [Nat.mul_comm, Nat.mul_assoc]
   omega
theorem guess_down {R V g : Nat} (hV : 0 < V) (h : R < V * g) : R / V < g := by
 rw [Nat.div_lt_iff_lt_mul hV, Nat.mul_comm]; exact h
theorem guess_eq {R V g : Nat} (hV : 0 < V) (h1 : R / V ≤ g) (h2 : V * g ≤ R) : g = R / V := by
 have : g ≤ R / V := by rw [Nat.le_div_iff_mul_le hV, Nat.mul_comm]; exact h2
 omega
theorem long_inv {R0 R v j g : Nat} {W : List Nat} (hj : j < W.length) (h : R0 = R + dv (W.drop (j + 1)) * 4294967296 ^ (j + 1) * v) (hv : 0 < v * 4294967296 ^ j) (hg : g = R / (v * 4294967296 ^ j)) :
  R0 = (R - v * 4294967296 ^ j * g) + dv ((W.set j g).drop j) * 4294967296 ^ j * v ∧ R - v * 4294967296 ^ j * g < v * 4294967296 ^ j := by
 have h1 := Nat.div_add_mod R (v * 4294967296 ^ j)
 have h2 := Nat.mod_lt R hv
 rw [← hg] at h1
 refine ⟨?_, by omega⟩
 rw [drop_set_dig hj, Nat.add_mul, Nat.add_mul, h, Nat.pow_succ]
 have e : g * 4294967296 ^ j * v = v * 4294967296 ^ j * g := by simp only [Nat.mul_assoc, Nat.mul_left_comm, Nat.mul_comm]
 have e2 : dv (W.drop (j + 1)) * (4294967296 ^ j * 4294967296) * v = dv (W.drop (j + 1)) * 4294967296 * 4294967296 ^ j * v := by simp only [Nat.mul_assoc, Nat.mul_left_comm, Nat.mul_comm]
 rw [e, e2]
 omega
theorem long_end {a b s R : Nat} {D : Nat} (hR : R < b * 2 ^ s) (h : a * 2 ^ s = R + D * (b * 2 ^ s)) : D = a / b ∧ R / 2 ^ s = a % b := by
 have hp : 0 < 2 ^ s := Nat.pow_pos (by decide)
 have hb : 0 < b := by
   rcases Nat.eq_zero_or_pos b with q | q
   · subst q; simp at hR
   · exact q
 have h1 : a = R / 2 ^ s + D * b := by
   have := congrArg (· / 2 ^ s) h
   rw [Nat.mul_div_cancel _ hp, ← Nat.mul_assoc, Nat.add_mul_div_right _ _ hp] at this
   exact this
 have h2 : R / 2 ^ s < b := by rw [Nat.div_lt_iff_lt_mul hp]; exact hR
 have h3 : R / 2 ^ s + b * D = a := by rw [Nat.mul_comm b]; exact h1.symm
 have := (Nat.div_mod_unique hb).2 ⟨h3, h2⟩
 exact ⟨this.1.symm, this.2.symm⟩
theorem long_start {a b s : Nat} (hl : (dg b).length ≤ (dg a).length) (h2 : 1 ≤ (dg b).length) : a * 2 ^ s < b * 2 ^ s * 4294967296 ^ ((dg a).length - (dg b).length + 1) := by
 have h1 := dg_lt_pow a
 have h3 := nrm_ge (dg_spec b).2.2 (by intro e; rw [e] at h2; simp at h2)
 rw [dv_dg] at h3
 have h4 : 4294967296 ^ (dg a).length ≤ b * 4294967296 ^ ((dg a).length - (dg b).length + 1) := by
  rw [show (dg a).length = ((dg b).length - 1) + ((dg a).length - (dg b).length + 1) by omega, Nat.pow_add]
  rw [show (dg b).length - 1 + ((dg a).length - (dg b).length + 1) - (dg b).length + 1 = (dg a).length - (dg b).length + 1 by omega]
  exact Nat.mul_le_mul_right _ h3
 rw [Nat.mul_right_comm]
 exact Nat.mul_lt_mul_of_pos_right (Nat.lt_of_lt_of_le h1 h4) (Nat.pow_pos (by decide))
theorem left32 (x j : Nat) : x * 2 ^ (32 * j) = x * 4294967296 ^ j := by rw [Nat.pow_mul]
theorem lead_lt {R L j : Nat} (h : R < 4294967296 ^ (L + j + 1)) (h1 : 1 ≤ L) : R / 4294967296 ^ (L + j - 1) < 18446744073709551616 := by
 rw [Nat.div_lt_iff_lt_mul (Nat.pow_pos (by decide)), show (18446744073709551616 : Nat) = 4294967296 ^ 2 from rfl, ← Nat.pow_add]
 rwa [show 2 + (L + j - 1) = L + j + 1 by omega]
theorem long_len {R v j L : Nat} (hL : L = (dg v).length) (hR : R < v * 4294967296 ^ (j + 1)) : R < 4294967296 ^ (L + j + 1) := by
 have h := dg_lt_pow v
 rw [← hL] at h
 rw [Nat.add_assoc, Nat.pow_add]
 exact Nat.lt_of_lt_of_le hR (Nat.mul_le_mul_right _ (Nat.le_of_lt h))
set_option maxHeartbeats 4000000 in
theorem q_long {GB : Gh} {a b ia ib : Nat} [ha : BN a ia] [hb : BN b ib] (hi : ia ≤ 500000000) (hj : ib ≤ 500000000) (h2 : 1 ≤ (dg b).length) (hl : (dg b).length ≤ (dg a).length) : PF GB Tryz.prog 165 [dN a, dN b] (.tp [dN (a / b), dN (a % b)]) := by
 have hla := mapU_len (dg a)
 have hlb := mapU_len (dg b)
 have hba := dg_len_le ha.h
 have hba' : (dg a).length ≤ 20000000 := by omega
 refine fn Tryz.func165 rfl rfl Tryz.ntmps165 rfl rfl (fun C => ?_)
 refine ix _ rfl (mapU_getZ (k := (dg b).length - 1) (by omega) (by omega)) rfl <| cl (fu := ⟨0⟩) rfl (q_lz32 (dg_lt b ((dg b).length - 1))) rfl <| ?_
 obtain ⟨s, hs⟩ : ∃ s : Nat, s = 32 - bl ((dg b).getD ((dg b).length - 1) 0) := ⟨_, rfl⟩
 have hs32 : s ≤ 32 := by omega
 refine eqF 22 (.d (vI (s : Nat))) rfl (by show FX.d (.v (.int _ _)) = .d (.v (.int _ _)); congr 3; have := bl_le.2 (show (dg b).getD ((dg b).length - 1) 0 < 2 ^ 32 from dg_lt b _); omega) ?_
 refine gx rfl <| cl rfl (q_Left (a := b) (k := s) (ia := ib) (by omega) (by omega)) rfl <| cl (fu := ⟨0⟩) rfl (q_Left (a := a) (k := s) (ia := ia) (by omega) (by omega)) rfl <| ?_
 obtain ⟨v, hv⟩ : ∃ v, v = b * 2 ^ s := ⟨_, rfl⟩
 obtain ⟨R0, hR0⟩ : ∃ R0, R0 = a * 2 ^ s := ⟨_, rfl⟩
 refine eqF 25 (.d (dN v)) rfl (by rw [hv]) ?_
 refine eqF 28 (.d (dN R0)) rfl (by rw [hR0]) ?_
 obtain ⟨L, hL⟩ : ∃ L, L = (dg v).length := ⟨_, rfl⟩
 have hlv : ((dg v).map dU).length = L := by rw [mapU_len, hL]
 have hps : 2 ^ s ≤ 2 ^ 32 := Nat.pow_le_pow_right (by decide) hs32
 have hpp : 0 < 2 ^ s := Nat.pow_pos (by decide)
 have hst := long_start (a := a) (b := b) (s := s) hl h2
 rw [← hv, ← hR0] at hst
 have hvb : v < 2 ^ (ib + 32) := by rw [hv, Nat.pow_add]; exact Nat.mul_lt_mul_of_lt_of_le hb.h hps (by decide)
 have hRb : R0 < 2 ^ (ia + 32) := by rw [hR0, Nat.pow_add]; exact Nat.mul_lt_mul_of_lt_of_le ha.h hps (by decide)
 have hbp : 0 < b := Nat.pos_of_ne_zero (fun q => by subst q; rw [dg_zero] at h2; simp at h2)
 have hvp : 0 < v := hv ▸ Nat.mul_pos hbp hpp
 have hLp : 1 ≤ L := by rw [hL]; exact dg_len_ge (k := 0) (by rw [Nat.pow_zero]; exact hvp)
 have htop := dg_top hL hLp
 haveI hvB : BN v (ib + 32) := ⟨hvb⟩
 have hLb := dg_len_le hvb
 have hLb' : L ≤ 20000000 := by omega
 have htl := dg_lt v (L - 1)
 refine gx (fu := ⟨9⟩) rfl <| ?_
 refine eqF 31 (.d (vI (L : Nat))) rfl (by rw [hlv]; rfl) ?_
 refine gx rfl <| ix (fu := ⟨2⟩) _ rfl (mapU_getZ (k := L - 1) (by omega) (by omega)) rfl <| ?_
 refine eqF 35 (.d (.v (.int .u64 (v / 4294967296 ^ (L - 1) : Nat)))) rfl (by rw [htop.1]) ?_
 rw [htop.1] at htl
 refine gx (fu := ⟨11⟩) rfl <| ?_
 obtain ⟨m, hm⟩ : ∃ m, m = (dg a).length - (dg b).length + 1 := ⟨_, rfl⟩
 rw [← hm] at hst
 have hrl : (List.replicate ((m : Nat) : Int).toNat (DV.v (.int .u32 0))).length = m := by rw [List.length_replicate, Int.toNat_natCast]
 refine eqF 41 (.d (vI (m : Nat))) rfl (by show FX.d (.v (.int _ _)) = .d (.v (.int _ _)); congr 3; omega) ?_
 refine gx rfl <| mk ((List.replicate m 0).map dU) rfl rfl (by rw [← mapU_rep]; rfl) rfl <| ?_
 refine lp (X := List Nat × Nat × Nat) (fun ⟨W, R, k⟩ => [(6, .d (vI (s : Nat))), (7, .d (dN v)), (8, .d (dN R)), (9, .d (.v (.int .u64 (v / 4294967296 ^ (L - 1) : Nat)))), (10, .rw 42), (11, .d (vI ((k : Nat) - 1)))]) (fun ⟨W, R, k⟩ => [(42, some (.b 224 1 (W.map dU) true))]) (fun ⟨W, R, k⟩ => W.length = m ∧ DOk W ∧ k ≤ m ∧ R0 = R + dv (W.drop k) * 4294967296 ^ k * v ∧ R < v * 4294967296 ^ k ∧ R ≤ R0) (fun ⟨W, R, k⟩ => k) ⟨List.replicate m 0, R0, m⟩ rfl ⟨by simp, .replicate _, Nat.le_refl _, by simp [dv], hst, Nat.le_refl _⟩ (fun _ => rfl) (fun ⟨W, R, k⟩ hk => ?_)
 dsimp only at hk ⊢
 obtain ⟨h1, h2', h3, h4, h5, h6⟩ := hk
 have hlw := mapU_len W
 refine br (fu1 := ⟨10⟩) rfl rfl rfl (fun hc47 => ?_) (fun hc47 => ?_)
 ·
  obtain ⟨j, rfl⟩ : ∃ j, k = j + 1 := ⟨k - 1, by omega⟩
  have hvj : 0 < v * 4294967296 ^ j := Nat.mul_pos hvp (Nat.pow_pos (by decide))
  have hge := guess_ge hL hLp h5
  have hlen := long_len hL h5
  have hlr : ((dg R).map dU).length = (dg R).length := mapU_len _
  haveI hRB : BN R (ia + 32) := ⟨by omega⟩
  have hq32 : R / (v * 4294967296 ^ j) < 4294967296 := by omega
  have hz1 := Int.natCast_nonneg (R / 4294967296 ^ (L + j - 1))
  have hz2 := Int.natCast_nonneg (R / 4294967296 ^ (L + j - 1) / (v / 4294967296 ^ (L - 1)))
  refine eqF 11 (.d (vI (j : Nat))) rfl (by show FX.d (.v (.int _ _)) = .d (.v (.int _ _)); congr 3; omega) ?_
  refine mg (fu := ⟨6⟩) (hv := fun _ _ => by simp only [allP]; exact ⟨(by omega), (by have := lead_lt hlen hLp; omega), (by omega)⟩) (X := Unit) (fun _ => [(6, .d (vI (s : Nat))), (7, .d (dN v)), (8, .d (dN R)), (9, .d (.v (.int .u64 (v / 4294967296 ^ (L - 1) : Nat)))), (10, .rw 42), (11, .d (vI (j : Nat))), (12, .d (.v (.int .u64 (R / 4294967296 ^ (L + j - 1) : Nat))))]) (fun _ => [(42, some (.b 224 1 (W.map dU) true))]) (fun _ => True) [6, 7, 8, 9, 10, 11, 12] [42] rfl ?_ (fun _ => rfl) (fun _ hm => ?_)
  ·
   refine gx (fu := ⟨4⟩) rfl <| ?_
   refine eqF 51 (.d (vI (L : Nat))) rfl (by rw [hlv]; rfl) ?_
   refine gx (fu := ⟨2⟩) rfl <| ?_
   refine eqF 53 (.d (vI (L + j : Nat))) rfl (by show FX.d (.v (.int _ _)) = .d (.v (.int _ _)); congr 3) ?_
   refine gx (fu := ⟨8⟩) rfl <| ?_
   refine eqF 56 (.d (vI ((dg R).length : Nat))) rfl (by rw [hlr]; rfl) ?_
   refine gx rfl <| ?_
   refine br (fu2 := ⟨6⟩) rfl rfl rfl (fun hc57 => ?_) (fun hc57 => ?_)
   ·
    have hd0 := dg_lt R (L + j - 1)
    have hd1 := dg_lt R (L + j)
    refine ix (hv := by simp only [allP]; exact ⟨⟨by omega, (by decide)⟩, by omega⟩) _ rfl (mapU_getZ (k := L + j) (by omega) (by omega)) rfl <| ix (fu := ⟨3⟩) _ rfl (mapU_getZ (k := L + j - 1) (by omega) (by omega)) rfl <| ?_
    refine eqF 70 (.d (.v (.int .u64 ((dg R).getD (L + j - 1) 0 + (dg R).getD (L + j) 0 * 4294967296 : Nat)))) rfl (congrArg (fun z : Nat => FX.d (.v (.int .u64 (z : Int)))) (by rw [shl_u64 _ 32 (by decide) (by show _ * 4294967296 < _; omega) rfl, BitVec.or_comm]; exact bv_or 64 ((dg R).getD (L + j - 1) 0) ((dg R).getD (L + j) 0) 32 hd0 (by show _ + _ * 4294967296 < 18446744073709551616; omega))) ?_
    refine gx rfl <| ?_
    refine eqF 12 (.d (.v (.int .u64 (R / 4294967296 ^ (L + j - 1) : Nat)))) rfl (by rw [lead_eq (by omega) hlen]) ?_
    exact at_ () trivial
   ·
    refine eqF 74 (.d (vI ((dg R).length : Nat))) rfl (by rw [hlr]; rfl) ?_
    refine gx rfl <| ?_
    refine br rfl rfl rfl (fun hc75 => ?_) (fun hc75 => ?_)
    ·
     have hd0 := dg_lt R (L + j - 1)
     refine ix _ rfl (mapU_getZ (k := L + j - 1) (by omega) (by omega)) rfl <| ?_
     refine eqF 12 (.d (.v (.int .u64 (R / 4294967296 ^ (L + j - 1) : Nat)))) rfl (by rw [lead_eq (by omega) hlen, getD_out (by omega : (dg R).length ≤ L + j), Nat.zero_mul, Nat.add_zero]) ?_
     exact at_ () trivial
    ·
     refine eqF 12 (.d (.v (.int .u64 (R / 4294967296 ^ (L + j - 1) : Nat)))) rfl (by rw [lead_eq (by omega) hlen, getD_out (by omega : (dg R).length ≤ L + j), getD_out (by omega : (dg R).length ≤ L + j - 1)]; rfl) ?_
     exact at_ () trivial
  ·
   obtain ⟨g0, hg0'⟩ : ∃ g0, g0 = min (R / 4294967296 ^ (L + j - 1) / (v / 4294967296 ^ (L - 1))) 4294967295 := ⟨_, rfl⟩
   rw [← hg0'] at hge
   have hg0 := hge
   have hg1 : g0 ≤ 4294967295 := by omega
   refine eqF 85 (.d (.v (.int .u64 (g0 : Nat)))) rfl (by show FX.d (.v (.int _ _)) = .d (.v (.int _ _)); congr 3; rw [← Int.natCast_ediv]; split <;> omega) ?_
   refine gx rfl <| cl rfl (q_Word (u := g0) (by omega)) rfl <| cl (fu := ⟨2⟩) rfl (q_Product (ia := ib + 32) (ib := 32) (hb := ⟨by show _ < 4294967296; omega⟩) (by omega) (by decide)) rfl <| ?_
   refine eqF 91 (.d (vI (32 * j : Nat))) rfl (by show FX.d (.v (.int _ _)) = .d (.v (.int _ _)); congr 3) ?_
   refine gx rfl <| cl (fu := ⟨0⟩) rfl (q_Left (k := 32 * j) (ia := ib + 64) (ha := ⟨by rw [show ib + 64 = ib + 32 + 32 by omega, Nat.pow_add]; exact Nat.mul_lt_mul'' hvb (by show _ < 4294967296; omega)⟩) (by omega) (by omega)) rfl <| ?_
   refine eqF 92 (.d (dN (v * 4294967296 ^ j * g0))) rfl (by rw [left32, Nat.mul_right_comm]) ?_
   refine gx rfl <| ?_
   refine lp (X := Nat) (fun g => [(6, .d (vI (s : Nat))), (7, .d (dN v)), (8, .d (dN R)), (9, .d (.v (.int .u64 (v / 4294967296 ^ (L - 1) : Nat)))), (10, .rw 42), (11, .d (vI (j : Nat))), (14, .d (.v (.int .u64 (g : Nat)))), (15, .d (dN (v * 4294967296 ^ j * g)))]) (fun g => [(42, some (.b 224 1 (W.map dU) true))]) (fun g => R / (v * 4294967296 ^ j) ≤ g ∧ g ≤ 4294967295) (fun g => g) g0 rfl ⟨hg0, by omega⟩ (fun _ => rfl) (fun g hk => ?_)
   obtain ⟨g1, g2⟩ := hk
   have hlw := mapU_len W
   refine cl rfl (q_Cmp (a := v * 4294967296 ^ j * g) (b := R) (by have := dg_len_of (a := v * 4294967296 ^ j * g) (k := L + j + 1) (by have h1 := dg_lt_pow v; rw [← hL] at h1; rw [Nat.pow_succ, Nat.pow_add]; exact Nat.mul_lt_mul'' (Nat.mul_lt_mul_of_pos_right h1 (Nat.pow_pos (by decide))) (by omega)); omega) (by have := dg_len_of hlen; omega)) rfl <| ?_
   refine br (fu1 := ⟨7⟩) (v1 := fun hc96 => by simp only [allP]; exact (by have h := guess_down hvj (cmpN_pos.1 hc96); have h1 : 1 ≤ g := Nat.lt_of_le_of_lt (Nat.zero_le _) h; omega)) (fu2 := ⟨11⟩) rfl rfl rfl (fun hc96 => ?_) (fun hc96 => ?_)
   ·
    have hgd := guess_down hvj (cmpN_pos.1 hc96)
    have hg1p : 1 ≤ g := Nat.lt_of_le_of_lt (Nat.zero_le _) hgd
    refine eqF 98 (.d (.v (.int .u64 ((g - 1 : Nat) : Int)))) rfl (by show FX.d (.v (.int _ _)) = .d (.v (.int _ _)); congr 3; omega) ?_
    refine gx rfl <| cl rfl (q_Word (u := g - 1) (by omega)) rfl <| cl (fu := ⟨2⟩) rfl (q_Product (ia := ib + 32) (ib := 32) (hb := ⟨by show _ < 4294967296; omega⟩) (by omega) (by decide)) rfl <| ?_
    refine eqF 104 (.d (vI (32 * j : Nat))) rfl (by show FX.d (.v (.int _ _)) = .d (.v (.int _ _)); congr 3) ?_
    refine gx rfl <| cl (fu := ⟨0⟩) rfl (q_Left (k := 32 * j) (ia := ib + 64) (ha := ⟨by rw [show ib + 64 = ib + 32 + 32 by omega, Nat.pow_add]; exact Nat.mul_lt_mul'' hvb (by show _ < 4294967296; omega)⟩) (by omega) (by omega)) rfl <| ?_
    refine eqF 105 (.d (dN (v * 4294967296 ^ j * (g - 1)))) rfl (by rw [left32, Nat.mul_right_comm]) ?_
    refine gx rfl <| ?_
    exact at_ (g - 1) ⟨⟨by have h := guess_down hvj (cmpN_pos.1 hc96); omega, by omega⟩, (by have := guess_down hvj (cmpN_pos.1 hc96); omega)⟩
   ·
    have hgq := guess_eq hvj g1 (Nat.le_of_not_lt fun q => hc96 (cmpN_pos.2 q))
    refine eqF 109 (.d (dU g)) rfl (by show FX.d (.v (.int _ _)) = .d (.v (.int _ _)); congr 3; omega) ?_
    refine gx rfl <| sb _ ((W.set j (R / (v * 4294967296 ^ j))).map dU) rfl (mapU_getZ (k := j) (by omega) (by omega)) rfl (by (rw [← hgq, Int.toNat_natCast, ← mapU_set]) <;> rfl) rfl <| ?_
    refine cl (fu := ⟨0⟩) rfl (q_Less (a := R) (b := v * 4294967296 ^ j * g) (ia := ia + 32) (by rw [hgq]; exact Nat.mul_div_le _ _) (by omega)) rfl <| ?_
    refine eqF 113 (.d (dN (R - v * 4294967296 ^ j * (R / (v * 4294967296 ^ j))))) rfl (by rw [hgq]) ?_
    refine gx rfl <| ?_
    exact at_ ⟨W.set j (R / (v * 4294967296 ^ j)), R - v * 4294967296 ^ j * (R / (v * 4294967296 ^ j)), j⟩ (by dsimp only; exact ⟨⟨by simpa using h1, h2'.set _ (by omega), by omega, (long_inv (by omega) h4 hvj rfl).1, (long_inv (by omega) h4 hvj rfl).2, by omega⟩, (by omega)⟩)
 ·
  obtain rfl : k = 0 := by omega
  rw [Nat.pow_zero, Nat.mul_one] at h5
  rw [Nat.pow_zero, Nat.mul_one, List.drop_zero, hR0, hv] at h4
  rw [hv] at h5
  have hend := long_end h5 h4
  haveI hRB : BN R (ia + 32) := ⟨by omega⟩
  refine fz 42 rfl rfl <| cl rfl (q_Trim (ds := W) (by omega)) rfl <| cl rfl (q_Right (a := R) (k := s) (ia := ia + 32) (by omega) (by omega)) rfl <| ?_
  exact rz rfl (by show DV.tp [dLi _, dN _] = .tp [dN _, dN _]; rw [dL_trim h2' hend.1, hend.2])
end Go.Sx
end

section
set_option maxRecDepth 100000
namespace Go.Sx
open Go Go.Proofs
theorem dg_len_mono {a b : Nat} (h : b ≤ a) : (dg b).length ≤ (dg a).length := dg_len_of (Nat.lt_of_le_of_lt h (dg_lt_pow a))
set_option maxHeartbeats 4000000 in
theorem q_Divide {GB : Gh} {a b ia ib : Nat} [ha : BN a ia] [hb : BN b ib] (hb0 : 0 < b) (hi : ia ≤ 500000000 := by decide) (hj : ib ≤ 500000000 := by decide) : PF GB Tryz.prog 121 [dN a, dN b] (.tp [dN (a / b), dN (a % b)]) := by
 have hla := mapU_len (dg a)
 have hlb := mapU_len (dg b)
 have hba := dg_len_le ha.h
 have hbb := dg_len_le hb.h
 have hba' : (dg a).length ≤ 20000000 := by omega
 have hbb' : (dg b).length ≤ 20000000 := by omega
 have hlb1 : 1 ≤ (dg b).length := dg_len_ge (k := 0) (by rw [Nat.pow_zero]; exact hb0)
 refine fn (fu := ⟨7⟩) Tryz.func121 rfl rfl Tryz.ntmps121 rfl rfl (fun C => ?_)
 refine mg (X := Unit) (fun _ => [(0, .d (dN a)), (1, .d (dN b))]) (fun _ => []) (fun _ => True) [0, 1] [] rfl ?_ (fun _ => rfl) (fun _ hm => ?_)
 ·
  refine gx rfl <| cl rfl (q_word (a := a) (ia := ia) (by omega)) rfl <| ?_
  refine bd (fu1 := ⟨0⟩) rfl rfl rfl (fun hc18 => ?_) (fun hc18 => ?_)
  ·
   refine eqF 6 (.d (.v (.int .u64 (a : Nat)))) rfl (by rw [if_pos hc18]) ?_
   refine gx rfl <| cl rfl (q_word (a := b) (ia := ib) (by omega)) rfl <| ?_
   refine bd (fu1 := ⟨0⟩) rfl rfl rfl (fun hc24 => ?_) (fun hc24 => ?_)
   ·
    refine eqF 8 (.d (.v (.int .u64 (b : Nat)))) rfl (by rw [if_pos hc24]) ?_
    have hdl := Nat.div_le_self a b
    have hml := Nat.mod_le a b
    refine gx (hv := by simp only [allP]; exact ⟨(by omega), (by omega), (by omega)⟩) rfl <| cl (hv := by simp only [allP]; exact ⟨(by omega), (by omega)⟩) rfl (q_Word (u := a / b) (by omega)) rfl <| cl rfl (q_Word (u := a % b) (by omega)) rfl <| ?_
    exact rz rfl rfl
   ·
    exact at_ () trivial
  ·
   exact at_ () trivial
 ·
  refine cl rfl (q_Cmp (by omega) (by omega)) rfl <| ?_
  refine br rfl rfl rfl (fun hc36 => ?_) (fun hc36 => ?_)
  ·
   have hab := cmpN_neg.1 hc36
   refine ro0 rfl rfl <| ap _ rfl rfl (slOkU _) rfl <| ?_
   refine fzE 39 rfl ?_
   exact rz rfl (by show DV.tp [_, .sl ([] ++ _)] = .tp [_, _]; rw [Nat.div_eq_of_lt hab, Nat.mod_eq_of_lt hab, dN_zero]; rfl)
  ·
   have hab : b ≤ a := Nat.le_of_not_lt fun q => hc36 (cmpN_neg.2 q)
   have hlab : (dg b).length ≤ (dg a).length := dg_len_mono hab
   refine br (fu1 := ⟨4⟩) rfl rfl rfl (fun hc42 => ?_) (fun hc42 => ?_)
   ·
    have hb1 : b < 4294967296 := by have := dg_lt_pow b; rw [show (dg b).length = 1 by omega] at this; omega
    have hbd : (dg b).getD 0 0 = b := dg_one_digit (by omega)
    refine eqF 44 (.d (vI ((dg a).length : Nat))) rfl (by rw [hla]; rfl) ?_
    refine gx rfl <| mk (fu := ⟨13⟩) ((List.replicate (dg a).length 0).map dU) rfl rfl (by rw [← mapU_rep]; rfl) rfl <| ?_
    refine eqF 47 (.d (vI ((dg a).length : Nat))) rfl (by rw [hla]; rfl) ?_
    refine gx rfl <| ?_
    refine lp (X := List Nat × Nat) (fun ⟨W, k⟩ => [(0, .d (dN a)), (1, .d (dN b)), (10, .rw 45), (11, .d (dU (dv ((dg a).drop k) % b))), (12, .d (vI ((k : Nat) - 1)))]) (fun ⟨W, k⟩ => [(45, some (.b 224 1 (W.map dU) true))]) (fun ⟨W, k⟩ => W.length = (dg a).length ∧ DOk W ∧ k ≤ (dg a).length ∧ dv (W.drop k) = dv ((dg a).drop k) / b) (fun ⟨W, k⟩ => k) ⟨List.replicate (dg a).length 0, (dg a).length⟩ rfl ⟨by simp, .replicate _, Nat.le_refl _, by simp [dv]⟩ (fun _ => rfl) (fun ⟨W, k⟩ hk => ?_) (hF := (by refine ⟨rfl, rfl, rfl, leI rfl (by simp [dv, dU]), leI rfl (by simp [vI]), ?_⟩; repeat (first | exact trivial | refine And.intro rfl ?_)))
    try dsimp only at hk ⊢
    obtain ⟨h1, h2, h3, h4⟩ := hk
    have hlw := mapU_len W
    refine br (fu1 := ⟨0⟩) rfl rfl rfl (fun hc50 => ?_) (fun hc50 => ?_)
    ·
     obtain ⟨k, rfl⟩ : ∃ j, k = j + 1 := ⟨k - 1, by omega⟩
     have hsi := short_inv hb0 (by omega) h1 h4
     have hrm := Nat.mod_lt (dv ((dg a).drop (k + 1))) hb0
     have hdk := dg_lt a k
     have hqd : (dv ((dg a).drop (k + 1)) % b * 4294967296 + (dg a).getD k 0) / b < 4294967296 := by rw [Nat.div_lt_iff_lt_mul hb0]; have := Nat.mul_le_mul_left 4294967296 (show dv ((dg a).drop (k + 1)) % b + 1 ≤ b from hrm); omega
     refine eqF 12 (.d (vI (k : Nat))) rfl (by show FX.d (.v (.int _ _)) = .d (.v (.int _ _)); congr 3; omega) ?_
     refine gx rfl <| ix _ rfl (mapU_getZ (k := k) (by omega) (by omega)) rfl <| ix _ rfl (mapU_getZ (k := 0) rfl (by omega)) rfl <| cl rfl (q_Div32 (h := dv ((dg a).drop (k + 1)) % b) (l := (dg a).getD k 0) (y := (dg b).getD 0 0) (by omega) hdk (by omega)) rfl <| ?_
     refine sb (hv := by simp only [allP]; exact ⟨by kernel_rfl, by omega⟩) _ ((W.set k ((dv ((dg a).drop (k + 1)) % b * 4294967296 + (dg a).getD k 0) / b)).map dU) rfl (mapU_getZ (k := k) (by omega) (by omega)) rfl (by (rw [hbd, Int.toNat_natCast, ← mapU_set]) <;> rfl) rfl <| ?_
     exact at_ ⟨W.set k ((dv ((dg a).drop (k + 1)) % b * 4294967296 + (dg a).getD k 0) / b), k⟩ (by dsimp only; exact ⟨⟨by simpa using h1, h2.set _ hqd, by omega, hsi.1⟩, (by omega)⟩) (by refine ⟨rfl, rfl, rfl, leI rfl (by rw [hsi.2, hbd]), leI rfl (by first | (simp [vI]; done) | (simp [vI]; omega)), ?_⟩; repeat (first | exact trivial | refine And.intro rfl ?_))
    ·
     refine fz 45 rfl rfl <| cl rfl (q_Trim (ds := W) (by omega)) rfl <| rf rfl rfl <| cl rfl (q_Trim (ds := [dv ((dg a).drop k) % b]) (by simp)) rfl <| ?_
     exact rz rfl (by show DV.tp [dLi _, dLi _] = .tp [_, _]; obtain rfl : k = 0 := (by omega); rw [List.drop_zero, List.drop_zero, dv_dg] at h4; rw [List.drop_zero, dv_dg]; rw [dL_trim h2 h4, dL_trim (.cons (by have := Nat.mod_lt a hb0; omega) .nil) (n := a % b) (by simp [dv])])
   ·
    refine cl rfl (q_long (by omega) (by omega) hlb1 hlab) rfl <| ?_
    exact rz rfl rfl
theorem gcd_next (x y : Nat) : Nat.gcd y (x % y) = Nat.gcd x y := by rw [Nat.gcd_comm x y, Nat.gcd_rec y x, Nat.gcd_comm]
set_option maxHeartbeats 4000000 in
theorem q_Common {GB : Gh} {a b ia ib : Nat} [ha : BN a ia] [hb : BN b ib] (hi : ia ≤ 240000000 := by decide) (hj : ib ≤ 240000000 := by decide) : PF GB Tryz.prog 73 [dN a, dN b] (dN (Nat.gcd a b)) := by
 refine fn (fu := ⟨6⟩) Tryz.func73 rfl rfl Tryz.ntmps73 rfl rfl (fun C => ?_)
 refine mg (X := Unit) (fun _ => [(0, .d (dN a)), (1, .d (dN b))]) (fun _ => []) (fun _ => True) [0, 1] [] rfl ?_ (fun _ => rfl) (fun _ hm => ?_)
 ·
  refine gx rfl <| cl rfl (q_word (a := a) (ia := ia) (by omega)) rfl <| ?_
  refine bd (fu1 := ⟨0⟩) rfl rfl rfl (fun hc16 => ?_) (fun hc16 => ?_)
  ·
   refine eqF 5 (.d (.v (.int .u64 (a : Nat)))) rfl (by rw [if_pos hc16]) ?_
   refine gx rfl <| cl rfl (q_word (a := b) (ia := ib) (by omega)) rfl <| ?_
   refine bd (fu1 := ⟨0⟩) rfl rfl rfl (fun hc22 => ?_) (fun hc22 => ?_)
   ·
    refine eqF 7 (.d (.v (.int .u64 (b : Nat)))) rfl (by rw [if_pos hc22]) ?_
    refine gx rfl <| ?_
    refine lp (X := Nat × Nat) (fun ⟨x, y⟩ => [(5, .d (.v (.int .u64 (x : Nat)))), (7, .d (.v (.int .u64 (y : Nat))))]) (fun ⟨x, y⟩ => []) (fun ⟨x, y⟩ => x < 18446744073709551616 ∧ y < 18446744073709551616 ∧ Nat.gcd x y = Nat.gcd a b) (fun ⟨x, y⟩ => y) ⟨a, b⟩ rfl ⟨hc16, hc22, rfl⟩ (fun _ => rfl) (fun ⟨x, y⟩ hk => ?_)
    try dsimp only at hk ⊢
    obtain ⟨h1, h2, h3⟩ := hk
    refine br (v1 := fun hc24 => by simp only [allP]; exact ⟨⟨(by omega), (by omega)⟩, by kernel_rfl⟩) rfl rfl rfl (fun hc24 => ?_) (fun hc24 => ?_)
    ·
     exact at_ ⟨y, x % y⟩ (by dsimp only; exact ⟨⟨h2, by have := Nat.mod_lt x (show 0 < y by omega); omega, by rw [gcd_next, h3]⟩, (by exact Nat.mod_lt _ (by omega))⟩)
    ·
     refine cl rfl (q_Word (u := x) h1) rfl <| ?_
     exact rz rfl (by show dN x = _; rw [← h3, show y = 0 by omega, Nat.gcd_zero_right])
   ·
    exact at_ () trivial
  ·
   exact at_ () trivial
 ·
  refine lp (fu := ⟨5⟩) (X := Nat × Nat) (fun ⟨x, y⟩ => [(0, .d (dN x)), (1, .d (dN y))]) (fun ⟨x, y⟩ => []) (fun ⟨x, y⟩ => x < 2 ^ (ia + ib) ∧ y < 2 ^ (ia + ib) ∧ Nat.gcd x y = Nat.gcd a b) (fun ⟨x, y⟩ => y) ⟨a, b⟩ rfl ⟨(ha.mono (by omega)).h, (hb.mono (by omega)).h, rfl⟩ (fun _ => rfl) (fun ⟨x, y⟩ hk => ?_)
  try dsimp only at hk ⊢
  obtain ⟨h1, h2, h3⟩ := hk
  have hly := mapU_len (dg y)
  haveI hx' : BN x (ia + ib) := ⟨h1⟩
  haveI hy' : BN y (ia + ib) := ⟨h2⟩
  refine eqF 32 (.d (vI ((dg y).length : Nat))) rfl (by rw [hly]; rfl) ?_
  refine gx rfl <| ?_
  refine br rfl rfl rfl (fun hc33 => ?_) (fun hc33 => ?_)
  ·
   have hy0 : 0 < y := Nat.pos_of_ne_zero fun q => by subst q; rw [dg_zero] at hc33; simp at hc33
   refine cl rfl (q_Divide (a := x) (b := y) (ia := ia + ib) (ib := ia + ib) hy0 (by omega) (by omega)) rfl <| ?_
   exact at_ ⟨y, x % y⟩ (by dsimp only; exact ⟨⟨h2, by have := Nat.mod_lt x hy0; omega, by rw [gcd_next, h3]⟩, (by exact Nat.mod_lt _ hy0)⟩)
  ·
   have hy0 : y = 0 := dg_len_zero.1 (by omega)
   have hlx := dg_len_le h1
   have hmx := mapU_len (dg x)
   refine ro0 rfl rfl <| ap _ rfl rfl (slOkU _) rfl <| ?_
   refine fzE 44 rfl ?_
   exact rz rfl (by show DV.sl ([] ++ _) = _; rw [← h3, hy0, Nat.gcd_zero_right]; rfl)
theorem eI_zv (neg : Bool) (m : Nat) : eI (zv neg m) = .ag [.v (.bool (neg && decide (0 < m))), dN m] := by unfold eI; rw [zv_abs, zv_neg_lt]
theorem zv_opp (z : Int) : zv (!decide (z < 0)) z.natAbs = -z := by
 unfold zv
 by_cases h : z < 0 <;> simp [h] <;> omega
theorem zv_mulI (a b : Int) : zv (!(decide (a < 0) == decide (b < 0))) (a.natAbs * b.natAbs) = a * b := by
 have h := zv_mul (decide (a < 0)) (decide (b < 0)) a.natAbs b.natAbs
 rw [zv_eta, zv_eta] at h
 exact h
theorem q_Make {GB : Gh} {neg : Bool} {m : Nat} : PF GB Tryz.prog 93 [.v (.bool neg), dN m] (eI (zv neg m)) := by
 have hl := mapU_len (dg m)
 have hz := @dg_len_zero m
 refine fn Tryz.func93 rfl rfl Tryz.ntmps93 rfl rfl (fun C => ?_)
 refine csb 6 rfl rfl rfl (fun hg6 => ?_) (fun hg6 => ?_)
 ·
  exact rz rfl (by rw [eI_zv, hg6]; show DV.ag [.v (.bool _), _] = .ag [.v (.bool _), _]; congr 4; rw [Bool.true_and]; exact decide_eq_decide.2 (by omega))
 ·
  exact rz rfl (by rw [eI_zv, hg6]; rfl)
end Go.Sx
end

section
set_option maxRecDepth 100000
namespace Go.Sx
open Go
/-! ### values -/
theorem val_def (l : LnQ) (p : PtQ) : l.value p = (l.a : Rat) * p.x + (l.b : Rat) * p.y + (l.c : Rat) := rfl
theorem val_rev (l : LnQ) (p : PtQ) : l.rev.value p = -l.value p := by
 rw [val_def, val_def]
 have h1 : ((l.rev.a : Int) : Rat) = -(l.a : Rat) := (rat_neg_int l.a).symm
 have h2 : ((l.rev.b : Int) : Rat) = -(l.b : Rat) := (rat_neg_int l.b).symm
 have h3 : ((l.rev.c : Int) : Rat) = -(l.c : Rat) := (rat_neg_int l.c).symm
 rw [h1, h2, h3]; grind
def segQ (q p : PtQ) (e : Rat) : PtQ := ⟨q.x + e * (p.x - q.x), q.y + e * (p.y - q.y)⟩
theorem val_seg (l : LnQ) (q p : PtQ) (e : Rat) : l.value (segQ q p e) = l.value q + e * (l.value p - l.value q) := by
 simp only [val_def, segQ]; grind
def movQ (q u : PtQ) (e : Rat) : PtQ := ⟨q.x + e * u.x, q.y + e * u.y⟩
theorem val_mov (l : LnQ) (q u : PtQ) (e : Rat) : l.value (movQ q u e) = l.value q + e * l.nor.dot u := by
 simp only [val_def, movQ, LnQ.nor, PtQ.dot]; grind
theorem rat_mul_pos {a b : Rat} (ha : 0 < a) (hb : 0 < b) : 0 < a * b := Rat.mul_pos ha hb
theorem rat_mul_nonneg {a b : Rat} (ha : 0 ≤ a) (hb : 0 ≤ b) : 0 ≤ a * b := Rat.mul_nonneg ha hb
theorem rat_sq_nonneg (a : Rat) : 0 ≤ a * a := by
 by_cases h : 0 ≤ a
 · exact rat_mul_nonneg h h
 · have := rat_mul_nonneg (a := -a) (b := -a) (by grind) (by grind)
   grind
theorem rat_mul_pos_iff {s k : Rat} (hk : 0 < k) : 0 < s * k ↔ 0 < s := by
 constructor
 · intro h
   by_cases hs : 0 < s
   · exact hs
   · have := rat_mul_nonneg (a := -s) (b := k) (by grind) (by grind)
     grind
 · intro h; exact rat_mul_pos h hk
theorem rat_mul_nonneg_iff {s k : Rat} (hk : 0 < k) : 0 ≤ s * k ↔ 0 ≤ s := by
 constructor
 · intro h
   by_cases hs : 0 ≤ s
   · exact hs
   · have := rat_mul_pos (a := -s) (b := k) (by grind) hk
     grind
 · intro h; exact rat_mul_nonneg h (by grind)
theorem lin_between {A B u v : Rat} (h0 : 0 ≤ A) (h1 : 0 ≤ A + v * B) (hu : 0 ≤ u) (huv : u ≤ v) : 0 ≤ A + u * B := by
 by_cases hB : 0 ≤ B
 · have := rat_mul_nonneg hu hB; grind
 · have := rat_mul_nonneg (a := v - u) (b := -B) (by grind) (by grind)
   grind
def LnQ.Ne (l : LnQ) : Prop := ¬ (l.a = 0 ∧ l.b = 0)
theorem LnQ.ok.ne {l : LnQ} (h : l.ok) : l.Ne := h.1
theorem nn_pos {l : LnQ} (h : l.Ne) : 0 < l.nor.dot l.nor := by
 show 0 < (l.a : Rat) * l.a + (l.b : Rat) * l.b
 have h1 := rat_sq_nonneg (l.a : Rat)
 have h2 := rat_sq_nonneg (l.b : Rat)
 by_cases ha : l.a = 0
 · have hb : l.b ≠ 0 := fun hb => h ⟨ha, hb⟩
   have hb' : (l.b : Rat) ≠ 0 := fun e => hb (Rat.intCast_eq_zero_iff.1 e)
   have : (l.b : Rat) * l.b ≠ 0 := by grind
   grind
 · have ha' : (l.a : Rat) ≠ 0 := fun e => ha (Rat.intCast_eq_zero_iff.1 e)
   have : (l.a : Rat) * l.a ≠ 0 := by grind
   grind
theorem base_q {l : LnQ} (h : l.Ne) : ∃ q : Rat, l.nor.dot l.nor * q = -(l.c : Rat) ∧ l.base = ⟨(l.a : Rat) * q, (l.b : Rat) * q⟩ := by
 refine ⟨-(l.c : Rat) / l.nor.dot l.nor, ?_, rfl⟩
 have := nn_pos h
 grind
theorem val_at (l m : LnQ) (t : Rat) : m.value (l.at t) = l.cutC m + t * l.cutK m := by
 simp only [LnQ.cutC, LnQ.cutK, val_def, LnQ.at, PtQ.add, PtQ.scale, LnQ.dir, LnQ.nor, PtQ.dot]; grind
theorem at_self {l : LnQ} (h : l.Ne) (t : Rat) : l.value (l.at t) = 0 := by
 obtain ⟨q, h1, h2⟩ := base_q h
 simp only [val_def, LnQ.at, h2, PtQ.add, PtQ.scale, LnQ.dir]
 simp only [LnQ.nor, PtQ.dot] at h1
 grind
theorem on_at {l : LnQ} (h : l.Ne) {p : PtQ} (hp : l.value p = 0) : ∃ t, p = l.at t := by
 obtain ⟨q, h1, h2⟩ := base_q h
 have hn := nn_pos h
 obtain ⟨x, y⟩ := p
 rw [val_def] at hp
 simp only [LnQ.nor, PtQ.dot] at h1 hn
 refine ⟨((l.b : Rat) * x - (l.a : Rat) * y) / ((l.a : Rat) * l.a + (l.b : Rat) * l.b), ?_⟩
 generalize ht : ((l.b : Rat) * x - (l.a : Rat) * y) / ((l.a : Rat) * l.a + (l.b : Rat) * l.b) = t
 have ht' : ((l.a : Rat) * l.a + (l.b : Rat) * l.b) * t = (l.b : Rat) * x - (l.a : Rat) * y := by grind
 simp only [LnQ.at, h2, PtQ.add, PtQ.scale, LnQ.dir, PtQ.mk.injEq]
 generalize (l.a : Rat) = a at *
 generalize (l.b : Rat) = b at *
 generalize (l.c : Rat) = c at *
 have e1 : (a * a + b * b) * (x - (a * q + b * t)) = 0 := by grind
 have e2 : (a * a + b * b) * (y - (b * q + -a * t)) = 0 := by grind
 constructor <;> grind
/-! ### intervals -/
def IvQ.has (v : IvQ) (t : Rat) : Prop := (v.nl = true ∨ v.lo ≤ t) ∧ (v.nh = true ∨ t ≤ v.hi)
def IvQ.ins (v : IvQ) (t : Rat) : Prop := (v.nl = true ∨ v.lo < t) ∧ (v.nh = true ∨ t < v.hi)
def IvQ.Pos (v : IvQ) : Prop := v.nl = true ∨ v.nh = true ∨ v.lo < v.hi
theorem rcmp_nonneg (a b : Rat) : 0 ≤ rcmp a b ↔ b ≤ a := by
 unfold rcmp; split
 · constructor
   · intro h; exact absurd h (by decide)
   · intro h; grind
 · split
   · constructor
     · intro _; grind
     · intro _; decide
   · constructor
     · intro _; grind
     · intro _; decide
theorem empty_iff (v : IvQ) : v.empty = false ↔ v.Pos := by
 obtain ⟨lo, hi, nl, nh⟩ := v
 unfold IvQ.empty IvQ.Pos
 cases nl <;> cases nh <;> simp [rcmp_nonneg]
 first | exact Rat.not_le | grind
theorem IvQ.ins.has {v : IvQ} {t : Rat} (h : v.ins t) : v.has t := by
 obtain ⟨h1, h2⟩ := h
 exact ⟨h1.imp id (fun h => Rat.le_of_lt h), h2.imp id (fun h => Rat.le_of_lt h)⟩
theorem half_eq : mkRat 1 2 = (1 : Rat) / 2 := by rw [Rat.mkRat_eq_div]; rfl
theorem ins_sample {v : IvQ} (h : v.Pos) : v.ins v.sample := by
 obtain ⟨lo, hi, nl, nh⟩ := v
 unfold IvQ.Pos at h
 unfold IvQ.ins IvQ.sample
 rw [half_eq]
 cases nl <;> cases nh <;> simp at * <;> grind
theorem meet_has (v w : IvQ) (t : Rat) : (v.meet w).has t ↔ v.has t ∧ w.has t := by
 obtain ⟨lo, hi, nl, nh⟩ := v
 obtain ⟨lo', hi', nl', nh'⟩ := w
 unfold IvQ.has IvQ.meet
 cases nl <;> cases nh <;> cases nl' <;> cases nh' <;> simp <;> grind
theorem meet_ins (v w : IvQ) (t : Rat) : (v.meet w).ins t ↔ v.ins t ∧ w.ins t := by
 obtain ⟨lo, hi, nl, nh⟩ := v
 obtain ⟨lo', hi', nl', nh'⟩ := w
 unfold IvQ.ins IvQ.meet
 cases nl <;> cases nh <;> cases nl' <;> cases nh' <;> simp <;> grind
theorem all_has (t : Rat) : IvQ.all.has t := ⟨.inl rfl, .inl rfl⟩
theorem all_Pos : IvQ.all.Pos := .inl rfl
theorem sgn_zero (k : Rat) : Int.sign k.num = 0 ↔ k = 0 := by rw [Int.sign_eq_zero_iff_zero, Rat.num_eq_zero]
theorem num_pos' (k : Rat) : 0 < k.num ↔ 0 < k := by
 have h1 : 0 ≤ k.num ↔ 0 ≤ k := Rat.num_nonneg
 have h2 : k.num = 0 ↔ k = 0 := Rat.num_eq_zero
 constructor
 · intro h
   have a := h1.1 (by omega)
   have b : k ≠ 0 := fun e => by have := h2.2 e; omega
   grind
 · intro h
   have a := h1.2 (by grind)
   have b : k.num ≠ 0 := fun e => by have := h2.1 e; grind
   omega
theorem sgn_one (k : Rat) : Int.sign k.num = 1 ↔ 0 < k := by rw [Int.sign_eq_one_iff_pos, num_pos']
theorem sgn_pos (k : Rat) : 0 < Int.sign k.num ↔ 0 < k := by
 rw [← sgn_one]
 rcases Int.lt_trichotomy k.num 0 with h | h | h
 · rw [Int.sign_eq_neg_one_of_neg h]; decide
 · rw [h]; decide
 · rw [Int.sign_eq_one_of_pos h]; decide
theorem sgn_neg (k : Rat) : Int.sign k.num < 0 ↔ k < 0 := by
 have h1 := sgn_zero k
 have h2 := sgn_pos k
 constructor
 · intro h
   by_cases hk : 0 < k
   · have := h2.2 hk; omega
   · by_cases h0 : k = 0
     · have := h1.2 h0; omega
     · grind
 · intro h
   have a1 : ¬ Int.sign k.num = 0 := fun e => by have := h1.1 e; grind
   have a2 : ¬ 0 < Int.sign k.num := fun e => by have := h2.1 e; grind
   omega
theorem cut_zero {l m : LnQ} (v : IvQ) (hk : l.cutK m = 0) : l.cutV v m = v ∧ (l.cutB v m = true ↔ 0 < l.cutC m) := by
 have h := (sgn_zero (l.cutK m)).2 hk
 unfold LnQ.cutV LnQ.cutB
 rw [if_pos h, if_pos h, decide_eq_true_iff, sgn_pos]
 exact ⟨rfl, Iff.rfl⟩
theorem cut_up {l m : LnQ} (v : IvQ) (hk : 0 < l.cutK m) : l.cutV v m = v.meet ⟨-(l.cutC m / l.cutK m), 0, false, true⟩ ∧ (l.cutB v m = true ↔ (l.cutV v m).Pos) := by
 have h0 : ¬ Int.sign (l.cutK m).num = 0 := fun e => by have := (sgn_zero _).1 e; grind
 have h1 := (sgn_one (l.cutK m)).2 hk
 constructor
 · unfold LnQ.cutV; rw [if_neg h0, if_pos h1]
 · unfold LnQ.cutB; rw [if_neg h0, ← empty_iff]; simp
theorem cut_dn {l m : LnQ} (v : IvQ) (hk : l.cutK m < 0) : l.cutV v m = v.meet ⟨0, -(l.cutC m / l.cutK m), true, false⟩ ∧ (l.cutB v m = true ↔ (l.cutV v m).Pos) := by
 have h0 : ¬ Int.sign (l.cutK m).num = 0 := fun e => by have := (sgn_zero _).1 e; grind
 have h1 : ¬ Int.sign (l.cutK m).num = 1 := fun e => by have := (sgn_one _).1 e; grind
 constructor
 · unfold LnQ.cutV; rw [if_neg h0, if_neg h1]
 · unfold LnQ.cutB; rw [if_neg h0, ← empty_iff]; simp
theorem up_le {C K t : Rat} (hk : 0 < K) : -(C / K) ≤ t ↔ 0 ≤ C + t * K := by
 have e : C = C / K * K := by grind
 generalize C / K = d at *
 rw [e, show d * K + t * K = (d + t) * K from by grind, rat_mul_nonneg_iff hk]
 grind
theorem up_lt {C K t : Rat} (hk : 0 < K) : -(C / K) < t ↔ 0 < C + t * K := by
 have e : C = C / K * K := by grind
 generalize C / K = d at *
 rw [e, show d * K + t * K = (d + t) * K from by grind, rat_mul_pos_iff hk]
 grind
theorem dn_le {C K t : Rat} (hk : K < 0) : t ≤ -(C / K) ↔ 0 ≤ C + t * K := by
 have e : C = C / K * K := by grind
 generalize C / K = d at *
 rw [e, show d * K + t * K = (-(d + t)) * (-K) from by grind, rat_mul_nonneg_iff (by grind)]
 grind
theorem dn_lt {C K t : Rat} (hk : K < 0) : t < -(C / K) ↔ 0 < C + t * K := by
 have e : C = C / K * K := by grind
 generalize C / K = d at *
 rw [e, show d * K + t * K = (-(d + t)) * (-K) from by grind, rat_mul_pos_iff (by grind)]
 grind
theorem rat_tri (k : Rat) : k = 0 ∨ 0 < k ∨ k < 0 := by grind
theorem cut_has {l m : LnQ} {v : IvQ} (hb : l.cutB v m = true) (t : Rat) : (l.cutV v m).has t ↔ v.has t ∧ 0 ≤ m.value (l.at t) := by
 rw [val_at]
 rcases rat_tri (l.cutK m) with hk | hk | hk
 · obtain ⟨h1, h2⟩ := cut_zero v hk
   rw [h1, hk]
   have := h2.1 hb
   constructor
   · intro h; exact ⟨h, by grind⟩
   · exact fun h => h.1
 · rw [(cut_up v hk).1, meet_has, ← up_le hk]
   simp [IvQ.has]
 · rw [(cut_dn v hk).1, meet_has, ← dn_le hk]
   simp [IvQ.has]
theorem cut_ins {l m : LnQ} {v : IvQ} (hb : l.cutB v m = true) (t : Rat) : (l.cutV v m).ins t ↔ v.ins t ∧ 0 < m.value (l.at t) := by
 rw [val_at]
 rcases rat_tri (l.cutK m) with hk | hk | hk
 · obtain ⟨h1, h2⟩ := cut_zero v hk
   rw [h1, hk]
   have := h2.1 hb
   constructor
   · intro h; exact ⟨h, by grind⟩
   · exact fun h => h.1
 · rw [(cut_up v hk).1, meet_ins, ← up_lt hk]
   simp [IvQ.ins]
 · rw [(cut_dn v hk).1, meet_ins, ← dn_lt hk]
   simp [IvQ.ins]
theorem cut_Pos {l m : LnQ} {v : IvQ} (hv : v.Pos) (hb : l.cutB v m = true) : (l.cutV v m).Pos := by
 rcases rat_tri (l.cutK m) with hk | hk | hk
 · rw [(cut_zero v hk).1]; exact hv
 · exact (cut_up v hk).2.1 hb
 · exact (cut_dn v hk).2.1 hb
theorem cut_no {l m : LnQ} {v : IvQ} (hv : v.Pos) (hb : l.cutB v m = false) {t : Rat} (ht : v.has t) : m.value (l.at t) ≤ 0 := by
 rw [val_at]
 have hb' : ¬ l.cutB v m = true := by rw [hb]; decide
 rcases rat_tri (l.cutK m) with hk | hk | hk
 · have h2 := (cut_zero v hk).2
   have : ¬ 0 < l.cutC m := fun h => hb' (h2.2 h)
   rw [hk]; grind
 · obtain ⟨h1, h2⟩ := cut_up v hk
   have hn : ¬ (l.cutV v m).Pos := fun h => hb' (h2.2 h)
   rw [h1] at hn
   have h3 := up_lt (C := l.cutC m) (t := t) hk
   suffices ¬ (-(l.cutC m / l.cutK m) < t) by grind
   generalize -(l.cutC m / l.cutK m) = d at *
   obtain ⟨lo, hi, nl, nh⟩ := v
   unfold IvQ.Pos IvQ.meet at hn
   unfold IvQ.Pos at hv
   unfold IvQ.has at ht
   cases nl <;> cases nh <;> simp at * <;> grind
 · obtain ⟨h1, h2⟩ := cut_dn v hk
   have hn : ¬ (l.cutV v m).Pos := fun h => hb' (h2.2 h)
   rw [h1] at hn
   have h3 := dn_lt (C := l.cutC m) (t := t) hk
   suffices ¬ (t < -(l.cutC m / l.cutK m)) by grind
   generalize -(l.cutC m / l.cutK m) = d at *
   obtain ⟨lo, hi, nl, nh⟩ := v
   unfold IvQ.Pos IvQ.meet at hn
   unfold IvQ.Pos at hv
   unfold IvQ.has at ht
   cases nl <;> cases nh <;> simp at * <;> grind
/-! ### cells -/
def InD (c : CellQ) (p : PtQ) : Prop := ∀ s ∈ c, 0 < s.l.value p
def InC (c : CellQ) (p : PtQ) : Prop := ∀ s ∈ c, 0 ≤ s.l.value p
theorem partV_some (l : LnQ) : ∀ (c : CellQ) (v w : IvQ), v.Pos → partV l c v = some w →
   w.Pos ∧ (∀ t, w.has t ↔ v.has t ∧ InC c (l.at t)) ∧ (∀ t, w.ins t ↔ v.ins t ∧ InD c (l.at t))
 | [], v, w, hv, h => by
   obtain rfl : v = w := by simpa [partV] using h
   exact ⟨hv, fun t => ⟨fun h => ⟨h, fun s hs => absurd hs (by simp)⟩, fun h => h.1⟩, fun t => ⟨fun h => ⟨h, fun s hs => absurd hs (by simp)⟩, fun h => h.1⟩⟩
 | s :: c, v, w, hv, h => by
   rw [partV] at h
   split at h
   · rename_i hb
     obtain ⟨h1, h2, h3⟩ := partV_some l c _ w (cut_Pos hv hb) h
     refine ⟨h1, fun t => ?_, fun t => ?_⟩
     · rw [h2, cut_has hb]
       simp only [InC, List.forall_mem_cons]
       exact and_assoc
     · rw [h3, cut_ins hb]
       simp only [InD, List.forall_mem_cons]
       exact and_assoc
   · exact absurd h (by simp)
theorem partV_none (l : LnQ) : ∀ (c : CellQ) (v : IvQ), v.Pos → partV l c v = none → ∀ t, v.has t → ¬ InD c (l.at t)
 | [], v, hv, h => by simp [partV] at h
 | s :: c, v, hv, h => by
   intro t ht hd
   have hd' := List.forall_mem_cons.1 hd
   rw [partV] at h
   split at h
   · rename_i hb
     exact partV_none l c _ (cut_Pos hv hb) h t ((cut_has hb t).2 ⟨ht, Rat.le_of_lt hd'.1⟩) hd'.2
   · rename_i hb
     have := cut_no hv (by simpa using hb) ht
     have := hd'.1
     grind
theorem InD.open : ∀ {c : CellQ} {q : PtQ} (u : PtQ), InD c q → ∃ e : Rat, 0 < e ∧ ∀ d, 0 ≤ d → d ≤ e → InD c (movQ q u d)
 | [], q, u, _ => ⟨1, by decide, fun d _ _ s hs => absurd hs (by simp)⟩
 | s :: c, q, u, h => by
   have h' := List.forall_mem_cons.1 h
   obtain ⟨e, he, hd⟩ := InD.open (c := c) u h'.2
   have hs := h'.1
   generalize hk : s.l.nor.dot u = k
   have hf : ∃ f : Rat, 0 < f ∧ ∀ d, 0 ≤ d → d ≤ f → 0 < s.l.value q + d * k := by
     by_cases hk0 : 0 ≤ k
     · exact ⟨1, by decide, fun d h1 _ => by have := rat_mul_nonneg h1 hk0; grind⟩
     · refine ⟨s.l.value q / (2 * -k), ?_, fun d h1 h2 => ?_⟩
       · have e1 : s.l.value q / (2 * -k) * (2 * -k) = s.l.value q := by grind
         exact (rat_mul_pos_iff (k := 2 * -k) (by grind)).1 (by rw [e1]; exact hs)
       · have e1 : s.l.value q / (2 * -k) * (2 * -k) = s.l.value q := by grind
         generalize s.l.value q / (2 * -k) = f at *
         have := rat_mul_nonneg (a := f - d) (b := -k) (by grind) (by grind)
         grind
   obtain ⟨f, hf0, hf⟩ := hf
   by_cases hef : e ≤ f
   · refine ⟨e, he, fun d h1 h2 => List.forall_mem_cons.2 ⟨?_, hd d h1 h2⟩⟩
     rw [val_mov, hk]; exact hf d h1 (by grind)
   · refine ⟨f, hf0, fun d h1 h2 => List.forall_mem_cons.2 ⟨?_, hd d h1 (by grind)⟩⟩
     rw [val_mov, hk]; exact hf d h1 h2
theorem first_exit : ∀ {c : CellQ} {q p : PtQ}, InD c q → (∃ s ∈ c, s.l.value p ≤ 0) →
   ∃ e : Rat, 0 ≤ e ∧ e ≤ 1 ∧ (∃ s ∈ c, s.l.value p ≤ 0 ∧ s.l.value (segQ q p e) = 0) ∧ InC c (segQ q p e)
 | [], q, p, _, h => by obtain ⟨s, hs, _⟩ := h; exact absurd hs (by simp)
 | s :: c, q, p, h, hex => by
   have h' := List.forall_mem_cons.1 h
   have hs := h'.1
   by_cases hc : ∃ s ∈ c, s.l.value p ≤ 0
   · obtain ⟨e, h0, h1, ⟨s1, m1, n1, z1⟩, hC⟩ := first_exit h'.2 hc
     by_cases hp : 0 ≤ s.l.value (segQ q p e)
     · exact ⟨e, h0, h1, ⟨s1, List.mem_cons_of_mem _ m1, n1, z1⟩, List.forall_mem_cons.2 ⟨hp, hC⟩⟩
     · rw [val_seg] at hp
       generalize hB : s.l.value p - s.l.value q = B at *
       have hB0 : B < 0 := by
         by_cases hB0 : 0 ≤ B
         · have := rat_mul_nonneg h0 hB0; grind
         · grind
       have e1 : s.l.value q / (-B) * (-B) = s.l.value q := by grind
       generalize hf : s.l.value q / (-B) = f at *
       have f0 : 0 ≤ f := (rat_mul_nonneg_iff (k := -B) (by grind)).1 (by rw [e1]; grind)
       have f1 : f ≤ e := by
         have := (rat_mul_nonneg_iff (s := e - f) (k := -B) (by grind)).1 (by grind)
         grind
       have z : s.l.value (segQ q p f) = 0 := by rw [val_seg, hB]; grind
       have np : s.l.value p ≤ 0 := by
         have := rat_mul_nonneg (a := 1 - e) (b := -B) (by grind) (by grind)
         grind
       refine ⟨f, f0, by grind, ⟨s, List.mem_cons_self, np, z⟩, List.forall_mem_cons.2 ⟨by rw [z]; exact Rat.le_refl, fun s2 m2 => ?_⟩⟩
       have a1 := h'.2 s2 m2
       have a2 := hC s2 m2
       rw [val_seg] at a2 ⊢
       exact lin_between (Rat.le_of_lt a1) a2 f0 f1
   · have np : s.l.value p ≤ 0 := by
       obtain ⟨s1, m1, n1⟩ := hex
       rcases List.mem_cons.1 m1 with rfl | m1
       · exact n1
       · exact absurd ⟨s1, m1, n1⟩ hc
     generalize hB : s.l.value p - s.l.value q = B at *
     have hB0 : B < 0 := by grind
     have e1 : s.l.value q / (-B) * (-B) = s.l.value q := by grind
     generalize hf : s.l.value q / (-B) = f at *
     have f0 : 0 ≤ f := (rat_mul_nonneg_iff (k := -B) (by grind)).1 (by rw [e1]; grind)
     have f1 : f ≤ 1 := by
       have := (rat_mul_nonneg_iff (s := 1 - f) (k := -B) (by grind)).1 (by grind)
       grind
     have z : s.l.value (segQ q p f) = 0 := by rw [val_seg, hB]; grind
     refine ⟨f, f0, f1, ⟨s, List.mem_cons_self, np, z⟩, List.forall_mem_cons.2 ⟨by rw [z]; exact Rat.le_refl, fun s2 m2 => ?_⟩⟩
     have a1 := h'.2 s2 m2
     have a2 : 0 < s2.l.value p := by
       by_cases h : 0 < s2.l.value p
       · exact h
       · exact absurd ⟨s2, m2, by grind⟩ hc
     rw [val_seg]
     have := lin_between (A := s2.l.value q) (B := s2.l.value p - s2.l.value q) (u := f) (v := 1) (Rat.le_of_lt a1) (by grind) f0 f1
     exact this
structure GoodC (c : CellQ) : Prop where
 ne : ∃ p, InD c p
 ok : ∀ s ∈ c, s.l.ok
 edge : ∀ s ∈ c, s.v.Pos ∧ ∀ t, s.v.has t ↔ InC c (s.l.at t)
theorem GoodC.nil : GoodC [] := ⟨⟨⟨0, 0⟩, fun s hs => absurd hs (by simp)⟩, fun s hs => absurd hs (by simp), fun s hs => absurd hs (by simp)⟩
theorem closure_nonneg {c : CellQ} {m : LnQ} (hne : ∃ q, InD c q) (h : ∀ p, InD c p → 0 < m.value p) {p : PtQ} (hp : InC c p) : 0 ≤ m.value p := by
 obtain ⟨q, hq⟩ := hne
 have mq := h q hq
 by_cases hm : 0 ≤ m.value p
 · exact hm
 · exfalso
   generalize hB : m.value q - m.value p = B
   have hB0 : 0 < B := by grind
   have e1 : -m.value p / B * B = -m.value p := by grind
   generalize -m.value p / B = e at *
   have e0 : 0 < e := (rat_mul_pos_iff hB0).1 (by rw [e1]; grind)
   have e2 : e ≤ 1 := by
     have := (rat_mul_nonneg_iff (s := 1 - e) hB0).1 (by grind)
     grind
   have hd : InD c (segQ p q e) := fun s hs => by
     rw [val_seg]
     have a := hp s hs
     have b := hq s hs
     have := rat_mul_pos e0 b
     have := rat_mul_nonneg (a := 1 - e) (b := s.l.value p) (by grind) a
     grind
   have := h _ hd
   rw [val_seg, hB, e1] at this
   grind
theorem mem_cutsV {l : LnQ} {s' : FrQ} : ∀ {c : CellQ}, s' ∈ cutsV l c ↔ ∃ s ∈ c, s.l.cutB s.v l = true ∧ s' = ⟨s.l, s.l.cutV s.v l⟩
 | [] => by simp [cutsV]
 | s :: c => by
   rw [cutsV]
   split
   · rename_i hb
     rw [List.mem_cons, mem_cutsV (c := c)]
     constructor
     · rintro (rfl | ⟨s1, h1, h2⟩)
       · exact ⟨s, List.mem_cons_self, hb, rfl⟩
       · exact ⟨s1, List.mem_cons_of_mem _ h1, h2⟩
     · rintro ⟨s1, h1, h2, h3⟩
       rcases List.mem_cons.1 h1 with rfl | h1
       · exact .inl h3
       · exact .inr ⟨s1, h1, h2, h3⟩
   · rename_i hb
     rw [mem_cutsV (c := c)]
     constructor
     · rintro ⟨s1, h1, h2⟩; exact ⟨s1, List.mem_cons_of_mem _ h1, h2⟩
     · rintro ⟨s1, h1, h2, h3⟩
       rcases List.mem_cons.1 h1 with rfl | h1
       · exact absurd h2 hb
       · exact ⟨s1, h1, h2, h3⟩
theorem mem_insQ {c : CellQ} {l : LnQ} {v : IvQ} {s : FrQ} : s ∈ insQ c l v ↔ s = ⟨l, v⟩ ∨ s ∈ c := by
 unfold insQ
 generalize bsq (angAt c l) 0 c.length = n
 rw [List.mem_append, List.mem_cons]
 have h := List.take_append_drop n c
 constructor
 · rintro (h1 | h1 | h1)
   · exact .inr (List.mem_of_mem_take h1)
   · exact .inl h1
   · exact .inr (List.mem_of_mem_drop h1)
 · rintro (h1 | h1)
   · exact .inr (.inl h1)
   · rw [← h, List.mem_append] at h1
     rcases h1 with h1 | h1
     · exact .inl h1
     · exact .inr (.inr h1)
theorem off_line {c : CellQ} {l : LnQ} (hl : l.Ne) (hp : partQ c l = none) {p : PtQ} (h : InD c p) : l.value p ≠ 0 := by
 intro h0
 obtain ⟨t, rfl⟩ := on_at hl h0
 exact partV_none l c _ all_Pos hp t (all_has t) h
theorem some_sides {c : CellQ} {l : LnQ} (hl : l.Ne) {v : IvQ} (hp : partQ c l = some v) : (∃ q, InD c q ∧ 0 < l.value q) ∧ ∃ q, InD c q ∧ l.value q < 0 := by
 obtain ⟨h1, _, h3⟩ := partV_some l c _ v all_Pos hp
 have hd := ((h3 v.sample).1 (ins_sample h1)).2
 have h0 := at_self hl v.sample
 have hn := nn_pos hl
 constructor
 · obtain ⟨e, he, hm⟩ := hd.open l.nor
   refine ⟨_, hm e (Rat.le_of_lt he) Rat.le_refl, ?_⟩
   rw [val_mov, h0]
   have := rat_mul_pos he hn
   grind
 · obtain ⟨e, he, hm⟩ := hd.open ⟨-l.nor.x, -l.nor.y⟩
   refine ⟨_, hm e (Rat.le_of_lt he) Rat.le_refl, ?_⟩
   rw [val_mov, h0]
   have := rat_mul_pos he hn
   simp only [PtQ.dot] at this ⊢
   grind
theorem clip_some {c : CellQ} {l : LnQ} {v : IvQ} (hc : GoodC c) (hl : l.ok) (hp : partQ c l = some v) :
   GoodC (insQ (cutsV l c) l v) ∧ ∀ p, InD (insQ (cutsV l c) l v) p ↔ InD c p ∧ 0 < l.value p := by
 obtain ⟨⟨q, hq, lq⟩, _⟩ := some_sides hl.ne hp
 obtain ⟨v1, v2, v3⟩ := partV_some l c _ v all_Pos hp
 have hD : ∀ p, InD (insQ (cutsV l c) l v) p ↔ InD c p ∧ 0 < l.value p := by
   intro p
   constructor
   · intro h
     have lp : 0 < l.value p := h ⟨l, v⟩ (mem_insQ.2 (.inl rfl))
     refine ⟨fun s0 hs0 => ?_, lp⟩
     by_cases h0 : 0 < s0.l.value p
     · exact h0
     · exfalso
       obtain ⟨e, e0, e1, ⟨s, ms, ns, zs⟩, hC⟩ := first_exit (p := p) hq ⟨s0, hs0, by grind⟩
       obtain ⟨t, ht⟩ := on_at (hc.ok s ms).ne zs
       rw [ht] at hC
       obtain ⟨p1, p2⟩ := hc.edge s ms
       have hh := (p2 t).2 hC
       have lr : 0 < l.value (s.l.at t) := by
         rw [← ht, val_seg]
         by_cases hB : 0 ≤ l.value p - l.value q
         · have := rat_mul_nonneg e0 hB; grind
         · have := rat_mul_nonneg (a := 1 - e) (b := -(l.value p - l.value q)) (by grind) (by grind)
           grind
       have hb : s.l.cutB s.v l = true := by
         cases hb : s.l.cutB s.v l with
         | true => rfl
         | false => have := cut_no p1 hb hh; grind
       have := h ⟨s.l, s.l.cutV s.v l⟩ (mem_insQ.2 (.inr (mem_cutsV.2 ⟨s, ms, hb, rfl⟩)))
       simp only at this
       grind
   · rintro ⟨h1, h2⟩ s hs
     rcases mem_insQ.1 hs with rfl | hs
     · exact h2
     · obtain ⟨s1, m1, _, rfl⟩ := mem_cutsV.1 hs
       exact h1 s1 m1
 have hne : ∃ p, InD (insQ (cutsV l c) l v) p := ⟨q, (hD q).2 ⟨hq, lq⟩⟩
 have hC : ∀ p, InC (insQ (cutsV l c) l v) p ↔ InC c p ∧ 0 ≤ l.value p := by
   intro p
   constructor
   · intro h
     refine ⟨fun s hs => ?_, h ⟨l, v⟩ (mem_insQ.2 (.inl rfl))⟩
     exact closure_nonneg hne (fun p hp => ((hD p).1 hp).1 s hs) h
   · rintro ⟨h1, h2⟩ s hs
     rcases mem_insQ.1 hs with rfl | hs
     · exact h2
     · obtain ⟨s1, m1, _, rfl⟩ := mem_cutsV.1 hs
       exact h1 s1 m1
 refine ⟨⟨hne, fun s hs => ?_, fun s hs => ?_⟩, hD⟩
 · rcases mem_insQ.1 hs with rfl | hs
   · exact hl
   · obtain ⟨s1, m1, _, rfl⟩ := mem_cutsV.1 hs
     exact hc.ok s1 m1
 · rcases mem_insQ.1 hs with rfl | hs
   · refine ⟨v1, fun t => ?_⟩
     rw [hC]
     simp only
     rw [v2]
     have h0 := at_self hl.ne t
     constructor
     · intro h; exact ⟨h.2, by rw [h0]; exact Rat.le_refl⟩
     · intro h; exact ⟨all_has t, h.1⟩
   · obtain ⟨s1, m1, hb, rfl⟩ := mem_cutsV.1 hs
     obtain ⟨p1, p2⟩ := hc.edge s1 m1
     refine ⟨cut_Pos p1 hb, fun t => ?_⟩
     rw [hC]
     simp only
     rw [cut_has hb, p2]
theorem InD.seg {c : CellQ} {q p : PtQ} {e : Rat} (hq : InD c q) (hp : InD c p) (h0 : 0 ≤ e) (h1 : e ≤ 1) : InD c (segQ q p e) := fun s hs => by
 rw [val_seg]
 have a := hq s hs
 have b := hp s hs
 by_cases he : e = 0
 · subst he; grind
 · have := rat_mul_pos (a := e) (by grind) b
   have := rat_mul_nonneg (a := 1 - e) (b := s.l.value q) (by grind) (by grind)
   grind
theorem ins_near {v : IvQ} {t : Rat} (h : v.ins t) : (∃ u, u < t ∧ v.has u) ∧ ∃ u, t < u ∧ v.has u := by
 obtain ⟨lo, hi, nl, nh⟩ := v
 unfold IvQ.ins at h
 unfold IvQ.has
 refine ⟨⟨if nl = true then t - 1 else lo, ?_⟩, ⟨if nh = true then t + 1 else hi, ?_⟩⟩ <;> cases nl <;> cases nh <;> simp at * <;> grind
theorem dvd_of_prop {a b c x y z : Nat} (h1 : x * b = a * y) (h2 : x * c = a * z) (g : Nat.gcd (Nat.gcd a b) c = 1) : a ∣ x := by
 have e : x = Nat.gcd (Nat.gcd (x * a) (x * b)) (x * c) := by
  rw [Nat.gcd_mul_left, Nat.gcd_mul_left, g, Nat.mul_one]
 rw [e]
 exact Nat.dvd_gcd (Nat.dvd_gcd (Nat.dvd_mul_left ..) (h1 ▸ Nat.dvd_mul_right ..)) (h2 ▸ Nat.dvd_mul_right ..)
theorem prim_same {a b c x y z : Int} (h1 : a * y = b * x) (h2 : a * z = c * x) (h3 : b * z = c * y)
  (g1 : Nat.gcd (Nat.gcd a.natAbs b.natAbs) c.natAbs = 1) (g2 : Nat.gcd (Nat.gcd x.natAbs y.natAbs) z.natAbs = 1) :
  (a = x ∧ b = y ∧ c = z) ∨ (a = -x ∧ b = -y ∧ c = -z) := by
 have n1 : a.natAbs * y.natAbs = b.natAbs * x.natAbs := by rw [← Int.natAbs_mul, ← Int.natAbs_mul, h1]
 have n2 : a.natAbs * z.natAbs = c.natAbs * x.natAbs := by rw [← Int.natAbs_mul, ← Int.natAbs_mul, h2]
 have n3 : b.natAbs * z.natAbs = c.natAbs * y.natAbs := by rw [← Int.natAbs_mul, ← Int.natAbs_mul, h3]
 generalize ha : a.natAbs = A at *
 generalize hb : b.natAbs = B at *
 generalize hc : c.natAbs = C at *
 generalize hx : x.natAbs = X at *
 generalize hy : y.natAbs = Y at *
 generalize hz : z.natAbs = Z at *
 have gB : Nat.gcd (Nat.gcd B A) C = 1 := by rw [Nat.gcd_comm B A]; exact g1
 have gC : Nat.gcd (Nat.gcd C A) B = 1 := by rw [Nat.gcd_assoc, Nat.gcd_comm]; exact g1
 have gY : Nat.gcd (Nat.gcd Y X) Z = 1 := by rw [Nat.gcd_comm Y X]; exact g2
 have gZ : Nat.gcd (Nat.gcd Z X) Y = 1 := by rw [Nat.gcd_assoc, Nat.gcd_comm]; exact g2
 have e1 : A = X := Nat.dvd_antisymm (dvd_of_prop (x := X) (y := Y) (z := Z) (by grind) (by grind) g1) (dvd_of_prop (x := A) (y := B) (z := C) (by grind) (by grind) g2)
 have e2 : B = Y := Nat.dvd_antisymm (dvd_of_prop (x := Y) (y := X) (z := Z) (by grind) (by grind) gB) (dvd_of_prop (x := B) (y := A) (z := C) (by grind) (by grind) gY)
 have e3 : C = Z := Nat.dvd_antisymm (dvd_of_prop (x := Z) (y := X) (z := Y) (by grind) (by grind) gC) (dvd_of_prop (x := C) (y := A) (z := B) (by grind) (by grind) gZ)
 have s1 : a = x ∨ a = -x := by omega
 have s2 : b = y ∨ b = -y := by omega
 have s3 : c = z ∨ c = -z := by omega
 clear ha hb hc hx hy hz n1 n2 n3 g1 g2 gB gC gY gZ e1 e2 e3
 have z1 := @Int.mul_eq_zero x y
 have z2 := @Int.mul_eq_zero x z
 have z3 := @Int.mul_eq_zero y z
 rcases s1 with rfl | rfl <;> rcases s2 with rfl | rfl <;> rcases s3 with rfl | rfl <;> grind
theorem same_line {l m : LnQ} (hl : l.ok) (hm : m.ok) (h : ∀ t, l.value (m.at t) = 0) : l = m ∨ l = m.rev := by
 have h0 := h 0
 have h1 := h 1
 rw [val_at] at h0 h1
 have hC : m.cutC l = 0 := by grind
 have hK : m.cutK l = 0 := by grind
 obtain ⟨q, q1, q2⟩ := base_q hm.ne
 have hn := nn_pos hm.ne
 unfold LnQ.cutC at hC
 rw [q2, val_def] at hC
 unfold LnQ.cutK at hK
 simp only [LnQ.nor, LnQ.dir, PtQ.dot] at hK q1 hn hC
 obtain ⟨a, b, c⟩ := l
 obtain ⟨x, y, z⟩ := m
 simp only at *
 have e1 : a * y = b * x := by
   have : ((a * y : Int) : Rat) = ((b * x : Int) : Rat) := by rw [Rat.intCast_mul, Rat.intCast_mul]; grind
   exact Rat.intCast_inj.1 this
 have e2 : a * z = c * x := by
   have : ((a * z : Int) : Rat) = ((c * x : Int) : Rat) := by rw [Rat.intCast_mul, Rat.intCast_mul]; grind
   exact Rat.intCast_inj.1 this
 have e3 : b * z = c * y := by
   have : ((b * z : Int) : Rat) = ((c * y : Int) : Rat) := by rw [Rat.intCast_mul, Rat.intCast_mul]; grind
   exact Rat.intCast_inj.1 this
 rcases prim_same e1 e2 e3 hl.2 hm.2 with ⟨rfl, rfl, rfl⟩ | ⟨rfl, rfl, rfl⟩
 · exact .inl rfl
 · exact .inr rfl
theorem LnQ.ok.rev {l : LnQ} (h : l.ok) : l.rev.ok := by
 obtain ⟨h1, h2⟩ := h
 refine ⟨?_, ?_⟩
 · simp only [LnQ.rev]; omega
 · simp only [LnQ.rev, Int.natAbs_neg]; exact h2
theorem place_neg (l : LnQ) : ∀ c : CellQ, (∀ s ∈ c, sideAt l s ≤ 0 ∧ s.l ≠ l) → ¬ 0 < placeV l c
 | [], _ => by simp [placeV]
 | s :: c, h => by
   have h' := List.forall_mem_cons.1 h
   unfold placeV
   rw [if_neg h'.1.2]
   split
   · have := h'.1.1; omega
   · exact place_neg l c h'.2
theorem place_spec {c : CellQ} {l : LnQ} (hc : GoodC c) (hl : l.ok) (hp : partQ c l = none) :
   (0 < placeV l c ∧ ∀ p, InD c p → 0 < l.value p) ∨ (¬ 0 < placeV l c ∧ ∀ p, InD c p → l.value p < 0) := by
 have hoff := fun p (h : InD c p) => off_line hl.ne hp h
 by_cases hq : ∃ q, InD c q ∧ 0 < l.value q
 · left
   obtain ⟨q, hq, lq⟩ := hq
   have hall : ∀ p, InD c p → 0 < l.value p := by
     intro p h
     have := hoff p h
     by_cases h0 : 0 < l.value p
     · exact h0
     · exfalso
       have hn : l.value p < 0 := by grind
       have e1 : l.value q / (l.value q - l.value p) * (l.value q - l.value p) = l.value q := by grind
       generalize l.value q / (l.value q - l.value p) = e at *
       have f0 : 0 ≤ e := (rat_mul_nonneg_iff (k := l.value q - l.value p) (by grind)).1 (by grind)
       have f1 : e ≤ 1 := by
         have := (rat_mul_nonneg_iff (s := 1 - e) (k := l.value q - l.value p) (by grind)).1 (by grind)
         grind
       exact hoff _ (hq.seg h f0 f1) (by rw [val_seg]; grind)
   refine ⟨?_, hall⟩
   cases c with
   | nil => simp [partQ, partV] at hp
   | cons s c =>
     obtain ⟨p1, p2⟩ := hc.edge s List.mem_cons_self
     have hi := ins_sample p1
     have hr := closure_nonneg hc.ne hall ((p2 _).1 hi.has)
     unfold placeV
     by_cases h0 : sideAt l s = 0
     · rw [if_neg (by simpa using h0)]
       have hz : l.value (s.l.at s.v.sample) = 0 := (sgn_zero _).1 h0
       have hge : ∀ t, s.v.has t → 0 ≤ l.value (s.l.at t) := fun t ht => closure_nonneg hc.ne hall ((p2 t).1 ht)
       obtain ⟨⟨u1, m1, n1⟩, ⟨u2, m2, n2⟩⟩ := ins_near hi
       have g1 := hge _ n1
       have g2 := hge _ n2
       rw [val_at] at hz g1 g2
       have hK : s.l.cutK l = 0 := by
         rcases rat_tri (s.l.cutK l) with h | h | h
         · exact h
         · exfalso
           have := rat_mul_pos (a := s.v.sample - u1) (b := s.l.cutK l) (by grind) h
           grind
         · exfalso
           have := rat_mul_pos (a := u2 - s.v.sample) (b := -s.l.cutK l) (by grind) (by grind)
           grind
       have hz2 : ∀ t, l.value (s.l.at t) = 0 := fun t => by rw [val_at, hK]; rw [hK] at hz; grind
       rcases same_line hl (hc.ok s List.mem_cons_self) hz2 with h | h
       · rw [if_pos h.symm]; decide
       · exfalso
         have := hall q hq
         rw [h, val_rev] at this
         have := hq s List.mem_cons_self
         grind
     · rw [if_pos h0]
       have hz : l.value (s.l.at s.v.sample) ≠ 0 := fun e => h0 ((sgn_zero _).2 e)
       exact (sgn_pos _).2 (by grind)
 · right
   have hall : ∀ p, InD c p → l.value p < 0 := fun p h => by
     have := hoff p h
     have : ¬ 0 < l.value p := fun h' => hq ⟨p, h, h'⟩
     grind
   refine ⟨place_neg l c fun s hs => ?_, hall⟩
   obtain ⟨p1, p2⟩ := hc.edge s hs
   have hr := closure_nonneg (m := l.rev) hc.ne (fun p h => by rw [val_rev]; have := hall p h; grind) ((p2 _).1 (ins_sample p1).has)
   rw [val_rev] at hr
   constructor
   · have : ¬ 0 < sideAt l s := fun h => by have := (sgn_pos _).1 h; grind
     omega
   · rintro rfl
     obtain ⟨p, hp⟩ := hc.ne
     have := hall p hp
     have := hp s hs
     grind
/-! ### clipping -/
theorem clip_iff {c : CellQ} {l : LnQ} (hc : GoodC c) (hl : l.ok) : clipB c l = true ↔ ∃ p, InD c p ∧ 0 < l.value p := by
 unfold clipB
 cases hp : partQ c l with
 | some v => exact ⟨fun _ => (some_sides hl.ne hp).1, fun _ => rfl⟩
 | none =>
   simp only [placeQ, hp, Option.isSome_none, Bool.false_eq_true, if_false, decide_eq_true_iff]
   rcases place_spec hc hl hp with ⟨h1, h2⟩ | ⟨h1, h2⟩
   · refine ⟨fun _ => ?_, fun _ => h1⟩
     obtain ⟨p, hp⟩ := hc.ne
     exact ⟨p, hp, h2 p hp⟩
   · refine ⟨fun h => absurd h h1, ?_⟩
     rintro ⟨p, hp, h⟩
     have := h2 p hp
     grind
theorem clip_good {c : CellQ} {l : LnQ} (hc : GoodC c) (hl : l.ok) (hb : clipB c l = true) : GoodC (clipC c l) ∧ ∀ p, InD (clipC c l) p ↔ InD c p ∧ 0 < l.value p := by
 unfold clipC
 cases hp : partQ c l with
 | some v => exact clip_some hc hl hp
 | none =>
   refine ⟨hc, fun p => ?_⟩
   unfold clipB at hb
   simp only [hp, placeQ, Option.isSome_none, Bool.false_eq_true, if_false, decide_eq_true_iff] at hb
   rcases place_spec hc hl hp with ⟨h1, h2⟩ | ⟨h1, h2⟩
   · exact ⟨fun h => ⟨h, h2 p h⟩, fun h => h.1⟩
   · exact absurd hb h1
theorem not_zero {c : CellQ} {l : LnQ} (hl : l.ok) {p : PtQ} (hp : InD c p) (h0 : l.value p = 0) : (∃ q, InD c q ∧ 0 < l.value q) ∧ ∃ q, InD c q ∧ l.value q < 0 := by
 have hn := nn_pos hl.ne
 constructor
 · obtain ⟨e, he, hm⟩ := hp.open l.nor
   refine ⟨_, hm e (Rat.le_of_lt he) Rat.le_refl, ?_⟩
   rw [val_mov, h0]
   have := rat_mul_pos he hn
   grind
 · obtain ⟨e, he, hm⟩ := hp.open ⟨-l.nor.x, -l.nor.y⟩
   refine ⟨_, hm e (Rat.le_of_lt he) Rat.le_refl, ?_⟩
   rw [val_mov, h0]
   have := rat_mul_pos he hn
   simp only [PtQ.dot] at this ⊢
   grind
inductive Lies (c : CellQ) (l : LnQ) : Prop
 | left (h1 : clipB c l.rev = false) (h : ∀ p, InD c p → 0 < l.value p)
 | right (h1 : clipB c l.rev = true) (h2 : clipB c l = false) (h : ∀ p, InD c p → l.value p < 0)
 | both (h1 : clipB c l.rev = true) (h2 : clipB c l = true) (g1 : GoodC (clipC c l)) (g2 : GoodC (clipC c l.rev))
     (e1 : ∀ p, InD (clipC c l) p ↔ InD c p ∧ 0 < l.value p) (e2 : ∀ p, InD (clipC c l.rev) p ↔ InD c p ∧ l.value p < 0)
theorem lies {c : CellQ} {l : LnQ} (hc : GoodC c) (hl : l.ok) : Lies c l := by
 have hr := clip_iff hc hl.rev
 have hi := clip_iff hc hl
 cases h1 : clipB c l.rev with
 | false =>
   refine .left h1 fun p hp => ?_
   have hn : ¬ ∃ q, InD c q ∧ l.value q < 0 := by
     rintro ⟨q, a, b⟩
     have := hr.2 ⟨q, a, by rw [val_rev]; grind⟩
     rw [h1] at this; exact absurd this (by decide)
   have n1 : ¬ l.value p < 0 := fun h => hn ⟨p, hp, h⟩
   have n2 : l.value p ≠ 0 := fun h => hn (not_zero hl hp h).2
   grind
 | true =>
   cases h2 : clipB c l with
   | false =>
     refine .right h1 h2 fun p hp => ?_
     have hn : ¬ ∃ q, InD c q ∧ 0 < l.value q := by
       intro h
       have := hi.2 h
       rw [h2] at this; exact absurd this (by decide)
     have n1 : ¬ 0 < l.value p := fun h => hn ⟨p, hp, h⟩
     have n2 : l.value p ≠ 0 := fun h => hn (not_zero hl hp h).1
     grind
   | true =>
     obtain ⟨g1, e1⟩ := clip_good hc hl h2
     obtain ⟨g2, e2⟩ := clip_good hc hl.rev h1
     refine .both h1 h2 g1 g2 e1 fun p => ?_
     rw [e2, val_rev]
     constructor <;> rintro ⟨a, b⟩ <;> exact ⟨a, by grind⟩
/-! ### trees -/
theorem Tr.restrict_A {l : LnQ} {e : CellQ} (X Y : Tr) (h : clipB e l.rev = false) : (Tr.node l X Y).restrict e = X.restrict e := by
 rw [Tr.restrict, h]; rfl
theorem Tr.restrict_B {l : LnQ} {e : CellQ} (X Y : Tr) (h : clipB e l.rev = true) (h2 : clipB e l = false) : (Tr.node l X Y).restrict e = Y.restrict e := by
 rw [Tr.restrict, h, h2]; rfl
theorem Tr.restrict_C {l : LnQ} {e : CellQ} (X Y : Tr) (h : clipB e l.rev = true) (h2 : clipB e l = true) : (Tr.node l X Y).restrict e = Tr.joinQ l (X.restrict (clipC e l)) (Y.restrict (clipC e l.rev)) := by
 rw [Tr.restrict, h, h2]; rfl
def canonQ : List LnQ → CellQ → Option CellQ
 | [], c => some c
 | l :: t, c => if clipB c l then canonQ t (clipC c l) else none
theorem canon_good : ∀ {ls : List LnQ} {c e : CellQ}, GoodC c → (∀ l ∈ ls, l.ok) → canonQ ls c = some e → GoodC e ∧ ∀ p, InD e p ↔ InD c p ∧ ∀ l ∈ ls, 0 < l.value p
 | [], c, e, hc, _, h => by
   obtain rfl : c = e := by simpa [canonQ] using h
   exact ⟨hc, fun p => ⟨fun h => ⟨h, fun l hl => absurd hl (by simp)⟩, fun h => h.1⟩⟩
 | l :: t, c, e, hc, hl, h => by
   have hl' := List.forall_mem_cons.1 hl
   rw [canonQ] at h
   split at h
   · rename_i hb
     obtain ⟨g1, g2⟩ := clip_good hc hl'.1 hb
     obtain ⟨k1, k2⟩ := canon_good g1 hl'.2 h
     refine ⟨k1, fun p => ?_⟩
     rw [k2, g2, List.forall_mem_cons, and_assoc]
   · exact absurd h (by simp)
theorem canon_some : ∀ {ls : List LnQ} {c : CellQ}, GoodC c → (∀ l ∈ ls, l.ok) → (∃ p, InD c p ∧ ∀ l ∈ ls, 0 < l.value p) → ∃ e, canonQ ls c = some e
 | [], c, _, _, _ => ⟨c, rfl⟩
 | l :: t, c, hc, hl, ⟨p, h1, h2⟩ => by
   have hl' := List.forall_mem_cons.1 hl
   have h2' := List.forall_mem_cons.1 h2
   have hb := (clip_iff hc hl'.1).2 ⟨p, h1, h2'.1⟩
   obtain ⟨g1, g2⟩ := clip_good hc hl'.1 hb
   rw [canonQ, if_pos hb]
   exact canon_some g1 hl'.2 ⟨p, (g2 p).2 ⟨h1, h2'.1⟩, h2'.2⟩
theorem canon_len : ∀ {ls : List LnQ} {c e : CellQ}, canonQ ls c = some e → e.length ≤ c.length + ls.length
 | [], c, e, h => by
   obtain rfl : c = e := by simpa [canonQ] using h
   simp
 | l :: t, c, e, h => by
   rw [canonQ] at h
   split at h
   · have h1 := canon_len h
     have h2 := clipC_len c l
     simp only [List.length_cons]; omega
   · exact absurd h (by simp)
end Go.Sx
end

section
set_option maxRecDepth 100000
namespace Go.Sx
open Go
theorem edge_zero {c : CellQ} (hc : GoodC c) {s : FrQ} (hs : s ∈ c) {m : LnQ} (hm : m.ok) (h : ∀ p, InD c p → 0 < m.value p) (hz : m.value (s.l.at s.v.sample) = 0) : m = s.l := by
 obtain ⟨p1, p2⟩ := hc.edge s hs
 have hi := ins_sample p1
 have hge : ∀ t, s.v.has t → 0 ≤ m.value (s.l.at t) := fun t ht => closure_nonneg hc.ne h ((p2 t).1 ht)
 obtain ⟨⟨u1, m1, n1⟩, ⟨u2, m2, n2⟩⟩ := ins_near hi
 have g1 := hge _ n1
 have g2 := hge _ n2
 rw [val_at] at hz g1 g2
 have hK : s.l.cutK m = 0 := by
   rcases rat_tri (s.l.cutK m) with h | h | h
   · exact h
   · exfalso
     have := rat_mul_pos (a := s.v.sample - u1) (b := s.l.cutK m) (by grind) h
     grind
   · exfalso
     have := rat_mul_pos (a := u2 - s.v.sample) (b := -s.l.cutK m) (by grind) (by grind)
     grind
 have hz2 : ∀ t, m.value (s.l.at t) = 0 := fun t => by rw [val_at, hK]; rw [hK] at hz; grind
 rcases same_line hm (hc.ok s hs) hz2 with h' | h'
 · exact h'
 · exfalso
   obtain ⟨q, hq⟩ := hc.ne
   have := h q hq
   rw [h', val_rev] at this
   have := hq s hs
   grind
def partL (l : LnQ) : List LnQ → IvQ → Option IvQ
 | [], v => some v
 | m :: t, v => if m = l then partL l t v else if l.cutB v m then partL l t (l.cutV v m) else none
def InL (c : List LnQ) (p : PtQ) : Prop := ∀ m ∈ c, 0 < m.value p
theorem partL_some (l : LnQ) : ∀ (c : List LnQ) (v w : IvQ), v.Pos → partL l c v = some w →
   w.Pos ∧ (∀ t, w.ins t ↔ v.ins t ∧ ∀ m ∈ c, m ≠ l → 0 < m.value (l.at t))
 | [], v, w, hv, h => by
   obtain rfl : v = w := by simpa [partL] using h
   exact ⟨hv, fun t => ⟨fun h => ⟨h, fun s hs => absurd hs (by simp)⟩, fun h => h.1⟩⟩
 | m :: c, v, w, hv, h => by
   rw [partL] at h
   split at h
   · rename_i hm
     obtain ⟨h1, h2⟩ := partL_some l c _ w hv h
     refine ⟨h1, fun t => ?_⟩
     rw [h2, List.forall_mem_cons]
     exact ⟨fun h => ⟨h.1, fun h' => absurd hm h', h.2⟩, fun h => ⟨h.1, h.2.2⟩⟩
   · rename_i hm
     split at h
     · rename_i hb
       obtain ⟨h1, h2⟩ := partL_some l c _ w (cut_Pos hv hb) h
       refine ⟨h1, fun t => ?_⟩
       rw [h2, cut_ins hb, List.forall_mem_cons, and_assoc]
       exact ⟨fun h => ⟨h.1, fun _ => h.2.1, h.2.2⟩, fun h => ⟨h.1, h.2.1 hm, h.2.2⟩⟩
     · exact absurd h (by simp)
theorem partL_none (l : LnQ) : ∀ (c : List LnQ) (v : IvQ), v.Pos → partL l c v = none → ∀ t, v.has t → ¬ ∀ m ∈ c, m ≠ l → 0 < m.value (l.at t)
 | [], v, hv, h => by simp [partL] at h
 | m :: c, v, hv, h => by
   intro t ht hd
   have hd' := List.forall_mem_cons.1 hd
   rw [partL] at h
   split at h
   · exact partL_none l c _ hv h t ht hd'.2
   · rename_i hm
     split at h
     · rename_i hb
       exact partL_none l c _ (cut_Pos hv hb) h t ((cut_has hb t).2 ⟨ht, Rat.le_of_lt (hd'.1 hm)⟩) hd'.2
     · rename_i hb
       have := cut_no hv (by simpa using hb) ht
       have := hd'.1 hm
       grind
def innerB (c : List LnQ) : Bool := c.isEmpty || c.any (fun l => (partL l c IvQ.all).isSome)
theorem mem_canonQ : ∀ {ls : List LnQ} {c e : CellQ}, canonQ ls c = some e → ∀ s ∈ e, s.l ∈ ls ∨ ∃ s' ∈ c, s'.l = s.l
 | [], c, e, h, s, hs => by
   obtain rfl : c = e := by simpa [canonQ] using h
   exact .inr ⟨s, hs, rfl⟩
 | l :: t, c, e, h, s, hs => by
   rw [canonQ] at h
   split at h
   · rcases mem_canonQ h s hs with h1 | ⟨s', h1, h2⟩
     · exact .inl (List.mem_cons_of_mem _ h1)
     · unfold clipC at h1
       split at h1
       · rcases mem_insQ.1 h1 with rfl | h1
         · exact .inl (by rw [← h2]; exact List.mem_cons_self)
         · obtain ⟨s1, m1, _, rfl⟩ := mem_cutsV.1 h1
           exact .inr ⟨s1, m1, h2⟩
       · exact .inr ⟨s', h1, h2⟩
   · exact absurd h (by simp)
theorem canon_sides {c : List LnQ} (hok : ∀ l ∈ c, l.ok) (hne : ∃ p, InL c p) : ∃ e, canonQ c [] = some e ∧ GoodC e ∧ (∀ p, InD e p ↔ InL c p) ∧ ∀ s ∈ e, s.l ∈ c ∧ (partL s.l c IvQ.all).isSome = true := by
 obtain ⟨p, hp⟩ := hne
 obtain ⟨e, he⟩ := canon_some GoodC.nil hok ⟨p, fun s hs => absurd hs (by simp), hp⟩
 obtain ⟨g1, g2⟩ := canon_good GoodC.nil hok he
 have g3 : ∀ p, InD e p ↔ InL c p := fun p => by
   rw [g2]
   exact ⟨fun h => h.2, fun h => ⟨fun s hs => absurd hs (by simp), h⟩⟩
 refine ⟨e, he, g1, g3, fun s hs => ?_⟩
 have hm : s.l ∈ c := by
   rcases mem_canonQ he s hs with h | ⟨_, h, _⟩
   · exact h
   · exact absurd h (by simp)
 refine ⟨hm, ?_⟩
 cases hp : partL s.l c IvQ.all with
 | some w => rfl
 | none =>
   exfalso
   obtain ⟨p1, p2⟩ := g1.edge s hs
   have hC := (p2 s.v.sample).1 (ins_sample p1).has
   refine partL_none s.l c _ all_Pos hp s.v.sample (all_has _) fun m hmc hne => ?_
   have hall : ∀ p, InD e p → 0 < m.value p := fun p hp => (g3 p).1 hp m hmc
   have h0 := closure_nonneg g1.ne hall hC
   have h1 : m.value (s.l.at s.v.sample) ≠ 0 := fun hz => hne (edge_zero g1 hs (hok m hmc) hall hz)
   grind
theorem inner_iff {c : List LnQ} (hok : ∀ l ∈ c, l.ok) : innerB c = true ↔ ∃ p, InL c p := by
 unfold innerB
 rw [Bool.or_eq_true, List.isEmpty_iff, List.any_eq_true]
 constructor
 · rintro (rfl | ⟨l, hl, h⟩)
   · exact ⟨⟨0, 0⟩, fun m hm => absurd hm (by simp)⟩
   · obtain ⟨w, hw⟩ := Option.isSome_iff_exists.1 h
     obtain ⟨w1, w2⟩ := partL_some l c _ w all_Pos hw
     have hi := ((w2 w.sample).1 (ins_sample w1)).2
     have h0 := at_self (hok l hl).ne w.sample
     have hd : InD ((c.filter (fun m => decide (m ≠ l))).map (fun m => (⟨m, IvQ.all⟩ : FrQ))) (l.at w.sample) := by
       intro s hs
       obtain ⟨m, hm, rfl⟩ := List.mem_map.1 hs
       rw [List.mem_filter, decide_eq_true_iff] at hm
       exact hi m hm.1 hm.2
     obtain ⟨e, he, ho⟩ := hd.open l.nor
     refine ⟨movQ (l.at w.sample) l.nor e, fun m hm => ?_⟩
     by_cases hml : m = l
     · subst hml
       rw [val_mov, h0]
       have := rat_mul_pos he (nn_pos (hok m hl).ne)
       grind
     · exact ho e (Rat.le_of_lt he) Rat.le_refl ⟨m, IvQ.all⟩ (List.mem_map.2 ⟨m, List.mem_filter.2 ⟨hm, by simpa using hml⟩, rfl⟩)
 · intro hne
   obtain ⟨e, h1, h2, h3, h4⟩ := canon_sides hok hne
   cases c with
   | nil => exact .inl rfl
   | cons l c =>
     right
     cases e with
     | nil =>
       exfalso
       have := (h3 (l.at 0)).1 (fun s hs => absurd hs (by simp)) l List.mem_cons_self
       rw [at_self (hok l List.mem_cons_self).ne] at this
       exact absurd this (by decide)
     | cons s e =>
       obtain ⟨a, b⟩ := h4 s List.mem_cons_self
       exact ⟨s.l, a, b⟩
def angIdx (out : List LnQ) (l : LnQ) : Nat := (out.takeWhile (fun x => decide (angleQ x.dir l.dir < 0))).length
def canonIns (out : List LnQ) (l : LnQ) : List LnQ := if out[angIdx out l]? = some l then out else out.take (angIdx out l) ++ l :: out.drop (angIdx out l)
def canonF (c : List LnQ) : List LnQ → List LnQ → List LnQ
 | [], out => out
 | l :: t, out => canonF c t (if (partL l c IvQ.all).isSome then canonIns out l else out)
def canonL (c : List LnQ) : List LnQ := canonF c c []
theorem mem_canonIns {out : List LnQ} {l m : LnQ} : m ∈ canonIns out l ↔ m = l ∨ m ∈ out := by
 unfold canonIns
 split
 · rename_i h
   exact ⟨fun h => .inr h, fun h' => h'.elim (fun e => e ▸ List.mem_of_getElem? h) id⟩
 · generalize angIdx out l = n
   have h := List.take_append_drop n out
   rw [List.mem_append, List.mem_cons]
   constructor
   · rintro (h1 | h1 | h1)
     · exact .inr (List.mem_of_mem_take h1)
     · exact .inl h1
     · exact .inr (List.mem_of_mem_drop h1)
   · rintro (h1 | h1)
     · exact .inr (.inl h1)
     · rw [← h, List.mem_append] at h1
       rcases h1 with h1 | h1
       · exact .inl h1
       · exact .inr (.inr h1)
theorem mem_canonF {c : List LnQ} {m : LnQ} : ∀ {t out : List LnQ}, m ∈ canonF c t out ↔ m ∈ out ∨ m ∈ t ∧ (partL m c IvQ.all).isSome = true
 | [], out => by simp [canonF]
 | l :: t, out => by
   rw [canonF, mem_canonF]
   split
   · rename_i h
     rw [mem_canonIns, List.mem_cons]
     constructor
     · rintro ((rfl | h1) | ⟨h1, h2⟩)
       · exact .inr ⟨.inl rfl, h⟩
       · exact .inl h1
       · exact .inr ⟨.inr h1, h2⟩
     · rintro (h1 | ⟨rfl | h1, h2⟩)
       · exact .inl (.inr h1)
       · exact .inl (.inl rfl)
       · exact .inr ⟨h1, h2⟩
   · rename_i h
     rw [List.mem_cons]
     constructor
     · rintro (h1 | ⟨h1, h2⟩)
       · exact .inl h1
       · exact .inr ⟨.inr h1, h2⟩
     · rintro (h1 | ⟨rfl | h1, h2⟩)
       · exact .inl h1
       · exact absurd h2 h
       · exact .inr ⟨h1, h2⟩
theorem mem_canonL {c : List LnQ} {m : LnQ} : m ∈ canonL c ↔ m ∈ c ∧ (partL m c IvQ.all).isSome = true := by
 unfold canonL; rw [mem_canonF]; simp
theorem canonL_in {c : List LnQ} (hok : ∀ l ∈ c, l.ok) (hne : ∃ p, InL c p) (p : PtQ) : InL (canonL c) p ↔ InL c p := by
 constructor
 · intro h
   obtain ⟨e, h1, h2, h3, h4⟩ := canon_sides hok hne
   exact (h3 p).1 fun s hs => h s.l (mem_canonL.2 (h4 s hs))
 · intro h m hm; exact h m (mem_canonL.1 hm).1
def placeL (c : List LnQ) (l : LnQ) : Int := if innerB (c ++ [l]) && innerB (c ++ [l.rev]) then 0 else if innerB (c ++ [l]) then 1 else -1
def Tr.restrictL : Tr → List LnQ → Tr
 | .leaf b, _ => .leaf b
 | .node l x y, c => if placeL c l = 1 then x.restrictL c else if placeL c l = -1 then y.restrictL c else joinQ l (x.restrictL (canonL (c ++ [l]))) (y.restrictL (canonL (c ++ [l.rev])))
theorem InL_app {c : List LnQ} {l : LnQ} {p : PtQ} : InL (c ++ [l]) p ↔ InL c p ∧ 0 < l.value p := by
 unfold InL
 rw [List.forall_mem_append]
 simp
theorem ok_app {c : List LnQ} {l : LnQ} (hok : ∀ m ∈ c, m.ok) (hl : l.ok) : ∀ m ∈ c ++ [l], m.ok := by
 rw [List.forall_mem_append]
 exact ⟨hok, by simpa using hl⟩
theorem Tr.restrictL_eq : ∀ (t : Tr) (c : List LnQ) (d : CellQ), t.all LnQ.ok → (∀ l ∈ c, l.ok) → GoodC d → (∀ p, InD d p ↔ InL c p) → t.restrictL c = t.restrict d
 | .leaf b, c, d, _, _, _, _ => rfl
 | .node l x y, c, d, h, hc, hd, he => by
   obtain ⟨hl, hx, hy⟩ := h
   have i1 := inner_iff (ok_app hc hl)
   have i2 := inner_iff (ok_app hc hl.rev)
   obtain ⟨p0, hp0⟩ := hd.ne
   rcases lies hd hl with ⟨a1, a⟩ | ⟨a1, a2, a⟩ | ⟨a1, a2, ag1, ag2, ae1, ae2⟩
   · have b1 : innerB (c ++ [l]) = true := i1.2 ⟨p0, InL_app.2 ⟨(he p0).1 hp0, a p0 hp0⟩⟩
     have b2 : innerB (c ++ [l.rev]) = false := by
       rw [← Bool.not_eq_true, i2]
       rintro ⟨p, hp⟩
       have hp := InL_app.1 hp
       have := a p ((he p).2 hp.1)
       rw [val_rev] at hp
       grind
     rw [Tr.restrict_A _ _ a1, Tr.restrictL, placeL, b1, b2]
     exact x.restrictL_eq c d hx hc hd he
   · have b2 : innerB (c ++ [l.rev]) = true := i2.2 ⟨p0, InL_app.2 ⟨(he p0).1 hp0, by rw [val_rev]; have := a p0 hp0; grind⟩⟩
     have b1 : innerB (c ++ [l]) = false := by
       rw [← Bool.not_eq_true, i1]
       rintro ⟨p, hp⟩
       have hp := InL_app.1 hp
       have := a p ((he p).2 hp.1)
       grind
     rw [Tr.restrict_B _ _ a1 a2, Tr.restrictL, placeL, b1, b2]
     exact y.restrictL_eq c d hy hc hd he
   · have n1 : ∃ p, InL (c ++ [l]) p := by
       obtain ⟨p, hp⟩ := ag1.ne
       exact ⟨p, InL_app.2 ⟨(he p).1 ((ae1 p).1 hp).1, ((ae1 p).1 hp).2⟩⟩
     have n2 : ∃ p, InL (c ++ [l.rev]) p := by
       obtain ⟨p, hp⟩ := ag2.ne
       exact ⟨p, InL_app.2 ⟨(he p).1 ((ae2 p).1 hp).1, by rw [val_rev]; have := ((ae2 p).1 hp).2; grind⟩⟩
     rw [Tr.restrict_C _ _ a1 a2, Tr.restrictL, placeL, i1.2 n1, i2.2 n2]
     have k1 := x.restrictL_eq (canonL (c ++ [l])) (clipC d l) hx (fun m hm => ok_app hc hl m (mem_canonL.1 hm).1) ag1 fun p => by
       rw [canonL_in (ok_app hc hl) n1, ae1, InL_app, he]
     have k2 := y.restrictL_eq (canonL (c ++ [l.rev])) (clipC d l.rev) hy (fun m hm => ok_app hc hl.rev m (mem_canonL.1 hm).1) ag2 fun p => by
       rw [canonL_in (ok_app hc hl.rev) n2, ae2, InL_app, he, val_rev]
       constructor <;> rintro ⟨a, b⟩ <;> exact ⟨a, by grind⟩
     rw [k1, k2]
     rfl
end Go.Sx
end
