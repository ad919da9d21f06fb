/-
  Reference: division of natural numbers of any size. Reference: Divide, Common; integers and fractions of any size. The sanity check of the law. Contracts of before as ones over deep values.
-/
import Derived.Test.YtkijgpopaaknfaaGreatDoorMc14
set_option linter.unusedSimpArgs false
set_option linter.unusedVariables false
section
set_option maxRecDepth 100000
namespace Go.Sx
open Go Go.Proofs
theorem q_Div32 {GB : Gh} {h l y : Nat} (hh : h < y) (hl : l < 4294967296) (hy : y < 4294967296) : PF GB Tryz.prog 164 [.v (.int .u32 (h : Int)), .v (.int .u32 (l : Int)), .v (.int .u32 (y : Int))] (.tp [dU ((h * 4294967296 + l) / y), dU ((h * 4294967296 + l) % y)]) := by
 refine PF.intro Tryz.func164 rfl rfl Tryz.ntmps164 rfl ?_
 intro C
 refine qR <| tA rfl rfl <| tA rfl rfl <| sd_end <| sd_seq <| qR <| tM rfl rfl <| tY (yq_neq rfl rfl) rfl <| ?_
 refine sd_eq 10 (.d (.v (.bool true))) rfl (by simp; omega) ?_
 refine tM rfl rfl <| tYg rfl rfl (yq_move rfl) rfl <| tYg rfl rfl (yq_move rfl) rfl <| tYg rfl rfl (yq_leq rfl rfl) rfl <| ?_
 refine sd_eq 14 (.d (.v (.bool false))) rfl (by simp; omega) ?_
 refine tY (yq_pickT rfl rfl) rfl <| sd_end <| sd_condF rfl <| sd_skipc <| qR <| tM rfl rfl <| tY (yq_toU64 rfl) rfl <| tY (yq_shl rfl rfl (by decide)) rfl <| ?_
 refine sd_eq 19 (.d (.v (.int .u64 (h * 2 ^ 32 : Nat)))) rfl (by show FV.d (.v (.int _ _)) = .d (.v (.int _ _)); rw [shl_u64 _ 32 (by decide) (by show _ * 4294967296 < _; omega) rfl]) ?_
 refine tM rfl rfl <| tY (yq_toU64 rfl) rfl <| tY (yq_or64 (r := l + h * 2 ^ 32) rfl rfl (by rw [BitVec.or_comm]; exact bv_or 64 l h 32 hl (by show _ + _ * 4294967296 < 18446744073709551616; omega))) rfl <| ?_
 obtain ⟨t, ht⟩ : ∃ t, t = h * 4294967296 + l := ⟨_, rfl⟩
 have hq : t / y < 4294967296 := by rw [Nat.div_lt_iff_lt_mul (by omega)]; have := Nat.mul_le_mul_left 4294967296 (show h + 1 ≤ y from hh); omega
 have hr : t % y < y := Nat.mod_lt _ (by omega)
 refine sd_eq 22 (.d (.v (.int .u64 (t : Nat)))) rfl (by show FV.d (.v (.int _ _)) = .d (.v (.int _ _)); congr 3; rw [ht]; omega) ?_
 refine tA rfl rfl <| sd_end <| sd_seq <| ?_
 refine drX (own0 := _) (own1 := []) (bs0 := []) (bs1 := _) [] [(0, true), (1, true), (2, true), (3, true), (4, true), (5, true), (6, true), (7, true), (8, true), (9, true), (10, true), (11, true)] [] follows (by rw [List.append_nil]) (List.Perm.refl _) (by kernel_rfl) ?_
 refine dyX rfl (yq_move rfl) rfl <| ?_
 refine dyX rfl (yq_move rfl) rfl <| ?_
 refine dyX rfl (yq_toU64 rfl) rfl <| ?_
 refine dyX rfl (yq_quoU rfl rfl (by omega) (by omega) (by omega)) rfl <| ?_
 refine dyX rfl (yq_toU32 rfl) rfl <| ?_
 refine dyX rfl (yq_move rfl) rfl <| ?_
 refine dyX rfl (yq_move rfl) rfl <| ?_
 refine dyX rfl (yq_toU64 rfl) rfl <| ?_
 refine dyX rfl (yq_remU rfl rfl (by omega) (by omega)) rfl <| ?_
 refine dyX rfl (yq_toU32 rfl) rfl <| ?_
 refine dyX rfl (yq_assign rfl) rfl <| ?_
 refine dyX rfl (yq_assign rfl) rfl <| ?_
 refine outX0 <| onX <| outX0 <| dnX <| ?_
 simp only [List.nil_append, List.append_nil, List.cons_append]
 refine sd_ret <| ?_
 exact sd_done (.tmp rfl (.tmp rfl .nil)) (by show DV.tp [.v (.int _ _), .v (.int _ _)] = .tp [.v (.int _ _), .v (.int _ _)]; rw [← ht, ← Int.natCast_ediv, ← Int.natCast_emod]; generalize t / y = q at *; generalize t % y = r at *; congr 4 <;> (first | omega | (congr 3; omega)))
section
variable {P : Program} {GB : Gh} {C : Ctx} {n : Nat} {fr : FrF} {own : List OwnD} {bs : List BufD}
variable {dst : Option Nat} {ty' : TypeId} {pos : String} {af : Array Edge} {gd : Option (Nat × Bool)} {x y : Operand}
theorem yq_min {k : IntKind} {t1 t2 : TypeId} {p q : Int} (hx : opF fr x = some (.d (.v (.int k p)))) (hy : opF fr y = some (.d (.v (.int k q)))) : YD P GB C fr own bs ⟨dst, .call ⟨.builtin .min, #[x, y], #[t1, t2]⟩, ty', pos, af, gd⟩ (.d (.v (.int k (if q < p then q else p)))) := .of2 hx hy fun a b => yd_min a b
end
theorem div_dig {A r i b : Nat} (d : Nat) (hb : 0 < b) : (A * 4294967296 + d) / b = A / b * 4294967296 + (A % b * 4294967296 + d) / b ∧ (A * 4294967296 + d) % b = (A % b * 4294967296 + d) % b := by
 have h := Nat.div_add_mod A b
 have e : A * 4294967296 + d = (A % b * 4294967296 + d) + b * (A / b * 4294967296) := by
  rw [← Nat.mul_assoc, Nat.add_right_comm, ← Nat.add_mul, Nat.add_comm (A % b), h]
 rw [e, Nat.add_mul_div_left _ _ hb, Nat.add_mul_mod_self_left]
 exact ⟨Nat.add_comm _ _, rfl⟩
theorem drop_dig {ds : List Nat} {i : Nat} (h : i < ds.length) : dv (ds.drop i) = dv (ds.drop (i + 1)) * 4294967296 + ds.getD i 0 := by
 rw [List.drop_eq_getElem_cons h, List.getD_eq_getElem?_getD, List.getElem?_eq_getElem h]
 simp only [dv, Option.getD_some]; omega
theorem drop_set_dig {W : List Nat} {i q : Nat} (h : i < W.length) : dv ((W.set i q).drop i) = dv (W.drop (i + 1)) * 4294967296 + q := by
 rw [drop_dig (by rw [List.length_set]; exact h), List.drop_set_of_lt (by omega), getD_set_eq h]
theorem short_inv {a b k : Nat} {W : List Nat} (hb : 0 < b) (hk : k < (dg a).length) (hl : W.length = (dg a).length) (h : dv (W.drop (k + 1)) = dv ((dg a).drop (k + 1)) / b) :
  dv ((W.set k ((dv ((dg a).drop (k + 1)) % b * 4294967296 + (dg a).getD k 0) / b)).drop k) = dv ((dg a).drop k) / b ∧ dv ((dg a).drop k) % b = (dv ((dg a).drop (k + 1)) % b * 4294967296 + (dg a).getD k 0) % b := by
 have := div_dig (A := dv ((dg a).drop (k + 1))) (r := 0) (i := 0) ((dg a).getD k 0) hb
 rw [drop_set_dig (by omega), h, drop_dig hk, this.1, this.2]
 exact ⟨rfl, rfl⟩
theorem cmpN_neg {a b : Nat} : cmpN a b < 0 ↔ a < b := by unfold cmpN; split <;> (try split) <;> omega
theorem cmpN_pos {a b : Nat} : 0 < cmpN a b ↔ b < a := by unfold cmpN; split <;> (try split) <;> omega
theorem q_lz32 {GB : Gh} {x : Nat} (hx : x < 4294967296) : PF GB Tryz.prog 202 [dU x] (vI (32 - (bl x : Int))) := by
 intro G vs hg hv
 obtain ⟨v, m, rfl, h1, h2⟩ := isl_cons.1 hv
 rw [isl_nil] at h2; subst h2
 rw [is_v.1 h1]
 exact (bits_lz32 hx).mono fun v G' _ h => is_v.2 h
theorem dg_len_ge {a k : Nat} (h : 4294967296 ^ k ≤ a) : k < (dg a).length := by
 have h1 := dg_lt_pow a
 rcases Nat.lt_or_ge k (dg a).length with q | q
 · exact q
 · have : 4294967296 ^ (dg a).length ≤ 4294967296 ^ k := Nat.pow_le_pow_right (by decide) q
   omega
theorem dg_top {v L : Nat} (hL : L = (dg v).length) (h1 : 1 ≤ L) : (dg v).getD (L - 1) 0 = v / 4294967296 ^ (L - 1) ∧ 0 < v / 4294967296 ^ (L - 1) := by
 have h := dv_two (dg_ok v) (L - 1)
 rw [getD_out (by omega : (dg v).length ≤ L - 1 + 1), dv_dg, Nat.mul_zero, Nat.add_zero] at h
 have h2 := dg_lt_pow v
 rw [← hL] at h2
 rw [Nat.div_eq_of_lt (show v < 4294967296 ^ (L - 1 + 2) from Nat.lt_of_lt_of_le h2 (Nat.pow_le_pow_right (by decide) (by omega))), Nat.mul_zero, Nat.add_zero] at h
 have h3 := nrm_ge (dg_spec v).2.2 (by intro e; rw [e] at hL; simp at hL; omega)
 rw [dv_dg, ← hL] at h3
 exact ⟨h.symm, Nat.div_pos h3 (Nat.pow_pos (by decide))⟩
theorem lead_eq {R n : Nat} (h1 : 1 ≤ n) (h : R < 4294967296 ^ (n + 1)) : R / 4294967296 ^ (n - 1) = (dg R).getD (n - 1) 0 + (dg R).getD n 0 * 4294967296 := by
 have e := dv_two (dg_ok R) (n - 1)
 rw [dv_dg, show n - 1 + 1 = n by omega, Nat.div_eq_of_lt (show R < 4294967296 ^ (n - 1 + 2) by rwa [show n - 1 + 2 = n + 1 by omega]), Nat.mul_zero, Nat.add_zero, Nat.mul_comm] at e
 exact e
theorem guess_ge {R v j L : Nat} (hL : L = (dg v).length) (h1 : 1 ≤ L) (hR : R < v * 4294967296 ^ (j + 1)) : R / (v * 4294967296 ^ j) ≤ min (R / 4294967296 ^ (L + j - 1) / (v / 4294967296 ^ (L - 1))) 4294967295 := by
 have ht := (dg_top hL h1).2
 have hp : 0 < 4294967296 ^ j := Nat.pow_pos (by decide)
 have hv0 : 0 < v := by
   rcases Nat.eq_zero_or_pos v with q | q
   · subst q; simp at ht
   · exact q
 have hvp : 0 < v * 4294967296 ^ j := Nat.mul_pos hv0 hp
 refine Nat.le_min.2 ⟨?_, ?_⟩
 · rw [Nat.le_div_iff_mul_le ht, Nat.le_div_iff_mul_le (Nat.pow_pos (by decide))]
   have h3 : v / 4294967296 ^ (L - 1) * 4294967296 ^ (L - 1) ≤ v := Nat.div_mul_le_self _ _
   have h4 : R / (v * 4294967296 ^ j) * (v * 4294967296 ^ j) ≤ R := Nat.div_mul_le_self _ _
   rw [show L + j - 1 = L - 1 + j by omega, Nat.pow_add]
   calc R / (v * 4294967296 ^ j) * (v / 4294967296 ^ (L - 1)) * (4294967296 ^ (L - 1) * 4294967296 ^ j)
       = R / (v * 4294967296 ^ j) * ((v / 4294967296 ^ (L - 1) * 4294967296 ^ (L - 1)) * 4294967296 ^ j) := by simp only [Nat.mul_assoc]
     _ ≤ R / (v * 4294967296 ^ j) * (v * 4294967296 ^ j) := Nat.mul_le_mul_left _ (Nat.mul_le_mul_right _ h3)
     _ ≤ R := h4
 · have : R / (v * 4294967296 ^ j) < 4294967296 := by
     rw [Nat.div_lt_iff_lt_mul hvp]
     rw [Nat.pow_succ] at hR
     rwa [Nat.mul_comm, Nat.mul_assoc]
   omega
theorem guess_down {R V g : Nat} (hV : 0 < V) (h : R < V * g) : R / V < g := by
 rw [Nat.div_lt_iff_lt_mul hV, Nat.mul_comm]; exact h
theorem guess_eq {R V g : Nat} (hV : 0 < V) (h1 : R / V ≤ g) (h2 : V * g ≤ R) : g = R / V := by
 have : g ≤ R / V := by rw [Nat.le_div_iff_mul_le hV, Nat.mul_comm]; exact h2
 omega
theorem long_inv {R0 R v j g : Nat} {W : List Nat} (hj : j < W.length) (h : R0 = R + dv (W.drop (j + 1)) * 4294967296 ^ (j + 1) * v) (hv : 0 < v * 4294967296 ^ j) (hg : g = R / (v * 4294967296 ^ j)) :
  R0 = (R - v * 4294967296 ^ j * g) + dv ((W.set j g).drop j) * 4294967296 ^ j * v ∧ R - v * 4294967296 ^ j * g < v * 4294967296 ^ j := by
 have h1 := Nat.div_add_mod R (v * 4294967296 ^ j)
 have h2 := Nat.mod_lt R hv
 rw [← hg] at h1
 refine ⟨?_, by omega⟩
 rw [drop_set_dig hj, Nat.add_mul, Nat.add_mul, h, Nat.pow_succ]
 have e : g * 4294967296 ^ j * v = v * 4294967296 ^ j * g := by simp only [Nat.mul_assoc, Nat.mul_left_comm, Nat.mul_comm]
 have e2 : dv (W.drop (j + 1)) * (4294967296 ^ j * 4294967296) * v = dv (W.drop (j + 1)) * 4294967296 * 4294967296 ^ j * v := by simp only [Nat.mul_assoc, Nat.mul_left_comm, Nat.mul_comm]
 rw [e, e2]
 omega
theorem long_end {a b s R : Nat} {D : Nat} (hR : R < b * 2 ^ s) (h : a * 2 ^ s = R + D * (b * 2 ^ s)) : D = a / b ∧ R / 2 ^ s = a % b := by
 have hp : 0 < 2 ^ s := Nat.pow_pos (by decide)
 have hb : 0 < b := by
   rcases Nat.eq_zero_or_pos b with q | q
   · subst q; simp at hR
   · exact q
 have h1 : a = R / 2 ^ s + D * b := by
   have := congrArg (· / 2 ^ s) h
   rw [Nat.mul_div_cancel _ hp, ← Nat.mul_assoc, Nat.add_mul_div_right _ _ hp] at this
   exact this
 have h2 : R / 2 ^ s < b := by rw [Nat.div_lt_iff_lt_mul hp]; exact hR
 have h3 : R / 2 ^ s + b * D = a := by rw [Nat.mul_comm b]; exact h1.symm
 have := (Nat.div_mod_unique hb).2 ⟨h3, h2⟩
 exact ⟨this.1.symm, this.2.symm⟩
theorem long_start {a b s : Nat} (hl : (dg b).length ≤ (dg a).length) (h2 : 1 ≤ (dg b).length) : a * 2 ^ s < b * 2 ^ s * 4294967296 ^ ((dg a).length - (dg b).length + 1) := by
 have h1 := dg_lt_pow a
 have h3 := nrm_ge (dg_spec b).2.2 (by intro e; rw [e] at h2; simp at h2)
 rw [dv_dg] at h3
 have h4 : 4294967296 ^ (dg a).length ≤ b * 4294967296 ^ ((dg a).length - (dg b).length + 1) := by
  rw [show (dg a).length = ((dg b).length - 1) + ((dg a).length - (dg b).length + 1) by omega, Nat.pow_add]
  rw [show (dg b).length - 1 + ((dg a).length - (dg b).length + 1) - (dg b).length + 1 = (dg a).length - (dg b).length + 1 by omega]
  exact Nat.mul_le_mul_right _ h3
 rw [Nat.mul_right_comm]
 exact Nat.mul_lt_mul_of_pos_right (Nat.lt_of_lt_of_le h1 h4) (Nat.pow_pos (by decide))
theorem left32 (x j : Nat) : x * 2 ^ (32 * j) = x * 4294967296 ^ j := by rw [Nat.pow_mul]
theorem lead_lt {R L j : Nat} (h : R < 4294967296 ^ (L + j + 1)) (h1 : 1 ≤ L) : R / 4294967296 ^ (L + j - 1) < 18446744073709551616 := by
 rw [Nat.div_lt_iff_lt_mul (Nat.pow_pos (by decide)), show (18446744073709551616 : Nat) = 4294967296 ^ 2 from rfl, ← Nat.pow_add]
 rwa [show 2 + (L + j - 1) = L + j + 1 by omega]
theorem long_len {R v j L : Nat} (hL : L = (dg v).length) (hR : R < v * 4294967296 ^ (j + 1)) : R < 4294967296 ^ (L + j + 1) := by
 have h := dg_lt_pow v
 rw [← hL] at h
 rw [Nat.add_assoc, Nat.pow_add]
 exact Nat.lt_of_lt_of_le hR (Nat.mul_le_mul_right _ (Nat.le_of_lt h))
set_option maxHeartbeats 4000000 in
theorem q_long {GB : Gh} {a b ia ib : Nat} [ha : BN a ia] [hb : BN b ib] (hi : ia ≤ 500000000) (hj : ib ≤ 500000000) (h2 : 1 ≤ (dg b).length) (hl : (dg b).length ≤ (dg a).length) : PF GB Tryz.prog 165 [dN a, dN b] (.tp [dN (a / b), dN (a % b)]) := by
 refine PF.intro Tryz.func165 rfl rfl Tryz.ntmps165 rfl ?_
 intro C
 have hla := mapU_len (dg a)
 have hlb := mapU_len (dg b)
 have hba := dg_len_le ha.h
 have hba' : (dg a).length ≤ 20000000 := by omega
 refine qR <| tA rfl rfl <| tA rfl rfl <| sd_end <| qR <| tM rfl rfl <| tM rfl rfl <| tY (yq_len rfl) rfl <| ?_
 refine tY (yq_sub64 rfl rfl) rfl <| tY (yq_ix rfl rfl (by omega) (mapU_getZ (k := (dg b).length - 1) (by omega) (by omega)) rfl rfl) rfl <| tY (yq_ldE1 rfl rfl) rfl <| ?_
 refine tC (td_call rfl rfl (q_lz32 (dg_lt b ((dg b).length - 1))) rfl) <| ?_
 obtain ⟨s, hs⟩ : ∃ s : Nat, s = 32 - bl ((dg b).getD ((dg b).length - 1) 0) := ⟨_, rfl⟩
 have hs32 : s ≤ 32 := by omega
 refine sd_eq 22 (.d (vI (s : Nat))) rfl (by show FV.d (.v (.int _ _)) = .d (.v (.int _ _)); congr 3; have := bl_le.2 (show (dg b).getD ((dg b).length - 1) 0 < 2 ^ 32 from dg_lt b _); omega) ?_
 refine tA rfl rfl <| sd_end <| qR <| tM rfl rfl <| tM rfl rfl <| tC (td_call rfl rfl (q_Left (a := b) (k := s) (ia := ib) (by omega) (by omega)) rfl) <| ?_
 refine tM rfl rfl <| tM rfl rfl <| tC (td_call rfl rfl (q_Left (a := a) (k := s) (ia := ia) (by omega) (by omega)) rfl) <| ?_
 obtain ⟨v, hv⟩ : ∃ v, v = b * 2 ^ s := ⟨_, rfl⟩
 obtain ⟨R0, hR0⟩ : ∃ R0, R0 = a * 2 ^ s := ⟨_, rfl⟩
 refine sd_eq 25 (.d (dN v)) rfl (by rw [hv]) (sd_eq 28 (.d (dN R0)) rfl (by rw [hR0]) ?_)
 obtain ⟨L, hL⟩ : ∃ L, L = (dg v).length := ⟨_, rfl⟩
 have hlv : ((dg v).map dU).length = L := by rw [mapU_len, hL]
 have hps : 2 ^ s ≤ 2 ^ 32 := Nat.pow_le_pow_right (by decide) hs32
 have hpp : 0 < 2 ^ s := Nat.pow_pos (by decide)
 have hst := long_start (a := a) (b := b) (s := s) hl h2
 rw [← hv, ← hR0] at hst
 have hvb : v < 2 ^ (ib + 32) := by rw [hv, Nat.pow_add]; exact Nat.mul_lt_mul_of_lt_of_le hb.h hps (by decide)
 have hRb : R0 < 2 ^ (ia + 32) := by rw [hR0, Nat.pow_add]; exact Nat.mul_lt_mul_of_lt_of_le ha.h hps (by decide)
 have hbp : 0 < b := Nat.pos_of_ne_zero (fun q => by subst q; rw [dg_zero] at h2; simp at h2)
 have hvp : 0 < v := hv ▸ Nat.mul_pos hbp hpp
 have hLp : 1 ≤ L := by rw [hL]; exact dg_len_ge (k := 0) (by rw [Nat.pow_zero]; exact hvp)
 have htop := dg_top hL hLp
 haveI hvB : BN v (ib + 32) := ⟨hvb⟩
 have hLb := dg_len_le hvb
 have hLb' : L ≤ 20000000 := by omega
 have htl := dg_lt v (L - 1)
 refine tA rfl rfl <| tA rfl rfl <| sd_end <| qR <| tM rfl rfl <| tM rfl rfl <| tY (yq_len rfl) rfl <| ?_
 refine sd_eq 31 (.d (vI (L : Nat))) rfl (by rw [hlv]; rfl) ?_
 refine tY (yq_sub64 rfl rfl) rfl <| tY (yq_ix rfl rfl (by omega) (mapU_getZ (k := L - 1) (by omega) (by omega)) rfl rfl) rfl <| tY (yq_ldE1 rfl rfl) rfl <| tY (yq_toU64 rfl) rfl <| ?_
 refine sd_eq 35 (.d (.v (.int .u64 (v / 4294967296 ^ (L - 1) : Nat)))) rfl (by rw [htop.1]) ?_
 rw [htop.1] at htl
 refine tA rfl rfl <| sd_end <| qR <| tM rfl rfl <| tY (yq_len rfl) rfl <| tM rfl rfl <| tY (yq_len rfl) rfl <| tY (yq_sub64 rfl rfl) rfl <| ?_
 refine tY (yq_add64 rfl rfl) rfl <| ?_
 obtain ⟨m, hm⟩ : ∃ m, m = (dg a).length - (dg b).length + 1 := ⟨_, rfl⟩
 rw [← hm] at hst
 have hrl : (List.replicate ((m : Nat) : Int).toNat (DV.v (.int .u32 0))).length = m := by rw [List.length_replicate, Int.toNat_natCast]
 refine sd_eq 41 (.d (vI (m : Nat))) rfl (by show FV.d (.v (.int _ _)) = .d (.v (.int _ _)); congr 3; omega) ?_
 refine tF (tf_make rfl rfl (by omega) (by omega) (by omega) rfl rfl) <| ?_
 intro w1
 refine tA rfl rfl <| sd_end <| sd_seq <| qR <| tM rfl rfl <| tY (yq_lenB rfl) rfl <| tY (yq_sub64 rfl rfl) rfl <| tA rfl rfl <| ?_
 refine sd_end <| sd_block <| ?_
 refine sd_loop (X := List Nat × Nat × Nat) (fun x => [(6, .d (vI (s : Nat))), (7, .d (dN v)), (8, .d (dN x.2.1)), (9, .d (.v (.int .u64 (v / 4294967296 ^ (L - 1) : Nat)))), (10, w1.f), (11, .d (vI ((x.2.2 : Nat) - 1)))]) (fun x => []) (fun x => [⟨w1, 1, 224, x.1.map dU, true⟩]) (fun x => x.1.length = m ∧ DOk x.1 ∧ x.2.2 ≤ m ∧ R0 = x.2.1 + dv (x.1.drop x.2.2) * 4294967296 ^ x.2.2 * v ∧ x.2.1 < v * 4294967296 ^ x.2.2 ∧ x.2.1 ≤ R0) (fun x => x.2.2) ⟨List.replicate m 0, R0, m⟩ (by dsimp only; exact ⟨by simp, .replicate _, Nat.le_refl _, by simp [dv], hst, Nat.le_refl _⟩) (.cons rfl (.cons rfl (.cons rfl (.cons rfl (.cons rfl (.cons' rfl (by show FV.d (.v (.int _ _)) = .d (.v (.int _ _)); simp) .nil)))))) rfl (by rw [← mapU_rep]; rfl) ?_
 rintro GB1 hGB1 ⟨W, R, k⟩ ⟨h1, h2', h3, h4, h5, h6⟩
 try dsimp only at *
 have hlw := mapU_len W
 refine sd_seq <| qR <| tM rfl rfl <| tY (yq_geq rfl rfl) rfl <| sd_end <| ?_
 refine sd_condP rfl (fun hc47 => ?_) (fun hc47 => ?_)
 ·
  obtain ⟨j, rfl⟩ : ∃ j, k = j + 1 := ⟨k - 1, by omega⟩
  have hvj : 0 < v * 4294967296 ^ j := Nat.mul_pos hvp (Nat.pow_pos (by decide))
  have hge := guess_ge hL hLp h5
  have hlen := long_len hL h5
  have hlr : ((dg R).map dU).length = (dg R).length := mapU_len _
  haveI hRB : BN R (ia + 32) := ⟨by omega⟩
  have hq32 : R / (v * 4294967296 ^ j) < 4294967296 := by omega
  have hz1 := Int.natCast_nonneg (R / 4294967296 ^ (L + j - 1))
  have hz2 := Int.natCast_nonneg (R / 4294967296 ^ (L + j - 1) / (v / 4294967296 ^ (L - 1)))
  refine sd_eq 11 (.d (vI (j : Nat))) rfl (by show FV.d (.v (.int _ _)) = .d (.v (.int _ _)); congr 3; omega) ?_
  refine sd_skipc <| sd_seq <| sd_block <| qR <| tA rfl rfl <| sd_end <| ?_
  refine sd_cut (Unit) (fun _ => [(6, .d (vI (s : Nat))), (7, .d (dN v)), (8, .d (dN R)), (9, .d (.v (.int .u64 (v / 4294967296 ^ (L - 1) : Nat)))), (10, w1.f), (11, .d (vI (j : Nat))), (12, .d (.v (.int .u64 (R / 4294967296 ^ (L + j - 1) : Nat))))]) (fun _ => []) (fun _ => [⟨w1, 1, 224, W.map dU, true⟩]) (fun _ => True) ?_ ?_
  ·
   refine qR <| tM rfl rfl <| tY (yq_len rfl) rfl <| ?_
   refine sd_eq 51 (.d (vI (L : Nat))) rfl (by rw [hlv]; rfl) ?_
   refine tM rfl rfl <| tY (yq_add64 rfl rfl) rfl <| ?_
   refine sd_eq 53 (.d (vI (L + j : Nat))) rfl (by show FV.d (.v (.int _ _)) = .d (.v (.int _ _)); congr 3) ?_
   refine tA rfl rfl <| sd_end <| qR <| tM rfl rfl <| tM rfl rfl <| tY (yq_len rfl) rfl <| ?_
   refine sd_eq 56 (.d (vI ((dg R).length : Nat))) rfl (by rw [hlr]; rfl) ?_
   refine tY (yq_lss rfl rfl) rfl <| sd_end <| ?_
   refine sd_condP rfl (fun hc57 => ?_) (fun hc57 => ?_)
   ·
    have hd0 := dg_lt R (L + j - 1)
    have hd1 := dg_lt R (L + j)
    refine drX (own0 := _) (own1 := []) (bs0 := []) (bs1 := _) [] [(0, true), (1, true), (2, true), (3, true), (4, true), (5, true), (6, true), (7, true), (8, true), (9, true), (10, true), (11, true), (12, true), (13, true)] [] follows (by rw [List.append_nil]) (List.Perm.refl _) (by kernel_rfl) ?_
    refine dyX rfl (yq_move rfl) rfl <| ?_
    refine dyX rfl (yq_move rfl) rfl <| ?_
    refine dyX rfl (yq_ix rfl rfl (by omega) (mapU_getZ (k := L + j) (by omega) (by omega)) rfl rfl) rfl <| ?_
    refine dyX rfl (yq_ldE1 rfl rfl) rfl <| ?_
    refine dyX rfl (yq_toU64 rfl) rfl <| ?_
    refine dyX rfl (yq_shl rfl rfl (by decide)) rfl <| ?_
    refine dyX rfl (yq_move rfl) rfl <| ?_
    refine dyX rfl (yq_move rfl) rfl <| ?_
    refine dyX rfl (yq_sub64 rfl rfl) rfl <| ?_
    refine dyX rfl (yq_ix rfl rfl (by omega) (mapU_getZ (k := L + j - 1) (by omega) (by omega)) rfl rfl) rfl <| ?_
    refine dyX rfl (yq_ldE1 rfl rfl) rfl <| ?_
    refine dyX rfl (yq_toU64 rfl) rfl <| ?_
    refine dyX rfl (yq_or64 (r := (dg R).getD (L + j - 1) 0 + (dg R).getD (L + j) 0 * 4294967296) rfl rfl (by rw [shl_u64 _ 32 (by decide) (by show _ * 4294967296 < _; omega) rfl, BitVec.or_comm]; exact bv_or 64 ((dg R).getD (L + j - 1) 0) ((dg R).getD (L + j) 0) 32 hd0 (by show _ + _ * 4294967296 < 18446744073709551616; omega))) rfl <| ?_
    refine dyX rfl (yq_assign rfl) rfl <| ?_
    refine outX0 <| onX <| outX0 <| dnX <| ?_
    simp only [List.nil_append, List.append_nil, List.cons_append]
    refine sd_eq 12 (.d (.v (.int .u64 (R / 4294967296 ^ (L + j - 1) : Nat)))) rfl (by rw [lead_eq (by omega) hlen]) ?_
    exact sd_at () trivial (by repeat (first | exact .nil | refine .cons rfl ?_ | refine .cons' rfl (by first | (simp [vI]; done) | (congr 3; omega) | (simp [vI]; omega)) ?_)) rfl rfl
   ·
    refine qR <| tM rfl rfl <| tY (yq_sub64 rfl rfl) rfl <| tM rfl rfl <| tY (yq_len rfl) rfl <| ?_
    refine sd_eq 74 (.d (vI ((dg R).length : Nat))) rfl (by rw [hlr]; rfl) ?_
    refine tY (yq_lss rfl rfl) rfl <| sd_end <| ?_
    refine sd_condP rfl (fun hc75 => ?_) (fun hc75 => ?_)
    ·
     have hd0 := dg_lt R (L + j - 1)
     refine sd_region <| tM rfl rfl <| tM rfl rfl <| tY (yq_sub64 rfl rfl) rfl <| tY (yq_ix rfl rfl (by omega) (mapU_getZ (k := L + j - 1) (by omega) (by omega)) rfl rfl) rfl <| ?_
     refine tY (yq_ldE1 rfl rfl) rfl <| tY (yq_toU64 rfl) rfl <| tA rfl rfl <| sd_end <| ?_
     refine sd_eq 12 (.d (.v (.int .u64 (R / 4294967296 ^ (L + j - 1) : Nat)))) rfl (by rw [lead_eq (by omega) hlen, getD_out (by omega : (dg R).length ≤ L + j), Nat.zero_mul, Nat.add_zero]) ?_
     exact sd_at () trivial (by repeat (first | exact .nil | refine .cons rfl ?_ | refine .cons' rfl (by first | (simp [vI]; done) | (congr 3; omega) | (simp [vI]; omega)) ?_)) rfl rfl
    ·
     refine sd_skipc <| ?_
     refine sd_eq 12 (.d (.v (.int .u64 (R / 4294967296 ^ (L + j - 1) : Nat)))) rfl (by rw [lead_eq (by omega) hlen, getD_out (by omega : (dg R).length ≤ L + j), getD_out (by omega : (dg R).length ≤ L + j - 1)]; rfl) ?_
     exact sd_at () trivial (by repeat (first | exact .nil | refine .cons rfl ?_ | refine .cons' rfl (by first | (simp [vI]; done) | (congr 3; omega) | (simp [vI]; omega)) ?_)) rfl rfl
  rintro _ _
  refine qR <| tM rfl rfl <| tM rfl rfl <| tY (yq_quoU rfl rfl (by omega) (by have := lead_lt hlen hLp; omega) (by omega)) rfl <| tY (yq_min rfl rfl) rfl <| ?_
  obtain ⟨g0, hg0'⟩ : ∃ g0, g0 = min (R / 4294967296 ^ (L + j - 1) / (v / 4294967296 ^ (L - 1))) 4294967295 := ⟨_, rfl⟩
  rw [← hg0'] at hge
  have hg0 := hge
  have hg1 : g0 ≤ 4294967295 := by omega
  refine sd_eq 85 (.d (.v (.int .u64 (g0 : Nat)))) rfl (by show FV.d (.v (.int _ _)) = .d (.v (.int _ _)); congr 3; rw [← Int.natCast_ediv]; split <;> omega) ?_
  refine tA rfl rfl <| sd_end <| qR <| tM rfl rfl <| tM rfl rfl <| tC (td_call rfl rfl (q_Word (u := g0) (by omega)) rfl) <| tC (td_call rfl rfl (q_Product (ia := ib + 32) (ib := 32) (hb := ⟨by show _ < 4294967296; omega⟩) (by omega) (by decide)) rfl) <| ?_
  refine tM rfl rfl <| tY (yq_mul64 rfl rfl (by omega) (by omega)) rfl <| ?_
  refine sd_eq 91 (.d (vI (32 * j : Nat))) rfl (by show FV.d (.v (.int _ _)) = .d (.v (.int _ _)); congr 3) ?_
  refine tC (td_call rfl rfl (q_Left (k := 32 * j) (ia := ib + 64) (ha := ⟨by rw [show ib + 64 = ib + 32 + 32 by omega, Nat.pow_add]; exact Nat.mul_lt_mul'' hvb (by show _ < 4294967296; omega)⟩) (by omega) (by omega)) rfl) <| ?_
  refine sd_eq 92 (.d (dN (v * 4294967296 ^ j * g0))) rfl (by rw [left32, Nat.mul_right_comm]) ?_
  refine tA rfl rfl <| sd_end <| sd_seq <| sd_block <| ?_
  refine sd_loop (X := Nat) (fun x => [(6, .d (vI (s : Nat))), (7, .d (dN v)), (8, .d (dN R)), (9, .d (.v (.int .u64 (v / 4294967296 ^ (L - 1) : Nat)))), (10, w1.f), (11, .d (vI (j : Nat))), (14, .d (.v (.int .u64 (x : Nat)))), (15, .d (dN (v * 4294967296 ^ j * x)))]) (fun x => []) (fun x => [⟨w1, 1, 224, W.map dU, true⟩]) (fun x => R / (v * 4294967296 ^ j) ≤ x ∧ x ≤ 4294967295) (fun x => x) g0 ⟨hg0, by omega⟩ (by repeat (first | exact .nil | refine .cons rfl ?_ | refine .cons' rfl (by first | (simp [vI]; done) | (congr 3; omega) | (simp [vI]; omega)) ?_)) rfl rfl ?_
  rintro GB2 hGB2 g ⟨g1, g2⟩
  try dsimp only at *
  have hlw := mapU_len W
  refine sd_seq <| qR <| tM rfl rfl <| tM rfl rfl <| tC (td_call rfl rfl (q_Cmp (a := v * 4294967296 ^ j * g) (b := R) (by have := dg_len_of (a := v * 4294967296 ^ j * g) (k := L + j + 1) (by have h1 := dg_lt_pow v; rw [← hL] at h1; rw [Nat.pow_succ, Nat.pow_add]; exact Nat.mul_lt_mul'' (Nat.mul_lt_mul_of_pos_right h1 (Nat.pow_pos (by decide))) (by omega)); omega) (by have := dg_len_of hlen; omega)) rfl) <| ?_
  refine tY (yq_gtr rfl rfl) rfl <| sd_end <| ?_
  refine sd_condP rfl (fun hc96 => ?_) (fun hc96 => ?_)
  ·
   have hgd := guess_down hvj (cmpN_pos.1 hc96)
   have hg1p : 1 ≤ g := Nat.lt_of_le_of_lt (Nat.zero_le _) hgd
   refine sd_skipc <| sd_block <| qR <| tM rfl rfl <| tY (yq_subU rfl rfl (by omega) (by omega)) rfl <| ?_
   refine sd_eq 98 (.d (.v (.int .u64 ((g - 1 : Nat) : Int)))) rfl (by show FV.d (.v (.int _ _)) = .d (.v (.int _ _)); congr 3; omega) ?_
   refine tA rfl rfl <| sd_end <| sd_region <| tM rfl rfl <| tM rfl rfl <| tC (td_call rfl rfl (q_Word (u := g - 1) (by omega)) rfl) <| tC (td_call rfl rfl (q_Product (ia := ib + 32) (ib := 32) (hb := ⟨by show _ < 4294967296; omega⟩) (by omega) (by decide)) rfl) <| ?_
   refine tM rfl rfl <| tY (yq_mul64 rfl rfl (by omega) (by omega)) rfl <| ?_
   refine sd_eq 104 (.d (vI (32 * j : Nat))) rfl (by show FV.d (.v (.int _ _)) = .d (.v (.int _ _)); congr 3) ?_
   refine tC (td_call rfl rfl (q_Left (k := 32 * j) (ia := ib + 64) (ha := ⟨by rw [show ib + 64 = ib + 32 + 32 by omega, Nat.pow_add]; exact Nat.mul_lt_mul'' hvb (by show _ < 4294967296; omega)⟩) (by omega) (by omega)) rfl) <| ?_
   refine sd_eq 105 (.d (dN (v * 4294967296 ^ j * (g - 1)))) rfl (by rw [left32, Nat.mul_right_comm]) ?_
   refine tA rfl rfl <| sd_end <| ?_
   exact sd_again (g - 1) ⟨by have := guess_down hvj (cmpN_pos.1 hc96); omega, by omega⟩ (by have := guess_down hvj (cmpN_pos.1 hc96); omega) (by repeat (first | exact .nil | refine .cons rfl ?_ | refine .cons' rfl (by first | (simp [vI]; done) | (congr 3; omega) | (simp [vI]; omega)) ?_)) rfl rfl
  ·
   have hgq := guess_eq hvj g1 (Nat.le_of_not_lt fun q => hc96 (cmpN_pos.2 q))
   refine sd_exit <| sd_ts <| sd_te <| sd_inBlock_eq <| qR <| tM rfl rfl <| tM rfl rfl <| tM rfl rfl <| tY (yq_toU32 rfl) rfl <| ?_
   refine sd_eq 109 (.d (dU g)) rfl (by show FV.d (.v (.int _ _)) = .d (.v (.int _ _)); congr 3; omega) ?_
   refine tY (yq_ixB rfl rfl (by omega) (by simp; omega)) rfl <| tC (td_storeB1 rfl rfl (by repeat (first | exact .hd .. | apply BRemD.tl)) (mapU_getZ (k := j) (by omega) (by omega)) rfl rfl) <| ?_
   refine sd_bh ((W.set j (R / (v * 4294967296 ^ j))).map dU) (by rw [← hgq, Int.toNat_natCast, ← mapU_set]) ?_
   refine sd_end <| sd_region <| tM rfl rfl <| tM rfl rfl <| tC (td_call rfl rfl (q_Less (a := R) (b := v * 4294967296 ^ j * g) (ia := ia + 32) (by rw [hgq]; exact Nat.mul_div_le _ _) (by omega)) rfl) <| ?_
   refine sd_eq 113 (.d (dN (R - v * 4294967296 ^ j * (R / (v * 4294967296 ^ j))))) rfl (by rw [hgq]) ?_
   refine tA rfl rfl <| sd_end <| sd_region <| tM rfl rfl <| tY (yq_sub64 rfl rfl) rfl <| tA rfl rfl <| sd_end <| ?_
   exact sd_againU hGB2 ⟨W.set j (R / (v * 4294967296 ^ j)), R - v * 4294967296 ^ j * (R / (v * 4294967296 ^ j)), j⟩ (by dsimp only; exact ⟨by simpa using h1, h2'.set _ (by omega), by omega, (long_inv (by omega) h4 hvj rfl).1, (long_inv (by omega) h4 hvj rfl).2, by omega⟩) (by dsimp only; omega) (by repeat (first | exact .nil | refine .cons rfl ?_ | refine .cons' rfl (by first | (simp [vI]; done) | (congr 3; omega) | (simp [vI]; omega)) ?_)) rfl rfl
 ·
  obtain rfl : k = 0 := by omega
  rw [Nat.pow_zero, Nat.mul_one] at h5
  rw [Nat.pow_zero, Nat.mul_one, List.drop_zero, hR0, hv] at h4
  rw [hv] at h5
  have hend := long_end h5 h4
  haveI hRB : BN R (ia + 32) := ⟨by omega⟩
  refine sd_exit <| sd_ts <| sd_te <| sd_inBlock_eq <| qR <| tM rfl rfl <| ?_
  refine sd_freezeB [10, 114] (w := w1) (by repeat (first | exact .hd .. | apply BRemD.tl)) (by simp only [List.forall_mem_cons, List.not_mem_nil, false_implies, implies_true, and_true]; exact ⟨rfl, rfl⟩) ?_
  refine tC (td_call rfl rfl (q_Trim (ds := W) (by omega)) rfl) <| tM rfl rfl <| tM rfl rfl <| tC (td_call rfl rfl (q_Right (a := R) (k := s) (ia := ia + 32) (by omega) (by omega)) rfl) <| ?_
  refine tA rfl rfl <| tA rfl rfl <| sd_end <| sd_ret <| ?_
  exact sd_done (.tmp rfl (.tmp rfl .nil)) (by show DV.tp [dLi _, dN _] = .tp [dN _, dN _]; rw [dL_trim h2' hend.1, hend.2])
end Go.Sx
end

section
set_option maxRecDepth 100000
namespace Go.Sx
open Go Go.Proofs
theorem dg_len_mono {a b : Nat} (h : b ≤ a) : (dg b).length ≤ (dg a).length := dg_len_of (Nat.lt_of_le_of_lt h (dg_lt_pow a))
set_option maxHeartbeats 4000000 in
theorem q_Divide {GB : Gh} {a b ia ib : Nat} [ha : BN a ia] [hb : BN b ib] (hb0 : 0 < b) (hi : ia ≤ 500000000 := by decide) (hj : ib ≤ 500000000 := by decide) : PF GB Tryz.prog 121 [dN a, dN b] (.tp [dN (a / b), dN (a % b)]) := by
 refine PF.intro Tryz.func121 rfl rfl Tryz.ntmps121 rfl ?_
 intro C
 have hla := mapU_len (dg a)
 have hlb := mapU_len (dg b)
 have hba := dg_len_le ha.h
 have hbb := dg_len_le hb.h
 have hba' : (dg a).length ≤ 20000000 := by omega
 have hbb' : (dg b).length ≤ 20000000 := by omega
 have hlb1 : 1 ≤ (dg b).length := dg_len_ge (k := 0) (by rw [Nat.pow_zero]; exact hb0)
 refine qR <| tA rfl rfl <| tA rfl rfl <| sd_end <| ?_
 refine sd_cut (Unit) (fun _ => [(0, .d (dN a)), (1, .d (dN b))]) (fun _ => []) (fun _ => []) (fun _ => True) ?_ ?_
 ·
  refine qR <| tM rfl rfl <| tC (td_call rfl rfl (q_word (a := a) (ia := ia) (by omega)) rfl) <| tM rfl rfl <| tY (yq_ext rfl rfl) rfl <| tY (yq_ext rfl rfl) rfl <| ?_
  refine tA rfl rfl <| tA rfl rfl <| sd_end <| qR <| tM rfl rfl <| sd_end <| ?_
  refine sd_condP rfl (fun hc18 => ?_) (fun hc18 => ?_)
  ·
   refine sd_eq 6 (.d (.v (.int .u64 (a : Nat)))) rfl (by rw [if_pos hc18]) ?_
   refine qR <| tM rfl rfl <| tC (td_call rfl rfl (q_word (a := b) (ia := ib) (by omega)) rfl) <| tM rfl rfl <| tY (yq_ext rfl rfl) rfl <| tY (yq_ext rfl rfl) rfl <| ?_
   refine tA rfl rfl <| tA rfl rfl <| sd_end <| qR <| tM rfl rfl <| sd_end <| ?_
   refine sd_condP rfl (fun hc24 => ?_) (fun hc24 => ?_)
   ·
    refine sd_eq 8 (.d (.v (.int .u64 (b : Nat)))) rfl (by rw [if_pos hc24]) ?_
    have hdl := Nat.div_le_self a b
    have hml := Nat.mod_le a b
    refine sd_seq <| ?_
    refine drX (own0 := _) (own1 := []) (bs0 := []) (bs1 := _) [] [(0, true), (1, true), (2, true), (4, true), (5, true), (6, true), (3, false), (7, false), (8, true), (9, true)] [] follows (by rw [List.append_nil]) (List.Perm.refl _) (by kernel_rfl) ?_
    refine dyX rfl (yq_move rfl) rfl <| ?_
    refine dyX rfl (yq_move rfl) rfl <| ?_
    refine dyX rfl (yq_quoU rfl rfl (by omega) (by omega) (by omega)) rfl <| ?_
    refine dyX rfl (yq_move rfl) rfl <| ?_
    refine dyX rfl (yq_move rfl) rfl <| ?_
    refine dyX rfl (yq_remU rfl rfl (by omega) (by omega)) rfl <| ?_
    refine dcX rfl (td_call rfl rfl (q_Word (u := a / b) (by omega)) rfl) FDok.nil rfl <| ?_
    refine dcX rfl (td_call rfl rfl (q_Word (u := a % b) (by omega)) rfl) FDok.nil rfl <| ?_
    refine dyX rfl (yq_assign rfl) rfl <| ?_
    refine dyX rfl (yq_assign rfl) rfl <| ?_
    refine outX0 <| onX <| outX0 <| dnX <| ?_
    simp only [List.nil_append, List.append_nil, List.cons_append]
    refine sd_ret <| ?_
    exact sd_done (.tmp rfl (.tmp rfl .nil)) rfl
   ·
    refine sd_skipc <| ?_
    exact sd_at () trivial (by repeat (first | exact .nil | refine .cons rfl ?_ | refine .cons' rfl (by first | (simp [vI]; done) | (congr 3; omega) | (simp [vI]; omega)) ?_)) rfl rfl
  ·
   refine sd_skipc <| ?_
   exact sd_at () trivial (by repeat (first | exact .nil | refine .cons rfl ?_ | refine .cons' rfl (by first | (simp [vI]; done) | (congr 3; omega) | (simp [vI]; omega)) ?_)) rfl rfl
 rintro _ _
 refine sd_seq <| qR <| tM rfl rfl <| tM rfl rfl <| tC (td_call rfl rfl (q_Cmp (by omega) (by omega)) rfl) <| tY (yq_lss rfl rfl) rfl <| sd_end <| ?_
 refine sd_condP rfl (fun hc36 => ?_) (fun hc36 => ?_)
 ·
  have hab := cmpN_neg.1 hc36
  refine qR <| tF (tf_row0 rfl) <| ?_
  intro w1
  refine tM rfl rfl <| tF (tf_append (w := w1) rfl (by repeat (first | exact .hd .. | apply BRemD.tl)) (.sl rfl (slOkU _)) rfl (by simp; omega) rfl rfl) <| ?_
  intro w2
  refine tA rfl rfl <| tA rfl rfl <| sd_end <| sd_ret <| ?_
  refine sd_freezeB [39, 5] (w := w2) (by repeat (first | exact .hd .. | apply BRemD.tl)) (by simp only [List.forall_mem_cons, List.not_mem_nil, false_implies, implies_true, and_true]; exact ⟨rfl, rfl⟩) ?_
  exact sd_done (.tmp rfl (.tmp rfl .nil)) (by show DV.tp [_, .sl ([] ++ _)] = .tp [_, _]; rw [Nat.div_eq_of_lt hab, Nat.mod_eq_of_lt hab, dN_zero]; rfl)
 ·
  have hab : b ≤ a := Nat.le_of_not_lt fun q => hc36 (cmpN_neg.2 q)
  have hlab : (dg b).length ≤ (dg a).length := dg_len_mono hab
  refine sd_skipc <| sd_seq <| qR <| tM rfl rfl <| tY (yq_len rfl) rfl <| tY (yq_eql rfl rfl) rfl <| sd_end <| ?_
  refine sd_condP rfl (fun hc42 => ?_) (fun hc42 => ?_)
  ·
   have hb1 : b < 4294967296 := by have := dg_lt_pow b; rw [show (dg b).length = 1 by omega] at this; omega
   have hbd : (dg b).getD 0 0 = b := dg_one_digit (by omega)
   refine qR <| tM rfl rfl <| tY (yq_len rfl) rfl <| ?_
   refine sd_eq 44 (.d (vI ((dg a).length : Nat))) rfl (by rw [hla]; rfl) ?_
   refine tF (tf_make rfl rfl (by omega) (by omega) (by omega) rfl rfl) <| ?_
   intro w3
   refine tA rfl rfl <| sd_end <| qR <| tA rfl rfl <| sd_end <| sd_seq <| qR <| tM rfl rfl <| tY (yq_len rfl) rfl <| ?_
   refine sd_eq 47 (.d (vI ((dg a).length : Nat))) rfl (by rw [hla]; rfl) ?_
   refine tY (yq_sub64 rfl rfl) rfl <| tA rfl rfl <| sd_end <| sd_block <| ?_
   refine sd_loop (X := List Nat × Nat) (fun x => [(0, .d (dN a)), (1, .d (dN b)), (10, w3.f), (11, .d (dU (dv ((dg a).drop x.2) % b))), (12, .d (vI ((x.2 : Nat) - 1)))]) (fun x => []) (fun x => [⟨w3, 1, 224, x.1.map dU, true⟩]) (fun x => x.1.length = (dg a).length ∧ DOk x.1 ∧ x.2 ≤ (dg a).length ∧ dv (x.1.drop x.2) = dv ((dg a).drop x.2) / b) (fun x => x.2) ⟨List.replicate (dg a).length 0, (dg a).length⟩ (by dsimp only; exact ⟨by simp, .replicate _, Nat.le_refl _, by simp [dv]⟩) (.cons rfl (.cons rfl (.cons rfl (.cons' rfl (by simp [dv, dU]) (.cons' rfl (by simp [vI]) .nil))))) rfl (by rw [← mapU_rep]; rfl) ?_
   rintro GB1 hGB1 ⟨W, k⟩ ⟨h1, h2, h3, h4⟩
   try dsimp only at *
   have hlw := mapU_len W
   refine sd_seq <| qR <| tM rfl rfl <| tY (yq_geq rfl rfl) rfl <| sd_end <| ?_
   refine sd_condP rfl (fun hc50 => ?_) (fun hc50 => ?_)
   ·
    obtain ⟨k, rfl⟩ : ∃ j, k = j + 1 := ⟨k - 1, by omega⟩
    have hsi := short_inv hb0 (by omega) h1 h4
    have hrm := Nat.mod_lt (dv ((dg a).drop (k + 1))) hb0
    have hdk := dg_lt a k
    have hqd : (dv ((dg a).drop (k + 1)) % b * 4294967296 + (dg a).getD k 0) / b < 4294967296 := by rw [Nat.div_lt_iff_lt_mul hb0]; have := Nat.mul_le_mul_left 4294967296 (show dv ((dg a).drop (k + 1)) % b + 1 ≤ b from hrm); omega
    refine sd_eq 12 (.d (vI (k : Nat))) rfl (by show FV.d (.v (.int _ _)) = .d (.v (.int _ _)); congr 3; omega) ?_
    refine sd_skipc <| sd_seq <| sd_block <| ?_
    refine drX (own0 := _) (own1 := []) (bs0 := []) (bs1 := _) [] [(0, true), (1, true), (2, true), (3, true), (4, true), (5, true), (6, true), (7, true), (8, true), (9, true), (10, false), (11, true), (12, true), (13, true), (14, false), (15, false), (16, true)] [] follows (by rw [List.append_nil]) (List.Perm.refl _) (by kernel_rfl) ?_
    refine dyX rfl (yq_move rfl) rfl <| ?_
    refine dyX rfl (yq_move rfl) rfl <| ?_
    refine dyX rfl (yq_move rfl) rfl <| ?_
    refine dyX rfl (yq_move rfl) rfl <| ?_
    refine dyX rfl (yq_move rfl) rfl <| ?_
    refine dyX rfl (yq_ix rfl rfl (by omega) (mapU_getZ (k := k) (by omega) (by omega)) rfl rfl) rfl <| ?_
    refine dyX rfl (yq_ldE1 rfl rfl) rfl <| ?_
    refine dyX rfl (yq_move rfl) rfl <| ?_
    refine dyX rfl (yq_ix rfl rfl (by omega) (mapU_getZ (k := 0) rfl (by omega)) rfl rfl) rfl <| ?_
    refine dyX rfl (yq_ldE1 rfl rfl) rfl <| ?_
    refine dcX rfl (td_call rfl rfl (q_Div32 (h := dv ((dg a).drop (k + 1)) % b) (l := (dg a).getD k 0) (y := (dg b).getD 0 0) (by omega) hdk (by omega)) rfl) FDok.nil rfl <| ?_
    refine dyX rfl (yq_move rfl) rfl <| ?_
    refine dyX rfl (yq_ext rfl rfl) rfl <| ?_
    refine dyX rfl (yq_ext rfl rfl) rfl <| ?_
    refine dcX rfl (td_yd (yq_ixB rfl rfl (by omega) (by simp; omega)) rfl) FDok.nil rfl <| ?_
    refine dcX rfl (td_storeB1 rfl rfl (by repeat (first | exact .hd .. | apply BRemD.tl)) (mapU_getZ (k := k) (by omega) (by omega)) rfl rfl) FDok.nil rfl <| ?_
    refine dyX rfl (yq_assign rfl) rfl <| ?_
    refine outX0 <| onX <| outX0 <| dnX <| ?_
    simp only [List.nil_append, List.append_nil, List.cons_append]
    refine sd_region <| tM rfl rfl <| tY (yq_sub64 rfl rfl) rfl <| tA rfl rfl <| sd_end <| ?_
    exact sd_again ⟨W.set k ((dv ((dg a).drop (k + 1)) % b * 4294967296 + (dg a).getD k 0) / b), k⟩ (by dsimp only; exact ⟨by simpa using h1, h2.set _ hqd, by omega, hsi.1⟩) (by dsimp only; omega) (.cons rfl (.cons rfl (.cons rfl (.cons' rfl (by rw [hsi.2, hbd]) (.cons' rfl (by first | (simp [vI]; done) | (simp [vI]; omega)) .nil))))) rfl (by rw [hbd, Int.toNat_natCast, ← mapU_set])
   ·
    refine sd_exit <| sd_ts <| sd_te <| sd_inBlock_eq <| qR <| tM rfl rfl <| ?_
    refine sd_freezeB [10, 68] (w := w3) (by repeat (first | exact .hd .. | apply BRemD.tl)) (by simp only [List.forall_mem_cons, List.not_mem_nil, false_implies, implies_true, and_true]; exact ⟨rfl, rfl⟩) ?_
    refine tC (td_call rfl rfl (q_Trim (ds := W) (by omega)) rfl) <| tM rfl rfl <| tC (td_rowF rfl rfl rfl rfl rfl rfl rfl) <| tC (td_call rfl rfl (q_Trim (ds := [dv ((dg a).drop k) % b]) (by simp)) rfl) <| ?_
    refine tA rfl rfl <| tA rfl rfl <| sd_end <| sd_ret <| ?_
    exact sd_done (.tmp rfl (.tmp rfl .nil)) (by show DV.tp [dLi _, dLi _] = .tp [_, _]; obtain rfl : k = 0 := (by omega); rw [List.drop_zero, List.drop_zero, dv_dg] at h4; rw [List.drop_zero, dv_dg]; rw [dL_trim h2 h4, dL_trim (.cons (by have := Nat.mod_lt a hb0; omega) .nil) (n := a % b) (by simp [dv])])
  ·
   refine sd_skipc <| qR <| tM rfl rfl <| tM rfl rfl <| tC (td_call rfl rfl (q_long (by omega) (by omega) hlb1 hlab) rfl) <| tY (yq_ext rfl rfl) rfl <| ?_
   refine tY (yq_ext rfl rfl) rfl <| tA rfl rfl <| tA rfl rfl <| sd_end <| sd_ret <| ?_
   exact sd_done (.tmp rfl (.tmp rfl .nil)) rfl
theorem gcd_next (x y : Nat) : Nat.gcd y (x % y) = Nat.gcd x y := by rw [Nat.gcd_comm x y, Nat.gcd_rec y x, Nat.gcd_comm]
set_option maxHeartbeats 4000000 in
theorem q_Common {GB : Gh} {a b ia ib : Nat} [ha : BN a ia] [hb : BN b ib] (hi : ia ≤ 240000000 := by decide) (hj : ib ≤ 240000000 := by decide) : PF GB Tryz.prog 73 [dN a, dN b] (dN (Nat.gcd a b)) := by
 refine PF.intro Tryz.func73 rfl rfl Tryz.ntmps73 rfl ?_
 intro C
 refine qR <| tA rfl rfl <| sd_end <| ?_
 refine sd_cut (Unit) (fun _ => [(0, .d (dN a)), (1, .d (dN b))]) (fun _ => []) (fun _ => []) (fun _ => True) ?_ ?_
 ·
  refine qR <| tM rfl rfl <| tC (td_call rfl rfl (q_word (a := a) (ia := ia) (by omega)) rfl) <| tM rfl rfl <| tY (yq_ext rfl rfl) rfl <| tY (yq_ext rfl rfl) rfl <| ?_
  refine tA rfl rfl <| tA rfl rfl <| sd_end <| qR <| tM rfl rfl <| sd_end <| ?_
  refine sd_condP rfl (fun hc16 => ?_) (fun hc16 => ?_)
  ·
   refine sd_eq 5 (.d (.v (.int .u64 (a : Nat)))) rfl (by rw [if_pos hc16]) ?_
   refine qR <| tM rfl rfl <| tC (td_call rfl rfl (q_word (a := b) (ia := ib) (by omega)) rfl) <| tM rfl rfl <| tY (yq_ext rfl rfl) rfl <| tY (yq_ext rfl rfl) rfl <| ?_
   refine tA rfl rfl <| tA rfl rfl <| sd_end <| qR <| tM rfl rfl <| sd_end <| ?_
   refine sd_condP rfl (fun hc22 => ?_) (fun hc22 => ?_)
   ·
    refine sd_eq 7 (.d (.v (.int .u64 (b : Nat)))) rfl (by rw [if_pos hc22]) ?_
    refine sd_seq <| sd_block <| ?_
    refine sd_loop (X := Nat × Nat) (fun x => [(5, .d (.v (.int .u64 (x.1 : Nat)))), (7, .d (.v (.int .u64 (x.2 : Nat))))]) (fun x => []) (fun x => []) (fun x => x.1 < 18446744073709551616 ∧ x.2 < 18446744073709551616 ∧ Nat.gcd x.1 x.2 = Nat.gcd a b) (fun x => x.2) ⟨a, b⟩ (by dsimp only; exact ⟨hc16, hc22, rfl⟩) (by repeat (first | exact .nil | refine .cons rfl ?_ | refine .cons' rfl (by first | (simp [vI]; done) | (congr 3; omega) | (simp [vI]; omega)) ?_)) rfl rfl ?_
    rintro GB1 hGB1 ⟨x, y⟩ ⟨h1, h2, h3⟩
    try dsimp only at *
    refine sd_seq <| qR <| tM rfl rfl <| tY (yq_gtr rfl rfl) rfl <| sd_end <| ?_
    refine sd_condP rfl (fun hc24 => ?_) (fun hc24 => ?_)
    ·
     refine sd_skipc <| sd_block <| ?_
     refine drX (own0 := _) (own1 := []) (bs0 := []) (bs1 := _) [] [(0, true), (1, true), (2, true), (3, true), (4, true), (5, true)] [] follows (by rw [List.append_nil]) (List.Perm.refl _) (by kernel_rfl) ?_
     refine dyX rfl (yq_move rfl) rfl <| ?_
     refine dyX rfl (yq_move rfl) rfl <| ?_
     refine dyX rfl (yq_move rfl) rfl <| ?_
     refine dyX rfl (yq_remU rfl rfl (by omega) (by omega)) rfl <| ?_
     refine dyX rfl (yq_assign rfl) rfl <| ?_
     refine dyX rfl (yq_assign rfl) rfl <| ?_
     refine outX0 <| onX <| outX0 <| dnX <| ?_
     simp only [List.nil_append, List.append_nil, List.cons_append]
     exact sd_again ⟨y, x % y⟩ (by dsimp only; exact ⟨h2, by have := Nat.mod_lt x (show 0 < y by omega); omega, by rw [gcd_next, h3]⟩) (by dsimp only; exact Nat.mod_lt _ (by omega)) (.cons rfl (.cons rfl .nil)) rfl rfl
    ·
     refine sd_exit <| sd_ts <| sd_te <| sd_inBlock_eq <| qR <| tM rfl rfl <| tC (td_call rfl rfl (q_Word (u := x) h1) rfl) <| tA rfl rfl <| sd_end <| ?_
     refine sd_ret <| ?_
     exact sd_done (.tmp rfl .nil) (by show dN x = _; rw [← h3, show y = 0 by omega, Nat.gcd_zero_right])
   ·
    refine sd_skipc <| ?_
    exact sd_at () trivial (by repeat (first | exact .nil | refine .cons rfl ?_ | refine .cons' rfl (by first | (simp [vI]; done) | (congr 3; omega) | (simp [vI]; omega)) ?_)) rfl rfl
  ·
   refine sd_skipc <| ?_
   exact sd_at () trivial (by repeat (first | exact .nil | refine .cons rfl ?_ | refine .cons' rfl (by first | (simp [vI]; done) | (congr 3; omega) | (simp [vI]; omega)) ?_)) rfl rfl
 rintro _ _
 refine sd_seq <| sd_block <| ?_
 refine sd_loop (X := Nat × Nat) (fun x => [(0, .d (dN x.1)), (1, .d (dN x.2))]) (fun x => []) (fun x => []) (fun x => x.1 < 2 ^ (ia + ib) ∧ x.2 < 2 ^ (ia + ib) ∧ Nat.gcd x.1 x.2 = Nat.gcd a b) (fun x => x.2) ⟨a, b⟩ (by dsimp only; exact ⟨(ha.mono (by omega)).h, (hb.mono (by omega)).h, rfl⟩) (by repeat (first | exact .nil | refine .cons rfl ?_ | refine .cons' rfl (by first | (simp [vI]; done) | (congr 3; omega) | (simp [vI]; omega)) ?_)) rfl rfl ?_
 rintro GB2 hGB2 ⟨x, y⟩ ⟨h1, h2, h3⟩
 try dsimp only at *
 have hly := mapU_len (dg y)
 haveI hx' : BN x (ia + ib) := ⟨h1⟩
 haveI hy' : BN y (ia + ib) := ⟨h2⟩
 refine sd_seq <| qR <| tM rfl rfl <| tY (yq_len rfl) rfl <| ?_
 refine sd_eq 32 (.d (vI ((dg y).length : Nat))) rfl (by rw [hly]; rfl) ?_
 refine tY (yq_gtr rfl rfl) rfl <| sd_end <| ?_
 refine sd_condP rfl (fun hc33 => ?_) (fun hc33 => ?_)
 ·
  have hy0 : 0 < y := Nat.pos_of_ne_zero fun q => by subst q; rw [dg_zero] at hc33; simp at hc33
  refine sd_skipc <| sd_block <| qR <| tM rfl rfl <| tM rfl rfl <| tC (td_call rfl rfl (q_Divide (a := x) (b := y) (ia := ia + ib) (ib := ia + ib) hy0 (by omega) (by omega)) rfl) <| ?_
  refine tM rfl rfl <| tY (yq_ext rfl rfl) rfl <| tY (yq_ext rfl rfl) rfl <| tA rfl rfl <| tA rfl rfl <| sd_end <| sd_region <| tM rfl rfl <| ?_
  refine tM rfl rfl <| tA rfl rfl <| tA rfl rfl <| sd_end <| ?_
  exact sd_again ⟨y, x % y⟩ (by dsimp only; exact ⟨h2, by have := Nat.mod_lt x hy0; omega, by rw [gcd_next, h3]⟩) (by dsimp only; exact Nat.mod_lt _ hy0) (by repeat (first | exact .nil | refine .cons rfl ?_ | refine .cons' rfl (by first | (simp [vI]; done) | (congr 3; omega) | (simp [vI]; omega)) ?_)) rfl rfl
 ·
  have hy0 : y = 0 := dg_len_zero.1 (by omega)
  have hlx := dg_len_le h1
  have hmx := mapU_len (dg x)
  refine sd_exit <| sd_ts <| sd_te <| sd_inBlock_eq <| qR <| tF (tf_row0 rfl) <| ?_
  intro w1
  refine tM rfl rfl <| tF (tf_append (w := w1) rfl (by repeat (first | exact .hd .. | apply BRemD.tl)) (.sl rfl (slOkU _)) rfl (by simp; omega) rfl rfl) <| ?_
  intro w2
  refine tA rfl rfl <| sd_end <| sd_ret <| ?_
  refine sd_freezeB [44, 4] (w := w2) (by repeat (first | exact .hd .. | apply BRemD.tl)) (by simp only [List.forall_mem_cons, List.not_mem_nil, false_implies, implies_true, and_true]; exact ⟨rfl, rfl⟩) ?_
  exact sd_done (.tmp rfl .nil) (by show DV.sl ([] ++ _) = _; rw [← h3, hy0, Nat.gcd_zero_right]; rfl)
theorem eI_zv (neg : Bool) (m : Nat) : eI (zv neg m) = .ag [.v (.bool (neg && decide (0 < m))), dN m] := by unfold eI; rw [zv_abs, zv_neg_lt]
theorem zv_opp (z : Int) : zv (!decide (z < 0)) z.natAbs = -z := by
 unfold zv
 by_cases h : z < 0 <;> simp [h] <;> omega
theorem zv_mulI (a b : Int) : zv (!(decide (a < 0) == decide (b < 0))) (a.natAbs * b.natAbs) = a * b := by
 have h := zv_mul (decide (a < 0)) (decide (b < 0)) a.natAbs b.natAbs
 rw [zv_eta, zv_eta] at h
 exact h
theorem q_Make {GB : Gh} {neg : Bool} {m : Nat} : PF GB Tryz.prog 93 [.v (.bool neg), dN m] (eI (zv neg m)) := by
 have hl := mapU_len (dg m)
 have hz := @dg_len_zero m
 cases neg
 ·
  refine PF.intro Tryz.func93 rfl rfl Tryz.ntmps93 rfl ?_
  intro C
  refine qR <| tF (tf_alloc rfl) <| ?_
  intro b1
  refine sd_end <| qR <| tM rfl rfl <| tM rfl rfl <| tS rfl rfl rfl rfl <| tS rfl rfl rfl rfl <| tS rfl rfl rfl rfl <| tY (yq_pickF rfl rfl) rfl <| ?_
  refine tM rfl rfl <| tY (yq_build rfl) rfl <| tC (tdS rfl rfl rfl rfl rfl rfl) <| ?_
  refine sd_end <| sd_ret <| ?_
  exact sd_done (.agg rfl ii ii rfl .nil) (by rw [eI_zv]; rfl)
 ·
  refine PF.intro Tryz.func93 rfl rfl Tryz.ntmps93 rfl ?_
  intro C
  refine qR <| tF (tf_alloc rfl) <| ?_
  intro b1
  refine sd_end <| qR <| tM rfl rfl <| tM rfl rfl <| tYg rfl rfl (yq_move rfl) rfl <| tYg rfl rfl (yq_len rfl) rfl <| tYg rfl rfl (yq_gtr rfl rfl) rfl <| ?_
  refine sd_eq 9 (.d (.v (.bool (decide (0 < m))))) rfl (by congr 3; simp; omega) ?_
  refine tY (yq_pickT rfl rfl) rfl <| tM rfl rfl <| tY (yq_build rfl) rfl <| tC (tdS rfl rfl rfl rfl rfl rfl) <| ?_
  refine sd_end <| sd_ret <| ?_
  exact sd_done (.agg rfl ii ii rfl .nil) (by rw [eI_zv]; show DV.ag [.v (.bool _), _] = .ag [.v (.bool _), _]; congr 4 <;> (by_cases h : 0 < m <;> simp [h] <;> omega))
end Go.Sx
end

section
set_option maxRecDepth 100000
namespace Go.Sx
open Go Go.Proofs
theorem ref_Write {A G : Gh} {t : Tr} {p : Option Addr} (h : IsRT A t p) [GL A G] (hs : t.size ≤ 1000000) : Fn Tryz.prog 13 [.pointer p] G (fun v G' => ∃ x : SV, v = .agg ⟨[.int .i64 (t.num 0), .slice x.a x.n x.c]⟩ ∧ IsNs 32 G' x (t.wr 0)) :=
 (q_Write (GB := fun _ => none) (isRT_bl h) hs G _ (GLe.bot G) (.cons (isRT_to h.up) .nil)).mono fun _ _ _ k => isA_of (Tr.all_wr 0 (isRT_bl h)) k
theorem same_leaves (l : LnQ) (b : Bool) (c : CellQ) : (Tr.node l (.leaf b) (.leaf b)).restrict c = .leaf b := by
 unfold Tr.restrict
 split
 · rfl
 · split
   · rfl
   · simp [Tr.restrict, Tr.joinQ, Tr.isLeaf, Tr.code]
set_option maxHeartbeats 1000000 in
theorem law17_known {G : Gh} : Fn Tryz.prog 15 [] G (fun v _ => v = .bool true) := by
 refine Fn.intro Tryz.func15 rfl rfl Tryz.ntmps15 rfl ?_
 intro C _ _
 refine sR <| sa rfl rfl <| st_end <| sR <| ?_
 refine sc (ch_call rfl rfl (ref_Xy (m := 0) (n := 0) (by decide) (by decide) (by decide) (by decide)) rfl ?_)
 rintro _ G1 _ ⟨z0, w0, rfl, hz0, hw0⟩
 refine sc (ch_call rfl rfl (ref_Xy (m := 1) (n := 0) (by decide) (by decide) (by decide) (by decide)) rfl ?_)
 rintro _ G2 _ ⟨z1, w1, rfl, hz1, hw1⟩
 refine sc (ch_call rfl rfl (ref_Through hz0 hw0 hz1 hw1 (by decide) (by decide) (by decide) (by decide) (by decide)) rfl ?_)
 rintro _ G3 _ ⟨l, p, q, r, rfl, hl, hp, hq, hr⟩
 replace hl := hl.1
 refine sm rfl rfl <| sx rfl rfl rfl <| sx rfl rfl rfl <| ?_
 refine sc (ch_alloc rfl ?_)
 intro b4
 refine sc (ch_storeN (cs' := [.bool p.neg, .slice p.a.a p.a.n p.a.c, .bool q.neg, .slice q.a.a q.a.n q.a.c, .bool r.neg, .slice r.a.a r.a.n r.a.c]) rfl rfl (by first | (dsimp only [ovw, cellsL, zs1, zs2, Nat.reduceAdd, RV.v, LV.v, PV.v, IvV.v]; done) | exact rfl) (by repeat (first | exact .hd .. | apply OUpd.tl)) rfl (nb rfl) rfl rfl ?_)
 refine sa rfl rfl <| st_end <| st_seq <| ?_
 refine drFS [⟨b4, [.bool p.neg, .slice p.a.a p.a.n p.a.c, .bool q.neg, .slice q.a.a q.a.n q.a.c, .bool r.neg, .slice r.a.a r.a.n r.a.c], 32, true⟩] 3 36 (.agg ⟨[.int .i64 0, .slice none 0 0]⟩) (fun _ => false) 10 [(0, true), (1, false), (2, false), (3, true), (4, false), (5, false), (6, false), (7, true), (8, true), (9, true)] [(11, false), (12, true)] follows (by kernel_rfl) (fun fl => ?_)
 refine dyF rfl (fun _ => yd_load_own rfl rfl) rfl rfl ((.cons_cons _ (List.nil_sublist _))) <| ?_
 apply dcF (fl := fl) (t := 36) (z := .agg ⟨[.int .i64 0, .slice none 0 0]⟩)
 case ho => exact rfl
 case hg => exact rfl
 case hk => exact rfl
 case hd => exact rfl
 case hF => intro b; repeat (first | exact .nil | refine .cons rfl ?_)
 case hO => exact fun _ => (List.perm_append_singleton _ _).symm
 case hs => exact (.cons_cons _ (List.nil_sublist _))
 intro fl
 refine ch_call rfl rfl ref_Code rfl ?_
 rintro _ G5 _ ⟨p1, rfl, hp1⟩
 refine dr_s' (own0 := [⟨b4, [.bool p.neg, .slice p.a.a p.a.n p.a.c, .bool q.neg, .slice q.a.a q.a.n q.a.c, .bool r.neg, .slice r.a.a r.a.n r.a.c], 32, true⟩]) ((.cons_cons _ (List.nil_sublist _))) <| ?_
 apply dcF (fl := fl) (t := 36) (z := .agg ⟨[.int .i64 0, .slice none 0 0]⟩)
 case ho => exact rfl
 case hg => exact rfl
 case hk => exact rfl
 case hd => exact rfl
 case hF => intro b; repeat (first | exact .nil | refine .cons rfl ?_)
 case hO => exact fun _ => (List.perm_append_singleton _ _).symm
 case hs => exact (.cons_cons _ (List.nil_sublist _))
 intro fl
 refine ch_call rfl rfl ref_Code rfl ?_
 rintro _ G6 _ ⟨p2, rfl, hp2⟩
 refine dr_s' (own0 := [⟨b4, [.bool p.neg, .slice p.a.a p.a.n p.a.c, .bool q.neg, .slice q.a.a q.a.n q.a.c, .bool r.neg, .slice r.a.a r.a.n r.a.c], 32, true⟩]) ((.cons_cons _ (List.nil_sublist _))) <| dyF rfl (fun _ => yd_build rfl) rfl rfl ((.cons_cons _ (List.nil_sublist _))) <| ?_
 apply dcF (fl := fl) (t := 36) (z := .agg ⟨[.int .i64 0, .slice none 0 0]⟩)
 case ho => exact rfl
 case hg => exact rfl
 case hk => exact rfl
 case hd => exact rfl
 case hF => intro b; repeat (first | exact .nil | refine .cons rfl ?_)
 case hO => exact fun _ => (List.perm_append_singleton _ _).symm
 case hs => exact (.cons_cons _ (List.nil_sublist _))
 intro fl
 refine ch_box rfl rfl ?_
 intro b7
 refine st_freeze b7 (.hd ..) ?_
 intro G7 _ hfz
 have hT : IsRT G7 (.node l (.leaf true) (.leaf true)) (some ⟨b7, 0, none⟩) := ⟨b7, p, q, r, p1, p2, rfl, hfz.h, hp.up, hq.up, hr.up, hp1.up, hp2.up⟩
 refine dr_s' (own0 := [⟨b4, [.bool p.neg, .slice p.a.a p.a.n p.a.c, .bool q.neg, .slice q.a.a q.a.n q.a.c, .bool r.neg, .slice r.a.a r.a.n r.a.c], 32, true⟩]) ((.cons_cons _ (List.nil_sublist _))) <| ?_
 apply dcF (fl := fl) (t := 36) (z := .agg ⟨[.int .i64 0, .slice none 0 0]⟩)
 case ho => exact rfl
 case hg => exact rfl
 case hk => exact rfl
 case hd => exact rfl
 case hF => intro b; repeat (first | exact .nil | refine .cons rfl ?_)
 case hO => exact fun _ => (List.perm_append_singleton _ _).symm
 case hs => exact (.cons_cons _ (List.nil_sublist _))
 intro fl
 refine ch_call rfl rfl (ref_Write hT (by simp [Tr.size])) rfl ?_
 rintro _ G8 _ ⟨y1, rfl, hy1⟩
 refine dr_s' (own0 := [⟨b4, [.bool p.neg, .slice p.a.a p.a.n p.a.c, .bool q.neg, .slice q.a.a q.a.n q.a.c, .bool r.neg, .slice r.a.a r.a.n r.a.c], 32, true⟩]) ((.cons_cons _ (List.nil_sublist _))) <| ?_
 apply dcF (fl := fl) (t := 36) (z := .agg ⟨[.int .i64 0, .slice none 0 0]⟩)
 case ho => exact rfl
 case hg => exact rfl
 case hk => exact rfl
 case hd => exact rfl
 case hF => intro b; repeat (first | exact .nil | refine .cons rfl ?_)
 case hO => exact fun _ => (List.perm_append_singleton _ _).symm
 case hs => exact (.cons_cons _ (List.nil_sublist _))
 intro fl
 refine ch_call rfl rfl (reduce_Reduce (k := 32) (by decide) (by decide) hy1 ⟨hl, trivial, trivial⟩ (by simp [Tr.size]) (by simp [Tr.depth]) (by rw [same_leaves]; decide)) rfl ?_
 rintro _ G9 _ ⟨y2, rfl, hy2⟩
 rw [same_leaves] at hy2
 rw [same_leaves]
 have hn2 : y2.n = 0 := by obtain ⟨zs, h1, h2⟩ := hy2; have := h1.len; have h3 := h2.len; simp [Tr.wr] at h3; subst h3; simpa using this
 refine dr_s' (own0 := [⟨b4, [.bool p.neg, .slice p.a.a p.a.n p.a.c, .bool q.neg, .slice q.a.a q.a.n q.a.c, .bool r.neg, .slice r.a.a r.a.n r.a.c], 32, true⟩]) ((.cons_cons _ (List.nil_sublist _))) <| dyF rfl (fun _ => yd_move rfl) rfl rfl ((.cons_cons _ (List.nil_sublist _))) <| dyF rfl (fun _ => yd_extract rfl rfl) rfl rfl ((.cons_cons _ (List.nil_sublist _))) <| ?_
 refine dyF rfl (fun _ => yd_extract rfl rfl) rfl rfl ((.cons_cons _ (List.nil_sublist _))) <| ?_
 apply dF_out (fl := fl) (t := 36) (z := .agg ⟨[.int .i64 0, .slice none 0 0]⟩)
 case hk => exact rfl
 case hd => exact rfl
 case hF => intro b; repeat (first | exact .nil | refine .cons rfl ?_)
 case hO => exact fun _ => List.perm_append_singleton _ _
 case hs => exact (.cons_cons _ (List.nil_sublist _))
 intro bF
 simp only [fO, fF, List.append_nil]
 refine dc rfl rfl (chS rfl rfl rfl (nb rfl) rfl rfl ?_)
 refine dr_s <| dA rfl rfl rfl <| dn <| sR <| sm rfl rfl <| sy (yd_eqN (by simp) rfl) rfl <| sm rfl rfl <| syg rfl rfl (yd_fieldAddr rfl) rfl <| syg rfl rfl (yd_load_own1 rfl rfl) rfl <| ?_
 refine syg rfl rfl (yd_eql rfl rfl) rfl <| sy (yd_pickT rfl rfl) rfl <| sm rfl rfl <| syg rfl rfl (yd_fieldAddr rfl) rfl <| syg rfl rfl (yd_load_own1 rfl rfl) rfl <| syg rfl rfl (yd_len rfl) rfl <| ?_
 refine syg rfl rfl (yd_eql rfl rfl) rfl <| sy (yd_pickT rfl rfl) rfl <| sa rfl rfl <| st_end <| st_ret <| ?_
 exact st_done (.tmp rfl .nil) (by show Value.bool _ = _; rw [hn2]; rfl)
end Go.Sx
end

section
set_option maxRecDepth 100000
namespace Go.Sx
open Go Go.Proofs
theorem Tr.restrict_size : ∀ (t : Tr) (c : CellQ), (t.restrict c).size ≤ t.size
 | .leaf b, c => Nat.le_refl _
 | .node l x y, c => by
   unfold Tr.restrict
   split
   · have := x.restrict_size c; simp only [Tr.size]; omega
   · split
     · have := y.restrict_size c; simp only [Tr.size]; omega
     · have h1 := x.restrict_size (clipC c l)
       have h2 := y.restrict_size (clipC c l.rev)
       rcases Tr.joinQ_cases l (x.restrict (clipC c l)) (y.restrict (clipC c l.rev)) with ⟨h, _⟩ | ⟨h, _⟩
       · rw [h]; simp only [Tr.size]; omega
       · rw [h]; simp only [Tr.size]; omega
theorem isl_ints {G : Gh} : ∀ {ds : List Int} {es : List Value}, IsLs G (ds.map vI) es ↔ es = ds.map (Value.int .i64)
 | [], es => isl_nil
 | d :: t, es => by
   rw [List.map_cons, isl_cons]
   constructor
   · rintro ⟨y, n, rfl, h1, h2⟩
     rw [is_v.1 h1, isl_ints.1 h2]; rfl
   · rintro rfl
     exact ⟨_, _, rfl, is_v.2 rfl, isl_ints.2 rfl⟩
theorem slOkI (ds : List Int) : slOk 1 (ds.map vI) := fun d hd => by
 obtain ⟨n, _, rfl⟩ := List.mem_map.1 hd; exact ⟨rfl, rfl⟩
theorem is_ints {G : Gh} {ds : List Int} {v : Value} : Is G (.sl (ds.map vI)) v ↔ ∃ x : SV, v = .slice x.a x.n x.c ∧ IsSl G 1 x (ds.map (Value.int .i64)) := by
 rw [is_sl]
 constructor
 · rintro ⟨s, x, es, rfl, h1, h2⟩
   have := isl_ints.1 h2
   subst this
   refine ⟨x, rfl, ?_⟩
   rcases sl_stride (s := 1) h1 h2 (slOkI ds) with h | h
   · rw [h] at h1 ⊢
     exact ⟨h1.len, h1.cap, .inl rfl⟩
   · subst h; exact h1
 · rintro ⟨x, rfl, h⟩
   exact ⟨1, x, _, rfl, h, isl_ints.2 rfl⟩
theorem q_New {GB : Gh} {es : List Int} (hb : es.length ≤ 1125899906842624) : PN GB Tryz.prog 9 [.sl (es.map vI)] 93 {x : List Int // x.length ≤ 400} (fun x => [.sl (x.1.map vI), .v (.int .i64 (0 : Nat))]) := by
 intro G vs hg hv
 obtain ⟨v, m, rfl, h1, h2⟩ := isl_cons.1 hv
 rw [isl_nil] at h2; subst h2
 obtain ⟨x, rfl, hx⟩ := is_ints.1 h1
 refine (scene_New hx hb).mono ?_
 rintro _ _ G' hG ⟨b, y, es', rfl, rfl, hy, hl⟩
 exact ⟨⟨es', hl⟩, b, _, rfl, rfl, .cons (is_ints.2 ⟨y, rfl, hy⟩) (.cons (is_v.2 rfl) .nil)⟩
theorem q_Tree {GB : Gh} {es : List Int} (he : es.length ≤ 400) {a d b : Nat} (ha : a ≤ es.length) (hd : d ≤ 100) : PMX GB Tryz.prog 10 [.v (.pointer (some ⟨b, 0, none⟩)), .v (.int .i64 (d : Nat))] b 93 [.sl (es.map vI), .v (.int .i64 (a : Nat))]
  {x : Tr × Nat // x.1.depth ≤ d ∧ x.1.all LnQ.ok ∧ x.1.all (fun l => BL l 32) ∧ x.2 ≤ es.length} (fun x => eT x.1.1) (fun x => [.sl (es.map vI), .v (.int .i64 (x.1.2 : Nat))]) := by
 intro G vs m lo hg hv hm
 obtain ⟨v1, n, rfl, h1, h2⟩ := isl_cons.1 hv
 obtain ⟨v2, n, rfl, h3, h4⟩ := isl_cons.1 h2
 rw [isl_nil] at h4; subst h4
 rw [is_v.1 h1, is_v.1 h3]
 obtain ⟨u1, n, rfl, k1, k2⟩ := isl_cons.1 hm
 obtain ⟨u2, n, rfl, k3, k4⟩ := isl_cons.1 k2
 rw [isl_nil] at k4; subst k4
 rw [is_v.1 k3]
 obtain ⟨x, rfl, hx⟩ := is_ints.1 k1
 refine (Tape_Tree hx he (d := d) (lo := lo) ha hd).mono ?_
 rintro _ css G' hG _ ⟨t, p, a', rfl, hp, h5, h6, h7, rfl⟩
 have : GL G G' := ⟨hG⟩
 exact ⟨⟨(t, a'), h5, h6, isRT_bl hp, h7⟩, isRT_to hp, _, rfl, .cons (is_ints.2 ⟨x, rfl, hx.up⟩) (.cons (is_v.2 rfl) .nil)⟩
theorem q_known17 {GB : Gh} : PF GB Tryz.prog 15 [] (.v (.bool true)) := fun G vs hg hv => by
 rw [isl_nil] at hv; subst hv
 exact law17_known.mono fun v G' _ h => is_v.2 h
section
variable {P : Program} {GB : Gh} {C : Ctx} {n : Nat} {fr : FrF} {own : List OwnD} {bs : List BufD}
variable {dst : Option Nat} {t t' ty' : TypeId} {pos : String} {af : Array Edge} {gd : Option (Nat × Bool)} {x y z : Operand} {e s by_ : Nat}
end
theorem mapN_get {ns : List NQ} {i : Nat} (h : i < ns.length) : (ns.map eN)[(i : Int).toNat]? = some (eN ns[i]) := by simp [h]
end Go.Sx
end
