/-
  Reference: natural numbers of any size: sign, Word, Cmp, Sum, Less. Rounds and merges from inside other loops; families of results of a function that borrows a variable: how they are shown. Reference: natural numbers of any size: Product, Left, Right, word.
-/
import Derived.Test.YtkijgpopaaknfaaGreatDoorMc13
set_option linter.unusedSimpArgs false
set_option linter.unusedVariables false
section
set_option maxRecDepth 100000
namespace Go.Sx
open Go Go.Proofs
theorem dg_len_bd {a k : Nat} (h : a < 2 ^ k) (hk : k ≤ 1000000000) : (dg a).length ≤ 100000000 := by have := dg_len_le h; omega
theorem dv_dg (a : Nat) : dv (dg a) = a := (dg_spec a).1
theorem dg_ok (a : Nat) : DOk (dg a) := (dg_spec a).2.1
theorem mapU_len (ds : List Nat) : (ds.map dU).length = ds.length := List.length_map ..
theorem take_all {ds : List Nat} {n : Nat} (h : ds.length ≤ n) : ds.take n = ds := List.take_of_length_le h
theorem getD_out {ds : List Nat} {i : Nat} (h : ds.length ≤ i) : ds.getD i 0 = 0 := by
 rw [List.getD_eq_getElem?_getD, List.getElem?_eq_none h]; rfl
theorem dL_trim {ds : List Nat} {n : Nat} (h : DOk ds) (e : dv ds = n) : dLi (trimD ds) = dN n := by rw [dL_dv h, e]
theorem cmpN_lt {a b : Nat} (h : a < b) : cmpN a b = -1 := by unfold cmpN; rw [if_pos h]
theorem cmpN_gt {a b : Nat} (h : b < a) : cmpN a b = 1 := by unfold cmpN; rw [if_neg (by omega), if_neg (by omega)]
theorem cmpN_eq {a b : Nat} (h : a = b) : cmpN a b = 0 := by unfold cmpN; rw [if_neg (by omega), if_pos h]
theorem sign_subN (m n : Nat) : Int.sign ((m : Int) - n) = cmpN m n := by
 unfold cmpN
 split
 · exact Int.sign_eq_neg_one_of_neg (by omega)
 · split
   · rw [show (m : Int) - n = 0 by omega]; rfl
   · exact Int.sign_eq_one_of_pos (by omega)
theorem cmpN_len {a b : Nat} (h : (dg a).length ≠ (dg b).length) : cmpN (dg a).length (dg b).length = cmpN a b := by
 rcases Nat.lt_or_gt_of_ne h with h | h
 · have := dv_len_lt (dg_ok a) (dg_spec b).2.2 h
   rw [dv_dg, dv_dg] at this
   rw [cmpN_lt h, cmpN_lt this]
 · have := dv_len_lt (dg_ok b) (dg_spec a).2.2 h
   rw [dv_dg, dv_dg] at this
   rw [cmpN_gt h, cmpN_gt this]
theorem cmp_dig {a b i : Nat} (hl : (dg a).length = (dg b).length) (hi : i < (dg a).length) (hs : (dg a).drop (i + 1) = (dg b).drop (i + 1)) :
   ((dg a).getD i 0 < (dg b).getD i 0 → a < b) ∧ ((dg b).getD i 0 < (dg a).getD i 0 → b < a) ∧ ((dg a).getD i 0 = (dg b).getD i 0 → (dg a).drop i = (dg b).drop i) := by
 refine ⟨fun h => ?_, fun h => ?_, fun h => ?_⟩
 · have := dv_cmp (dg_ok a) (dg_ok b) i hi (by omega) hl hs h
   rwa [dv_dg, dv_dg] at this
 · have := dv_cmp (dg_ok b) (dg_ok a) i (by omega) hi hl.symm hs.symm h
   rwa [dv_dg, dv_dg] at this
 · rw [List.drop_eq_getElem_cons hi, List.drop_eq_getElem_cons (by omega : i < (dg b).length), hs]
   rw [List.getD_eq_getElem?_getD, List.getD_eq_getElem?_getD, List.getElem?_eq_getElem hi, List.getElem?_eq_getElem (by omega : i < (dg b).length)] at h
   simp only [Option.getD_some] at h
   rw [h]
theorem q_sign {GB : Gh} {z : Int} : PF GB Tryz.prog 122 [vI z] (vI z.sign) := by
 refine PF.intro Tryz.func122 rfl rfl Tryz.ntmps122 rfl ?_
 intro C
 refine qR <| tA rfl rfl <| sd_end <| sd_seq <| qR <| tM rfl rfl <| tY (yq_gtr rfl rfl) rfl <| sd_end <| ?_
 refine sd_condP rfl (fun hc4 => ?_) (fun hc4 => ?_)
 ·
  refine qR <| tA rfl rfl <| sd_end <| sd_ret <| ?_
  exact sd_done (.tmp rfl .nil) (by show DV.v (.int _ 1) = DV.v (.int _ _); rw [Int.sign_eq_one_of_pos (by omega)])
 ·
  refine sd_skipc <| sd_seq <| qR <| tM rfl rfl <| tY (yq_lss rfl rfl) rfl <| sd_end <| ?_
  refine sd_condP rfl (fun hc6 => ?_) (fun hc6 => ?_)
  ·
   refine qR <| tA rfl rfl <| sd_end <| sd_ret <| ?_
   exact sd_done (.tmp rfl .nil) (by show DV.v (.int _ (-1)) = DV.v (.int _ _); rw [Int.sign_eq_neg_one_of_neg (by omega)])
  ·
   refine sd_skipc <| qR <| tA rfl rfl <| sd_end <| sd_ret <| ?_
   exact sd_done (.tmp rfl .nil) (by show DV.v (.int _ 0) = DV.v (.int _ _); rw [show z = 0 by omega]; rfl)
theorem u64_split (u : Nat) : dv [u % 4294967296, u / 4294967296] = u := by simp only [dv]; omega
theorem u64_ok {u : Nat} (h : u < 18446744073709551616) : DOk [u % 4294967296, u / 4294967296] := .cons (by omega) (.cons (by omega) .nil)
theorem fdiv32 (u : Nat) : (u : Int).fdiv (2 ^ min (32 : Int).toNat IntKind.u64.bits) = ((u / 4294967296 : Nat) : Int) := by
 rw [show (2 : Int) ^ min (32 : Int).toNat IntKind.u64.bits = ((4294967296 : Nat) : Int) from rfl, Int.fdiv_eq_ediv_of_nonneg _ (by decide)]; rfl
theorem q_Word {GB : Gh} {u : Nat} (hu : u < 18446744073709551616) : PF GB Tryz.prog 114 [.v (.int .u64 (u : Int))] (dN u) := by
 refine PF.intro Tryz.func114 rfl rfl Tryz.ntmps114 rfl ?_
 intro C
 refine qR <| tA rfl rfl <| sd_end <| qR <| tM rfl rfl <| tY (yq_toU32 rfl) rfl <| tM rfl rfl <| tY (yq_shr rfl rfl (by decide)) rfl <| ?_
 refine sd_eq 6 (.d (.v (.int .u64 (u / 4294967296 : Nat)))) rfl (by rw [fdiv32]) ?_
 refine tY (yq_toU32 rfl) rfl <| tC (td_rowF rfl rfl rfl rfl rfl rfl rfl) <| ?_
 refine sd_eq 8 (.d (dLi [u % 4294967296, u / 4294967296])) rfl (by show FV.d (.sl [.v (.int _ _), .v (.int _ _)]) = .d (.sl [.v (.int _ _), .v (.int _ _)]); congr 6; omega) ?_
 refine tC (td_call rfl rfl (q_Trim (ds := [u % 4294967296, u / 4294967296]) (by simp)) rfl) <| tA rfl rfl <| sd_end <| sd_ret <| ?_
 exact sd_done (.tmp rfl .nil) (dL_trim (u64_ok hu) (u64_split u))
theorem q_One {GB : Gh}  : PF GB Tryz.prog 75 [] (dN 1) := by
 refine PF.intro Tryz.func75 rfl rfl Tryz.ntmps75 rfl ?_
 intro C
 refine qR <| tA rfl rfl <| sd_end <| qR <| tC (td_rowF rfl rfl rfl rfl rfl rfl rfl) <| tA rfl rfl <| sd_end <| sd_ret <| ?_
 exact sd_done (.tmp rfl .nil) (by unfold dN; rw [dg_one]; rfl)
theorem q_Cmp {GB : Gh} {a b : Nat} (ha : (dg a).length ≤ 100000000) (hb : (dg b).length ≤ 100000000) : PF GB Tryz.prog 74 [dN a, dN b] (vI (cmpN a b)) := by
 refine PF.intro Tryz.func74 rfl rfl Tryz.ntmps74 rfl ?_
 intro C
 have hla := mapU_len (dg a)
 have hlb := mapU_len (dg b)
 refine qR <| tA rfl rfl <| sd_end <| sd_seq <| qR <| tM rfl rfl <| tY (yq_len rfl) rfl <| tM rfl rfl <| tY (yq_len rfl) rfl <| ?_
 refine tY (yq_neq rfl rfl) rfl <| sd_end <| ?_
 refine sd_condP rfl (fun hc10 => ?_) (fun hc10 => ?_)
 ·
  refine qR <| tM rfl rfl <| tY (yq_len rfl) rfl <| tM rfl rfl <| tY (yq_len rfl) rfl <| tY (yq_sub64 rfl rfl) rfl <| tC (td_call rfl rfl (q_sign) rfl) <| ?_
  refine tA rfl rfl <| sd_end <| sd_ret <| ?_
  exact sd_done (.tmp rfl .nil) (by show DV.v (.int _ _) = DV.v (.int _ _); rw [hla, hlb, sign_subN, cmpN_len (by omega)])
 ·
  have hl : (dg a).length = (dg b).length := by omega
  refine sd_skipc <| sd_seq <| qR <| tM rfl rfl <| tY (yq_len rfl) rfl <| tY (yq_sub64 rfl rfl) rfl <| tA rfl rfl <| sd_end <| ?_
  refine sd_block <| ?_
  refine sd_loop (X := Nat) (fun x => [(0, .d (dN a)), (1, .d (dN b)), (5, .d (vI ((x : Nat) - 1)))]) (fun x => []) (fun x => []) (fun x => x ≤ (dg a).length ∧ (dg a).drop x = (dg b).drop x) (fun x => x) (dg a).length ⟨Nat.le_refl _, by rw [List.drop_length, hl, List.drop_length]⟩ (by repeat (first | exact .nil | refine .cons rfl ?_ | refine .cons' rfl (by first | (simp [vI]; done) | (congr 3; omega) | (simp [vI]; omega)) ?_)) rfl rfl ?_
  rintro GB1 hGB1 k ⟨h1, h2⟩
  try dsimp only at *
  refine sd_seq <| qR <| tM rfl rfl <| tY (yq_geq rfl rfl) rfl <| sd_end <| ?_
  refine sd_condP rfl (fun hc21 => ?_) (fun hc21 => ?_)
  ·
   obtain ⟨k, rfl⟩ : ∃ m, k = m + 1 := ⟨k - 1, by omega⟩
   refine sd_skipc <| sd_seq <| sd_block <| sd_seq <| sd_seq <| ?_
   refine drX (own0 := _) (own1 := []) (bs0 := []) (bs1 := _) [] [(0, true), (1, true), (2, true), (3, true), (4, true), (5, true), (6, true), (7, true), (8, true)] [] follows (by rw [List.append_nil]) (List.Perm.refl _) (by kernel_rfl) ?_
   refine dyX rfl (yq_move rfl) rfl <| ?_
   refine dyX rfl (yq_move rfl) rfl <| ?_
   refine dyX rfl (yq_ix rfl rfl (by omega) (mapU_getZ (k := k) (by omega) (by omega)) rfl rfl) rfl <| ?_
   refine dyX rfl (yq_ldE1 rfl rfl) rfl <| ?_
   refine dyX rfl (yq_move rfl) rfl <| ?_
   refine dyX rfl (yq_move rfl) rfl <| ?_
   refine dyX rfl (yq_ix rfl rfl (by omega) (mapU_getZ (k := k) (by omega) (by omega)) rfl rfl) rfl <| ?_
   refine dyX rfl (yq_ldE1 rfl rfl) rfl <| ?_
   refine dyX rfl (yq_gtr rfl rfl) rfl <| ?_
   refine outX0 <| onX <| outX0 <| dnX <| ?_
   simp only [List.nil_append, List.append_nil, List.cons_append]
   refine sd_condP rfl (fun hc32 => ?_) (fun hc32 => ?_)
   ·
    refine qR <| tA rfl rfl <| sd_end <| sd_ret <| ?_
    exact sd_done (.tmp rfl .nil) (by show DV.v (.int _ 1) = DV.v (.int _ _); rw [cmpN_gt ((cmp_dig hl (by omega) h2).2.1 (by omega))])
   ·
    refine sd_skipc <| sd_seq <| ?_
    refine drX (own0 := _) (own1 := []) (bs0 := []) (bs1 := _) [] [(0, true), (1, true), (2, true), (3, true), (4, true), (5, true), (6, true), (7, true), (8, true)] [] follows (by rw [List.append_nil]) (List.Perm.refl _) (by kernel_rfl) ?_
    refine dyX rfl (yq_move rfl) rfl <| ?_
    refine dyX rfl (yq_move rfl) rfl <| ?_
    refine dyX rfl (yq_ix rfl rfl (by omega) (mapU_getZ (k := k) (by omega) (by omega)) rfl rfl) rfl <| ?_
    refine dyX rfl (yq_ldE1 rfl rfl) rfl <| ?_
    refine dyX rfl (yq_move rfl) rfl <| ?_
    refine dyX rfl (yq_move rfl) rfl <| ?_
    refine dyX rfl (yq_ix rfl rfl (by omega) (mapU_getZ (k := k) (by omega) (by omega)) rfl rfl) rfl <| ?_
    refine dyX rfl (yq_ldE1 rfl rfl) rfl <| ?_
    refine dyX rfl (yq_lss rfl rfl) rfl <| ?_
    refine outX0 <| onX <| outX0 <| dnX <| ?_
    simp only [List.nil_append, List.append_nil, List.cons_append]
    refine sd_condP rfl (fun hc41 => ?_) (fun hc41 => ?_)
    ·
     refine qR <| tA rfl rfl <| sd_end <| sd_ret <| ?_
     exact sd_done (.tmp rfl .nil) (by show DV.v (.int _ (-1)) = DV.v (.int _ _); rw [cmpN_lt ((cmp_dig hl (by omega) h2).1 (by omega))])
    ·
     refine sd_skipc <| sd_region <| tM rfl rfl <| tY (yq_sub64 rfl rfl) rfl <| tA rfl rfl <| sd_end <| ?_
     exact sd_again k ⟨by omega, (cmp_dig (i := k) hl (by omega) h2).2.2 (by omega)⟩ (by omega) (by repeat (first | exact .nil | refine .cons rfl ?_ | refine .cons' rfl (by first | (simp [vI]; done) | (congr 3; omega) | (simp [vI]; omega)) ?_)) rfl rfl
  ·
   refine sd_exit <| sd_ts <| sd_te <| sd_inBlock_eq <| qR <| tA rfl rfl <| sd_end <| sd_ret <| ?_
   exact sd_done (.tmp rfl .nil) (by show DV.v (.int _ 0) = DV.v (.int _ _); rw [cmpN_eq]; obtain rfl : k = 0 := (by omega); rw [List.drop_zero, List.drop_zero] at h2; rw [← dv_dg a, h2, dv_dg])
theorem sum_inv {A B W : List Nat} {i c : Nat} (hi : i < W.length) (h : dv (W.take i) + 4294967296 ^ i * c = dv (A.take i) + dv (B.take i)) :
  dv ((W.set i ((A.getD i 0 + B.getD i 0 + c) % 4294967296)).take (i + 1)) + 4294967296 ^ (i + 1) * ((A.getD i 0 + B.getD i 0 + c) / 4294967296) = dv (A.take (i + 1)) + dv (B.take (i + 1)) := by
 rw [dv_set_take hi, dv_take_succ A, dv_take_succ B, Nat.pow_succ, show A.getD i 0 + B.getD i 0 + c = c + A.getD i 0 + B.getD i 0 by omega]
 exact add_step h
theorem sum_end {a b n : Nat} {W : List Nat} {c : Nat} (hn : n = max (dg a).length (dg b).length) (hl : W.length = n + 1) (h : dv (W.take n) + 4294967296 ^ n * c = dv ((dg a).take n) + dv ((dg b).take n)) : dv (W.set n c) = a + b := by
 have e := dv_set_take (ws := W) (k := n) (d := c) (by omega)
 rw [take_all (by rw [List.length_set]; omega)] at e
 rw [e, h, take_all (by omega), take_all (by omega), dv_dg, dv_dg]
set_option maxHeartbeats 1000000 in
theorem q_Sum {GB : Gh} {a b ia ib : Nat} [ha : BN a ia] [hb : BN b ib] (hi : ia ≤ 1000000000 := by decide) (hj : ib ≤ 1000000000 := by decide) : PF GB Tryz.prog 172 [dN a, dN b] (dN (a + b)) := by
 refine PF.intro Tryz.func172 rfl rfl Tryz.ntmps172 rfl ?_
 intro C
 have hla := mapU_len (dg a)
 have hlb := mapU_len (dg b)
 have hba := dg_len_bd ha.h hi
 have hbb := dg_len_bd hb.h hj
 refine qR <| tA rfl rfl <| sd_end <| qR <| tM rfl rfl <| tY (yq_len rfl) rfl <| tM rfl rfl <| tY (yq_len rfl) rfl <| ?_
 refine tY (yq_max rfl rfl) rfl <| ?_
 obtain ⟨n, hn⟩ : ∃ n, n = max (dg a).length (dg b).length := ⟨_, rfl⟩
 refine sd_eq 15 (.d (vI (n : Nat))) rfl (by show FV.d (.v (.int _ _)) = .d (.v (.int _ _)); congr 3; split <;> omega) ?_
 refine tA rfl rfl <| sd_end <| qR <| tM rfl rfl <| tY (yq_add64 rfl rfl) rfl <| tF (tf_make rfl rfl (by omega) (by omega) (by omega) rfl rfl) <| ?_
 intro w1
 refine tA rfl rfl <| sd_end <| qR <| tA rfl rfl <| sd_end <| sd_seq <| qR <| tA rfl rfl <| sd_end <| sd_block <| ?_
 refine sd_loop (X := List Nat × Nat × Nat) (fun x => [(0, .d (dN a)), (1, .d (dN b)), (5, .d (vI (n : Nat))), (6, w1.f), (7, .d (.v (.int .u32 (x.2.1 : Nat)))), (8, .d (vI (x.2.2 : Nat)))]) (fun x => []) (fun x => [⟨w1, 1, 224, x.1.map dU, true⟩]) (fun x => x.1.length = n + 1 ∧ DOk x.1 ∧ x.2.1 ≤ 1 ∧ x.2.2 ≤ n ∧ dv (x.1.take x.2.2) + 4294967296 ^ x.2.2 * x.2.1 = dv ((dg a).take x.2.2) + dv ((dg b).take x.2.2)) (fun x => n - x.2.2) ⟨List.replicate (n + 1) 0, 0, 0⟩ (by dsimp only; exact ⟨by simp, .replicate _, by omega, by omega, by simp [dv]⟩) (by repeat (first | exact .nil | refine .cons rfl ?_ | refine .cons' rfl (by first | (simp [vI]; done) | (congr 3; omega) | (simp [vI]; omega)) ?_)) rfl (by rw [← mapU_rep]; rfl) ?_
 rintro GB1 hGB1 ⟨W, c, i⟩ ⟨h1, h2, h3, h4, h5⟩
 try dsimp only at *
 have hlw := mapU_len W
 have hda := dg_lt a i
 have hdb := dg_lt b i
 refine sd_seq <| qR <| tM rfl rfl <| tM rfl rfl <| tY (yq_lss rfl rfl) rfl <| sd_end <| ?_
 refine sd_condP rfl (fun hc21 => ?_) (fun hc21 => ?_)
 ·
  refine sd_skipc <| sd_seq <| sd_block <| qR <| tA rfl rfl <| tA rfl rfl <| sd_end <| ?_
  refine sd_cut (Unit) (fun _ => [(0, .d (dN a)), (1, .d (dN b)), (5, .d (vI (n : Nat))), (6, w1.f), (7, .d (.v (.int .u32 (c : Nat)))), (8, .d (vI (i : Nat))), (9, .d (dU ((dg a).getD i 0))), (10, .d (.v (.int .u32 0)))]) (fun _ => []) (fun _ => [⟨w1, 1, 224, W.map dU, true⟩]) (fun _ => True) ?_ ?_
  ·
   refine qR <| tM rfl rfl <| tM rfl rfl <| tY (yq_len rfl) rfl <| tY (yq_lss rfl rfl) rfl <| sd_end <| ?_
   refine sd_condP rfl (fun hc27 => ?_) (fun hc27 => ?_)
   ·
    refine sd_region <| tM rfl rfl <| tM rfl rfl <| tY (yq_ix rfl rfl (by omega) (mapU_getI (by omega)) rfl rfl) rfl <| tY (yq_ldE1 rfl rfl) rfl <| tA rfl rfl <| ?_
    refine sd_end <| ?_
    exact sd_at () trivial (by repeat (first | exact .nil | refine .cons rfl ?_ | refine .cons' rfl (by first | (simp [vI]; done) | (congr 3; omega) | (simp [vI]; omega)) ?_)) rfl rfl
   ·
    refine sd_skipc <| ?_
    refine sd_eq 9 (.d (dU ((dg a).getD i 0))) rfl (by rw [getD_out (by omega)]; rfl) ?_
    exact sd_at () trivial (by repeat (first | exact .nil | refine .cons rfl ?_ | refine .cons' rfl (by first | (simp [vI]; done) | (congr 3; omega) | (simp [vI]; omega)) ?_)) rfl rfl
  rintro _ _
  refine sd_cut (Unit) (fun _ => [(0, .d (dN a)), (1, .d (dN b)), (5, .d (vI (n : Nat))), (6, w1.f), (7, .d (.v (.int .u32 (c : Nat)))), (8, .d (vI (i : Nat))), (9, .d (dU ((dg a).getD i 0))), (10, .d (dU ((dg b).getD i 0)))]) (fun _ => []) (fun _ => [⟨w1, 1, 224, W.map dU, true⟩]) (fun _ => True) ?_ ?_
  ·
   refine qR <| tM rfl rfl <| tM rfl rfl <| tY (yq_len rfl) rfl <| tY (yq_lss rfl rfl) rfl <| sd_end <| ?_
   refine sd_condP rfl (fun hc35 => ?_) (fun hc35 => ?_)
   ·
    refine sd_region <| tM rfl rfl <| tM rfl rfl <| tY (yq_ix rfl rfl (by omega) (mapU_getI (by omega)) rfl rfl) rfl <| tY (yq_ldE1 rfl rfl) rfl <| tA rfl rfl <| ?_
    refine sd_end <| ?_
    exact sd_at () trivial (by repeat (first | exact .nil | refine .cons rfl ?_ | refine .cons' rfl (by first | (simp [vI]; done) | (congr 3; omega) | (simp [vI]; omega)) ?_)) rfl rfl
   ·
    refine sd_skipc <| ?_
    refine sd_eq 10 (.d (dU ((dg b).getD i 0))) rfl (by rw [getD_out (by omega)]; rfl) ?_
    exact sd_at () trivial (by repeat (first | exact .nil | refine .cons rfl ?_ | refine .cons' rfl (by first | (simp [vI]; done) | (congr 3; omega) | (simp [vI]; omega)) ?_)) rfl rfl
  rintro _ _
  refine sd_region <| tM rfl rfl <| tM rfl rfl <| tM rfl rfl <| tM rfl rfl <| tM rfl rfl <| tC (td_call rfl rfl (q_Add32 (by omega) (by omega) (by omega)) rfl) <| ?_
  refine tM rfl rfl <| tY (yq_ext rfl rfl) rfl <| tY (yq_ext rfl rfl) rfl <| tY (yq_ixB rfl rfl (by omega) (by simp; omega)) rfl <| tC (td_storeB1 rfl rfl (by repeat (first | exact .hd .. | apply BRemD.tl)) (mapU_getI (by omega)) rfl rfl) <| ?_
  refine tA rfl rfl <| sd_end <| sd_region <| tM rfl rfl <| tY (yq_add64 rfl rfl) rfl <| tA rfl rfl <| sd_end <| ?_
  exact sd_again ⟨W.set i (((dg a).getD i 0 + (dg b).getD i 0 + c) % 4294967296), ((dg a).getD i 0 + (dg b).getD i 0 + c) / 4294967296, i + 1⟩ (by dsimp only; exact ⟨by simpa using h1, h2.set _ (by omega), by omega, by omega, sum_inv (by omega) h5⟩) (by dsimp only; omega) (by repeat (first | exact .nil | refine .cons rfl ?_ | refine .cons' rfl (by first | (simp [vI]; done) | (congr 3; omega) | (simp [vI]; omega)) ?_)) rfl (by rw [← mapU_set]; rfl)
 ·
  obtain rfl : i = n := by omega
  refine sd_exit <| sd_ts <| sd_te <| sd_inBlock_eq <| qR <| tM rfl rfl <| tM rfl rfl <| tM rfl rfl <| tY (yq_ixB rfl rfl (by omega) (by simp; omega)) rfl <| ?_
  refine tC (td_storeB1 rfl rfl (by repeat (first | exact .hd .. | apply BRemD.tl)) (mapU_getI (by omega)) rfl rfl) <| ?_
  refine sd_bh ((W.set i c).map dU) (by rw [← mapU_set]; rfl) ?_
  refine sd_end <| qR <| tM rfl rfl <| ?_
  refine sd_freezeB [6, 50, 54] (w := w1) (by repeat (first | exact .hd .. | apply BRemD.tl)) (by simp only [List.forall_mem_cons, List.not_mem_nil, false_implies, implies_true, and_true]; exact ⟨rfl, rfl, rfl⟩) ?_
  refine tC (td_call rfl rfl (q_Trim (ds := W.set i c) (by simp; omega)) rfl) <| tA rfl rfl <| sd_end <| sd_ret <| ?_
  exact sd_done (.tmp rfl .nil) (dL_trim (h2.set _ (by omega)) (sum_end hn h1 h5))
theorem less_inv {A B W : List Nat} {i c d c2 : Nat} (hA : DOk A) (hB : DOk B) (hi : i < W.length) (hc : c ≤ 1) (h : dv (W.take i) + dv (B.take i) = dv (A.take i) + 4294967296 ^ i * c)
   (hd : d = if A.getD i 0 < B.getD i 0 + c then A.getD i 0 + 4294967296 - (B.getD i 0 + c) else A.getD i 0 - (B.getD i 0 + c)) (hc2 : c2 = if A.getD i 0 < B.getD i 0 + c then 1 else 0) :
   dv ((W.set i d).take (i + 1)) + dv (B.take (i + 1)) = dv (A.take (i + 1)) + 4294967296 ^ (i + 1) * c2 := by
 have h1 := hA.get i
 have h2 := hB.get i
 rw [dv_set_take hi, dv_take_succ A, dv_take_succ B, Nat.pow_succ]
 split at hd
 · rename_i q
   rw [if_pos q] at hc2
   subst hc2 hd
   rw [Nat.add_comm (B.getD i 0) c]
   exact sub_yes h (by omega) (by omega)
 · rename_i q
   rw [if_neg q] at hc2
   subst hc2 hd
   rw [Nat.add_comm (B.getD i 0) c]
   exact sub_no h (by omega)
theorem less_end {a b c : Nat} {W : List Nat} (hw : DOk W) (hl : W.length = (dg a).length) (hb : b ≤ a) (h : dv (W.take (dg a).length) + dv ((dg b).take (dg a).length) = dv ((dg a).take (dg a).length) + 4294967296 ^ (dg a).length * c) : dv W = a - b := by
 have hlb : (dg b).length ≤ (dg a).length := by
   rcases Nat.lt_or_ge (dg a).length (dg b).length with q | q
   · have := dv_len_lt (dg_ok a) (dg_spec b).2.2 q
     rw [dv_dg, dv_dg] at this
     omega
   · exact q
 rw [take_all (by omega), take_all hlb, take_all (Nat.le_refl _), dv_dg, dv_dg] at h
 have h2 := dv_lt hw
 rw [hl] at h2
 rcases Nat.eq_zero_or_pos c with q | q
 · subst q; omega
 · have : 4294967296 ^ (dg a).length * 1 ≤ 4294967296 ^ (dg a).length * c := Nat.mul_le_mul_left _ q
   omega
set_option maxHeartbeats 1000000 in
theorem q_Less {GB : Gh} {a b ia : Nat} [ha : BN a ia] (hb : b ≤ a) (hi : ia ≤ 1000000000 := by decide) : PF GB Tryz.prog 173 [dN a, dN b] (dN (a - b)) := by
 refine PF.intro Tryz.func173 rfl rfl Tryz.ntmps173 rfl ?_
 intro C
 have hla := mapU_len (dg a)
 have hlb := mapU_len (dg b)
 have hba := dg_len_bd ha.h hi
 refine qR <| tA rfl rfl <| sd_end <| qR <| tM rfl rfl <| tY (yq_len rfl) rfl <| ?_
 refine sd_eq 10 (.d (vI ((dg a).length : Nat))) rfl (by rw [hla]; rfl) ?_
 refine tF (tf_make rfl rfl (by omega) (by omega) (by omega) rfl rfl) <| ?_
 intro w1
 refine tA rfl rfl <| sd_end <| qR <| tA rfl rfl <| sd_end <| sd_seq <| qR <| tM rfl rfl <| tY (yq_len rfl) rfl <| ?_
 refine sd_eq 13 (.d (vI ((dg a).length : Nat))) rfl (by rw [hla]; rfl) ?_
 refine tM rfl rfl <| sd_end <| sd_block <| ?_
 refine sd_loop (X := List Nat × Nat × Nat) (fun x => [(0, .d (dN a)), (1, .d (dN b)), (5, w1.f), (6, .d (.v (.int .u32 (x.2.1 : Nat)))), (13, .d (vI ((dg a).length : Nat))), (14, .d (vI (x.2.2 : Nat)))]) (fun x => []) (fun x => [⟨w1, 1, 224, x.1.map dU, true⟩]) (fun x => x.1.length = (dg a).length ∧ DOk x.1 ∧ x.2.1 ≤ 1 ∧ x.2.2 ≤ (dg a).length ∧ dv (x.1.take x.2.2) + dv ((dg b).take x.2.2) = dv ((dg a).take x.2.2) + 4294967296 ^ x.2.2 * x.2.1) (fun x => (dg a).length - x.2.2) ⟨List.replicate (dg a).length 0, 0, 0⟩ (by dsimp only; exact ⟨by simp, .replicate _, by omega, by omega, by simp [dv]⟩) (by repeat (first | exact .nil | refine .cons rfl ?_ | refine .cons' rfl (by first | (simp [vI]; done) | (congr 3; omega) | (simp [vI]; omega)) ?_)) rfl (by rw [← mapU_rep]; rfl) ?_
 rintro GB1 hGB1 ⟨W, c, i⟩ ⟨h1, h2, h3, h4, h5⟩
 try dsimp only at *
 have hlw := mapU_len W
 have hda := dg_lt a i
 have hdb := dg_lt b i
 refine qR <| tY (yq_lss rfl rfl) rfl <| sd_end <| sd_seq <| ?_
 refine sd_condP rfl (fun hc15 => ?_) (fun hc15 => ?_)
 ·
  refine sd_skipc <| sd_seq <| sd_block <| qR <| tM rfl rfl <| tA rfl rfl <| sd_end <| qR <| tA rfl rfl <| sd_end <| ?_
  refine sd_cut (Unit) (fun _ => [(0, .d (dN a)), (1, .d (dN b)), (5, w1.f), (6, .d (.v (.int .u32 (c : Nat)))), (13, .d (vI ((dg a).length : Nat))), (14, .d (vI (i : Nat))), (7, .d (vI (i : Nat))), (8, .d (dU ((dg b).getD i 0)))]) (fun _ => []) (fun _ => [⟨w1, 1, 224, W.map dU, true⟩]) (fun _ => True) ?_ ?_
  ·
   refine qR <| tM rfl rfl <| tM rfl rfl <| tY (yq_len rfl) rfl <| tY (yq_lss rfl rfl) rfl <| sd_end <| ?_
   refine sd_condP rfl (fun hc20 => ?_) (fun hc20 => ?_)
   ·
    refine sd_region <| tM rfl rfl <| tM rfl rfl <| tY (yq_ix rfl rfl (by omega) (mapU_getI (by omega)) rfl rfl) rfl <| tY (yq_ldE1 rfl rfl) rfl <| tA rfl rfl <| ?_
    refine sd_end <| ?_
    exact sd_at () trivial (by repeat (first | exact .nil | refine .cons rfl ?_ | refine .cons' rfl (by first | (simp [vI]; done) | (congr 3; omega) | (simp [vI]; omega)) ?_)) rfl rfl
   ·
    refine sd_skipc <| ?_
    refine sd_eq 8 (.d (dU ((dg b).getD i 0))) rfl (by rw [getD_out (by omega)]; rfl) ?_
    exact sd_at () trivial (by repeat (first | exact .nil | refine .cons rfl ?_ | refine .cons' rfl (by first | (simp [vI]; done) | (congr 3; omega) | (simp [vI]; omega)) ?_)) rfl rfl
  rintro _ _
  refine sd_region <| tM rfl rfl <| tM rfl rfl <| tM rfl rfl <| tM rfl rfl <| tY (yq_ix rfl rfl (by omega) (mapU_getI (by omega)) rfl rfl) rfl <| ?_
  refine tY (yq_ldE1 rfl rfl) rfl <| tM rfl rfl <| tM rfl rfl <| tC (td_call rfl rfl (q_Sub32 (by omega) (by omega) (by omega)) rfl) <| tM rfl rfl <| tY (yq_ext rfl rfl) rfl <| ?_
  refine tY (yq_ext rfl rfl) rfl <| tY (yq_ixB rfl rfl (by omega) (by simp; omega)) rfl <| tC (td_storeB1 rfl rfl (by repeat (first | exact .hd .. | apply BRemD.tl)) (mapU_getI (by omega)) rfl rfl) <| ?_
  refine tA rfl rfl <| sd_end <| sd_region <| tY (yq_add64 rfl rfl) rfl <| tM rfl rfl <| sd_end <| ?_
  exact sd_again ⟨W.set i (if (dg a).getD i 0 < (dg b).getD i 0 + c then (dg a).getD i 0 + 4294967296 - ((dg b).getD i 0 + c) else (dg a).getD i 0 - ((dg b).getD i 0 + c)), (if (dg a).getD i 0 < (dg b).getD i 0 + c then 1 else 0), i + 1⟩ (by dsimp only; exact ⟨by simpa using h1, h2.set _ (by split <;> omega), by split <;> omega, by omega, less_inv (dg_ok a) (dg_ok b) (by omega) h3 h5 rfl rfl⟩) (by dsimp only; omega) (by repeat (first | exact .nil | refine .cons rfl ?_ | refine .cons' rfl (by first | (simp [vI]; done) | (congr 3; omega) | (simp [vI]; omega)) ?_)) rfl (by rw [← mapU_set]; rfl)
 ·
  obtain rfl : i = (dg a).length := by omega
  refine sd_exit <| sd_ts <| sd_te <| sd_inBlock_eq <| qR <| tM rfl rfl <| ?_
  refine sd_freezeB [5, 39] (w := w1) (by repeat (first | exact .hd .. | apply BRemD.tl)) (by simp only [List.forall_mem_cons, List.not_mem_nil, false_implies, implies_true, and_true]; exact ⟨rfl, rfl⟩) ?_
  refine tC (td_call rfl rfl (q_Trim (ds := W) (by omega)) rfl) <| tA rfl rfl <| sd_end <| sd_ret <| ?_
  exact sd_done (.tmp rfl .nil) (dL_trim h2 (less_end h2 h1 hb h5))
end Go.Sx
end

section
set_option maxRecDepth 100000
namespace Go.Sx
open Go
section
variable {P : Program} {GB : Gh} {C : Ctx} {n : Nat} {fr : FrF} {own : List OwnD} {bs : List BufD}
theorem sd_againU {GB' : Gh} (hg : GLe GB' GB) {X : Type} {F : X → FrF} {O : X → List OwnD} {B : X → List BufD} {I : X → Prop} {μ : X → Nat} {m : Nat} (x : X) (hI : I x) (hμ : μ x < m) (hF : FrLF (F x) fr) (hO : O x = own) (hB : B x = bs) : SD GB C n E0 fr own bs (AgainD GB' C n F O B I μ m) :=
 (sd_again (GB := GB') x hI hμ hF hO hB).gbu hg
theorem sd_atU {GB' : Gh} (hg : GLe GB' GB) {X : Type} {F : X → FrF} {O : X → List OwnD} {B : X → List BufD} {I : X → Prop} (x : X) (hI : I x) (hF : FrLF (F x) fr) (hO : O x = own) (hB : B x = bs) : SD GB C n E0 fr own bs (AtD GB' C n F O B I) :=
 (sd_at (GB := GB') x hI hF hO hB).gbu hg
theorem sd_doneX {fn : Func} {ι : Type} {r : ι → DV} {ds : List DV} (x : ι) (hr : RVD P fr own fn.results.toList ds) (e : tupD ds = r x) : SD GB C n E0 fr own bs (bodyPost P fn (RPost C (fun v G' => ∃ x, Is G' (r x) v)) .ret) := by
 refine ⟨fun G frv ov s => ?_⟩
 obtain ⟨vs, h1, h2⟩ := hr.rvs s.fr s.ob
 simp only [E0, List.append_nil]
 exact st_done h1 ⟨x, e ▸ tupD_is h2⟩
theorem PX.intro {f : FuncId} {fn : Func} {c : Code} {m : Nat} {ds : List DV} {ι : Type} {r : ι → DV} (hf : P.funcs[f]? = some fn) (hb : fn.body = some c) (hn : (fn.name == "runtime.NumGoroutine") = false) (hm : fn.ntmps = m) (hlen : Nat.ble ds.length m = true)
  (h : ∀ C : Ctx, SD GB C m E0 (args0F 0 ds) [] [] (c.wp P (bodyPost P fn (RPost C (fun v G' => ∃ x, Is G' (r x) v))))) : PX GB P f ds ι r := by
 intro G vs hg hv
 refine Fn.intro hf hb hn hm (by rw [hv.len]; exact hlen) fun C _ _ => ?_
 have := h C G _ [] ⟨hg, FrIs.args0 0 hv, [], [], rfl, rfl, rfl⟩
 simpa only [E0, List.append_nil] using this
/-! ### a borrowed variable, and a row handed back -/
def PMR (GB : Gh) (P : Program) (f : FuncId) (ds : List DV) (b : Nat) (ty : TypeId) (cs : List DV) (s : Nat) (ty2 : TypeId) (ι : Type) (rows : ι → List DV) (cs' : ι → List DV) : Prop :=
 ∀ G vs m lo, GLe GB G → IsLs G ds vs → IsLs G cs m → FnO P f vs [⟨b, m, ty, lo⟩] G (fun v own' G' => ∃ x w m' B, v = .slice w.a w.n w.c ∧ own' = ⟨b, m', ty, false⟩ :: B ∧ IsLs G' (cs' x) m' ∧ BufIs G' ⟨w, s, ty2, rows x, true⟩ B ∧ ∀ o ∈ B, b ≠ o.b)
variable {dst : Option Nat} {t t' ty' : TypeId} {pos : String} {af : Array Edge} {gd : Option (Nat × Bool)} {x y z : Operand}
theorem sr_caseP {own0 own1 : List OwnD} {bs0 bs1 : List BufD} {fd : List FD} {K : List Nat → (World → Prop) → Act → World → Prop} (d : Nat) {p : Prop} {inst : Decidable p} (hl : lookF fr d = some (.d (.v (.bool (@decide p inst))))) (h1 : p → SR GB C n ((d, .d (.v (.bool true))) :: fr) own0 bs0 own1 bs1 fd K) (h2 : ¬ p → SR GB C n ((d, .d (.v (.bool false))) :: fr) own0 bs0 own1 bs1 fd K) : SR GB C n fr own0 bs0 own1 bs1 fd K := by
 refine ⟨fun G frv o0 o1 hgb hf k0 k1 fs => ?_⟩
 obtain ⟨u, hu, hu'⟩ := hf.look hl
 rw [isF_v.1 hu'] at hu
 exact st_case d (look_appS hu) (fun h => (h1 (of_decide_eq_true h)) G ((d, _) :: frv) o0 o1 hgb ⟨_, _, rfl, isF_v.2 rfl, hf⟩ k0 k1 fs) (fun h => (h2 (of_decide_eq_false h)) G ((d, _) :: frv) o0 o1 hgb ⟨_, _, rfl, isF_v.2 rfl, hf⟩ k0 k1 fs)
variable {e s by_ : Nat}
theorem slice_key {G : Gh} {l : List DV} {w : SV} {es : List Value} {s' nhi mx' : Nat} (hsl : IsSl G s' w es) (hl : IsLs G l es) (ho : slOk s l) (h2 : nhi ≤ l.length) (hm1 : nhi ≤ mx') (hm2 : mx' ≤ w.c) : Is G (.sl (l.take nhi)) (.slice w.a nhi mx') := by
 have hn := hsl.len
 have hcap := hsl.cap
 have hll := hl.len
 have e9 : ∀ s, slTo w.a w.n w.c 0 nhi mx' s = .slice w.a nhi mx' := by
   intro s
   unfold slTo
   cases w.a with
   | none => simp
   | some ad => simp [Addr.add]
 rcases sl_stride hsl hl ho with he | he
 · subst he
   have : l = [] := List.eq_nil_of_length_eq_zero (by rw [← hll]; rfl)
   subst this
   have e1 : nhi = 0 := by simp at h2; exact h2
   subst e1
   refine is_sl.2 ⟨s, ⟨_, 0, mx'⟩, [], rfl, ⟨rfl, Nat.zero_le _, .inl rfl⟩, by simpa using IsLs.nil⟩
 · subst he
   have k := hsl.sub 0 nhi mx' (Nat.zero_le _) (by omega) hm1 hm2
   have k2 := is_sl.2 ⟨s', ⟨_, _, _⟩, _, rfl, k, (hl.take nhi).drop 0⟩
   rw [List.drop_zero] at k2
   have e := e9 s'
   unfold slTo at e
   revert k2
   simp only [] at *
   intro k2
   first | exact e ▸ k2 | (simp at e k2 ⊢; first | exact k2 | (cases hw : w.a <;> simp_all [Addr.add]))
theorem yq_slice3 {l : List DV} {hi mx : Operand} {nhi : Nat} [hT : TySl P t e s by_] (hx : opD fr x = some (.sl l)) (ho : slOk s l)
  (hhi : opF fr hi = some (.d (.v (.int .i64 (nhi : Nat))))) (hmx : opF fr mx = some (.d (.v (.int .i64 (nhi : Nat))))) (h2 : nhi ≤ l.length) :
  YD P GB C fr own bs ⟨dst, .slice t x none (some hi) (some mx), ty', pos, af, gd⟩ (.ct (l.take nhi)) := by
 intro G frv ov st
 obtain ⟨u, h3, h4⟩ := st.fr.opD hx
 obtain ⟨s', w, es, rfl, hsl, hl⟩ := is_sl.1 h4
 have hn := hsl.len
 have hcap := hsl.cap
 have hll := hl.len
 refine ⟨.slice w.a nhi nhi, ⟨⟨_, _, rfl⟩, slice_key hsl hl ho h2 (Nat.le_refl _) (by omega)⟩, fun G' hg => ?_⟩
 have h9 := yd_slice_3 (P := P) (C := C) (own := ov) (G := G') (t := t) (dst := dst) (ty' := ty') (pos := pos) (af := af) (gd := gd) h3 (st.fr.opv hhi) (st.fr.opv hmx) (by omega) (Int.le_refl _) (by omega)
 simpa using h9
theorem tf_appendC [hT : TySl P t e s by_] [hN : TyN P t'] {d0 : DV} [hz : TyZE P e d0] {ds ds2 : List DV} (hx : opF fr x = some (.ct ds)) (ox : slOk s ds) (hy : SrcD fr bs s y ds2) (hne : 0 < ds2.length)
   (hby : Nat.blt 0 by_ = true) (hbd : (ds.length + ds2.length) * by_ ≤ 140737488355328) (hzs : Nat.beq d0.cells.length s = true) (hd : dstOk n dst = true) :
   TF P GB C n fr own bs ⟨dst, .call ⟨.builtin .append, #[x, y], #[t, t']⟩, ty', pos, af, gd⟩ SV (fun w' => putF fr dst w'.f) (fun _ => own) (fun w' => ⟨w', s, e, ds ++ ds2, true⟩ :: bs) := by
 intro GB' E Φ hgb h G frv ov st
 obtain ⟨z, hz1, hz2, hz3⟩ := hz.z
 obtain ⟨p, q, rfl, hp, hq⟩ := st.ob
 have cz := (hz2.cells hz3).1.len
 replace hzs := Nat.eq_of_beq_eq_true hzs
 rw [Nat.blt_eq] at hby
 obtain ⟨w2, us, h1, h2, h3, h4, h5, h6⟩ := hy.src (P := P) (C := C) st.fr hq ((p ++ q) ++ E.own) (fun o ho => by simp [ho])
 have hxs : SrcD fr bs s x ds := .sl (by unfold Sx.opD; rw [hx]; rfl) ox
 obtain ⟨w1, vs, g1, g2, g3, g4, g5, g6⟩ := hxs.src (P := P) (C := C) st.fr hq ((p ++ q) ++ E.own) (fun o ho => by simp [ho])
 obtain ⟨y1, k1, ⟨a1, n1, rfl⟩, _⟩ := st.fr.op hx
 rw [k1] at g1
 simp only [Option.some.injEq, Value.slice.injEq] at g1
 obtain ⟨rfl, e1, e2⟩ := g1
 have hc1 : w1.c = w1.n := by omega
 have hl3 := h3.len
 have hl4 := g3.len
 have hall : ∀ v ∈ vs ++ us, (cellsL v).length = s := fun v hv => by
   rcases List.mem_append.1 hv with hv | hv
   · exact g4 v hv
   · exact h4 v hv
 refine ch_append_grow (z := z) (xs := flatL vs) (ys := flatL us) (ad := w1.a) (len := w1.n) (cap := w1.c) (by rw [opv_app k1, e1, hc1]) (opv_app h1) g6 h6 (by omega) hby (by rw [g2, h2, hl3, hl4]; exact hbd) hd (fun b cap' hc => ?_)
 rw [put_app, ← flatL_app]
 refine st_perm ((p ++ ([⟨b, flatL (vs ++ us) ++ zeros z (cap' - (w1.n + w2.n)), e, true⟩] ++ q)) ++ E.own) ?_ (h ⟨some ⟨b, 0, none⟩, w1.n + w2.n, cap'⟩ G _ _ ⟨st.gb, st.fr.put (isF_v.2 rfl) _, p, _, rfl, hp, ?_⟩)
 · simp only [List.append_assoc, List.cons_append, List.nil_append]
   exact List.perm_middle.symm
 · refine ⟨_, _, rfl, ⟨vs ++ us, .inr ⟨b, _, true, by simp [g2, h2], rfl, flatL_len _ hall, ?_, by simpa [g2, h2] using hc⟩, g3.app h3, hall, fun _ o ho => by simp at ho; rw [ho]⟩, hq⟩
   rw [flatL_len _ hall, List.length_append, zeros_len, cz, hzs, ← Nat.add_mul, g2, h2]
   congr 1
   rw [g2, h2] at hc
   dsimp only
   omega
theorem td_appendCZ {d : Nat} [hT : TySl P t e s by_] [hN : TyN P t'] {d0 : DV} [hz : TyZE P e d0] {ds ds2 : List DV} (hx : opF fr x = some (.ct ds)) (ox : slOk s ds) (hy : SrcD fr bs s y ds2) (hne : 0 < ds2.length)
  (hby : Nat.blt 0 by_ = true) (hbd : (ds.length + ds2.length) * by_ ≤ 140737488355328) (hzs : Nat.beq d0.cells.length s = true) (hd : dstOk n (some d) = true) :
  TD P GB C n fr own bs ⟨some d, .call ⟨.builtin .append, #[x, y], #[t, t']⟩, ty', pos, af, gd⟩ ((d, .d (.sl (ds ++ ds2))) :: fr) own bs :=
 TD.froze (tf_appendC hx ox hy hne hby hbd hzs hd) fun _ _ _ _ _ h => sd_freezeE h
end
end Go.Sx
end

section
set_option maxRecDepth 100000
namespace Go.Sx
open Go Go.Proofs
theorem bv_or (n : Nat) (a b k : Nat) (ha : a < 2 ^ k) (h : a + b * 2 ^ k < 2 ^ n) : (BitVec.ofInt n (a : Int) ||| BitVec.ofInt n ((b * 2 ^ k : Nat) : Int)).toNat = a + b * 2 ^ k := by
 rw [BitVec.toNat_or, BitVec.ofInt_natCast, BitVec.ofInt_natCast, BitVec.toNat_ofNat, BitVec.toNat_ofNat, Nat.mod_eq_of_lt (by omega), Nat.mod_eq_of_lt (by omega)]
 rw [← Nat.shiftLeft_eq, Nat.or_comm, ← Nat.shiftLeft_add_eq_or_of_lt ha, Nat.shiftLeft_eq]
 omega
section
variable {P : Program} {GB : Gh} {C : Ctx} {n : Nat} {fr : FrF} {own : List OwnD} {bs : List BufD}
variable {dst : Option Nat} {t t' ty' : TypeId} {pos : String} {af : Array Edge} {gd : Option (Nat × Bool)} {x y z : Operand}
theorem wrap64 (b : BitVec 64) : IntKind.u64.wrap (b.toNat : Int) = (b.toNat : Int) := by
 rw [wrap_u64]; have := b.isLt; omega
theorem yd_or64 {G : Gh} {fr : Fr} {own : List Own} {p q : Int} (hx : opv fr x = some (.int .u64 p)) (hy : opv fr y = some (.int .u64 q)) : Yd P C fr own G ⟨dst, .binOp .or t x y t', ty', pos, af, gd⟩ (.int .u64 ((BitVec.ofInt 64 p ||| BitVec.ofInt 64 q).toNat : Nat)) := yd_int hx hy fun w => by
 show (pure (Value.int .u64 (IntKind.u64.wrap ((BitVec.ofInt 64 p ||| BitVec.ofInt 64 q).toNat : Int))) : Sem Value).run P w = _
 rw [wrap64]; rfl
theorem yq_or64 {p q : Int} {r : Nat} (hx : opF fr x = some (.d (.v (.int .u64 p)))) (hy : opF fr y = some (.d (.v (.int .u64 q)))) (hr : (BitVec.ofInt 64 p ||| BitVec.ofInt 64 q).toNat = r) : YD P GB C fr own bs ⟨dst, .binOp .or t x y t', ty', pos, af, gd⟩ (.d (.v (.int .u64 (r : Int)))) := hr ▸ .of2 hx hy fun a b => yd_or64 a b
theorem yq_or32' {p q : Int} {r : Nat} (hx : opF fr x = some (.d (.v (.int .u32 p)))) (hy : opF fr y = some (.d (.v (.int .u32 q)))) (hr : (BitVec.ofInt 32 p ||| BitVec.ofInt 32 q).toNat = r) : YD P GB C fr own bs ⟨dst, .binOp .or t x y t', ty', pos, af, gd⟩ (.d (.v (.int .u32 (r : Int)))) := hr ▸ yq_or32 hx hy
end
theorem mul_bd {x y : Nat} (hx : x < 4294967296) (hy : y < 4294967296) : x * y ≤ 18446744065119617025 := by
 have := Nat.mul_le_mul (by omega : x ≤ 4294967295) (by omega : y ≤ 4294967295)
 exact this
theorem mul_lo (x y : Nat) : (0 : Int) ≤ (x : Int) * (y : Int) := by rw [← Int.natCast_mul]; omega
theorem mul_hi {x y : Nat} (hx : x < 4294967296) (hy : y < 4294967296) : (x : Int) * (y : Int) ≤ 18446744073709551615 := by
 have := mul_bd hx hy
 rw [← Int.natCast_mul]; omega
theorem dv_one {ds : List Nat} (h : ds.length = 1) : dv ds = ds.getD 0 0 := by
 match ds, h with
 | [d], _ => simp [dv]
theorem dg_one_digit {a : Nat} (h : (dg a).length = 1) : (dg a).getD 0 0 = a := by rw [← dv_one h, dv_dg]
theorem getD_take {ds : List Nat} {j m : Nat} (h : j < m) : (ds.take m).getD j 0 = ds.getD j 0 := by
 rw [List.getD_eq_getElem?_getD, List.getD_eq_getElem?_getD, List.getElem?_take, if_pos h]
theorem dv_set_in {W : List Nat} {j m d : Nat} (hj : j < m) (hm : m ≤ W.length) : dv ((W.set j d).take m) + 4294967296 ^ j * W.getD j 0 = dv (W.take m) + 4294967296 ^ j * d := by
 rw [List.take_set, ← getD_take (ds := W) hj]
 exact dv_set _ _ _ (by rw [List.length_take]; omega)
theorem prod_inv {W : List Nat} {P X Y m i k c y t S : Nat} (hk : i + k < m) (hm : m ≤ W.length) (h : dv (W.take m) + 4294967296 ^ (i + k) * c = P + X * (4294967296 ^ i * S)) (ht : t = Y + W.getD (i + k) 0 + c) (hY : Y = X * y) :
  dv ((W.set (i + k) (t % 4294967296)).take m) + 4294967296 ^ (i + (k + 1)) * (t / 4294967296) = P + X * (4294967296 ^ i * (S + 4294967296 ^ k * y)) := by
 have h1 := dv_set_in (W := W) (d := t % 4294967296) hk hm
 rw [ht, show Y + W.getD (i + k) 0 + c = c + Y + W.getD (i + k) 0 by omega] at h1 ⊢
 have h2 := mul_step h1 h
 rw [← Nat.add_assoc, Nat.pow_succ, h2, hY, Nat.pow_add]
 simp only [Nat.mul_add, Nat.mul_assoc, Nat.mul_left_comm, Nat.mul_comm, Nat.add_assoc]
theorem prod_end {a b : Nat} {W : List Nat} {i c lb : Nat} (hlb : lb = (dg b).length) (hl : i + lb < W.length) (h : dv (W.take (i + lb)) + 4294967296 ^ (i + lb) * c = dv ((dg a).take i) * b + (dg a).getD i 0 * (4294967296 ^ i * dv ((dg b).take lb))) :
  dv ((W.set (i + lb) c).take (i + 1 + lb)) = dv ((dg a).take (i + 1)) * b := by
 rw [show i + 1 + lb = i + lb + 1 by omega, dv_set_take hl, h, dv_take_succ, take_all (ds := dg b) (by omega), dv_dg b, Nat.add_mul]
 simp only [Nat.mul_assoc, Nat.mul_left_comm, Nat.mul_comm]
theorem rep_getD (n j : Nat) : (List.replicate n 0).getD j 0 = 0 := by
 rw [List.getD_eq_getElem?_getD, List.getElem?_replicate]
 split <;> rfl
theorem quo32 {k : Nat} (h : k ≤ 1000000000) : IntKind.i64.wrap ((k : Int).tdiv 32) = ((k / 32 : Nat) : Int) := by
 rw [show (k : Int).tdiv 32 = ((k / 32 : Nat) : Int) from rfl, wrap_i64]; omega
theorem rem32 (k : Nat) : (k : Int).tmod 32 = ((k % 32 : Nat) : Int) := rfl
set_option maxHeartbeats 2000000 in
theorem q_Product {GB : Gh} {a b ia ib : Nat} [ha : BN a ia] [hb : BN b ib] (hi : ia ≤ 1000000000 := by decide) (hj : ib ≤ 1000000000 := by decide) : PF GB Tryz.prog 91 [dN a, dN b] (dN (a * b)) := by
 refine PF.intro Tryz.func91 rfl rfl Tryz.ntmps91 rfl ?_
 intro C
 have hla := mapU_len (dg a)
 have hlb := mapU_len (dg b)
 have hba := dg_len_bd ha.h hi
 have hbb := dg_len_bd hb.h hj
 refine qR <| tA rfl rfl <| sd_end <| ?_
 refine sd_cut (Unit) (fun _ => [(0, .d (dN a)), (1, .d (dN b))]) (fun _ => []) (fun _ => []) (fun _ => True) ?_ ?_
 ·
  refine qR <| tM rfl rfl <| tY (yq_len rfl) rfl <| tY (yq_eql rfl rfl) rfl <| tM rfl rfl <| ?_
  refine sd_caseP 15 rfl (fun hg15 => ?_) (fun hg15 => ?_)
  ·
   refine tYg rfl rfl (yq_move rfl) rfl <| tYg rfl rfl (yq_len rfl) rfl <| tYg rfl rfl (yq_eql rfl rfl) rfl <| tY (yq_pickT rfl rfl) rfl <| sd_end <| ?_
   refine sd_condP rfl (fun hc19 => ?_) (fun hc19 => ?_)
   ·
    have hd0 := dg_lt a 0
    have hd1 := dg_lt b 0
    refine sd_seq <| ?_
    refine drX (own0 := _) (own1 := []) (bs0 := []) (bs1 := _) [] [(0, true), (1, true), (2, true), (3, true), (4, true), (5, true), (6, true), (7, true), (8, true), (9, false), (10, true)] [] follows (by rw [List.append_nil]) (List.Perm.refl _) (by kernel_rfl) ?_
    refine dyX rfl (yq_move rfl) rfl <| ?_
    refine dyX rfl (yq_ix rfl rfl (by omega) (mapU_getZ (k := 0) rfl (by omega)) rfl rfl) rfl <| ?_
    refine dyX rfl (yq_ldE1 rfl rfl) rfl <| ?_
    refine dyX rfl (yq_toU64 rfl) rfl <| ?_
    refine dyX rfl (yq_move rfl) rfl <| ?_
    refine dyX rfl (yq_ix rfl rfl (by omega) (mapU_getZ (k := 0) rfl (by omega)) rfl rfl) rfl <| ?_
    refine dyX rfl (yq_ldE1 rfl rfl) rfl <| ?_
    refine dyX rfl (yq_toU64 rfl) rfl <| ?_
    refine dyX rfl (yq_mulU rfl rfl (mul_lo _ _) (mul_hi (dg_lt _ _) (dg_lt _ _))) rfl <| ?_
    refine dcX rfl (td_call rfl rfl (q_Word (u := (dg a).getD 0 0 * (dg b).getD 0 0) (by have := mul_bd (dg_lt a 0) (dg_lt b 0); omega)) rfl) FDok.nil rfl <| ?_
    refine dyX rfl (yq_assign rfl) rfl <| ?_
    refine outX0 <| onX <| outX0 <| dnX <| ?_
    simp only [List.nil_append, List.append_nil, List.cons_append]
    refine sd_ret <| ?_
    exact sd_done (.tmp rfl .nil) (by rw [dg_one_digit (by omega), dg_one_digit (by omega)]; rfl)
   ·
    refine sd_skipc <| ?_
    exact sd_at () trivial (by repeat (first | exact .nil | refine .cons rfl ?_ | refine .cons' rfl (by first | (simp [vI]; done) | (congr 3; omega) | (simp [vI]; omega)) ?_)) rfl rfl
  ·
   refine tS rfl rfl rfl rfl <| tS rfl rfl rfl rfl <| tS rfl rfl rfl rfl <| tY (yq_pickF rfl rfl) rfl <| sd_end <| sd_condF rfl <| sd_skipc <| ?_
   exact sd_at () trivial (by repeat (first | exact .nil | refine .cons rfl ?_ | refine .cons' rfl (by first | (simp [vI]; done) | (congr 3; omega) | (simp [vI]; omega)) ?_)) rfl rfl
 rintro _ _
 refine qR <| tM rfl rfl <| tY (yq_len rfl) rfl <| ?_
 refine sd_eq 31 (.d (vI ((dg a).length : Nat))) rfl (by rw [hla]; rfl) ?_
 refine tM rfl rfl <| tY (yq_len rfl) rfl <| ?_
 refine sd_eq 33 (.d (vI ((dg b).length : Nat))) rfl (by rw [hlb]; rfl) ?_
 refine tY (yq_add64 rfl rfl) rfl <| tF (tf_make rfl rfl (by omega) (by omega) (by omega) rfl rfl) <| ?_
 intro w1
 refine tA rfl rfl <| sd_end <| sd_seq <| qR <| tM rfl rfl <| tY (yq_len rfl) rfl <| ?_
 refine sd_eq 37 (.d (vI ((dg a).length : Nat))) rfl (by rw [hla]; rfl) ?_
 refine tM rfl rfl <| sd_end <| sd_block <| ?_
 refine sd_loop (X := List Nat × Nat) (fun x => [(0, .d (dN a)), (1, .d (dN b)), (5, w1.f), (36, .d (dN a)), (37, .d (vI ((dg a).length : Nat))), (38, .d (vI (x.2 : Nat)))]) (fun x => []) (fun x => [⟨w1, 1, 224, x.1.map dU, true⟩]) (fun x => x.1.length = (dg a).length + (dg b).length ∧ DOk x.1 ∧ x.2 ≤ (dg a).length ∧ dv (x.1.take (x.2 + (dg b).length)) = dv ((dg a).take x.2) * b) (fun x => (dg a).length - x.2) ⟨List.replicate ((dg a).length + (dg b).length) 0, 0⟩ (by dsimp only; exact ⟨by simp, .replicate _, by omega, by rw [List.take_replicate, dv_replicate]; simp [dv]⟩) (by repeat (first | exact .nil | refine .cons rfl ?_ | refine .cons' rfl (by first | (simp [vI]; done) | (congr 3; omega) | (simp [vI]; omega)) ?_)) rfl (by rw [← mapU_rep]; rfl) ?_
 rintro GB1 hGB1 ⟨W, i⟩ ⟨h1, h2, h3, h4⟩
 try dsimp only at *
 refine qR <| tY (yq_lss rfl rfl) rfl <| sd_end <| sd_seq <| ?_
 refine sd_condP rfl (fun hc39 => ?_) (fun hc39 => ?_)
 ·
  refine sd_skipc <| sd_seq <| sd_block <| qR <| tM rfl rfl <| tY (yq_ix rfl rfl (by omega) (mapU_getI (by omega)) rfl rfl) rfl <| tY (yq_ldE1 rfl rfl) rfl <| ?_
  refine tA rfl rfl <| tA rfl rfl <| sd_end <| qR <| tA rfl rfl <| sd_end <| sd_seq <| qR <| tM rfl rfl <| ?_
  refine tY (yq_len rfl) rfl <| ?_
  refine sd_eq 44 (.d (vI ((dg b).length : Nat))) rfl (by rw [hlb]; rfl) ?_
  refine tM rfl rfl <| sd_end <| sd_block <| ?_
  refine sd_loop (X := List Nat × Nat × Nat) (fun x => [(0, .d (dN a)), (1, .d (dN b)), (5, w1.f), (6, .d (vI (i : Nat))), (7, .d (dU ((dg a).getD i 0))), (8, .d (.v (.int .u64 (x.2.1 : Nat)))), (36, .d (dN a)), (37, .d (vI ((dg a).length : Nat))), (38, .d (vI (i : Nat))), (43, .d (dN b)), (44, .d (vI ((dg b).length : Nat))), (45, .d (vI (x.2.2 : Nat)))]) (fun x => []) (fun x => [⟨w1, 1, 224, x.1.map dU, true⟩]) (fun x => x.1.length = (dg a).length + (dg b).length ∧ DOk x.1 ∧ x.2.1 < 4294967296 ∧ x.2.2 ≤ (dg b).length ∧ dv (x.1.take (i + (dg b).length)) + 4294967296 ^ (i + x.2.2) * x.2.1 = dv ((dg a).take i) * b + (dg a).getD i 0 * (4294967296 ^ i * dv ((dg b).take x.2.2))) (fun x => (dg b).length - x.2.2) ⟨W, 0, 0⟩ (by dsimp only; exact ⟨h1, h2, by omega, by omega, by rw [h4]; simp [dv]⟩) (by repeat (first | exact .nil | refine .cons rfl ?_ | refine .cons' rfl (by first | (simp [vI]; done) | (congr 3; omega) | (simp [vI]; omega)) ?_)) rfl rfl ?_
  rintro GB2 hGB2 ⟨W2, c, k⟩ ⟨g1, g2, g3, g4, g5⟩
  try dsimp only at *
  have hlw := mapU_len W2
  have hw := g2.get (i + k)
  have hda := dg_lt a i
  have hdb := dg_lt b k
  refine qR <| tY (yq_lss rfl rfl) rfl <| sd_end <| sd_seq <| ?_
  refine sd_condP rfl (fun hc46 => ?_) (fun hc46 => ?_)
  ·
   refine sd_skipc <| sd_seq <| sd_block <| qR <| tM rfl rfl <| tY (yq_ix rfl rfl (by omega) (mapU_getI (by omega)) rfl rfl) rfl <| tY (yq_ldE1 rfl rfl) rfl <| ?_
   refine tA rfl rfl <| tA rfl rfl <| sd_end <| qR <| tM rfl rfl <| tY (yq_toU64 rfl) rfl <| tM rfl rfl <| ?_
   refine tY (yq_toU64 rfl) rfl <| tY (yq_mulU rfl rfl (mul_lo _ _) (mul_hi (dg_lt _ _) (dg_lt _ _))) rfl <| ?_
   obtain ⟨p, hp⟩ : ∃ p, p = (dg a).getD i 0 * (dg b).getD k 0 := ⟨_, rfl⟩
   have hp1 : p ≤ 18446744065119617025 := hp ▸ mul_bd hda hdb
   refine sd_eq 54 (.d (.v (.int .u64 (p : Nat)))) rfl (by rw [hp, Int.natCast_mul]) ?_
   refine tM rfl rfl <| tM rfl rfl <| tM rfl rfl <| tY (yq_add64 rfl rfl) rfl <| tY (yq_ixB rfl rfl (by omega) (by simp; omega)) rfl <| ?_
   refine tY (yq_ldB1 rfl (mapU_getZ (k := i + k) (by omega) (by omega)) rfl rfl) rfl <| tY (yq_toU64 rfl) rfl <| tY (yq_addU rfl rfl) rfl <| ?_
   refine tM rfl rfl <| tY (yq_addU rfl rfl) rfl <| ?_
   obtain ⟨t, ht⟩ : ∃ t, t = p + W2.getD (i + k) 0 + c := ⟨_, rfl⟩
   refine sd_eq 64 (.d (.v (.int .u64 (t : Nat)))) rfl (by congr 3; omega) ?_
   refine tA rfl rfl <| sd_end <| qR <| tM rfl rfl <| tM rfl rfl <| tM rfl rfl <| tY (yq_add64 rfl rfl) rfl <| ?_
   refine tM rfl rfl <| tY (yq_toU32 rfl) rfl <| ?_
   refine sd_eq 70 (.d (dU (t % 4294967296))) rfl (by show FV.d (.v (.int _ _)) = .d (.v (.int _ _)); congr 3) ?_
   refine tY (yq_ixB rfl rfl (by omega) (by simp; omega)) rfl <| tC (td_storeB1 rfl rfl (by repeat (first | exact .hd .. | apply BRemD.tl)) (mapU_getZ (k := i + k) (by omega) (by omega)) rfl rfl) <| ?_
   refine sd_bh ((W2.set (i + k) (t % 4294967296)).map dU) (by rw [show ((i : Int) + k).toNat = i + k by omega, ← mapU_set]) ?_
   refine sd_end <| sd_region <| tM rfl rfl <| tY (yq_shr rfl rfl (by decide)) rfl <| ?_
   refine sd_eq 73 (.d (.v (.int .u64 (t / 4294967296 : Nat)))) rfl (by rw [fdiv32]) ?_
   refine tA rfl rfl <| sd_end <| sd_region <| tY (yq_add64 rfl rfl) rfl <| tM rfl rfl <| sd_end <| ?_
   exact sd_again ⟨W2.set (i + k) (t % 4294967296), t / 4294967296, k + 1⟩ (by dsimp only; exact ⟨by simpa using g1, g2.set _ (by omega), by omega, by omega, by rw [dv_take_succ]; exact prod_inv (by omega) (by omega) g5 ht hp⟩) (by dsimp only; omega) (by repeat (first | exact .nil | refine .cons rfl ?_ | refine .cons' rfl (by first | (simp [vI]; done) | (congr 3; omega) | (simp [vI]; omega)) ?_)) rfl rfl
  ·
   obtain rfl : k = (dg b).length := by omega
   refine sd_exit <| sd_ts <| sd_te <| sd_inBlock_eq <| sd_region <| tM rfl rfl <| tM rfl rfl <| tM rfl rfl <| tY (yq_len rfl) rfl <| ?_
   refine sd_eq 78 (.d (vI ((dg b).length : Nat))) rfl (by rw [hlb]; rfl) ?_
   refine tY (yq_add64 rfl rfl) rfl <| tM rfl rfl <| tY (yq_toU32 rfl) rfl <| ?_
   refine sd_eq 81 (.d (dU c)) rfl (by show FV.d (.v (.int _ _)) = .d (.v (.int _ _)); congr 3; omega) ?_
   refine tY (yq_ixB rfl rfl (by omega) (by simp; omega)) rfl <| tC (td_storeB1 rfl rfl (by repeat (first | exact .hd .. | apply BRemD.tl)) (mapU_getZ (k := i + (dg b).length) (by omega) (by omega)) rfl rfl) <| ?_
   refine sd_bh ((W2.set (i + (dg b).length) c).map dU) (by rw [show ((i : Int) + ((dg b).length : Nat)).toNat = i + (dg b).length by omega, ← mapU_set]) ?_
   refine sd_end <| sd_region <| tY (yq_add64 rfl rfl) rfl <| tM rfl rfl <| sd_end <| ?_
   exact sd_againU hGB2 ⟨W2.set (i + (dg b).length) c, i + 1⟩ (by dsimp only; exact ⟨by simpa using g1, g2.set _ g3, by omega, prod_end rfl (by omega) g5⟩) (by dsimp only; omega) (by repeat (first | exact .nil | refine .cons rfl ?_ | refine .cons' rfl (by first | (simp [vI]; done) | (congr 3; omega) | (simp [vI]; omega)) ?_)) rfl (by rw [← mapU_set])
 ·
  obtain rfl : i = (dg a).length := by omega
  refine sd_exit <| sd_ts <| sd_te <| sd_inBlock_eq <| qR <| tM rfl rfl <| ?_
  refine sd_freezeB [5, 84] (w := w1) (by repeat (first | exact .hd .. | apply BRemD.tl)) (by simp only [List.forall_mem_cons, List.not_mem_nil, false_implies, implies_true, and_true]; exact ⟨rfl, rfl⟩) ?_
  refine tC (td_call rfl rfl (q_Trim (ds := W) (by omega)) rfl) <| tA rfl rfl <| sd_end <| sd_ret <| ?_
  exact sd_done (.tmp rfl .nil) (dL_trim h2 (by have := h4; rw [take_all (by omega), take_all (by omega), dv_dg] at this; exact this))
theorem left_parts (x s : Nat) : x * 2 ^ s = x * 2 ^ s % 4294967296 + 4294967296 * (x * 2 ^ s / 4294967296) := by omega
theorem left_hi {x s : Nat} (hx : x < 4294967296) (hs : s < 32) : x * 2 ^ s / 4294967296 < 2 ^ s := by
 rw [Nat.div_lt_iff_lt_mul (by decide), Nat.mul_comm (2 ^ s)]
 exact Nat.mul_lt_mul_of_lt_of_le hx (Nat.le_refl _) (Nat.pow_pos (by decide))
theorem pow32s {s : Nat} (hs : s < 32) : 2 ^ s * 2 ^ (32 - s) = 4294967296 := by rw [← Nat.pow_add, show s + (32 - s) = 32 by omega]
theorem left_lo (x s : Nat) (hs : s < 32) : x * 2 ^ s % 4294967296 = x % 2 ^ (32 - s) * 2 ^ s := by
 rw [← pow32s hs, Nat.mul_comm (2 ^ s), Nat.mul_mod_mul_right]
theorem left_fit {x s : Nat} (hx : x < 4294967296) (hs : s < 32) : x * 2 ^ s < 18446744073709551616 := by
 have h1 : 2 ^ s ≤ 2 ^ 31 := Nat.pow_le_pow_right (by decide) (by omega)
 have := Nat.mul_lt_mul_of_lt_of_le hx h1 (by decide)
 omega
theorem left_or {w x s : Nat} (hw : w < 2 ^ s) (hs : s < 32) : (BitVec.ofInt 32 (w : Int) ||| BitVec.ofInt 32 ((x * 2 ^ s % 4294967296 : Nat) : Int)).toNat = w + x * 2 ^ s % 4294967296 := by
 rw [left_lo x s hs]
 refine bv_or 32 _ _ _ hw ?_
 have h1 : x % 2 ^ (32 - s) + 1 ≤ 2 ^ (32 - s) := Nat.mod_lt _ (Nat.pow_pos (by decide))
 have h2 := Nat.mul_le_mul_right (2 ^ s) h1
 rw [Nat.mul_comm (2 ^ (32 - s)), pow32s hs, Nat.add_mul, Nat.one_mul] at h2
 show _ < 4294967296
 omega
theorem or_zero32 {h : Nat} (hh : h < 4294967296) : (BitVec.ofInt 32 ((0 : Nat) : Int) ||| BitVec.ofInt 32 (h : Int)).toNat = h := by
 have := bv_or 32 0 h 0 (by decide) (by simpa using hh)
 simpa using this
theorem pow32k (k : Nat) : 2 ^ k = 4294967296 ^ (k / 32) * 2 ^ (k % 32) := by
 rw [show (4294967296 : Nat) = 2 ^ 32 from rfl, ← Nat.pow_mul, ← Nat.pow_add, Nat.div_add_mod]
theorem getD_set_ne {W : List Nat} {i j d : Nat} (h : i ≠ j) : (W.set i d).getD j 0 = W.getD j 0 := by
 rw [List.getD_eq_getElem?_getD, List.getD_eq_getElem?_getD, List.getElem?_set_ne h]
theorem getD_set_eq {W : List Nat} {i d : Nat} (h : i < W.length) : (W.set i d).getD i 0 = d := by
 rw [List.getD_eq_getElem?_getD, List.getElem?_set_self h]; rfl
theorem left_inv {A W : List Nat} {k q s i x : Nat} (hq : q = k / 32) (hs : s = k % 32) (hl : q + i + 1 < W.length) (hx : x = A.getD i 0)
  (h : dv (W.take (q + i + 1)) = dv (A.take i) * 2 ^ k) :
  dv (((W.set (q + i) (W.getD (q + i) 0 + x * 2 ^ s % 4294967296)).set (q + i + 1) (x * 2 ^ s / 4294967296)).take (q + (i + 1) + 1)) = dv (A.take (i + 1)) * 2 ^ k := by
 have e1 := dv_set_in (W := W) (j := q + i) (m := q + i + 1) (d := W.getD (q + i) 0 + x * 2 ^ s % 4294967296) (by omega) (by omega)
 rw [show q + (i + 1) + 1 = q + i + 1 + 1 by omega, dv_set_take (by rw [List.length_set]; omega), dv_take_succ A, ← hx]
 have e2 : dv ((W.set (q + i) (W.getD (q + i) 0 + x * 2 ^ s % 4294967296)).take (q + i + 1)) = dv (A.take i) * 2 ^ k + 4294967296 ^ (q + i) * (x * 2 ^ s % 4294967296) := by
  rw [Nat.mul_add, h] at e1; omega
 rw [e2, Nat.pow_succ, Nat.mul_assoc, Nat.add_assoc, ← Nat.mul_add, ← left_parts, Nat.add_mul, pow32k k, ← hq, ← hs, Nat.pow_add]
 simp only [Nat.mul_assoc, Nat.mul_left_comm, Nat.mul_comm]
set_option maxHeartbeats 2000000 in
theorem q_Left {GB : Gh} {a k ia : Nat} [ha : BN a ia] (hk : k ≤ 1000000000) (hi : ia ≤ 1000000000 := by decide) : PF GB Tryz.prog 203 [dN a, vI (k : Nat)] (dN (a * 2 ^ k)) := by
 refine PF.intro Tryz.func203 rfl rfl Tryz.ntmps203 rfl ?_
 intro C
 have hla := mapU_len (dg a)
 have hba := dg_len_bd ha.h hi
 refine qR <| tA rfl rfl <| sd_end <| qR <| tM rfl rfl <| tY (yq_quow rfl rfl (by omega)) rfl <| ?_
 refine sd_eq 11 (.d (vI (k / 32 : Nat))) rfl (by show FV.d (.v (.int _ _)) = .d (.v (.int _ _)); rw [quo32 hk]) ?_
 refine tM rfl rfl <| tY (yq_len rfl) rfl <| ?_
 refine sd_eq 13 (.d (vI ((dg a).length : Nat))) rfl (by rw [hla]; rfl) ?_
 refine tY (yq_add64 rfl rfl) rfl <| tY (yq_add64 rfl rfl) rfl <| ?_
 refine sd_eq 15 (.d (vI (k / 32 + (dg a).length + 1 : Nat))) rfl (by show FV.d (.v (.int _ _)) = .d (.v (.int _ _)); congr 3) ?_
 refine tF (tf_make rfl rfl (by omega) (by omega) (by omega) rfl rfl) <| ?_
 intro w1
 refine tA rfl rfl <| sd_end <| qR <| tM rfl rfl <| tY (yq_rem rfl rfl (by decide)) rfl <| ?_
 refine sd_eq 18 (.d (vI (k % 32 : Nat))) rfl (by show FV.d (.v (.int _ _)) = .d (.v (.int _ _)); rw [rem32]) ?_
 refine tY (yq_toU64 rfl) rfl <| tA rfl rfl <| sd_end <| sd_seq <| qR <| tM rfl rfl <| tY (yq_len rfl) rfl <| ?_
 refine sd_eq 21 (.d (vI ((dg a).length : Nat))) rfl (by rw [hla]; rfl) ?_
 refine tM rfl rfl <| sd_end <| sd_block <| ?_
 refine sd_loop (X := List Nat × Nat) (fun x => [(0, .d (dN a)), (1, .d (vI (k : Nat))), (5, w1.f), (6, .d (.v (.int .u64 (k % 32 : Nat)))), (20, .d (dN a)), (21, .d (vI ((dg a).length : Nat))), (22, .d (vI (x.2 : Nat)))]) (fun x => []) (fun x => [⟨w1, 1, 224, x.1.map dU, true⟩]) (fun x => x.1.length = k / 32 + (dg a).length + 1 ∧ DOk x.1 ∧ x.2 ≤ (dg a).length ∧ dv (x.1.take (k / 32 + x.2 + 1)) = dv ((dg a).take x.2) * 2 ^ k ∧ x.1.getD (k / 32 + x.2) 0 < 2 ^ (k % 32) ∧ ∀ j, k / 32 + x.2 < j → x.1.getD j 0 = 0) (fun x => (dg a).length - x.2) ⟨List.replicate (k / 32 + (dg a).length + 1) 0, 0⟩ (by dsimp only; exact ⟨by simp, .replicate _, by omega, by rw [List.take_replicate, dv_replicate]; simp [dv], by rw [rep_getD]; exact Nat.pow_pos (by decide), fun j _ => rep_getD _ _⟩) (by repeat (first | exact .nil | refine .cons rfl ?_ | refine .cons' rfl (by first | (simp [vI]; done) | (congr 3; omega) | (simp [vI]; omega)) ?_)) rfl (by rw [← mapU_rep]; rfl) ?_
 rintro GB1 hGB1 ⟨W, i⟩ ⟨h1, h2, h3, h4, h5, h6⟩
 try dsimp only at *
 have hlw := mapU_len W
 have hda := dg_lt a i
 have hsk : k % 32 < 32 := Nat.mod_lt _ (by decide)
 have hpp : 2 ^ (k % 32) ≤ 2 ^ 31 := Nat.pow_le_pow_right (by decide) (by omega)
 refine qR <| tY (yq_lss rfl rfl) rfl <| sd_end <| sd_seq <| ?_
 refine sd_condP rfl (fun hc23 => ?_) (fun hc23 => ?_)
 ·
  refine sd_skipc <| sd_seq <| sd_block <| qR <| tM rfl rfl <| tY (yq_ix rfl rfl (by omega) (mapU_getI (by omega)) rfl rfl) rfl <| tY (yq_ldE1 rfl rfl) rfl <| ?_
  refine tA rfl rfl <| tA rfl rfl <| sd_end <| qR <| tM rfl rfl <| tY (yq_toU64 rfl) rfl <| tM rfl rfl <| ?_
  refine tY (yq_shl rfl rfl (by omega)) rfl <| ?_
  have hhi := left_hi hda hsk
  have hfit0 := left_fit hda hsk
  have hor := left_or (x := (dg a).getD i 0) h5 hsk
  have hfit : W.getD (k / 32 + i) 0 + (dg a).getD i 0 * 2 ^ (k % 32) % 4294967296 < 4294967296 := by rw [← hor]; exact BitVec.isLt _
  have hlp := left_parts ((dg a).getD i 0) (k % 32)
  refine sd_eq 30 (.d (.v (.int .u64 ((dg a).getD i 0 * 2 ^ (k % 32) : Nat)))) rfl (by show FV.d (.v (.int _ _)) = .d (.v (.int _ _)); rw [shl_u64 _ (k % 32) (by omega) hfit0 (by omega)]) ?_
  obtain ⟨t, ht⟩ : ∃ t, t = (dg a).getD i 0 * 2 ^ (k % 32) := ⟨_, rfl⟩
  simp only [← ht] at hhi hfit0 hor hfit hlp
  rw [← ht]
  refine tA rfl rfl <| sd_end <| qR <| tM rfl rfl <| tM rfl rfl <| tY (yq_quow rfl rfl (by omega)) rfl <| ?_
  refine sd_eq 33 (.d (vI (k / 32 : Nat))) rfl (by show FV.d (.v (.int _ _)) = .d (.v (.int _ _)); rw [quo32 hk]) ?_
  refine tM rfl rfl <| tY (yq_add64 rfl rfl) rfl <| tY (yq_ixB rfl rfl (by omega) (by simp; omega)) rfl <| tY (yq_ldB1 rfl (mapU_getZ (k := k / 32 + i) (by omega) (by omega)) rfl rfl) rfl <| ?_
  refine tM rfl rfl <| tY (yq_toU32 rfl) rfl <| ?_
  refine sd_eq 39 (.d (dU (t % 4294967296))) rfl (by show FV.d (.v (.int _ _)) = .d (.v (.int _ _)); congr 3) ?_
  refine tY (yq_or32' rfl rfl hor) rfl <| tY (yq_ixB rfl rfl (by omega) (by simp; omega)) rfl <| tC (td_storeB1 rfl rfl (by repeat (first | exact .hd .. | apply BRemD.tl)) (mapU_getZ (k := k / 32 + i) (by omega) (by omega)) rfl rfl) <| ?_
  refine sd_bh ((W.set (k / 32 + i) (W.getD (k / 32 + i) 0 + t % 4294967296)).map dU) (by rw [show (((k / 32 : Nat) : Int) + i).toNat = k / 32 + i by omega]; simp only [List.map_set]; rfl) ?_
  refine sd_end <| sd_region <| tM rfl rfl <| tM rfl rfl <| tY (yq_quow rfl rfl (by omega)) rfl <| ?_
  refine sd_eq 44 (.d (vI (k / 32 : Nat))) rfl (by show FV.d (.v (.int _ _)) = .d (.v (.int _ _)); rw [quo32 hk]) ?_
  refine tM rfl rfl <| tY (yq_add64 rfl rfl) rfl <| tY (yq_add64 rfl rfl) rfl <| tY (yq_ixB rfl rfl (by omega) (by simp; omega)) rfl <| ?_
  refine tY (yq_ldB1 rfl (mapU_getZ (k := k / 32 + i + 1) (by omega) (by rw [List.length_set]; omega)) rfl rfl) rfl <| ?_
  refine sd_eq 49 (.d (dU 0)) rfl (by rw [getD_set_ne (by omega), h6 _ (by omega)]) ?_
  refine tM rfl rfl <| tY (yq_shr rfl rfl (by decide)) rfl <| ?_
  refine sd_eq 51 (.d (.v (.int .u64 (t / 4294967296 : Nat)))) rfl (by rw [fdiv32]) ?_
  refine tY (yq_toU32 rfl) rfl <| ?_
  refine sd_eq 52 (.d (dU (t / 4294967296))) rfl (by show FV.d (.v (.int _ _)) = .d (.v (.int _ _)); congr 3; omega) ?_
  refine tY (yq_or32' rfl rfl (or_zero32 (by omega))) rfl <| tY (yq_ixB rfl rfl (by omega) (by simp; omega)) rfl <| tC (td_storeB1 rfl rfl (by repeat (first | exact .hd .. | apply BRemD.tl)) (mapU_getZ (k := k / 32 + i + 1) (by omega) (by rw [List.length_set]; omega)) rfl rfl) <| ?_
  refine sd_bh (((W.set (k / 32 + i) (W.getD (k / 32 + i) 0 + t % 4294967296)).set (k / 32 + i + 1) (t / 4294967296)).map dU) (by rw [show (((k / 32 : Nat) : Int) + i + 1).toNat = k / 32 + i + 1 by omega]; simp only [List.map_set]; rfl) ?_
  refine sd_end <| sd_region <| tY (yq_add64 rfl rfl) rfl <| tM rfl rfl <| sd_end <| ?_
  exact sd_again ⟨(W.set (k / 32 + i) (W.getD (k / 32 + i) 0 + t % 4294967296)).set (k / 32 + i + 1) (t / 4294967296), i + 1⟩ (by dsimp only; exact ⟨by simpa using h1, (h2.set _ hfit).set _ (by omega), by omega, by have q := left_inv (x := (dg a).getD i 0) rfl rfl (by omega) rfl h4; rw [← ht] at q; exact q, by rw [show k / 32 + (i + 1) = k / 32 + i + 1 by omega, getD_set_eq (by simp; omega)]; exact hhi, fun j hj => by rw [getD_set_ne (by omega), getD_set_ne (by omega)]; exact h6 j (by omega)⟩) (by dsimp only; omega) (by repeat (first | exact .nil | refine .cons rfl ?_ | refine .cons' rfl (by first | (simp [vI]; done) | (congr 3; omega) | (simp [vI]; omega)) ?_)) rfl rfl
 ·
  obtain rfl : i = (dg a).length := by omega
  refine sd_exit <| sd_ts <| sd_te <| sd_inBlock_eq <| qR <| tM rfl rfl <| ?_
  refine sd_freezeB [5, 56] (w := w1) (by repeat (first | exact .hd .. | apply BRemD.tl)) (by simp only [List.forall_mem_cons, List.not_mem_nil, false_implies, implies_true, and_true]; exact ⟨rfl, rfl⟩) ?_
  refine tC (td_call rfl rfl (q_Trim (ds := W) (by omega)) rfl) <| tA rfl rfl <| sd_end <| sd_ret <| ?_
  exact sd_done (.tmp rfl .nil) (dL_trim h2 (by have := h4; rw [take_all (by omega), take_all (by omega), dv_dg] at this; exact this))
theorem right_zero {a k : Nat} (h : (dg a).length ≤ k / 32) : a / 2 ^ k = 0 := by
 refine Nat.div_eq_of_lt ?_
 have h1 := dv_lt (dg_ok a)
 rw [dv_dg] at h1
 have h2 : 4294967296 ^ (dg a).length ≤ 4294967296 ^ (k / 32) := Nat.pow_le_pow_right (by decide) h
 have h3 : 4294967296 ^ (k / 32) * 1 ≤ 4294967296 ^ (k / 32) * 2 ^ (k % 32) := Nat.mul_le_mul_left _ (Nat.pow_pos (by decide))
 rw [pow32k k]
 omega
theorem dv_dropD {ds : List Nat} (h : DOk ds) (q : Nat) : dv (ds.drop q) = dv ds / 4294967296 ^ q := by
 rcases Nat.lt_or_ge ds.length q with hq | hq
 · rw [List.drop_eq_nil_of_le (by omega)]
   have h1 := dv_lt h
   have h2 : 4294967296 ^ ds.length ≤ 4294967296 ^ q := Nat.pow_le_pow_right (by decide) (by omega)
   rw [Nat.div_eq_of_lt (by omega)]; rfl
 · have e := dv_split ds q hq
   have h1 := dv_lt (h.take q)
   rw [List.length_take, Nat.min_eq_left hq] at h1
   rw [e, Nat.add_mul_div_left _ _ (Nat.pow_pos (by decide)), Nat.div_eq_of_lt h1, Nat.zero_add]
theorem dv_two {ds : List Nat} (h : DOk ds) (i : Nat) : dv ds / 4294967296 ^ i = ds.getD i 0 + 4294967296 * ds.getD (i + 1) 0 + 18446744073709551616 * (dv ds / 4294967296 ^ (i + 2)) := by
 have e0 := dv_dropD h i
 have e2 := dv_dropD h (i + 2)
 rw [← e0, ← e2]
 have g0 : ds.getD i 0 = (ds.drop i).getD 0 0 := by rw [List.getD_eq_getElem?_getD, List.getD_eq_getElem?_getD, List.getElem?_drop]; rfl
 have g1 : ds.getD (i + 1) 0 = (ds.drop i).getD 1 0 := by rw [List.getD_eq_getElem?_getD, List.getD_eq_getElem?_getD, List.getElem?_drop]
 have g2 : ds.drop (i + 2) = (ds.drop i).drop 2 := by rw [List.drop_drop]
 rw [g0, g1, g2]
 match ds.drop i with
 | [] => rfl
 | [u] => simp [dv]
 | u :: v :: t => simp only [dv, List.getD_cons_zero, List.getD_cons_succ, List.drop_succ_cons, List.drop_zero]; omega
theorem right_step {D s i u v w Z : Nat} (hs : s < 32) (hZ : D / 4294967296 ^ i = u + 4294967296 * v + 18446744073709551616 * Z) (hw : w = (u + v * 4294967296) / 2 ^ s % 4294967296) : (D / 2 ^ s) % 4294967296 ^ (i + 1) = (D / 2 ^ s) % 4294967296 ^ i + 4294967296 ^ i * w := by
 rw [Nat.pow_succ, Nat.mod_mul]
 congr 2
 rw [Nat.div_div_eq_div_mul, Nat.mul_comm (2 ^ s), ← Nat.div_div_eq_div_mul, hZ, hw]
 have h1 : 18446744073709551616 = 2 ^ s * (2 ^ (32 - s) * 4294967296) := by rw [← Nat.mul_assoc, pow32s hs]
 rw [h1, Nat.mul_assoc (2 ^ s), Nat.add_mul_div_left _ _ (Nat.pow_pos (by decide)), Nat.mul_comm v]
 rw [Nat.mul_comm (2 ^ (32 - s)), Nat.mul_assoc, Nat.add_mul_mod_self_left]
theorem right_end {a k : Nat} {W : List Nat} {q s : Nat} (hq : q = k / 32) (hs : s = k % 32) (hl : W.length = (dg a).length - q) (h : dv (W.take ((dg a).length - q)) = (dv ((dg a).drop q) / 2 ^ s) % 4294967296 ^ ((dg a).length - q)) : dv W = a / 2 ^ k := by
 rw [take_all (by omega)] at h
 have h1 := dv_lt ((dg_ok a).drop q)
 rw [List.length_drop] at h1
 have h2 := Nat.div_le_self (dv ((dg a).drop q)) (2 ^ s)
 rw [h, Nat.mod_eq_of_lt (by omega), dv_dropD (dg_ok a), dv_dg, pow32k k, ← hq, ← hs, Nat.div_div_eq_div_mul]
set_option maxHeartbeats 2000000 in
theorem q_Right {GB : Gh} {a k ia : Nat} [ha : BN a ia] (hk : k ≤ 1000000000) (hi : ia ≤ 1000000000 := by decide) : PF GB Tryz.prog 204 [dN a, vI (k : Nat)] (dN (a / 2 ^ k)) := by
 refine PF.intro Tryz.func204 rfl rfl Tryz.ntmps204 rfl ?_
 intro C
 have hla := mapU_len (dg a)
 have hba := dg_len_bd ha.h hi
 refine qR <| tA rfl rfl <| sd_end <| sd_seq <| qR <| tM rfl rfl <| tY (yq_quow rfl rfl (by omega)) rfl <| ?_
 refine sd_eq 12 (.d (vI (k / 32 : Nat))) rfl (by show FV.d (.v (.int _ _)) = .d (.v (.int _ _)); rw [quo32 hk]) ?_
 refine tM rfl rfl <| tY (yq_len rfl) rfl <| ?_
 refine sd_eq 14 (.d (vI ((dg a).length : Nat))) rfl (by rw [hla]; rfl) ?_
 refine tY (yq_geq rfl rfl) rfl <| sd_end <| ?_
 refine sd_condP rfl (fun hc15 => ?_) (fun hc15 => ?_)
 ·
  refine qR <| tA rfl rfl <| sd_end <| sd_ret <| ?_
  exact sd_done (.tmp rfl .nil) (by rw [right_zero (by omega), dN_zero]; rfl)
 ·
  refine sd_skipc <| qR <| tM rfl rfl <| tY (yq_rem rfl rfl (by decide)) rfl <| ?_
  refine sd_eq 17 (.d (vI (k % 32 : Nat))) rfl (by show FV.d (.v (.int _ _)) = .d (.v (.int _ _)); rw [rem32]) ?_
  refine tY (yq_toU64 rfl) rfl <| tA rfl rfl <| sd_end <| qR <| tM rfl rfl <| tM rfl rfl <| tY (yq_quow rfl rfl (by omega)) rfl <| ?_
  refine sd_eq 21 (.d (vI (k / 32 : Nat))) rfl (by show FV.d (.v (.int _ _)) = .d (.v (.int _ _)); rw [quo32 hk]) ?_
  refine tY (yq_slice (nlo := k / 32) (nhi := (dg a).length) rfl (slOkU _) rfl hla.symm trivial (by omega) (by omega)) rfl <| ?_
  obtain ⟨I, hI⟩ : ∃ I, I = (dg a).drop (k / 32) := ⟨_, rfl⟩
  have hIl : I.length = (dg a).length - k / 32 := by rw [hI, List.length_drop]
  have hIm := mapU_len I
  have hIo : DOk I := hI ▸ (dg_ok a).drop _
  refine sd_eq 22 (.d (dLi I)) rfl (by show FV.d (.sl _) = .d (.sl _); rw [hI, ← hla, List.take_length, List.map_drop]) ?_
  refine tA rfl rfl <| sd_end <| qR <| tM rfl rfl <| tY (yq_len rfl) rfl <| ?_
  refine sd_eq 24 (.d (vI (I.length : Nat))) rfl (by rw [hIm]; rfl) ?_
  refine tF (tf_make rfl rfl (by omega) (by omega) (by omega) rfl rfl) <| ?_
  intro w1
  refine tA rfl rfl <| sd_end <| sd_seq <| qR <| tM rfl rfl <| tY (yq_len rfl) rfl <| ?_
  refine sd_eq 27 (.d (vI (I.length : Nat))) rfl (by rw [hIm]; rfl) ?_
  refine tM rfl rfl <| sd_end <| sd_block <| ?_
  refine sd_loop (X := List Nat × Nat) (fun x => [(0, .d (dN a)), (5, .d (.v (.int .u64 (k % 32 : Nat)))), (6, .d (dLi I)), (7, w1.f), (26, .d (dLi I)), (27, .d (vI (I.length : Nat))), (28, .d (vI (x.2 : Nat)))]) (fun x => []) (fun x => [⟨w1, 1, 224, x.1.map dU, true⟩]) (fun x => x.1.length = I.length ∧ DOk x.1 ∧ x.2 ≤ I.length ∧ dv (x.1.take x.2) = (dv I / 2 ^ (k % 32)) % 4294967296 ^ x.2) (fun x => I.length - x.2) ⟨List.replicate I.length 0, 0⟩ (by dsimp only; exact ⟨by simp, .replicate _, by omega, by simp [dv, Nat.mod_one]⟩) (by repeat (first | exact .nil | refine .cons rfl ?_ | refine .cons' rfl (by first | (simp [vI]; done) | (congr 3; omega) | (simp [vI]; omega)) ?_)) rfl (by rw [← mapU_rep]; rfl) ?_
  rintro GB1 hGB1 ⟨W, i⟩ ⟨h1, h2, h3, h4⟩
  try dsimp only at *
  have hlw := mapU_len W
  have hda := hIo.get i
  have hdb := hIo.get (i + 1)
  have hsk : k % 32 < 32 := Nat.mod_lt _ (by decide)
  refine qR <| tY (yq_lss rfl rfl) rfl <| sd_end <| sd_seq <| ?_
  refine sd_condP rfl (fun hc29 => ?_) (fun hc29 => ?_)
  ·
   refine sd_skipc <| sd_seq <| sd_block <| qR <| tM rfl rfl <| tY (yq_ix rfl rfl (by omega) (mapU_getI (by omega)) rfl rfl) rfl <| tY (yq_ldE1 rfl rfl) rfl <| ?_
   refine tA rfl rfl <| tA rfl rfl <| sd_end <| qR <| tM rfl rfl <| tY (yq_toU64 rfl) rfl <| tA rfl rfl <| ?_
   refine sd_end <| ?_
   refine sd_cut (Unit) (fun _ => [(0, .d (dN a)), (5, .d (.v (.int .u64 (k % 32 : Nat)))), (6, .d (dLi I)), (7, w1.f), (26, .d (dLi I)), (27, .d (vI (I.length : Nat))), (28, .d (vI (i : Nat))), (8, .d (vI (i : Nat))), (10, .d (.v (.int .u64 (I.getD i 0 + I.getD (i + 1) 0 * 4294967296 : Nat))))]) (fun _ => []) (fun _ => [⟨w1, 1, 224, W.map dU, true⟩]) (fun _ => True) ?_ ?_
   ·
    refine qR <| tM rfl rfl <| tY (yq_add64 rfl rfl) rfl <| tM rfl rfl <| tY (yq_len rfl) rfl <| ?_
    refine sd_eq 38 (.d (vI (I.length : Nat))) rfl (by rw [hIm]; rfl) ?_
    refine tY (yq_lss rfl rfl) rfl <| sd_end <| ?_
    refine sd_condP rfl (fun hc39 => ?_) (fun hc39 => ?_)
    ·
     refine sd_region <| tM rfl rfl <| tM rfl rfl <| tM rfl rfl <| tY (yq_add64 rfl rfl) rfl <| tY (yq_ix rfl rfl (by omega) (mapU_getZ (k := i + 1) (by omega) (by omega)) rfl rfl) rfl <| ?_
     refine tY (yq_ldE1 rfl rfl) rfl <| tY (yq_toU64 rfl) rfl <| tY (yq_shl rfl rfl (by decide)) rfl <| ?_
     refine sd_eq 47 (.d (.v (.int .u64 (I.getD (i + 1) 0 * 4294967296 : Nat)))) rfl (by show FV.d (.v (.int _ _)) = .d (.v (.int _ _)); rw [shl_u64 _ 32 (by decide) (by show _ * 4294967296 < _; omega) rfl]) ?_
     refine tY (yq_or64 rfl rfl (bv_or 64 (I.getD i 0) (I.getD (i + 1) 0) 32 hda (by show _ + _ * 4294967296 < 18446744073709551616; omega))) rfl <| tA rfl rfl <| sd_end <| ?_
     exact sd_at () trivial (by repeat (first | exact .nil | refine .cons rfl ?_ | refine .cons' rfl (by first | (simp [vI]; done) | (congr 3; omega) | (simp [vI]; omega)) ?_)) rfl rfl
    ·
     refine sd_skipc <| ?_
     refine sd_eq 10 (.d (.v (.int .u64 (I.getD i 0 + I.getD (i + 1) 0 * 4294967296 : Nat)))) rfl (by rw [getD_out (by omega : I.length ≤ i + 1), Nat.zero_mul, Nat.add_zero]) ?_
     exact sd_at () trivial (by repeat (first | exact .nil | refine .cons rfl ?_ | refine .cons' rfl (by first | (simp [vI]; done) | (congr 3; omega) | (simp [vI]; omega)) ?_)) rfl rfl
   rintro _ _
   refine sd_region <| tM rfl rfl <| tM rfl rfl <| tM rfl rfl <| tM rfl rfl <| tY (yq_shr rfl rfl (by omega)) rfl <| ?_
   refine sd_eq 53 (.d (.v (.int .u64 ((I.getD i 0 + I.getD (i + 1) 0 * 4294967296) / 2 ^ (k % 32) : Nat)))) rfl (by show FV.d (.v (.int _ _)) = .d (.v (.int _ _)); rw [shr_u64 _ (k % 32) (by omega) (by omega)]) ?_
   refine tY (yq_toU32 rfl) rfl <| ?_
   obtain ⟨w, hw⟩ : ∃ w, w = (I.getD i 0 + I.getD (i + 1) 0 * 4294967296) / 2 ^ (k % 32) % 4294967296 := ⟨_, rfl⟩
   have hw1 : w < 4294967296 := hw ▸ Nat.mod_lt _ (by decide)
   refine sd_eq 54 (.d (dU w)) rfl (by show FV.d (.v (.int _ _)) = .d (.v (.int _ _)); rw [hw]; congr 3) ?_
   refine tY (yq_ixB rfl rfl (by omega) (by simp; omega)) rfl <| tC (td_storeB1 rfl rfl (by repeat (first | exact .hd .. | apply BRemD.tl)) (mapU_getI (by omega)) rfl rfl) <| ?_
   refine sd_bh ((W.set i w).map dU) (by rw [← mapU_set]; rfl) ?_
   refine sd_end <| sd_region <| tY (yq_add64 rfl rfl) rfl <| tM rfl rfl <| sd_end <| ?_
   exact sd_again ⟨W.set i w, i + 1⟩ (by dsimp only; exact ⟨by simpa using h1, h2.set _ (by omega), by omega, by rw [dv_set_take (by omega), h4]; exact (right_step hsk (dv_two hIo i) hw).symm⟩) (by dsimp only; omega) (by repeat (first | exact .nil | refine .cons rfl ?_ | refine .cons' rfl (by first | (simp [vI]; done) | (congr 3; omega) | (simp [vI]; omega)) ?_)) rfl rfl
  ·
   refine sd_exit <| sd_ts <| sd_te <| sd_inBlock_eq <| qR <| tM rfl rfl <| ?_
   refine sd_freezeB [7, 57] (w := w1) (by repeat (first | exact .hd .. | apply BRemD.tl)) (by simp only [List.forall_mem_cons, List.not_mem_nil, false_implies, implies_true, and_true]; exact ⟨rfl, rfl⟩) ?_
   refine tC (td_call rfl rfl (q_Trim (ds := W) (by omega)) rfl) <| tA rfl rfl <| sd_end <| sd_ret <| ?_
   exact sd_done (.tmp rfl .nil) (dL_trim h2 (by obtain rfl : i = I.length := (by omega); rw [hIl] at h1 h4; rw [hI] at h4; exact right_end rfl rfl h1 h4))
theorem dg_len_of {a k : Nat} (h : a < 4294967296 ^ k) : (dg a).length ≤ k := by
 rcases Nat.lt_or_ge k (dg a).length with q | q
 · have h1 := nrm_ge (dg_spec a).2.2 (by intro e; rw [e] at q; simp at q)
   rw [dv_dg] at h1
   have h2 : 4294967296 ^ k ≤ 4294967296 ^ ((dg a).length - 1) := Nat.pow_le_pow_right (by decide) (by omega)
   omega
 · exact q
theorem word_two {a : Nat} (h : (dg a).length = 2) : (dg a).getD 0 0 + (dg a).getD 1 0 * 4294967296 = a := by
 have e := dv_dg a
 revert e
 match dg a, h with
 | [x, y], _ => intro e; simp [dv] at e ⊢; omega
def wordV (a : Nat) : DV := .tp [.v (.int .u64 ((if a < 18446744073709551616 then a else 0 : Nat) : Int)), vB (decide (a < 18446744073709551616))]
theorem wordV_lt {a : Nat} (h : a < 18446744073709551616) : wordV a = .tp [.v (.int .u64 (a : Int)), vB true] := by unfold wordV; rw [if_pos h, decide_eq_true h]
theorem wordV_ge {a : Nat} (h : ¬ a < 18446744073709551616) : wordV a = .tp [.v (.int .u64 0), vB false] := by unfold wordV; rw [if_neg h, decide_eq_false h]; rfl
theorem dg_lt_pow (a : Nat) : a < 4294967296 ^ (dg a).length := by have := dv_lt (dg_ok a); rwa [dv_dg] at this
set_option maxHeartbeats 1000000 in
theorem q_word {GB : Gh} {a ia : Nat} [ha : BN a ia] (hi : ia ≤ 1000000000 := by decide) : PF GB Tryz.prog 120 [dN a] (wordV a) := by
 refine PF.intro Tryz.func120 rfl rfl Tryz.ntmps120 rfl ?_
 intro C
 have hla := mapU_len (dg a)
 have hba := dg_len_bd ha.h hi
 have hlt := dg_lt_pow a
 have hd00 := dg_lt a 0
 refine qR <| tA rfl rfl <| tA rfl rfl <| sd_end <| sd_seq <| qR <| tM rfl rfl <| tY (yq_len rfl) rfl <| ?_
 refine sd_eq 5 (.d (vI ((dg a).length : Nat))) rfl (by rw [hla]; rfl) ?_
 refine sd_end <| sd_block <| qR <| tY (yq_eql rfl rfl) rfl <| tA rfl rfl <| sd_end <| ?_
 refine sd_condP rfl (fun hc6 => ?_) (fun hc6 => ?_)
 ·
  refine qR <| tA rfl rfl <| tA rfl rfl <| sd_end <| sd_ret <| ?_
  exact sd_done (.tmp rfl (.tmp rfl .nil)) (by rw [show (dg a).length = 0 by omega] at hlt; obtain rfl : a = 0 := (by omega); rfl)
 ·
  refine qR <| tY (yq_eql rfl rfl) rfl <| tA rfl rfl <| sd_end <| ?_
  refine sd_condP rfl (fun hc8 => ?_) (fun hc8 => ?_)
  ·
   refine qR <| tM rfl rfl <| tY (yq_ix rfl rfl (by omega) (mapU_getZ (k := 0) rfl (by omega)) rfl rfl) rfl <| tY (yq_ldE1 rfl rfl) rfl <| tY (yq_toU64 rfl) rfl <| ?_
   refine sd_eq 13 (.d (.v (.int .u64 (a : Nat)))) rfl (by rw [dg_one_digit (by omega)]) ?_
   refine tA rfl rfl <| tA rfl rfl <| sd_end <| sd_ret <| ?_
   exact sd_done (.tmp rfl (.tmp rfl .nil)) (by rw [show (dg a).length = 1 by omega] at hlt; rw [wordV_lt (by omega), ← dg_one_digit (a := a) (by omega), dg_one_digit (a := a) (by omega)]; rfl)
  ·
   refine qR <| tY (yq_eql rfl rfl) rfl <| tA rfl rfl <| sd_end <| ?_
   refine sd_condP rfl (fun hc14 => ?_) (fun hc14 => ?_)
   ·
    have hd0 := dg_lt a 0
    have hd1 := dg_lt a 1
    refine sd_seq <| ?_
    refine drX (own0 := _) (own1 := []) (bs0 := []) (bs1 := _) [] [(0, true), (1, true), (2, true), (3, true), (4, true), (5, true), (6, true), (7, true), (8, true), (9, true), (10, true), (11, true)] [] follows (by rw [List.append_nil]) (List.Perm.refl _) (by kernel_rfl) ?_
    refine dyX rfl (yq_move rfl) rfl <| ?_
    refine dyX rfl (yq_ix rfl rfl (by omega) (mapU_getZ (k := 1) rfl (by omega)) rfl rfl) rfl <| ?_
    refine dyX rfl (yq_ldE1 rfl rfl) rfl <| ?_
    refine dyX rfl (yq_toU64 rfl) rfl <| ?_
    refine dyX rfl (yq_shl rfl rfl (by decide)) rfl <| ?_
    refine dyX rfl (yq_move rfl) rfl <| ?_
    refine dyX rfl (yq_ix rfl rfl (by omega) (mapU_getZ (k := 0) rfl (by omega)) rfl rfl) rfl <| ?_
    refine dyX rfl (yq_ldE1 rfl rfl) rfl <| ?_
    refine dyX rfl (yq_toU64 rfl) rfl <| ?_
    refine dyX rfl (yq_or64 (r := a) rfl rfl (by rw [shl_u64 _ 32 (by decide) (by show _ * 4294967296 < _; omega) rfl, BitVec.or_comm]; exact (bv_or 64 ((dg a).getD 0 0) ((dg a).getD 1 0) 32 hd0 (by show _ + _ * 4294967296 < 18446744073709551616; omega)).trans (word_two (by omega)))) rfl <| ?_
    refine dyX rfl (yq_assign rfl) rfl <| ?_
    refine dyX rfl (yq_assign rfl) rfl <| ?_
    refine outX0 <| onX <| outX0 <| dnX <| ?_
    simp only [List.nil_append, List.append_nil, List.cons_append]
    refine sd_ret <| ?_
    exact sd_done (.tmp rfl (.tmp rfl .nil)) (by rw [show (dg a).length = 2 by omega] at hlt; rw [wordV_lt (by omega)]; rfl)
   ·
    refine sd_skipc <| qR <| tA rfl rfl <| tA rfl rfl <| sd_end <| sd_ret <| ?_
    exact sd_done (.tmp rfl (.tmp rfl .nil)) (by rw [wordV_ge]; rfl; intro h; have := dg_len_of (a := a) (k := 2) (by omega); omega)
end Go.Sx
end
