/-
  Reference: digits (over deep values). Reference: natural numbers of any size: sign, Word, Cmp, Sum, Less. Reference: natural numbers of any size: Product, Left, Right, word. Reference: division of natural numbers of any size. Reference: Divide, Common; integers and fractions of any size.
-/
import Derived.Test.YtkijgpopaaknfaaGreatDoorMr9
set_option linter.unusedSimpArgs false
set_option linter.unusedVariables false
section
set_option maxRecDepth 100000
namespace Go.Sx
open Go Go.Proofs
def andN (p q : Int) : Nat := (BitVec.ofInt 32 p &&& BitVec.ofInt 32 q).toNat
def orN (p q : Int) : Nat := (BitVec.ofInt 32 p ||| BitVec.ofInt 32 q).toNat
def xorN (p q : Int) : Nat := (BitVec.ofInt 32 p ^^^ BitVec.ofInt 32 q).toNat
theorem trim_zero {ds : List Nat} {n : Nat} (h : 0 < n ∧ n ≤ ds.length) (hz : ds.getD (n - 1) 0 = 0) : trimD (ds.take n) = trimD (ds.take (n - 1)) := by
 obtain ⟨m, rfl⟩ : ∃ m, n = m + 1 := ⟨n - 1, by omega⟩
 rw [List.take_succ_eq_append_getElem (by omega), Nat.add_sub_cancel]
 rw [Nat.add_sub_cancel, List.getD_eq_getElem?_getD, List.getElem?_eq_getElem (by omega)] at hz
 simp only [Option.getD_some] at hz
 rw [hz, trimD_snoc0]
theorem trim_stop {ds : List Nat} {n : Nat} (h : n ≤ ds.length) (hz : 0 < n → ds.getD (n - 1) 0 ≠ 0) : trimD (ds.take n) = ds.take n := by
 rcases Nat.eq_zero_or_pos n with h0 | h0
 · subst h0; simp [trimD]
 · obtain ⟨m, rfl⟩ : ∃ m, n = m + 1 := ⟨n - 1, by omega⟩
   have hz := hz h0
   rw [List.take_succ_eq_append_getElem (by omega)]
   rw [Nat.add_sub_cancel, List.getD_eq_getElem?_getD, List.getElem?_eq_getElem (by omega)] at hz
   exact trimD_snoc (by simpa using hz)
theorem q_Add32 {GB : Gh} {x y c : Nat} (hx : x < 4294967296) (hy : y < 4294967296) (hc : c ≤ 1) : PF GB Tryz.prog 209 [.v (.int .u32 (x : Int)), .v (.int .u32 (y : Int)), .v (.int .u32 (c : Int))] (.tp [.v (.int .u32 (((x + y + c) % 4294967296 : Nat) : Int)), .v (.int .u32 (((x + y + c) / 4294967296 : Nat) : Int))]) := by
 refine fn (hv := by simp only [allP]; exact ⟨⟨⟨⟨⟨by omega, by omega⟩, by omega⟩, by omega⟩, by omega⟩, (by decide)⟩) Tryz.func209 rfl rfl Tryz.ntmps209 rfl rfl (fun C => ?_)
 exact rz rfl (by
  have e1 : ((x : Int) + y + c) % 4294967296 = (((x + y + c) % 4294967296 : Nat) : Int) := by omega
  have e2 : ((x : Int) + y + c).fdiv (2 ^ min (32 : Int).toNat IntKind.u64.bits) % 4294967296 = (((x + y + c) / 4294967296 : Nat) : Int) := by
   rw [show (2 : Int) ^ min (32 : Int).toNat IntKind.u64.bits = ((4294967296 : Nat) : Int) from rfl, Int.fdiv_eq_ediv_of_nonneg _ (by decide)]
   omega
  show DV.tp [.v (.int _ _), .v (.int _ _)] = _
  rw [e1, e2])
theorem msb_ofInt (n : Nat) (h : n < 4294967296) : (BitVec.ofInt 32 (n : Int)).msb = decide (2147483648 ≤ n) := by
 rw [show BitVec.ofInt 32 (n : Int) = BitVec.ofNat 32 n from BitVec.ofInt_natCast ..]
 rw [BitVec.msb_eq_decide, BitVec.toNat_ofNat, Nat.mod_eq_of_lt (by simpa using h)]
theorem toNat_msb (b : BitVec 32) : b.toNat / 2147483648 = if b.msb then 1 else 0 := by
 have := b.isLt
 rw [BitVec.msb_eq_decide]
 simp only [decide_eq_true_eq, Nat.reduceSub, Nat.reducePow] at *
 split <;> omega
theorem bv_toNat_ofInt (b : BitVec 32) : BitVec.ofInt 32 (b.toNat : Int) = b := by rw [BitVec.ofInt_natCast, BitVec.ofNat_toNat, BitVec.setWidth_eq]
theorem sub_borrow {x y c : Nat} (hx : x < 4294967296) (hy : y < 4294967296) (hc : c ≤ 1) :
  ((orN (andN (xorN IntKind.u32.max x : Nat) y : Nat) (andN (xorN IntKind.u32.max (xorN x y : Nat) : Nat) (IntKind.u32.wrap (IntKind.u32.wrap ((x : Int) - y) - c)) : Nat) : Nat) : Int).fdiv (2 ^ min (31 : Int).toNat IntKind.u32.bits) = (((if x < y + c then 1 else 0) : Nat) : Int) := by
 rw [show ((2 : Int) ^ min (31 : Int).toNat IntKind.u32.bits) = ((2147483648 : Nat) : Int) from rfl, Int.fdiv_eq_ediv_of_nonneg _ (by decide), ← Int.natCast_ediv]
 congr 1
 have hd : ∃ d : Nat, d < 4294967296 ∧ IntKind.u32.wrap (IntKind.u32.wrap ((x : Int) - y) - c) = (d : Int) ∧ ((x ≥ y + c ∧ d = x - (y + c)) ∨ (x < y + c ∧ d = x + 4294967296 - (y + c))) := by
  rw [wrap_u32, wrap_u32]
  refine ⟨((((x : Int) - y) % 4294967296 - c) % 4294967296).toNat, by omega, by omega, by omega⟩
 obtain ⟨d, hd1, hd2, hd3⟩ := hd
 rw [hd2]
 unfold orN andN xorN
 simp only [bv_toNat_ofInt]
 rw [toNat_msb]
 simp only [BitVec.msb_or, BitVec.msb_and, BitVec.msb_xor, msb_ofInt x hx, msb_ofInt y hy, msb_ofInt d hd1]
 have h1 : (BitVec.ofInt 32 IntKind.u32.max).msb = true := by decide
 rw [h1]
 rcases Nat.lt_or_ge x 2147483648 with a | a <;> rcases Nat.lt_or_ge y 2147483648 with b | b <;> rcases Nat.lt_or_ge d 2147483648 with e | e <;>
  simp [Nat.not_le.2, *] <;> (first | omega | (split <;> omega))
theorem sub_diff {x y c : Nat} (hx : x < 4294967296) (hy : y < 4294967296) (hc : c ≤ 1) : IntKind.u32.wrap (IntKind.u32.wrap ((x : Int) - y) - c) = (((if x < y + c then x + 4294967296 - (y + c) else x - (y + c)) : Nat) : Int) := by
 rw [wrap_u32, wrap_u32]
 split <;> omega
theorem q_Sub32 {GB : Gh} {x y c : Nat} (hx : x < 4294967296) (hy : y < 4294967296) (hc : c ≤ 1) : PF GB Tryz.prog 210 [.v (.int .u32 (x : Int)), .v (.int .u32 (y : Int)), .v (.int .u32 (c : Int))] (.tp [.v (.int .u32 (((if x < y + c then x + 4294967296 - (y + c) else x - (y + c)) : Nat) : Int)), .v (.int .u32 (((if x < y + c then 1 else 0) : Nat) : Int))]) := by
 refine fn (fu := ⟨10⟩) Tryz.func210 rfl rfl Tryz.ntmps210 rfl rfl (fun C => ?_)
 refine sw (fu := ⟨1⟩) _ rfl (wrap_u32 _).symm rfl <| sw (fu := ⟨6⟩) _ rfl (wrap_u32 _).symm rfl <| nt (fu := ⟨4⟩) _ rfl rfl rfl <| xr (fu := ⟨0⟩) _ rfl rfl rfl <| nt _ rfl rfl rfl <| ?_
 exact rz rfl (by have h1 := sub_borrow hx hy hc; unfold orN andN xorN at h1; show DV.tp [.v (.int _ _), .v (.int _ _)] = _; rw [h1, sub_diff hx hy hc])
theorem q_Trim {GB : Gh} {ds : List Nat} (hl : ds.length ≤ 1125899906842624) : PF GB Tryz.prog 138 [dLi ds] (dLi (trimD ds)) := by
 refine fn Tryz.func138 rfl rfl Tryz.ntmps138 rfl rfl (fun C => ?_)
 refine lp (X := Nat) (fun n => [(0, .d (dLi ds)), (3, .d (vI (n : Nat)))]) (fun n => []) (fun n => n ≤ ds.length ∧ trimD ds = trimD (ds.take n)) (fun n => n) ds.length rfl ⟨Nat.le_refl _, by rw [List.take_length]⟩ (fun _ => rfl) (fun n hk => ?_)
 obtain ⟨h1, h2⟩ := hk
 refine cs 8 rfl rfl rfl (fun hg8 => ?_) (fun hg8 => ?_)
 ·
  refine ix _ rfl (mapU_getZ (k := n - 1) (by omega) (by omega)) rfl <| ?_
  refine br rfl rfl rfl (fun hc15 => ?_) (fun hc15 => ?_)
  ·
   have hz : ds.getD (n - 1) 0 = 0 := by omega
   exact at_ (n - 1) ⟨⟨by omega, by rw [h2, trim_zero (by omega) hz]⟩, (by omega)⟩
  ·
   refine sc' 0 n _ rfl rfl rfl rfl (slOkU _) (by omega) (by simp; omega) rfl <| ?_
   exact rz rfl (by have := trim_stop h1 (fun _ h => hc15 (by omega)); rw [← h2] at this; show DV.sl _ = _; simp [dLi, this])
 ·
  refine sc' 0 n _ rfl rfl rfl rfl (slOkU _) (by omega) (by simp; omega) rfl <| ?_
  exact rz rfl (by obtain rfl : n = 0 := (by omega); show DV.sl _ = _; simp [dLi, h2, trimD])
end Go.Sx
end

section
set_option maxRecDepth 100000
namespace Go.Sx
open Go Go.Proofs
theorem dg_len_bd {a k : Nat} (h : a < 2 ^ k) (hk : k ≤ 1000000000) : (dg a).length ≤ 100000000 := by have := dg_len_le h; omega
theorem dv_dg (a : Nat) : dv (dg a) = a := (dg_spec a).1
theorem dg_ok (a : Nat) : DOk (dg a) := (dg_spec a).2.1
theorem mapU_len (ds : List Nat) : (ds.map dU).length = ds.length := List.length_map ..
theorem take_all {ds : List Nat} {n : Nat} (h : ds.length ≤ n) : ds.take n = ds := List.take_of_length_le h
theorem getD_out {ds : List Nat} {i : Nat} (h : ds.length ≤ i) : ds.getD i 0 = 0 := by
 rw [List.getD_eq_getElem?_getD, List.getElem?_eq_none h]; rfl
theorem dL_trim {ds : List Nat} {n : Nat} (h : DOk ds) (e : dv ds = n) : dLi (trimD ds) = dN n := by rw [dL_dv h, e]
theorem cmpN_lt {a b : Nat} (h : a < b) : cmpN a b = -1 := by unfold cmpN; rw [if_pos h]
theorem cmpN_gt {a b : Nat} (h : b < a) : cmpN a b = 1 := by unfold cmpN; rw [if_neg (by omega), if_neg (by omega)]
theorem cmpN_eq {a b : Nat} (h : a = b) : cmpN a b = 0 := by unfold cmpN; rw [if_neg (by omega), if_pos h]
theorem sign_subN (m n : Nat) : Int.sign ((m : Int) - n) = cmpN m n := by
 unfold cmpN
 split
 · exact Int.sign_eq_neg_one_of_neg (by omega)
 · split
   · rw [show (m : Int) - n = 0 by omega]; rfl
   · exact Int.sign_eq_one_of_pos (by omega)
theorem cmpN_len {a b : Nat} (h : (dg a).length ≠ (dg b).length) : cmpN (dg a).length (dg b).length = cmpN a b := by
 rcases Nat.lt_or_gt_of_ne h with h | h
 · have := dv_len_lt (dg_ok a) (dg_spec b).2.2 h
   rw [dv_dg, dv_dg] at this
   rw [cmpN_lt h, cmpN_lt this]
 · have := dv_len_lt (dg_ok b) (dg_spec a).2.2 h
   rw [dv_dg, dv_dg] at this
   rw [cmpN_gt h, cmpN_gt this]
theorem cmp_dig {a b i : Nat} (hl : (dg a).length = (dg b).length) (hi : i < (dg a).length) (hs : (dg a).drop (i + 1) = (dg b).drop (i + 1)) :
   ((dg a).getD i 0 < (dg b).getD i 0 → a < b) ∧ ((dg b).getD i 0 < (dg a).getD i 0 → b < a) ∧ ((dg a).getD i 0 = (dg b).getD i 0 → (dg a).drop i = (dg b).drop i) := by
 refine ⟨fun h => ?_, fun h => ?_, fun h => ?_⟩
 · have := dv_cmp (dg_ok a) (dg_ok b) i hi (by omega) hl hs h
   rwa [dv_dg, dv_dg] at this
 · have := dv_cmp (dg_ok b) (dg_ok a) i (by omega) hi hl.symm hs.symm h
   rwa [dv_dg, dv_dg] at this
 · rw [List.drop_eq_getElem_cons hi, List.drop_eq_getElem_cons (by omega : i < (dg b).length), hs]
   rw [List.getD_eq_getElem?_getD, List.getD_eq_getElem?_getD, List.getElem?_eq_getElem hi, List.getElem?_eq_getElem (by omega : i < (dg b).length)] at h
   simp only [Option.getD_some] at h
   rw [h]
theorem q_sign {GB : Gh} {z : Int} : PF GB Tryz.prog 122 [vI z] (vI z.sign) := by
 refine fn Tryz.func122 rfl rfl Tryz.ntmps122 rfl rfl (fun C => ?_)
 refine br rfl rfl rfl (fun hc4 => ?_) (fun hc4 => ?_)
 ·
  exact rz rfl (by show DV.v (.int _ 1) = DV.v (.int _ _); rw [Int.sign_eq_one_of_pos (by omega)])
 ·
  refine br rfl rfl rfl (fun hc6 => ?_) (fun hc6 => ?_)
  ·
   exact rz rfl (by show DV.v (.int _ (-1)) = DV.v (.int _ _); rw [Int.sign_eq_neg_one_of_neg (by omega)])
  ·
   exact rz rfl (by show DV.v (.int _ 0) = DV.v (.int _ _); rw [show z = 0 by omega]; rfl)
theorem u64_split (u : Nat) : dv [u % 4294967296, u / 4294967296] = u := by simp only [dv]; omega
theorem u64_ok {u : Nat} (h : u < 18446744073709551616) : DOk [u % 4294967296, u / 4294967296] := .cons (by omega) (.cons (by omega) .nil)
theorem fdiv32 (u : Nat) : (u : Int).fdiv (2 ^ min (32 : Int).toNat IntKind.u64.bits) = ((u / 4294967296 : Nat) : Int) := by
 rw [show (2 : Int) ^ min (32 : Int).toNat IntKind.u64.bits = ((4294967296 : Nat) : Int) from rfl, Int.fdiv_eq_ediv_of_nonneg _ (by decide)]; rfl
theorem q_Word {GB : Gh} {u : Nat} (hu : u < 18446744073709551616) : PF GB Tryz.prog 114 [.v (.int .u64 (u : Int))] (dN u) := by
 refine fn (fu := ⟨11⟩) (hv := by simp only [allP]; exact (by decide)) Tryz.func114 rfl rfl Tryz.ntmps114 rfl rfl (fun C => ?_)
 refine eqF 6 (.d (.v (.int .u64 (u / 4294967296 : Nat)))) rfl (by rw [fdiv32]) ?_
 refine gx rfl <| rf (fu := ⟨0⟩) rfl rfl <| ?_
 refine eqF 8 (.d (dLi [u % 4294967296, u / 4294967296])) rfl (by show FX.d (.sl [.v (.int _ _), .v (.int _ _)]) = .d (.sl [.v (.int _ _), .v (.int _ _)]); congr 6; omega) ?_
 refine gx rfl <| cl rfl (q_Trim (ds := [u % 4294967296, u / 4294967296]) (by simp)) rfl <| ?_
 exact rz rfl (dL_trim (u64_ok hu) (u64_split u))
theorem q_One {GB : Gh}  : PF GB Tryz.prog 75 [] (dN 1) := by
 refine fn Tryz.func75 rfl rfl Tryz.ntmps75 rfl rfl (fun C => ?_)
 refine rf rfl rfl <| ?_
 exact rz rfl (by unfold dN; rw [dg_one]; rfl)
theorem q_Cmp {GB : Gh} {a b : Nat} (ha : (dg a).length ≤ 100000000) (hb : (dg b).length ≤ 100000000) : PF GB Tryz.prog 74 [dN a, dN b] (vI (cmpN a b)) := by
 have hla := mapU_len (dg a)
 have hlb := mapU_len (dg b)
 refine fn Tryz.func74 rfl rfl Tryz.ntmps74 rfl rfl (fun C => ?_)
 refine br rfl rfl rfl (fun hc10 => ?_) (fun hc10 => ?_)
 ·
  refine cl rfl q_sign rfl <| ?_
  exact rz rfl (by show DV.v (.int _ _) = DV.v (.int _ _); rw [hla, hlb, sign_subN, cmpN_len (by omega)])
 ·
  have hl : (dg a).length = (dg b).length := by omega
  refine lp (X := Nat) (fun k => [(0, .d (dN a)), (1, .d (dN b)), (5, .d (vI ((k : Nat) - 1)))]) (fun k => []) (fun k => k ≤ (dg a).length ∧ (dg a).drop k = (dg b).drop k) (fun k => k) (dg a).length rfl ⟨Nat.le_refl _, by rw [List.drop_length, hl, List.drop_length]⟩ (fun _ => rfl) (fun k hk => ?_)
  obtain ⟨h1, h2⟩ := hk
  refine br rfl rfl rfl (fun hc21 => ?_) (fun hc21 => ?_)
  ·
   obtain ⟨k, rfl⟩ : ∃ m, k = m + 1 := ⟨k - 1, by omega⟩
   refine ix _ rfl (mapU_getZ (k := k) (by omega) (by omega)) rfl <| ix _ rfl (mapU_getZ (k := k) (by omega) (by omega)) rfl <| ?_
   refine br rfl rfl rfl (fun hc32 => ?_) (fun hc32 => ?_)
   ·
    exact rz rfl (by show DV.v (.int _ 1) = DV.v (.int _ _); rw [cmpN_gt ((cmp_dig hl (by omega) h2).2.1 (by omega))])
   ·
    refine ix _ rfl (mapU_getZ (k := k) (by omega) (by omega)) rfl <| ix _ rfl (mapU_getZ (k := k) (by omega) (by omega)) rfl <| ?_
    refine br rfl rfl rfl (fun hc41 => ?_) (fun hc41 => ?_)
    ·
     exact rz rfl (by show DV.v (.int _ (-1)) = DV.v (.int _ _); rw [cmpN_lt ((cmp_dig hl (by omega) h2).1 (by omega))])
    ·
     exact at_ k ⟨⟨by omega, (cmp_dig (i := k) hl (by omega) h2).2.2 (by omega)⟩, (by omega)⟩
  ·
   exact rz rfl (by show DV.v (.int _ 0) = DV.v (.int _ _); rw [cmpN_eq]; obtain rfl : k = 0 := (by omega); rw [List.drop_zero, List.drop_zero] at h2; rw [← dv_dg a, h2, dv_dg])
theorem sum_inv {A B W : List Nat} {i c : Nat} (hi : i < W.length) (h : dv (W.take i) + 4294967296 ^ i * c = dv (A.take i) + dv (B.take i)) :
  dv ((W.set i ((A.getD i 0 + B.getD i 0 + c) % 4294967296)).take (i + 1)) + 4294967296 ^ (i + 1) * ((A.getD i 0 + B.getD i 0 + c) / 4294967296) = dv (A.take (i + 1)) + dv (B.take (i + 1)) := by
 rw [dv_set_take hi, dv_take_succ A, dv_take_succ B, Nat.pow_succ, show A.getD i 0 + B.getD i 0 + c = c + A.getD i 0 + B.getD i 0 by omega]
 exact add_step h
theorem sum_end {a b n : Nat} {W : List Nat} {c : Nat} (hn : n = max (dg a).length (dg b).length) (hl : W.length = n + 1) (h : dv (W.take n) + 4294967296 ^ n * c = dv ((dg a).take n) + dv ((dg b).take n)) : dv (W.set n c) = a + b := by
 have e := dv_set_take (ws := W) (k := n) (d := c) (by omega)
 rw [take_all (by rw [List.length_set]; omega)] at e
 rw [e, h, take_all (by omega), take_all (by omega), dv_dg, dv_dg]
set_option maxHeartbeats 1000000 in
theorem q_Sum {GB : Gh} {a b ia ib : Nat} [ha : BN a ia] [hb : BN b ib] (hi : ia ≤ 1000000000 := by decide) (hj : ib ≤ 1000000000 := by decide) : PF GB Tryz.prog 172 [dN a, dN b] (dN (a + b)) := by
 have hla := mapU_len (dg a)
 have hlb := mapU_len (dg b)
 have hba := dg_len_bd ha.h hi
 have hbb := dg_len_bd hb.h hj
 refine fn (fu := ⟨12⟩) Tryz.func172 rfl rfl Tryz.ntmps172 rfl rfl (fun C => ?_)
 obtain ⟨n, hn⟩ : ∃ n, n = max (dg a).length (dg b).length := ⟨_, rfl⟩
 refine eqF 15 (.d (vI (n : Nat))) rfl (by show FX.d (.v (.int _ _)) = .d (.v (.int _ _)); congr 3; split <;> omega) ?_
 refine gx rfl <| mk ((List.replicate (n + 1) 0).map dU) rfl rfl (by rw [← mapU_rep]; rfl) rfl <| ?_
 refine lp (X := List Nat × Nat × Nat) (fun ⟨W, c, i⟩ => [(0, .d (dN a)), (1, .d (dN b)), (5, .d (vI (n : Nat))), (6, .rw 18), (7, .d (.v (.int .u32 (c : Nat)))), (8, .d (vI (i : Nat)))]) (fun ⟨W, c, i⟩ => [(18, some (.b 224 1 (W.map dU) true))]) (fun ⟨W, c, i⟩ => W.length = n + 1 ∧ DOk W ∧ c ≤ 1 ∧ i ≤ n ∧ dv (W.take i) + 4294967296 ^ i * c = dv ((dg a).take i) + dv ((dg b).take i)) (fun ⟨W, c, i⟩ => n - i) ⟨List.replicate (n + 1) 0, 0, 0⟩ rfl ⟨by simp, .replicate _, by omega, by omega, by simp [dv]⟩ (fun _ => rfl) (fun ⟨W, c, i⟩ hk => ?_)
 dsimp only at hk ⊢
 obtain ⟨h1, h2, h3, h4, h5⟩ := hk
 have hlw := mapU_len W
 have hda := dg_lt a i
 have hdb := dg_lt b i
 refine br (fu1 := ⟨11⟩) rfl rfl rfl (fun hc21 => ?_) (fun hc21 => ?_)
 ·
  refine mg (fu := ⟨1⟩) (X := Unit) (fun _ => [(0, .d (dN a)), (1, .d (dN b)), (5, .d (vI (n : Nat))), (6, .rw 18), (7, .d (.v (.int .u32 (c : Nat)))), (8, .d (vI (i : Nat))), (9, .d (dU ((dg a).getD i 0))), (10, .d (.v (.int .u32 0)))]) (fun _ => [(18, some (.b 224 1 (W.map dU) true))]) (fun _ => True) [0, 1, 5, 6, 7, 8, 9, 10] [18] rfl ?_ (fun _ => rfl) (fun _ hm => ?_)
  ·
   refine gx rfl <| ?_
   refine br rfl rfl rfl (fun hc27 => ?_) (fun hc27 => ?_)
   ·
    refine ix _ rfl (mapU_getI (by omega)) rfl <| ?_
    exact at_ () trivial
   ·
    refine eqF 9 (.d (dU ((dg a).getD i 0))) rfl (by rw [getD_out (by omega)]; rfl) ?_
    exact at_ () trivial
  ·
   refine mg (X := Unit) (fun _ => [(0, .d (dN a)), (1, .d (dN b)), (5, .d (vI (n : Nat))), (6, .rw 18), (7, .d (.v (.int .u32 (c : Nat)))), (8, .d (vI (i : Nat))), (9, .d (dU ((dg a).getD i 0))), (10, .d (dU ((dg b).getD i 0)))]) (fun _ => [(18, some (.b 224 1 (W.map dU) true))]) (fun _ => True) [0, 1, 5, 6, 7, 8, 9, 10] [18] rfl ?_ (fun _ => rfl) (fun _ hm => ?_)
   ·
    refine gx rfl <| ?_
    refine br rfl rfl rfl (fun hc35 => ?_) (fun hc35 => ?_)
    ·
     refine ix _ rfl (mapU_getI (by omega)) rfl <| ?_
     exact at_ () trivial
    ·
     refine eqF 10 (.d (dU ((dg b).getD i 0))) rfl (by rw [getD_out (by omega)]; rfl) ?_
     exact at_ () trivial
   ·
    refine cl rfl (q_Add32 (by omega) (by omega) (by omega)) rfl <| sb _ ((W.set i (((dg a).getD i 0 + (dg b).getD i 0 + c) % 4294967296)).map dU) rfl (mapU_getI (by omega)) rfl (by rw [← mapU_set]; rfl) rfl <| ?_
    exact at_ ⟨W.set i (((dg a).getD i 0 + (dg b).getD i 0 + c) % 4294967296), ((dg a).getD i 0 + (dg b).getD i 0 + c) / 4294967296, i + 1⟩ (by dsimp only; exact ⟨⟨by simpa using h1, h2.set _ (by omega), by omega, by omega, sum_inv (by omega) h5⟩, (by omega)⟩)
 ·
  obtain rfl : i = n := by omega
  refine sb _ ((W.set i c).map dU) rfl (mapU_getI (by omega)) rfl (by rw [← mapU_set]; rfl) rfl <| fz 18 rfl rfl <| cl rfl (q_Trim (ds := W.set i c) (by simp; omega)) rfl <| ?_
  exact rz rfl (dL_trim (h2.set _ (by omega)) (sum_end hn h1 h5))
theorem less_inv {A B W : List Nat} {i c d c2 : Nat} (hA : DOk A) (hB : DOk B) (hi : i < W.length) (hc : c ≤ 1) (h : dv (W.take i) + dv (B.take i) = dv (A.take i) + 4294967296 ^ i * c)
   (hd : d = if A.getD i 0 < B.getD i 0 + c then A.getD i 0 + 4294967296 - (B.getD i 0 + c) else A.getD i 0 - (B.getD i 0 + c)) (hc2 : c2 = if A.getD i 0 < B.getD i 0 + c then 1 else 0) :
   dv ((W.set i d).take (i + 1)) + dv (B.take (i + 1)) = dv (A.take (i + 1)) + 4294967296 ^ (i + 1) * c2 := by
 have h1 := hA.get i
 have h2 := hB.get i
 rw [dv_set_take hi, dv_take_succ A, dv_take_succ B, Nat.pow_succ]
 split at hd
 · rename_i q
   rw [if_pos q] at hc2
   subst hc2 hd
   rw [Nat.add_comm (B.getD i 0) c]
   exact sub_yes h (by omega) (by omega)
 · rename_i q
   rw [if_neg q] at hc2
   subst hc2 hd
   rw [Nat.add_comm (B.getD i 0) c]
   exact sub_no h (by omega)
theorem less_end {a b c : Nat} {W : List Nat} (hw : DOk W) (hl : W.length = (dg a).length) (hb : b ≤ a) (h : dv (W.take (dg a).length) + dv ((dg b).take (dg a).length) = dv ((dg a).take (dg a).length) + 4294967296 ^ (dg a).length * c) : dv W = a - b := by
 have hlb : (dg b).length ≤ (dg a).length := by
   rcases Nat.lt_or_ge (dg a).length (dg b).length with q | q
   · have := dv_len_lt (dg_ok a) (dg_spec b).2.2 q
     rw [dv_dg, dv_dg] at this
     omega
   · exact q
 rw [take_all (by omega), take_all hlb, take_all (Nat.le_refl _), dv_dg, dv_dg] at h
 have h2 := dv_lt hw
 rw [hl] at h2
 rcases Nat.eq_zero_or_pos c with q | q
 · subst q; omega
 · have : 4294967296 ^ (dg a).length * 1 ≤ 4294967296 ^ (dg a).length * c := Nat.mul_le_mul_left _ q
   omega
set_option maxHeartbeats 1000000 in
theorem q_Less {GB : Gh} {a b ia : Nat} [ha : BN a ia] (hb : b ≤ a) (hi : ia ≤ 1000000000 := by decide) : PF GB Tryz.prog 173 [dN a, dN b] (dN (a - b)) := by
 have hla := mapU_len (dg a)
 have hlb := mapU_len (dg b)
 have hba := dg_len_bd ha.h hi
 refine fn (fu := ⟨9⟩) Tryz.func173 rfl rfl Tryz.ntmps173 rfl rfl (fun C => ?_)
 refine eqF 10 (.d (vI ((dg a).length : Nat))) rfl (by rw [hla]; rfl) ?_
 refine gx rfl <| mk (fu := ⟨13⟩) ((List.replicate (dg a).length 0).map dU) rfl rfl (by rw [← mapU_rep]; rfl) rfl <| ?_
 refine eqF 13 (.d (vI ((dg a).length : Nat))) rfl (by rw [hla]; rfl) ?_
 refine gx rfl <| ?_
 refine lp (X := List Nat × Nat × Nat) (fun ⟨W, c, i⟩ => [(0, .d (dN a)), (1, .d (dN b)), (5, .rw 11), (6, .d (.v (.int .u32 (c : Nat)))), (13, .d (vI ((dg a).length : Nat))), (14, .d (vI (i : Nat)))]) (fun ⟨W, c, i⟩ => [(11, some (.b 224 1 (W.map dU) true))]) (fun ⟨W, c, i⟩ => W.length = (dg a).length ∧ DOk W ∧ c ≤ 1 ∧ i ≤ (dg a).length ∧ dv (W.take i) + dv ((dg b).take i) = dv ((dg a).take i) + 4294967296 ^ i * c) (fun ⟨W, c, i⟩ => (dg a).length - i) ⟨List.replicate (dg a).length 0, 0, 0⟩ rfl ⟨by simp, .replicate _, by omega, by omega, by simp [dv]⟩ (fun _ => rfl) (fun ⟨W, c, i⟩ hk => ?_)
 dsimp only at hk ⊢
 obtain ⟨h1, h2, h3, h4, h5⟩ := hk
 have hlw := mapU_len W
 have hda := dg_lt a i
 have hdb := dg_lt b i
 refine br (fu1 := ⟨16⟩) rfl rfl rfl (fun hc15 => ?_) (fun hc15 => ?_)
 ·
  refine mg (X := Unit) (fun _ => [(0, .d (dN a)), (1, .d (dN b)), (5, .rw 11), (6, .d (.v (.int .u32 (c : Nat)))), (13, .d (vI ((dg a).length : Nat))), (14, .d (vI (i : Nat))), (7, .d (vI (i : Nat))), (8, .d (dU ((dg b).getD i 0)))]) (fun _ => [(11, some (.b 224 1 (W.map dU) true))]) (fun _ => True) [0, 1, 5, 6, 13, 14, 7, 8] [11] rfl ?_ (fun _ => rfl) (fun _ hm => ?_)
  ·
   refine gx rfl <| ?_
   refine br rfl rfl rfl (fun hc20 => ?_) (fun hc20 => ?_)
   ·
    refine ix _ rfl (mapU_getI (by omega)) rfl <| ?_
    exact at_ () trivial
   ·
    refine eqF 8 (.d (dU ((dg b).getD i 0))) rfl (by rw [getD_out (by omega)]; rfl) ?_
    exact at_ () trivial
  ·
   refine ix _ rfl (mapU_getI (by omega)) rfl <| cl rfl (q_Sub32 (by omega) (by omega) (by omega)) rfl <| sb _ ((W.set i (if (dg a).getD i 0 < (dg b).getD i 0 + c then (dg a).getD i 0 + 4294967296 - ((dg b).getD i 0 + c) else (dg a).getD i 0 - ((dg b).getD i 0 + c))).map dU) rfl (mapU_getI (by omega)) rfl (by rw [← mapU_set]; rfl) rfl <| ?_
   exact at_ ⟨W.set i (if (dg a).getD i 0 < (dg b).getD i 0 + c then (dg a).getD i 0 + 4294967296 - ((dg b).getD i 0 + c) else (dg a).getD i 0 - ((dg b).getD i 0 + c)), (if (dg a).getD i 0 < (dg b).getD i 0 + c then 1 else 0), i + 1⟩ (by dsimp only; exact ⟨⟨by simpa using h1, h2.set _ (by split <;> omega), by split <;> omega, by omega, less_inv (dg_ok a) (dg_ok b) (by omega) h3 h5 rfl rfl⟩, (by omega)⟩)
 ·
  obtain rfl : i = (dg a).length := by omega
  refine fz 11 rfl rfl <| cl rfl (q_Trim (ds := W) (by omega)) rfl <| ?_
  exact rz rfl (dL_trim h2 (less_end h2 h1 hb h5))
end Go.Sx
end

section
set_option maxRecDepth 100000
namespace Go.Sx
open Go Go.Proofs
theorem bv_or (n : Nat) (a b k : Nat) (ha : a < 2 ^ k) (h : a + b * 2 ^ k < 2 ^ n) : (BitVec.ofInt n (a : Int) ||| BitVec.ofInt n ((b * 2 ^ k : Nat) : Int)).toNat = a + b * 2 ^ k := by
 rw [BitVec.toNat_or, BitVec.ofInt_natCast, BitVec.ofInt_natCast, BitVec.toNat_ofNat, BitVec.toNat_ofNat, Nat.mod_eq_of_lt (by omega), Nat.mod_eq_of_lt (by omega)]
 rw [← Nat.shiftLeft_eq, Nat.or_comm, ← Nat.shiftLeft_add_eq_or_of_lt ha, Nat.shiftLeft_eq]
 omega
theorem mul_bd {x y : Nat} (hx : x < 4294967296) (hy : y < 4294967296) : x * y ≤ 18446744065119617025 := by
 have := Nat.mul_le_mul (by omega : x ≤ 4294967295) (by omega : y ≤ 4294967295)
 exact this
theorem mul_lo (x y : Nat) : (0 : Int) ≤ (x : Int) * (y : Int) := by rw [← Int.natCast_mul]; omega
theorem mul_hi {x y : Nat} (hx : x < 4294967296) (hy : y < 4294967296) : (x : Int) * (y : Int) ≤ 18446744073709551615 := by
 have := mul_bd hx hy
 rw [← Int.natCast_mul]; omega
theorem dv_one {ds : List Nat} (h : ds.length = 1) : dv ds = ds.getD 0 0 := by
 match ds, h with
 | [d], _ => simp [dv]
theorem dg_one_digit {a : Nat} (h : (dg a).length = 1) : (dg a).getD 0 0 = a := by rw [← dv_one h, dv_dg]
theorem getD_take {ds : List Nat} {j m : Nat} (h : j < m) : (ds.take m).getD j 0 = ds.getD j 0 := by
 rw [List.getD_eq_getElem?_getD, List.getD_eq_getElem?_getD, List.getElem?_take, if_pos h]
theorem dv_set_in {W : List Nat} {j m d : Nat} (hj : j < m) (hm : m ≤ W.length) : dv ((W.set j d).take m) + 4294967296 ^ j * W.getD j 0 = dv (W.take m) + 4294967296 ^ j * d := by
 rw [List.take_set, ← getD_take (ds := W) hj]
 exact dv_set _ _ _ (by rw [List.length_take]; omega)
theorem prod_inv {W : List Nat} {P X Y m i k c y t S : Nat} (hk : i + k < m) (hm : m ≤ W.length) (h : dv (W.take m) + 4294967296 ^ (i + k) * c = P + X * (4294967296 ^ i * S)) (ht : t = Y + W.getD (i + k) 0 + c) (hY : Y = X * y) :
  dv ((W.set (i + k) (t % 4294967296)).take m) + 4294967296 ^ (i + (k + 1)) * (t / 4294967296) = P + X * (4294967296 ^ i * (S + 4294967296 ^ k * y)) := by
 have h1 := dv_set_in (W := W) (d := t % 4294967296) hk hm
 rw [ht, show Y + W.getD (i + k) 0 + c = c + Y + W.getD (i + k) 0 by omega] at h1 ⊢
 have h2 := mul_step h1 h
 rw [← Nat.add_assoc, Nat.pow_succ, h2, hY, Nat.pow_add]
 simp only [Nat.mul_add, Nat.mul_assoc, Nat.mul_left_comm, Nat.mul_comm, Nat.add_assoc]
theorem prod_end {a b : Nat} {W : List Nat} {i c lb : Nat} (hlb : lb = (dg b).length) (hl : i + lb < W.length) (h : dv (W.take (i + lb)) + 4294967296 ^ (i + lb) * c = dv ((dg a).take i) * b + (dg a).getD i 0 * (4294967296 ^ i * dv ((dg b).take lb))) :
  dv ((W.set (i + lb) c).take (i + 1 + lb)) = dv ((dg a).take (i + 1)) * b := by
 rw [show i + 1 + lb = i + lb + 1 by omega, dv_set_take hl, h, dv_take_succ, take_all (ds := dg b) (by omega), dv_dg b, Nat.add_mul]
 simp only [Nat.mul_assoc, Nat.mul_left_comm, Nat.mul_comm]
theorem rep_getD (n j : Nat) : (List.replicate n 0).getD j 0 = 0 := by
 rw [List.getD_eq_getElem?_getD, List.getElem?_replicate]
 split <;> rfl
theorem quo32 {k : Nat} (h : k ≤ 1000000000) : IntKind.i64.wrap ((k : Int).tdiv 32) = ((k / 32 : Nat) : Int) := by
 rw [show (k : Int).tdiv 32 = ((k / 32 : Nat) : Int) from rfl, wrap_i64]; omega
theorem rem32 (k : Nat) : (k : Int).tmod 32 = ((k % 32 : Nat) : Int) := rfl
set_option maxHeartbeats 2000000 in
theorem q_Product {GB : Gh} {a b ia ib : Nat} [ha : BN a ia] [hb : BN b ib] (hi : ia ≤ 1000000000 := by decide) (hj : ib ≤ 1000000000 := by decide) : PF GB Tryz.prog 91 [dN a, dN b] (dN (a * b)) := by
 have hla := mapU_len (dg a)
 have hlb := mapU_len (dg b)
 have hba := dg_len_bd ha.h hi
 have hbb := dg_len_bd hb.h hj
 refine fn (fu := ⟨6⟩) Tryz.func91 rfl rfl Tryz.ntmps91 rfl rfl (fun C => ?_)
 refine mg (fu := ⟨4⟩) (X := Unit) (fun _ => [(0, .d (dN a)), (1, .d (dN b))]) (fun _ => []) (fun _ => True) [0, 1] [] rfl ?_ (fun _ => rfl) (fun _ hm => ?_)
 ·
  refine gx rfl <| ?_
  refine cs 15 rfl rfl rfl (fun hg15 => ?_) (fun hg15 => ?_)
  ·
   refine br rfl rfl rfl (fun hc19 => ?_) (fun hc19 => ?_)
   ·
    have hd0 := dg_lt a 0
    have hd1 := dg_lt b 0
    refine ix _ rfl (mapU_getZ (k := 0) rfl (by omega)) rfl <| ix (hv := by simp only [allP]; exact ⟨by omega, ⟨(mul_lo _ _), (mul_hi (dg_lt _ _) (dg_lt _ _))⟩⟩) _ rfl (mapU_getZ (k := 0) rfl (by omega)) rfl <| cl rfl (q_Word (u := (dg a).getD 0 0 * (dg b).getD 0 0) (by have := mul_bd (dg_lt a 0) (dg_lt b 0); omega)) rfl <| ?_
    exact rz rfl (by rw [dg_one_digit (by omega), dg_one_digit (by omega)]; rfl)
   ·
    exact at_ () trivial
  ·
   exact at_ () trivial
 ·
  refine eqF 31 (.d (vI ((dg a).length : Nat))) rfl (by rw [hla]; rfl) ?_
  refine gx (fu := ⟨2⟩) rfl <| ?_
  refine eqF 33 (.d (vI ((dg b).length : Nat))) rfl (by rw [hlb]; rfl) ?_
  refine gx rfl <| mk (fu := ⟨8⟩) ((List.replicate ((dg a).length + (dg b).length) 0).map dU) rfl rfl (by rw [← mapU_rep]; rfl) rfl <| ?_
  refine eqF 37 (.d (vI ((dg a).length : Nat))) rfl (by rw [hla]; rfl) ?_
  refine gx rfl <| ?_
  refine lp (X := List Nat × Nat) (fun ⟨W, i⟩ => [(0, .d (dN a)), (1, .d (dN b)), (5, .rw 35), (36, .d (dN a)), (37, .d (vI ((dg a).length : Nat))), (38, .d (vI (i : Nat)))]) (fun ⟨W, i⟩ => [(35, some (.b 224 1 (W.map dU) true))]) (fun ⟨W, i⟩ => W.length = (dg a).length + (dg b).length ∧ DOk W ∧ i ≤ (dg a).length ∧ dv (W.take (i + (dg b).length)) = dv ((dg a).take i) * b) (fun ⟨W, i⟩ => (dg a).length - i) ⟨List.replicate ((dg a).length + (dg b).length) 0, 0⟩ rfl ⟨by simp, .replicate _, by omega, by rw [List.take_replicate, dv_replicate]; simp [dv]⟩ (fun _ => rfl) (fun ⟨W, i⟩ hk => ?_)
  dsimp only at hk ⊢
  obtain ⟨h1, h2, h3, h4⟩ := hk
  refine br rfl rfl rfl (fun hc39 => ?_) (fun hc39 => ?_)
  ·
   refine ix (fu := ⟨15⟩) _ rfl (mapU_getI (by omega)) rfl <| ?_
   refine eqF 44 (.d (vI ((dg b).length : Nat))) rfl (by rw [hlb]; rfl) ?_
   refine gx rfl <| ?_
   refine lp (X := List Nat × Nat × Nat) (fun ⟨W2, c, k⟩ => [(0, .d (dN a)), (1, .d (dN b)), (5, .rw 35), (6, .d (vI (i : Nat))), (7, .d (dU ((dg a).getD i 0))), (8, .d (.v (.int .u64 (c : Nat)))), (36, .d (dN a)), (37, .d (vI ((dg a).length : Nat))), (38, .d (vI (i : Nat))), (43, .d (dN b)), (44, .d (vI ((dg b).length : Nat))), (45, .d (vI (k : Nat)))]) (fun ⟨W2, c, k⟩ => [(35, some (.b 224 1 (W2.map dU) true))]) (fun ⟨W2, c, k⟩ => W2.length = (dg a).length + (dg b).length ∧ DOk W2 ∧ c < 4294967296 ∧ k ≤ (dg b).length ∧ dv (W2.take (i + (dg b).length)) + 4294967296 ^ (i + k) * c = dv ((dg a).take i) * b + (dg a).getD i 0 * (4294967296 ^ i * dv ((dg b).take k))) (fun ⟨W2, c, k⟩ => (dg b).length - k) ⟨W, 0, 0⟩ rfl ⟨h1, h2, by omega, by omega, by rw [h4]; simp [dv]⟩ (fun _ => rfl) (fun ⟨W2, c, k⟩ hk => ?_)
   dsimp only at hk ⊢
   obtain ⟨g1, g2, g3, g4, g5⟩ := hk
   have hlw := mapU_len W2
   have hw := g2.get (i + k)
   have hda := dg_lt a i
   have hdb := dg_lt b k
   refine br (fu2 := ⟨10⟩) rfl rfl rfl (fun hc46 => ?_) (fun hc46 => ?_)
   ·
    refine ix (fu := ⟨12⟩) (hv := by simp only [allP]; exact ⟨⟨by omega, by omega⟩, ⟨(mul_lo _ _), (mul_hi (dg_lt _ _) (dg_lt _ _))⟩⟩) _ rfl (mapU_getI (by omega)) rfl <| ?_
    obtain ⟨p, hp⟩ : ∃ p, p = (dg a).getD i 0 * (dg b).getD k 0 := ⟨_, rfl⟩
    have hp1 : p ≤ 18446744065119617025 := hp ▸ mul_bd hda hdb
    refine eqF 54 (.d (.v (.int .u64 (p : Nat)))) rfl (by rw [hp, Int.natCast_mul]) ?_
    refine gx rfl <| lb (fu := ⟨4⟩) _ rfl (mapU_getZ (k := i + k) (by omega) (by omega)) rfl <| ?_
    obtain ⟨t, ht⟩ : ∃ t, t = p + W2.getD (i + k) 0 + c := ⟨_, rfl⟩
    refine eqF 64 (.d (.v (.int .u64 (t : Nat)))) rfl (by congr 3; omega) ?_
    refine gx (fu := ⟨11⟩) rfl <| ?_
    refine eqF 70 (.d (dU (t % 4294967296))) rfl (by show FX.d (.v (.int _ _)) = .d (.v (.int _ _)); congr 3) ?_
    refine gx rfl <| sb (fu := ⟨5⟩) (hv := by simp only [allP]; exact (by decide)) _ ((W2.set (i + k) (t % 4294967296)).map dU) rfl (mapU_getZ (k := i + k) (by omega) (by omega)) rfl (by (rw [show ((i : Int) + k).toNat = i + k by omega, ← mapU_set]) <;> rfl) rfl <| ?_
    refine eqF 73 (.d (.v (.int .u64 (t / 4294967296 : Nat)))) rfl (by rw [fdiv32]) ?_
    refine gx rfl <| ?_
    exact at_ ⟨W2.set (i + k) (t % 4294967296), t / 4294967296, k + 1⟩ (by dsimp only; exact ⟨⟨by simpa using g1, g2.set _ (by omega), by omega, by omega, by rw [dv_take_succ]; exact prod_inv (by omega) (by omega) g5 ht hp⟩, (by omega)⟩)
   ·
    obtain rfl : k = (dg b).length := by omega
    refine eqF 78 (.d (vI ((dg b).length : Nat))) rfl (by rw [hlb]; rfl) ?_
    refine gx (fu := ⟨3⟩) rfl <| ?_
    refine eqF 81 (.d (dU c)) rfl (by show FX.d (.v (.int _ _)) = .d (.v (.int _ _)); congr 3; omega) ?_
    refine gx rfl <| sb _ ((W2.set (i + (dg b).length) c).map dU) rfl (mapU_getZ (k := i + (dg b).length) (by omega) (by omega)) rfl (by (rw [show ((i : Int) + ((dg b).length : Nat)).toNat = i + (dg b).length by omega, ← mapU_set]) <;> rfl) rfl <| ?_
    exact at_ ⟨W2.set (i + (dg b).length) c, i + 1⟩ (by dsimp only; exact ⟨⟨by simpa using g1, g2.set _ g3, by omega, prod_end rfl (by omega) g5⟩, (by omega)⟩)
  ·
   obtain rfl : i = (dg a).length := by omega
   refine fz 35 rfl rfl <| cl rfl (q_Trim (ds := W) (by omega)) rfl <| ?_
   exact rz rfl (dL_trim h2 (by have := h4; rw [take_all (by omega), take_all (by omega), dv_dg] at this; exact this))
theorem left_parts (x s : Nat) : x * 2 ^ s = x * 2 ^ s % 4294967296 + 4294967296 * (x * 2 ^ s / 4294967296) := by omega
theorem left_hi {x s : Nat} (hx : x < 4294967296) (hs : s < 32) : x * 2 ^ s / 4294967296 < 2 ^ s := by
 rw [Nat.div_lt_iff_lt_mul (by decide), Nat.mul_comm (2 ^ s)]
 exact Nat.mul_lt_mul_of_lt_of_le hx (Nat.le_refl _) (Nat.pow_pos (by decide))
theorem pow32s {s : Nat} (hs : s < 32) : 2 ^ s * 2 ^ (32 - s) = 4294967296 := by rw [← Nat.pow_add, show s + (32 - s) = 32 by omega]
theorem left_lo (x s : Nat) (hs : s < 32) : x * 2 ^ s % 4294967296 = x % 2 ^ (32 - s) * 2 ^ s := by
 rw [← pow32s hs, Nat.mul_comm (2 ^ s), Nat.mul_mod_mul_right]
theorem left_fit {x s : Nat} (hx : x < 4294967296) (hs : s < 32) : x * 2 ^ s < 18446744073709551616 := by
 have h1 : 2 ^ s ≤ 2 ^ 31 := Nat.pow_le_pow_right (by decide) (by omega)
 have := Nat.mul_lt_mul_of_lt_of_le hx h1 (by decide)
 omega
theorem left_or {w x s : Nat} (hw : w < 2 ^ s) (hs : s < 32) : (BitVec.ofInt 32 (w : Int) ||| BitVec.ofInt 32 ((x * 2 ^ s % 4294967296 : Nat) : Int)).toNat = w + x * 2 ^ s % 4294967296 := by
 rw [left_lo x s hs]
 refine bv_or 32 _ _ _ hw ?_
 have h1 : x % 2 ^ (32 - s) + 1 ≤ 2 ^ (32 - s) := Nat.mod_lt _ (Nat.pow_pos (by decide))
 have h2 := Nat.mul_le_mul_right (2 ^ s) h1
 rw [Nat.mul_comm (2 ^ (32 - s)), pow32s hs, Nat.add_mul, Nat.one_mul] at h2
 show _ < 4294967296
 omega
theorem or_zero32 {h : Nat} (hh : h < 4294967296) : (BitVec.ofInt 32 ((0 : Nat) : Int) ||| BitVec.ofInt 32 (h : Int)).toNat = h := by
 have := bv_or 32 0 h 0 (by decide) (by simpa using hh)
 simpa using this
theorem pow32k (k : Nat) : 2 ^ k = 4294967296 ^ (k / 32) * 2 ^ (k % 32) := by
 rw [show (4294967296 : Nat) = 2 ^ 32 from rfl, ← Nat.pow_mul, ← Nat.pow_add, Nat.div_add_mod]
theorem getD_set_ne {W : List Nat} {i j d : Nat} (h : i ≠ j) : (W.set i d).getD j 0 = W.getD j 0 := by
 rw [List.getD_eq_getElem?_getD, List.getD_eq_getElem?_getD, List.getElem?_set_ne h]
theorem getD_set_eq {W : List Nat} {i d : Nat} (h : i < W.length) : (W.set i d).getD i 0 = d := by
 rw [List.getD_eq_getElem?_getD, List.getElem?_set_self h]; rfl
theorem left_inv {A W : List Nat} {k q s i x : Nat} (hq : q = k / 32) (hs : s = k % 32) (hl : q + i + 1 < W.length) (hx : x = A.getD i 0)
  (h : dv (W.take (q + i + 1)) = dv (A.take i) * 2 ^ k) :
  dv (((W.set (q + i) (W.getD (q + i) 0 + x * 2 ^ s % 4294967296)).set (q + i + 1) (x * 2 ^ s / 4294967296)).take (q + (i + 1) + 1)) = dv (A.take (i + 1)) * 2 ^ k := by
 have e1 := dv_set_in (W := W) (j := q + i) (m := q + i + 1) (d := W.getD (q + i) 0 + x * 2 ^ s % 4294967296) (by omega) (by omega)
 rw [show q + (i + 1) + 1 = q + i + 1 + 1 by omega, dv_set_take (by rw [List.length_set]; omega), dv_take_succ A, ← hx]
 have e2 : dv ((W.set (q + i) (W.getD (q + i) 0 + x * 2 ^ s % 4294967296)).take (q + i + 1)) = dv (A.take i) * 2 ^ k + 4294967296 ^ (q + i) * (x * 2 ^ s % 4294967296) := by
  rw [Nat.mul_add, h] at e1; omega
 rw [e2, Nat.pow_succ, Nat.mul_assoc, Nat.add_assoc, ← Nat.mul_add, ← left_parts, Nat.add_mul, pow32k k, ← hq, ← hs, Nat.pow_add]
 simp only [Nat.mul_assoc, Nat.mul_left_comm, Nat.mul_comm]
set_option maxHeartbeats 2000000 in
theorem q_Left {GB : Gh} {a k ia : Nat} [ha : BN a ia] (hk : k ≤ 1000000000) (hi : ia ≤ 1000000000 := by decide) : PF GB Tryz.prog 203 [dN a, vI (k : Nat)] (dN (a * 2 ^ k)) := by
 have hla := mapU_len (dg a)
 have hba := dg_len_bd ha.h hi
 refine fn (fu := ⟨9⟩) Tryz.func203 rfl rfl Tryz.ntmps203 rfl rfl (fun C => ?_)
 refine eqF 11 (.d (vI (k / 32 : Nat))) rfl (by show FX.d (.v (.int _ _)) = .d (.v (.int _ _)); rw [quo32 hk]) ?_
 refine gx (fu := ⟨2⟩) rfl <| ?_
 refine eqF 13 (.d (vI ((dg a).length : Nat))) rfl (by rw [hla]; rfl) ?_
 refine gx (fu := ⟨2⟩) rfl <| ?_
 refine eqF 15 (.d (vI (k / 32 + (dg a).length + 1 : Nat))) rfl (by show FX.d (.v (.int _ _)) = .d (.v (.int _ _)); congr 3) ?_
 refine gx rfl <| mk (fu := ⟨7⟩) (hv := by simp only [allP]; exact (by decide)) ((List.replicate (k / 32 + (dg a).length + 1) 0).map dU) rfl rfl (by rw [← mapU_rep]; rfl) rfl <| ?_
 refine eqF 18 (.d (vI (k % 32 : Nat))) rfl (by show FX.d (.v (.int _ _)) = .d (.v (.int _ _)); rw [rem32]) ?_
 refine gx (fu := ⟨9⟩) rfl <| ?_
 refine eqF 21 (.d (vI ((dg a).length : Nat))) rfl (by rw [hla]; rfl) ?_
 refine gx rfl <| ?_
 refine lp (X := List Nat × Nat) (fun ⟨W, i⟩ => [(0, .d (dN a)), (1, .d (vI (k : Nat))), (5, .rw 16), (6, .d (.v (.int .u64 (k % 32 : Nat)))), (20, .d (dN a)), (21, .d (vI ((dg a).length : Nat))), (22, .d (vI (i : Nat)))]) (fun ⟨W, i⟩ => [(16, some (.b 224 1 (W.map dU) true))]) (fun ⟨W, i⟩ => W.length = k / 32 + (dg a).length + 1 ∧ DOk W ∧ i ≤ (dg a).length ∧ dv (W.take (k / 32 + i + 1)) = dv ((dg a).take i) * 2 ^ k ∧ W.getD (k / 32 + i) 0 < 2 ^ (k % 32) ∧ ∀ j, k / 32 + i < j → W.getD j 0 = 0) (fun ⟨W, i⟩ => (dg a).length - i) ⟨List.replicate (k / 32 + (dg a).length + 1) 0, 0⟩ rfl ⟨by simp, .replicate _, by omega, by rw [List.take_replicate, dv_replicate]; simp [dv], by rw [rep_getD]; exact Nat.pow_pos (by decide), fun j _ => rep_getD _ _⟩ (fun _ => rfl) (fun ⟨W, i⟩ hk => ?_)
 dsimp only at hk ⊢
 obtain ⟨h1, h2, h3, h4, h5, h6⟩ := hk
 have hlw := mapU_len W
 have hda := dg_lt a i
 have hsk : k % 32 < 32 := Nat.mod_lt _ (by decide)
 have hpp : 2 ^ (k % 32) ≤ 2 ^ 31 := Nat.pow_le_pow_right (by decide) (by omega)
 refine br rfl rfl rfl (fun hc23 => ?_) (fun hc23 => ?_)
 ·
  refine ix (fu := ⟨11⟩) (hv := by simp only [allP]; exact ⟨by omega, (by omega)⟩) _ rfl (mapU_getI (by omega)) rfl <| ?_
  have hhi := left_hi hda hsk
  have hfit0 := left_fit hda hsk
  have hor := left_or (x := (dg a).getD i 0) h5 hsk
  have hfit : W.getD (k / 32 + i) 0 + (dg a).getD i 0 * 2 ^ (k % 32) % 4294967296 < 4294967296 := by rw [← hor]; exact BitVec.isLt _
  have hlp := left_parts ((dg a).getD i 0) (k % 32)
  refine eqF 30 (.d (.v (.int .u64 ((dg a).getD i 0 * 2 ^ (k % 32) : Nat)))) rfl (by show FX.d (.v (.int _ _)) = .d (.v (.int _ _)); rw [shl_u64 _ (k % 32) (by omega) hfit0 (by omega)]) ?_
  obtain ⟨t, ht⟩ : ∃ t, t = (dg a).getD i 0 * 2 ^ (k % 32) := ⟨_, rfl⟩
  simp only [← ht] at hhi hfit0 hor hfit hlp
  rw [← ht]
  refine gx (fu := ⟨8⟩) rfl <| ?_
  refine eqF 33 (.d (vI (k / 32 : Nat))) rfl (by show FX.d (.v (.int _ _)) = .d (.v (.int _ _)); rw [quo32 hk]) ?_
  refine gx rfl <| lb (fu := ⟨2⟩) _ rfl (mapU_getZ (k := k / 32 + i) (by omega) (by omega)) rfl <| ?_
  refine eqF 39 (.d (dU (t % 4294967296))) rfl (by show FX.d (.v (.int _ _)) = .d (.v (.int _ _)); congr 3) ?_
  refine gx (fu := ⟨1⟩) rfl <| ?_
  refine eqF 40 _ rfl (congrArg (fun z : Nat => FX.d (.v (.int .u32 (z : Int)))) hor) ?_
  refine gx rfl <| sb (fu := ⟨6⟩) _ ((W.set (k / 32 + i) (W.getD (k / 32 + i) 0 + t % 4294967296)).map dU) rfl (mapU_getZ (k := k / 32 + i) (by omega) (by omega)) rfl (by (rw [show (((k / 32 : Nat) : Int) + i).toNat = k / 32 + i by omega]; simp only [List.map_set]; rfl) <;> rfl) rfl <| ?_
  refine eqF 44 (.d (vI (k / 32 : Nat))) rfl (by show FX.d (.v (.int _ _)) = .d (.v (.int _ _)); rw [quo32 hk]) ?_
  refine gx rfl <| lb (fu := ⟨0⟩) _ rfl (mapU_getZ (k := k / 32 + i + 1) (by omega) (by rw [List.length_set]; omega)) rfl <| ?_
  refine eqF 49 (.d (dU 0)) rfl (by rw [getD_set_ne (by omega), h6 _ (by omega)]) ?_
  refine gx (fu := ⟨2⟩) (hv := by simp only [allP]; exact (by decide)) rfl <| ?_
  refine eqF 51 (.d (.v (.int .u64 (t / 4294967296 : Nat)))) rfl (by rw [fdiv32]) ?_
  refine gx (fu := ⟨1⟩) rfl <| ?_
  refine eqF 52 (.d (dU (t / 4294967296))) rfl (by show FX.d (.v (.int _ _)) = .d (.v (.int _ _)); congr 3; omega) ?_
  refine gx (fu := ⟨1⟩) rfl <| ?_
  refine eqF 53 _ rfl (congrArg (fun z : Nat => FX.d (.v (.int .u32 (z : Int)))) (or_zero32 (by omega))) ?_
  refine gx rfl <| sb _ (((W.set (k / 32 + i) (W.getD (k / 32 + i) 0 + t % 4294967296)).set (k / 32 + i + 1) (t / 4294967296)).map dU) rfl (mapU_getZ (k := k / 32 + i + 1) (by omega) (by rw [List.length_set]; omega)) rfl (by (rw [show (((k / 32 : Nat) : Int) + i + 1).toNat = k / 32 + i + 1 by omega]; simp only [List.map_set]; rfl) <;> rfl) rfl <| ?_
  exact at_ ⟨(W.set (k / 32 + i) (W.getD (k / 32 + i) 0 + t % 4294967296)).set (k / 32 + i + 1) (t / 4294967296), i + 1⟩ (by dsimp only; exact ⟨⟨by simpa using h1, (h2.set _ hfit).set _ (by omega), by omega, by have q := left_inv (x := (dg a).getD i 0) rfl rfl (by omega) rfl h4; rw [← ht] at q; exact q, by rw [show k / 32 + (i + 1) = k / 32 + i + 1 by omega, getD_set_eq (by simp; omega)]; exact hhi, fun j hj => by rw [getD_set_ne (by omega), getD_set_ne (by omega)]; exact h6 j (by omega)⟩, (by omega)⟩)
 ·
  obtain rfl : i = (dg a).length := by omega
  refine fz 16 rfl rfl <| cl rfl (q_Trim (ds := W) (by omega)) rfl <| ?_
  exact rz rfl (dL_trim h2 (by have := h4; rw [take_all (by omega), take_all (by omega), dv_dg] at this; exact this))
theorem right_zero {a k : Nat} (h : (dg a).length ≤ k / 32) : a / 2 ^ k = 0 := by
 refine Nat.div_eq_of_lt ?_
 have h1 := dv_lt (dg_ok a)
 rw [dv_dg] at h1
 have h2 : 4294967296 ^ (dg a).length ≤ 4294967296 ^ (k / 32) := Nat.pow_le_pow_right (by decide) h
 have h3 : 4294967296 ^ (k / 32) * 1 ≤ 4294967296 ^ (k / 32) * 2 ^ (k % 32) := Nat.mul_le_mul_left _ (Nat.pow_pos (by decide))
 rw [pow32k k]
 omega
theorem dv_dropD {ds : List Nat} (h : DOk ds) (q : Nat) : dv (ds.drop q) = dv ds / 4294967296 ^ q := by
 rcases Nat.lt_or_ge ds.length q with hq | hq
 · rw [List.drop_eq_nil_of_le (by omega)]
   have h1 := dv_lt h
   have h2 : 4294967296 ^ ds.length ≤ 4294967296 ^ q := Nat.pow_le_pow_right (by decide) (by omega)
   rw [Nat.div_eq_of_lt (by omega)]; rfl
 · have e := dv_split ds q hq
   have h1 := dv_lt (h.take q)
   rw [List.length_take, Nat.min_eq_left hq] at h1
   rw [e, Nat.add_mul_div_left _ _ (Nat.pow_pos (by decide)), Nat.div_eq_of_lt h1, Nat.zero_add]
theorem dv_two {ds : List Nat} (h : DOk ds) (i : Nat) : dv ds / 4294967296 ^ i = ds.getD i 0 + 4294967296 * ds.getD (i + 1) 0 + 18446744073709551616 * (dv ds / 4294967296 ^ (i + 2)) := by
 have e0 := dv_dropD h i
 have e2 := dv_dropD h (i + 2)
 rw [← e0, ← e2]
 have g0 : ds.getD i 0 = (ds.drop i).getD 0 0 := by rw [List.getD_eq_getElem?_getD, List.getD_eq_getElem?_getD, List.getElem?_drop]; rfl
 have g1 : ds.getD (i + 1) 0 = (ds.drop i).getD 1 0 := by rw [List.getD_eq_getElem?_getD, List.getD_eq_getElem?_getD, List.getElem?_drop]
 have g2 : ds.drop (i + 2) = (ds.drop i).drop 2 := by rw [List.drop_drop]
 rw [g0, g1, g2]
 match ds.drop i with
 | [] => rfl
 | [u] => simp [dv]
 | u :: v :: t => simp only [dv, List.getD_cons_zero, List.getD_cons_succ, List.drop_succ_cons, List.drop_zero]; omega
theorem right_step {D s i u v w Z : Nat} (hs : s < 32) (hZ : D / 4294967296 ^ i = u + 4294967296 * v + 18446744073709551616 * Z) (hw : w = (u + v * 4294967296) / 2 ^ s % 4294967296) : (D / 2 ^ s) % 4294967296 ^ (i + 1) = (D / 2 ^ s) % 4294967296 ^ i + 4294967296 ^ i * w := by
 rw [Nat.pow_succ, Nat.mod_mul]
 congr 2
 rw [Nat.div_div_eq_div_mul, Nat.mul_comm (2 ^ s), ← Nat.div_div_eq_div_mul, hZ, hw]
 have h1 : 18446744073709551616 = 2 ^ s * (2 ^ (32 - s) * 4294967296) := by rw [← Nat.mul_assoc, pow32s hs]
 rw [h1, Nat.mul_assoc (2 ^ s), Nat.add_mul_div_left _ _ (Nat.pow_pos (by decide)), Nat.mul_comm v]
 rw [Nat.mul_comm (2 ^ (32 - s)), Nat.mul_assoc, Nat.add_mul_mod_self_left]
theorem right_end {a k : Nat} {W : List Nat} {q s : Nat} (hq : q = k / 32) (hs : s = k % 32) (hl : W.length = (dg a).length - q) (h : dv (W.take ((dg a).length - q)) = (dv ((dg a).drop q) / 2 ^ s) % 4294967296 ^ ((dg a).length - q)) : dv W = a / 2 ^ k := by
 rw [take_all (by omega)] at h
 have h1 := dv_lt ((dg_ok a).drop q)
 rw [List.length_drop] at h1
 have h2 := Nat.div_le_self (dv ((dg a).drop q)) (2 ^ s)
 rw [h, Nat.mod_eq_of_lt (by omega), dv_dropD (dg_ok a), dv_dg, pow32k k, ← hq, ← hs, Nat.div_div_eq_div_mul]
set_option maxHeartbeats 2000000 in
theorem q_Right {GB : Gh} {a k ia : Nat} [ha : BN a ia] (hk : k ≤ 1000000000) (hi : ia ≤ 1000000000 := by decide) : PF GB Tryz.prog 204 [dN a, vI (k : Nat)] (dN (a / 2 ^ k)) := by
 have hla := mapU_len (dg a)
 have hba := dg_len_bd ha.h hi
 refine fn (fu := ⟨10⟩) Tryz.func204 rfl rfl Tryz.ntmps204 rfl rfl (fun C => ?_)
 refine eqF 12 (.d (vI (k / 32 : Nat))) rfl (by show FX.d (.v (.int _ _)) = .d (.v (.int _ _)); rw [quo32 hk]) ?_
 refine gx (fu := ⟨2⟩) rfl <| ?_
 refine eqF 14 (.d (vI ((dg a).length : Nat))) rfl (by rw [hla]; rfl) ?_
 refine gx rfl <| ?_
 refine br (fu2 := ⟨6⟩) (v2 := fun _ => by simp only [allP]; exact (by decide)) rfl rfl rfl (fun hc15 => ?_) (fun hc15 => ?_)
 ·
  exact rz rfl (by rw [right_zero (by omega), dN_zero]; rfl)
 ·
  refine eqF 17 (.d (vI (k % 32 : Nat))) rfl (by show FX.d (.v (.int _ _)) = .d (.v (.int _ _)); rw [rem32]) ?_
  refine gx (fu := ⟨9⟩) rfl <| ?_
  refine eqF 21 (.d (vI (k / 32 : Nat))) rfl (by show FX.d (.v (.int _ _)) = .d (.v (.int _ _)); rw [quo32 hk]) ?_
  refine gx rfl <| sc' (fu := ⟨0⟩) (k / 32) (dg a).length _ rfl rfl (by rw [hla]) rfl (slOkU _) (by omega) (by omega) rfl <| ?_
  obtain ⟨I, hI⟩ : ∃ I, I = (dg a).drop (k / 32) := ⟨_, rfl⟩
  have hIl : I.length = (dg a).length - k / 32 := by rw [hI, List.length_drop]
  have hIm := mapU_len I
  have hIo : DOk I := hI ▸ (dg_ok a).drop _
  refine eqF 22 (.d (dLi I)) rfl (by show FX.d (.sl _) = .d (.sl _); rw [hI, ← hla, List.take_length, List.map_drop]) ?_
  refine gx (fu := ⟨7⟩) rfl <| ?_
  refine eqF 24 (.d (vI (I.length : Nat))) rfl (by rw [hIm]; rfl) ?_
  refine gx rfl <| mk (fu := ⟨8⟩) ((List.replicate I.length 0).map dU) rfl rfl (by rw [← mapU_rep]; rfl) rfl <| ?_
  refine eqF 27 (.d (vI (I.length : Nat))) rfl (by rw [hIm]; rfl) ?_
  refine gx rfl <| ?_
  refine lp (X := List Nat × Nat) (fun ⟨W, i⟩ => [(0, .d (dN a)), (5, .d (.v (.int .u64 (k % 32 : Nat)))), (6, .d (dLi I)), (7, .rw 25), (26, .d (dLi I)), (27, .d (vI (I.length : Nat))), (28, .d (vI (i : Nat)))]) (fun ⟨W, i⟩ => [(25, some (.b 224 1 (W.map dU) true))]) (fun ⟨W, i⟩ => W.length = I.length ∧ DOk W ∧ i ≤ I.length ∧ dv (W.take i) = (dv I / 2 ^ (k % 32)) % 4294967296 ^ i) (fun ⟨W, i⟩ => I.length - i) ⟨List.replicate I.length 0, 0⟩ rfl ⟨by simp, .replicate _, by omega, by simp [dv, Nat.mod_one]⟩ (fun _ => rfl) (fun ⟨W, i⟩ hk => ?_)
  dsimp only at hk ⊢
  obtain ⟨h1, h2, h3, h4⟩ := hk
  have hlw := mapU_len W
  have hda := hIo.get i
  have hdb := hIo.get (i + 1)
  have hsk : k % 32 < 32 := Nat.mod_lt _ (by decide)
  refine br rfl rfl rfl (fun hc29 => ?_) (fun hc29 => ?_)
  ·
   refine ix (fu := ⟨13⟩) _ rfl (mapU_getI (by omega)) rfl <| ?_
   refine mg (fu := ⟨6⟩) (hv := fun _ _ => by simp only [allP]; exact (by omega)) (X := Unit) (fun _ => [(0, .d (dN a)), (5, .d (.v (.int .u64 (k % 32 : Nat)))), (6, .d (dLi I)), (7, .rw 25), (26, .d (dLi I)), (27, .d (vI (I.length : Nat))), (28, .d (vI (i : Nat))), (8, .d (vI (i : Nat))), (10, .d (.v (.int .u64 (I.getD i 0 + I.getD (i + 1) 0 * 4294967296 : Nat))))]) (fun _ => [(25, some (.b 224 1 (W.map dU) true))]) (fun _ => True) [0, 5, 6, 7, 26, 27, 28, 8, 10] [25] rfl ?_ (fun _ => rfl) (fun _ hm => ?_)
   ·
    refine gx (fu := ⟨6⟩) rfl <| ?_
    refine eqF 38 (.d (vI (I.length : Nat))) rfl (by rw [hIm]; rfl) ?_
    refine gx rfl <| ?_
    refine br rfl rfl rfl (fun hc39 => ?_) (fun hc39 => ?_)
    ·
     refine ix (fu := ⟨3⟩) (hv := by simp only [allP]; exact ⟨by omega, (by decide)⟩) _ rfl (mapU_getZ (k := i + 1) (by omega) (by omega)) rfl <| ?_
     refine eqF 47 (.d (.v (.int .u64 (I.getD (i + 1) 0 * 4294967296 : Nat)))) rfl (by show FX.d (.v (.int _ _)) = .d (.v (.int _ _)); rw [shl_u64 _ 32 (by decide) (by show _ * 4294967296 < _; omega) rfl]) ?_
     refine gx (fu := ⟨1⟩) rfl <| ?_
     refine eqF 48 _ rfl (congrArg (fun z : Nat => FX.d (.v (.int .u64 (z : Int)))) (bv_or 64 (I.getD i 0) (I.getD (i + 1) 0) 32 hda (by show _ + _ * 4294967296 < 18446744073709551616; omega))) ?_
     refine gx rfl <| ?_
     exact at_ () trivial
    ·
     refine eqF 10 (.d (.v (.int .u64 (I.getD i 0 + I.getD (i + 1) 0 * 4294967296 : Nat)))) rfl (by rw [getD_out (by omega : I.length ≤ i + 1), Nat.zero_mul, Nat.add_zero]) ?_
     exact at_ () trivial
   ·
    refine eqF 53 (.d (.v (.int .u64 ((I.getD i 0 + I.getD (i + 1) 0 * 4294967296) / 2 ^ (k % 32) : Nat)))) rfl (by show FX.d (.v (.int _ _)) = .d (.v (.int _ _)); rw [shr_u64 _ (k % 32) (by omega) (by omega)]) ?_
    refine gx (fu := ⟨1⟩) rfl <| ?_
    obtain ⟨w, hw⟩ : ∃ w, w = (I.getD i 0 + I.getD (i + 1) 0 * 4294967296) / 2 ^ (k % 32) % 4294967296 := ⟨_, rfl⟩
    have hw1 : w < 4294967296 := hw ▸ Nat.mod_lt _ (by decide)
    refine eqF 54 (.d (dU w)) rfl (by show FX.d (.v (.int _ _)) = .d (.v (.int _ _)); rw [hw]; congr 3) ?_
    refine gx rfl <| sb _ ((W.set i w).map dU) rfl (mapU_getI (by omega)) rfl (by (rw [← mapU_set]; rfl) <;> rfl) rfl <| ?_
    exact at_ ⟨W.set i w, i + 1⟩ (by dsimp only; exact ⟨⟨by simpa using h1, h2.set _ (by omega), by omega, by rw [dv_set_take (by omega), h4]; exact (right_step hsk (dv_two hIo i) hw).symm⟩, (by omega)⟩)
  ·
   refine fz 25 rfl rfl <| cl rfl (q_Trim (ds := W) (by omega)) rfl <| ?_
   exact rz rfl (dL_trim h2 (by obtain rfl : i = I.length := (by omega); rw [hIl] at h1 h4; rw [hI] at h4; exact right_end rfl rfl h1 h4))
theorem dg_len_of {a k : Nat} (h : a < 4294967296 ^ k) : (dg a).length ≤ k := by
 rcases Nat.lt_or_ge k (dg a).length with q | q
 · have h1 := nrm_ge (dg_spec a).2.2 (by intro e; rw [e] at q; simp at q)
   rw [dv_dg] at h1
   have h2 : 4294967296 ^ k ≤ 4294967296 ^ ((dg a).length - 1) := Nat.pow_le_pow_right (by decide) (by omega)
   omega
 · exact q
theorem word_two {a : Nat} (h : (dg a).length = 2) : (dg a).getD 0 0 + (dg a).getD 1 0 * 4294967296 = a := by
 have e := dv_dg a
 revert e
 match dg a, h with
 | [x, y], _ => intro e; simp [dv] at e ⊢; omega
def wordV (a : Nat) : DV := .tp [.v (.int .u64 ((if a < 18446744073709551616 then a else 0 : Nat) : Int)), vB (decide (a < 18446744073709551616))]
theorem wordV_lt {a : Nat} (h : a < 18446744073709551616) : wordV a = .tp [.v (.int .u64 (a : Int)), vB true] := by unfold wordV; rw [if_pos h, decide_eq_true h]
theorem wordV_ge {a : Nat} (h : ¬ a < 18446744073709551616) : wordV a = .tp [.v (.int .u64 0), vB false] := by unfold wordV; rw [if_neg h, decide_eq_false h]; rfl
theorem dg_lt_pow (a : Nat) : a < 4294967296 ^ (dg a).length := by have := dv_lt (dg_ok a); rwa [dv_dg] at this
set_option maxHeartbeats 1000000 in
theorem q_word {GB : Gh} {a ia : Nat} [ha : BN a ia] (hi : ia ≤ 1000000000 := by decide) : PF GB Tryz.prog 120 [dN a] (wordV a) := by
 have hla := mapU_len (dg a)
 have hba := dg_len_bd ha.h hi
 have hlt := dg_lt_pow a
 have hd00 := dg_lt a 0
 refine fn (fu := ⟨11⟩) Tryz.func120 rfl rfl Tryz.ntmps120 rfl rfl (fun C => ?_)
 refine eqF 5 (.d (vI ((dg a).length : Nat))) rfl (by rw [hla]; rfl) ?_
 refine gx rfl <| ?_
 refine br rfl rfl rfl (fun hc6 => ?_) (fun hc6 => ?_)
 ·
  exact rz rfl (by rw [show (dg a).length = 0 by omega] at hlt; obtain rfl : a = 0 := (by omega); rfl)
 ·
  refine br rfl rfl rfl (fun hc8 => ?_) (fun hc8 => ?_)
  ·
   refine ix (fu := ⟨2⟩) _ rfl (mapU_getZ (k := 0) rfl (by omega)) rfl <| ?_
   refine eqF 13 (.d (.v (.int .u64 (a : Nat)))) rfl (by rw [dg_one_digit (by omega)]) ?_
   refine gx rfl <| ?_
   exact rz rfl (by rw [show (dg a).length = 1 by omega] at hlt; rw [wordV_lt (by omega), ← dg_one_digit (a := a) (by omega), dg_one_digit (a := a) (by omega)]; rfl)
  ·
   refine br rfl rfl rfl (fun hc14 => ?_) (fun hc14 => ?_)
   ·
    have hd0 := dg_lt a 0
    have hd1 := dg_lt a 1
    refine ix (hv := by simp only [allP]; exact ⟨by omega, (by decide)⟩) _ rfl (mapU_getZ (k := 1) rfl (by omega)) rfl <| ix (fu := ⟨3⟩) _ rfl (mapU_getZ (k := 0) rfl (by omega)) rfl <| ?_
    refine eqF 25 (.d (.v (.int .u64 (a : Nat)))) rfl (congrArg (fun z : Nat => FX.d (.v (.int .u64 (z : Int)))) (by rw [shl_u64 _ 32 (by decide) (by show _ * 4294967296 < _; omega) rfl, BitVec.or_comm]; exact (bv_or 64 ((dg a).getD 0 0) ((dg a).getD 1 0) 32 hd0 (by show _ + _ * 4294967296 < 18446744073709551616; omega)).trans (word_two (by omega)))) ?_
    refine gx rfl <| ?_
    exact rz rfl (by rw [show (dg a).length = 2 by omega] at hlt; rw [wordV_lt (by omega)]; rfl)
   ·
    exact rz rfl (by rw [wordV_ge]; rfl; intro h; have := dg_len_of (a := a) (k := 2) (by omega); omega)
end Go.Sx
end

section
set_option maxRecDepth 100000
namespace Go.Sx
open Go Go.Proofs
theorem q_Div32 {GB : Gh} {h l y : Nat} (hh : h < y) (hl : l < 4294967296) (hy : y < 4294967296) : PF GB Tryz.prog 164 [.v (.int .u32 (h : Int)), .v (.int .u32 (l : Int)), .v (.int .u32 (y : Int))] (.tp [dU ((h * 4294967296 + l) / y), dU ((h * 4294967296 + l) % y)]) := by
 refine fn (fu := ⟨11⟩) Tryz.func164 rfl rfl Tryz.ntmps164 rfl rfl (fun C => ?_)
 refine kT 10 rfl (by omega) ?_
 refine gx (fu := ⟨4⟩) rfl <| ?_
 refine kF 14 rfl (by omega) ?_
 refine gx (fu := ⟨11⟩) (hv := by simp only [allP]; exact ⟨by omega, (by decide)⟩) rfl <| ?_
 refine eqF 19 (.d (.v (.int .u64 (h * 2 ^ 32 : Nat)))) rfl (by show FX.d (.v (.int _ _)) = .d (.v (.int _ _)); rw [shl_u64 _ 32 (by decide) (by show _ * 4294967296 < _; omega) rfl]) ?_
 refine gx (fu := ⟨3⟩) rfl <| ?_
 refine eqF 22 (.d (.v (.int .u64 (l + h * 2 ^ 32 : Nat)))) rfl (congrArg (fun z : Nat => FX.d (.v (.int .u64 (z : Int)))) (by rw [BitVec.or_comm]; exact bv_or 64 l h 32 hl (by show _ + _ * 4294967296 < 18446744073709551616; omega))) ?_
 obtain ⟨t, ht⟩ : ∃ t, t = h * 4294967296 + l := ⟨_, rfl⟩
 have hq : t / y < 4294967296 := by rw [Nat.div_lt_iff_lt_mul (by omega)]; have := Nat.mul_le_mul_left 4294967296 (show h + 1 ≤ y from hh); omega
 have hr : t % y < y := Nat.mod_lt _ (by omega)
 refine eqF 22 (.d (.v (.int .u64 (t : Nat)))) rfl (by show FX.d (.v (.int _ _)) = .d (.v (.int _ _)); congr 3; rw [ht]; omega) ?_
 refine gx (hv := by simp only [allP]; exact ⟨⟨⟨⟨by omega, ⟨(by omega), (by omega), (by omega)⟩⟩, by omega⟩, ⟨(by omega), (by omega)⟩⟩, by kernel_rfl⟩) rfl <| ?_
 exact rz rfl (by show DV.tp [.v (.int _ _), .v (.int _ _)] = .tp [.v (.int _ _), .v (.int _ _)]; rw [← ht, ← Int.natCast_ediv, ← Int.natCast_emod]; generalize t / y = q at *; generalize t % y = r at *; congr 4 <;> (first | omega | (congr 3; omega)))
theorem div_dig {A r i b : Nat} (d : Nat) (hb : 0 < b) : (A * 4294967296 + d) / b = A / b * 4294967296 + (A % b * 4294967296 + d) / b ∧ (A * 4294967296 + d) % b = (A % b * 4294967296 + d) % b := by
 have h := Nat.div_add_mod A b
 have e : A * 4294967296 + d = (A % b * 4294967296 + d) + b * (A / b * 4294967296) := by
  rw [← Nat.mul_assoc, Nat.add_right_comm, ← Nat.add_mul, Nat.add_comm (A % b), h]
 rw [e, Nat.add_mul_div_left _ _ hb, Nat.add_mul_mod_self_left]
 exact ⟨Nat.add_comm _ _, rfl⟩
theorem drop_dig {ds : List Nat} {i : Nat} (h : i < ds.length) : dv (ds.drop i) = dv (ds.drop (i + 1)) * 4294967296 + ds.getD i 0 := by
 rw [List.drop_eq_getElem_cons h, List.getD_eq_getElem?_getD, List.getElem?_eq_getElem h]
 simp only [dv, Option.getD_some]; omega
theorem drop_set_dig {W : List Nat} {i q : Nat} (h : i < W.length) : dv ((W.set i q).drop i) = dv (W.drop (i + 1)) * 4294967296 + q := by
 rw [drop_dig (by rw [List.length_set]; exact h), List.drop_set_of_lt (by omega), getD_set_eq h]
theorem short_inv {a b k : Nat} {W : List Nat} (hb : 0 < b) (hk : k < (dg a).length) (hl : W.length = (dg a).length) (h : dv (W.drop (k + 1)) = dv ((dg a).drop (k + 1)) / b) :
  dv ((W.set k ((dv ((dg a).drop (k + 1)) % b * 4294967296 + (dg a).getD k 0) / b)).drop k) = dv ((dg a).drop k) / b ∧ dv ((dg a).drop k) % b = (dv ((dg a).drop (k + 1)) % b * 4294967296 + (dg a).getD k 0) % b := by
 have := div_dig (A := dv ((dg a).drop (k + 1))) (r := 0) (i := 0) ((dg a).getD k 0) hb
 rw [drop_set_dig (by omega), h, drop_dig hk, this.1, this.2]
 exact ⟨rfl, rfl⟩
theorem cmpN_neg {a b : Nat} : cmpN a b < 0 ↔ a < b := by unfold cmpN; split <;> (try split) <;> omega
theorem cmpN_pos {a b : Nat} : 0 < cmpN a b ↔ b < a := by unfold cmpN; split <;> (try split) <;> omega
theorem q_lz32 {GB : Gh} {x : Nat} (hx : x < 4294967296) : PF GB Tryz.prog 202 [dU x] (vI (32 - (bl x : Int))) := by
 intro G vs hg hv
 obtain ⟨v, m, rfl, h1, h2⟩ := isl_cons.1 hv
 rw [isl_nil] at h2; subst h2
 rw [is_v.1 h1]
 exact (bits_lz32 hx).mono fun v G' _ h => is_v.2 h
theorem dg_len_ge {a k : Nat} (h : 4294967296 ^ k ≤ a) : k < (dg a).length := by
 have h1 := dg_lt_pow a
 rcases Nat.lt_or_ge k (dg a).length with q | q
 · exact q
 · have : 4294967296 ^ (dg a).length ≤ 4294967296 ^ k := Nat.pow_le_pow_right (by decide) q
   omega
theorem dg_top {v L : Nat} (hL : L = (dg v).length) (h1 : 1 ≤ L) : (dg v).getD (L - 1) 0 = v / 4294967296 ^ (L - 1) ∧ 0 < v / 4294967296 ^ (L - 1) := by
 have h := dv_two (dg_ok v) (L - 1)
 rw [getD_out (by omega : (dg v).length ≤ L - 1 + 1), dv_dg, Nat.mul_zero, Nat.add_zero] at h
 have h2 := dg_lt_pow v
 rw [← hL] at h2
 rw [Nat.div_eq_of_lt (show v < 4294967296 ^ (L - 1 + 2) from Nat.lt_of_lt_of_le h2 (Nat.pow_le_pow_right (by decide) (by omega))), Nat.mul_zero, Nat.add_zero] at h
 have h3 := nrm_ge (dg_spec v).2.2 (by intro e; rw [e] at hL; simp at hL; omega)
 rw [dv_dg, ← hL] at h3
 exact ⟨h.symm, Nat.div_pos h3 (Nat.pow_pos (by decide))⟩
theorem lead_eq {R n : Nat} (h1 : 1 ≤ n) (h : R < 4294967296 ^ (n + 1)) : R / 4294967296 ^ (n - 1) = (dg R).getD (n - 1) 0 + (dg R).getD n 0 * 4294967296 := by
 have e := dv_two (dg_ok R) (n - 1)
 rw [dv_dg, show n - 1 + 1 = n by omega, Nat.div_eq_of_lt (show R < 4294967296 ^ (n - 1 + 2) by rwa [show n - 1 + 2 = n + 1 by omega]), Nat.mul_zero, Nat.add_zero, Nat.mul_comm] at e
 exact e
theorem guess_ge {R v j L : Nat} (hL : L = (dg v).length) (h1 : 1 ≤ L) (hR : R < v * 4294967296 ^ (j + 1)) : R / (v * 4294967296 ^ j) ≤ min (R / 4294967296 ^ (L + j - 1) / (v / 4294967296 ^ (L - 1))) 4294967295 := by
 have ht := (dg_top hL h1).2
 have hp : 0 < 4294967296 ^ j := Nat.pow_pos (by decide)
 have hv0 : 0 < v := by
   rcases Nat.eq_zero_or_pos v with q | q
   · subst q; simp at ht
   · exact q
 have hvp : 0 < v * 4294967296 ^ j := Nat.mul_pos hv0 hp
 refine Nat.le_min.2 ⟨?_, ?_⟩
 · rw [Nat.le_div_iff_mul_le ht, Nat.le_div_iff_mul_le (Nat.pow_pos (by decide))]
   have h3 : v / 4294967296 ^ (L - 1) * 4294967296 ^ (L - 1) ≤ v := Nat.div_mul_le_self _ _
   have h4 : R / (v * 4294967296 ^ j) * (v * 4294967296 ^ j) ≤ R := Nat.div_mul_le_self _ _
   rw [show L + j - 1 = L - 1 + j by omega, Nat.pow_add]
   calc R / (v * 4294967296 ^ j) * (v / 4294967296 ^ (L - 1)) * (4294967296 ^ (L - 1) * 4294967296 ^ j)
       = R / (v * 4294967296 ^ j) * ((v / 4294967296 ^ (L - 1) * 4294967296 ^ (L - 1)) * 4294967296 ^ j) := by simp only [Nat.mul_assoc]
     _ ≤ R / (v * 4294967296 ^ j) * (v * 4294967296 ^ j) := Nat.mul_le_mul_left _ (Nat.mul_le_mul_right _ h3)
     _ ≤ R := h4
 · have : R / (v * 4294967296 ^ j) < 4294967296 := by
     rw [Nat.div_lt_iff_lt_mul hvp]
     rw [Nat.pow_succ] at hR
     rwa [Nat.mul_comm, Nat.mul_assoc]
   omega
theorem guess_down {R V g : Nat} (hV : 0 < V) (h : R < V * g) : R / V < g := by
 rw [Nat.div_lt_iff_lt_mul hV, Nat.mul_comm]; exact h
theorem guess_eq {R V g : Nat} (hV : 0 < V) (h1 : R / V ≤ g) (h2 : V * g ≤ R) : g = R / V := by
 have : g ≤ R / V := by rw [Nat.le_div_iff_mul_le hV, Nat.mul_comm]; exact h2
 omega
theorem long_inv {R0 R v j g : Nat} {W : List Nat} (hj : j < W.length) (h : R0 = R + dv (W.drop (j + 1)) * 4294967296 ^ (j + 1) * v) (hv : 0 < v * 4294967296 ^ j) (hg : g = R / (v * 4294967296 ^ j)) :
  R0 = (R - v * 4294967296 ^ j * g) + dv ((W.set j g).drop j) * 4294967296 ^ j * v ∧ R - v * 4294967296 ^ j * g < v * 4294967296 ^ j := by
 have h1 := Nat.div_add_mod R (v * 4294967296 ^ j)
 have h2 := Nat.mod_lt R hv
 rw [← hg] at h1
 refine ⟨?_, by omega⟩
 rw [drop_set_dig hj, Nat.add_mul, Nat.add_mul, h, Nat.pow_succ]
 have e : g * 4294967296 ^ j * v = v * 4294967296 ^ j * g := by simp only [Nat.mul_assoc, Nat.mul_left_comm, Nat.mul_comm]
 have e2 : dv (W.drop (j + 1)) * (4294967296 ^ j * 4294967296) * v = dv (W.drop (j + 1)) * 4294967296 * 4294967296 ^ j * v := by simp only [Nat.mul_assoc, Nat.mul_left_comm, Nat.mul_comm]
 rw [e, e2]
 omega
theorem long_end {a b s R : Nat} {D : Nat} (hR : R < b * 2 ^ s) (h : a * 2 ^ s = R + D * (b * 2 ^ s)) : D = a / b ∧ R / 2 ^ s = a % b := by
 have hp : 0 < 2 ^ s := Nat.pow_pos (by decide)
 have hb : 0 < b := by
   rcases Nat.eq_zero_or_pos b with q | q
   · subst q; simp at hR
   · exact q
 have h1 : a = R / 2 ^ s + D * b := by
   have := congrArg (· / 2 ^ s) h
   rw [Nat.mul_div_cancel _ hp, ← Nat.mul_assoc, Nat.add_mul_div_right _ _ hp] at this
   exact this
 have h2 : R / 2 ^ s < b := by rw [Nat.div_lt_iff_lt_mul hp]; exact hR
 have h3 : R / 2 ^ s + b * D = a := by rw [Nat.mul_comm b]; exact h1.symm
 have := (Nat.div_mod_unique hb).2 ⟨h3, h2⟩
 exact ⟨this.1.symm, this.2.symm⟩
theorem long_start {a b s : Nat} (hl : (dg b).length ≤ (dg a).length) (h2 : 1 ≤ (dg b).length) : a * 2 ^ s < b * 2 ^ s * 4294967296 ^ ((dg a).length - (dg b).length + 1) := by
 have h1 := dg_lt_pow a
 have h3 := nrm_ge (dg_spec b).2.2 (by intro e; rw [e] at h2; simp at h2)
 rw [dv_dg] at h3
 have h4 : 4294967296 ^ (dg a).length ≤ b * 4294967296 ^ ((dg a).length - (dg b).length + 1) := by
  rw [show (dg a).length = ((dg b).length - 1) + ((dg a).length - (dg b).length + 1) by omega, Nat.pow_add]
  rw [show (dg b).length - 1 + ((dg a).length - (dg b).length + 1) - (dg b).length + 1 = (dg a).length - (dg b).length + 1 by omega]
  exact Nat.mul_le_mul_right _ h3
 rw [Nat.mul_right_comm]
 exact Nat.mul_lt_mul_of_pos_right (Nat.lt_of_lt_of_le h1 h4) (Nat.pow_pos (by decide))
theorem left32 (x j : Nat) : x * 2 ^ (32 * j) = x * 4294967296 ^ j := by rw [Nat.pow_mul]
theorem lead_lt {R L j : Nat} (h : R < 4294967296 ^ (L + j + 1)) (h1 : 1 ≤ L) : R / 4294967296 ^ (L + j - 1) < 18446744073709551616 := by
 rw [Nat.div_lt_iff_lt_mul (Nat.pow_pos (by decide)), show (18446744073709551616 : Nat) = 4294967296 ^ 2 from rfl, ← Nat.pow_add]
 rwa [show 2 + (L + j - 1) = L + j + 1 by omega]
theorem long_len {R v j L : Nat} (hL : L = (dg v).length) (hR : R < v * 4294967296 ^ (j + 1)) : R < 4294967296 ^ (L + j + 1) := by
 have h := dg_lt_pow v
 rw [← hL] at h
 rw [Nat.add_assoc, Nat.pow_add]
 exact Nat.lt_of_lt_of_le hR (Nat.mul_le_mul_right _ (Nat.le_of_lt h))
set_option maxHeartbeats 4000000 in
theorem q_long {GB : Gh} {a b ia ib : Nat} [ha : BN a ia] [hb : BN b ib] (hi : ia ≤ 500000000) (hj : ib ≤ 500000000) (h2 : 1 ≤ (dg b).length) (hl : (dg b).length ≤ (dg a).length) : PF GB Tryz.prog 165 [dN a, dN b] (.tp [dN (a / b), dN (a % b)]) := by
 have hla := mapU_len (dg a)
 have hlb := mapU_len (dg b)
 have hba := dg_len_le ha.h
 have hba' : (dg a).length ≤ 20000000 := by omega
 refine fn Tryz.func165 rfl rfl Tryz.ntmps165 rfl rfl (fun C => ?_)
 refine ix _ rfl (mapU_getZ (k := (dg b).length - 1) (by omega) (by omega)) rfl <| cl (fu := ⟨0⟩) rfl (q_lz32 (dg_lt b ((dg b).length - 1))) rfl <| ?_
 obtain ⟨s, hs⟩ : ∃ s : Nat, s = 32 - bl ((dg b).getD ((dg b).length - 1) 0) := ⟨_, rfl⟩
 have hs32 : s ≤ 32 := by omega
 refine eqF 22 (.d (vI (s : Nat))) rfl (by show FX.d (.v (.int _ _)) = .d (.v (.int _ _)); congr 3; have := bl_le.2 (show (dg b).getD ((dg b).length - 1) 0 < 2 ^ 32 from dg_lt b _); omega) ?_
 refine gx rfl <| cl rfl (q_Left (a := b) (k := s) (ia := ib) (by omega) (by omega)) rfl <| cl (fu := ⟨0⟩) rfl (q_Left (a := a) (k := s) (ia := ia) (by omega) (by omega)) rfl <| ?_
 obtain ⟨v, hv⟩ : ∃ v, v = b * 2 ^ s := ⟨_, rfl⟩
 obtain ⟨R0, hR0⟩ : ∃ R0, R0 = a * 2 ^ s := ⟨_, rfl⟩
 refine eqF 25 (.d (dN v)) rfl (by rw [hv]) ?_
 refine eqF 28 (.d (dN R0)) rfl (by rw [hR0]) ?_
 obtain ⟨L, hL⟩ : ∃ L, L = (dg v).length := ⟨_, rfl⟩
 have hlv : ((dg v).map dU).length = L := by rw [mapU_len, hL]
 have hps : 2 ^ s ≤ 2 ^ 32 := Nat.pow_le_pow_right (by decide) hs32
 have hpp : 0 < 2 ^ s := Nat.pow_pos (by decide)
 have hst := long_start (a := a) (b := b) (s := s) hl h2
 rw [← hv, ← hR0] at hst
 have hvb : v < 2 ^ (ib + 32) := by rw [hv, Nat.pow_add]; exact Nat.mul_lt_mul_of_lt_of_le hb.h hps (by decide)
 have hRb : R0 < 2 ^ (ia + 32) := by rw [hR0, Nat.pow_add]; exact Nat.mul_lt_mul_of_lt_of_le ha.h hps (by decide)
 have hbp : 0 < b := Nat.pos_of_ne_zero (fun q => by subst q; rw [dg_zero] at h2; simp at h2)
 have hvp : 0 < v := hv ▸ Nat.mul_pos hbp hpp
 have hLp : 1 ≤ L := by rw [hL]; exact dg_len_ge (k := 0) (by rw [Nat.pow_zero]; exact hvp)
 have htop := dg_top hL hLp
 haveI hvB : BN v (ib + 32) := ⟨hvb⟩
 have hLb := dg_len_le hvb
 have hLb' : L ≤ 20000000 := by omega
 have htl := dg_lt v (L - 1)
 refine gx (fu := ⟨9⟩) rfl <| ?_
 refine eqF 31 (.d (vI (L : Nat))) rfl (by rw [hlv]; rfl) ?_
 refine gx rfl <| ix (fu := ⟨2⟩) _ rfl (mapU_getZ (k := L - 1) (by omega) (by omega)) rfl <| ?_
 refine eqF 35 (.d (.v (.int .u64 (v / 4294967296 ^ (L - 1) : Nat)))) rfl (by rw [htop.1]) ?_
 rw [htop.1] at htl
 refine gx (fu := ⟨11⟩) rfl <| ?_
 obtain ⟨m, hm⟩ : ∃ m, m = (dg a).length - (dg b).length + 1 := ⟨_, rfl⟩
 rw [← hm] at hst
 have hrl : (List.replicate ((m : Nat) : Int).toNat (DV.v (.int .u32 0))).length = m := by rw [List.length_replicate, Int.toNat_natCast]
 refine eqF 41 (.d (vI (m : Nat))) rfl (by show FX.d (.v (.int _ _)) = .d (.v (.int _ _)); congr 3; omega) ?_
 refine gx rfl <| mk ((List.replicate m 0).map dU) rfl rfl (by rw [← mapU_rep]; rfl) rfl <| ?_
 refine lp (X := List Nat × Nat × Nat) (fun ⟨W, R, k⟩ => [(6, .d (vI (s : Nat))), (7, .d (dN v)), (8, .d (dN R)), (9, .d (.v (.int .u64 (v / 4294967296 ^ (L - 1) : Nat)))), (10, .rw 42), (11, .d (vI ((k : Nat) - 1)))]) (fun ⟨W, R, k⟩ => [(42, some (.b 224 1 (W.map dU) true))]) (fun ⟨W, R, k⟩ => W.length = m ∧ DOk W ∧ k ≤ m ∧ R0 = R + dv (W.drop k) * 4294967296 ^ k * v ∧ R < v * 4294967296 ^ k ∧ R ≤ R0) (fun ⟨W, R, k⟩ => k) ⟨List.replicate m 0, R0, m⟩ rfl ⟨by simp, .replicate _, Nat.le_refl _, by simp [dv], hst, Nat.le_refl _⟩ (fun _ => rfl) (fun ⟨W, R, k⟩ hk => ?_)
 dsimp only at hk ⊢
 obtain ⟨h1, h2', h3, h4, h5, h6⟩ := hk
 have hlw := mapU_len W
 refine br (fu1 := ⟨10⟩) rfl rfl rfl (fun hc47 => ?_) (fun hc47 => ?_)
 ·
  obtain ⟨j, rfl⟩ : ∃ j, k = j + 1 := ⟨k - 1, by omega⟩
  have hvj : 0 < v * 4294967296 ^ j := Nat.mul_pos hvp (Nat.pow_pos (by decide))
  have hge := guess_ge hL hLp h5
  have hlen := long_len hL h5
  have hlr : ((dg R).map dU).length = (dg R).length := mapU_len _
  haveI hRB : BN R (ia + 32) := ⟨by omega⟩
  have hq32 : R / (v * 4294967296 ^ j) < 4294967296 := by omega
  have hz1 := Int.natCast_nonneg (R / 4294967296 ^ (L + j - 1))
  have hz2 := Int.natCast_nonneg (R / 4294967296 ^ (L + j - 1) / (v / 4294967296 ^ (L - 1)))
  refine eqF 11 (.d (vI (j : Nat))) rfl (by show FX.d (.v (.int _ _)) = .d (.v (.int _ _)); congr 3; omega) ?_
  refine mg (fu := ⟨6⟩) (hv := fun _ _ => by simp only [allP]; exact ⟨(by omega), (by have := lead_lt hlen hLp; omega), (by omega)⟩) (X := Unit) (fun _ => [(6, .d (vI (s : Nat))), (7, .d (dN v)), (8, .d (dN R)), (9, .d (.v (.int .u64 (v / 4294967296 ^ (L - 1) : Nat)))), (10, .rw 42), (11, .d (vI (j : Nat))), (12, .d (.v (.int .u64 (R / 4294967296 ^ (L + j - 1) : Nat))))]) (fun _ => [(42, some (.b 224 1 (W.map dU) true))]) (fun _ => True) [6, 7, 8, 9, 10, 11, 12] [42] rfl ?_ (fun _ => rfl) (fun _ hm => ?_)
  ·
   refine gx (fu := ⟨4⟩) rfl <| ?_
   refine eqF 51 (.d (vI (L : Nat))) rfl (by rw [hlv]; rfl) ?_
   refine gx (fu := ⟨2⟩) rfl <| ?_
   refine eqF 53 (.d (vI (L + j : Nat))) rfl (by show FX.d (.v (.int _ _)) = .d (.v (.int _ _)); congr 3) ?_
   refine gx (fu := ⟨8⟩) rfl <| ?_
   refine eqF 56 (.d (vI ((dg R).length : Nat))) rfl (by rw [hlr]; rfl) ?_
   refine gx rfl <| ?_
   refine br (fu2 := ⟨6⟩) rfl rfl rfl (fun hc57 => ?_) (fun hc57 => ?_)
   ·
    have hd0 := dg_lt R (L + j - 1)
    have hd1 := dg_lt R (L + j)
    refine ix (hv := by simp only [allP]; exact ⟨⟨by omega, (by decide)⟩, by omega⟩) _ rfl (mapU_getZ (k := L + j) (by omega) (by omega)) rfl <| ix (fu := ⟨3⟩) _ rfl (mapU_getZ (k := L + j - 1) (by omega) (by omega)) rfl <| ?_
    refine eqF 70 (.d (.v (.int .u64 ((dg R).getD (L + j - 1) 0 + (dg R).getD (L + j) 0 * 4294967296 : Nat)))) rfl (congrArg (fun z : Nat => FX.d (.v (.int .u64 (z : Int)))) (by rw [shl_u64 _ 32 (by decide) (by show _ * 4294967296 < _; omega) rfl, BitVec.or_comm]; exact bv_or 64 ((dg R).getD (L + j - 1) 0) ((dg R).getD (L + j) 0) 32 hd0 (by show _ + _ * 4294967296 < 18446744073709551616; omega))) ?_
    refine gx rfl <| ?_
    refine eqF 12 (.d (.v (.int .u64 (R / 4294967296 ^ (L + j - 1) : Nat)))) rfl (by rw [lead_eq (by omega) hlen]) ?_
    exact at_ () trivial
   ·
    refine eqF 74 (.d (vI ((dg R).length : Nat))) rfl (by rw [hlr]; rfl) ?_
    refine gx rfl <| ?_
    refine br rfl rfl rfl (fun hc75 => ?_) (fun hc75 => ?_)
    ·
     have hd0 := dg_lt R (L + j - 1)
     refine ix _ rfl (mapU_getZ (k := L + j - 1) (by omega) (by omega)) rfl <| ?_
     refine eqF 12 (.d (.v (.int .u64 (R / 4294967296 ^ (L + j - 1) : Nat)))) rfl (by rw [lead_eq (by omega) hlen, getD_out (by omega : (dg R).length ≤ L + j), Nat.zero_mul, Nat.add_zero]) ?_
     exact at_ () trivial
    ·
     refine eqF 12 (.d (.v (.int .u64 (R / 4294967296 ^ (L + j - 1) : Nat)))) rfl (by rw [lead_eq (by omega) hlen, getD_out (by omega : (dg R).length ≤ L + j), getD_out (by omega : (dg R).length ≤ L + j - 1)]; rfl) ?_
     exact at_ () trivial
  ·
   obtain ⟨g0, hg0'⟩ : ∃ g0, g0 = min (R / 4294967296 ^ (L + j - 1) / (v / 4294967296 ^ (L - 1))) 4294967295 := ⟨_, rfl⟩
   rw [← hg0'] at hge
   have hg0 := hge
   have hg1 : g0 ≤ 4294967295 := by omega
   refine eqF 85 (.d (.v (.int .u64 (g0 : Nat)))) rfl (by show FX.d (.v (.int _ _)) = .d (.v (.int _ _)); congr 3; rw [← Int.natCast_ediv]; split <;> omega) ?_
   refine gx rfl <| cl rfl (q_Word (u := g0) (by omega)) rfl <| cl (fu := ⟨2⟩) rfl (q_Product (ia := ib + 32) (ib := 32) (hb := ⟨by show _ < 4294967296; omega⟩) (by omega) (by decide)) rfl <| ?_
   refine eqF 91 (.d (vI (32 * j : Nat))) rfl (by show FX.d (.v (.int _ _)) = .d (.v (.int _ _)); congr 3) ?_
   refine gx rfl <| cl (fu := ⟨0⟩) rfl (q_Left (k := 32 * j) (ia := ib + 64) (ha := ⟨by rw [show ib + 64 = ib + 32 + 32 by omega, Nat.pow_add]; exact Nat.mul_lt_mul'' hvb (by show _ < 4294967296; omega)⟩) (by omega) (by omega)) rfl <| ?_
   refine eqF 92 (.d (dN (v * 4294967296 ^ j * g0))) rfl (by rw [left32, Nat.mul_right_comm]) ?_
   refine gx rfl <| ?_
   refine lp (X := Nat) (fun g => [(6, .d (vI (s : Nat))), (7, .d (dN v)), (8, .d (dN R)), (9, .d (.v (.int .u64 (v / 4294967296 ^ (L - 1) : Nat)))), (10, .rw 42), (11, .d (vI (j : Nat))), (14, .d (.v (.int .u64 (g : Nat)))), (15, .d (dN (v * 4294967296 ^ j * g)))]) (fun g => [(42, some (.b 224 1 (W.map dU) true))]) (fun g => R / (v * 4294967296 ^ j) ≤ g ∧ g ≤ 4294967295) (fun g => g) g0 rfl ⟨hg0, by omega⟩ (fun _ => rfl) (fun g hk => ?_)
   obtain ⟨g1, g2⟩ := hk
   have hlw := mapU_len W
   refine cl rfl (q_Cmp (a := v * 4294967296 ^ j * g) (b := R) (by have := dg_len_of (a := v * 4294967296 ^ j * g) (k := L + j + 1) (by have h1 := dg_lt_pow v; rw [← hL] at h1; rw [Nat.pow_succ, Nat.pow_add]; exact Nat.mul_lt_mul'' (Nat.mul_lt_mul_of_pos_right h1 (Nat.pow_pos (by decide))) (by omega)); omega) (by have := dg_len_of hlen; omega)) rfl <| ?_
   refine br (fu1 := ⟨7⟩) (v1 := fun hc96 => by simp only [allP]; exact (by have h := guess_down hvj (cmpN_pos.1 hc96); have h1 : 1 ≤ g := Nat.lt_of_le_of_lt (Nat.zero_le _) h; omega)) (fu2 := ⟨11⟩) rfl rfl rfl (fun hc96 => ?_) (fun hc96 => ?_)
   ·
    have hgd := guess_down hvj (cmpN_pos.1 hc96)
    have hg1p : 1 ≤ g := Nat.lt_of_le_of_lt (Nat.zero_le _) hgd
    refine eqF 98 (.d (.v (.int .u64 ((g - 1 : Nat) : Int)))) rfl (by show FX.d (.v (.int _ _)) = .d (.v (.int _ _)); congr 3; omega) ?_
    refine gx rfl <| cl rfl (q_Word (u := g - 1) (by omega)) rfl <| cl (fu := ⟨2⟩) rfl (q_Product (ia := ib + 32) (ib := 32) (hb := ⟨by show _ < 4294967296; omega⟩) (by omega) (by decide)) rfl <| ?_
    refine eqF 104 (.d (vI (32 * j : Nat))) rfl (by show FX.d (.v (.int _ _)) = .d (.v (.int _ _)); congr 3) ?_
    refine gx rfl <| cl (fu := ⟨0⟩) rfl (q_Left (k := 32 * j) (ia := ib + 64) (ha := ⟨by rw [show ib + 64 = ib + 32 + 32 by omega, Nat.pow_add]; exact Nat.mul_lt_mul'' hvb (by show _ < 4294967296; omega)⟩) (by omega) (by omega)) rfl <| ?_
    refine eqF 105 (.d (dN (v * 4294967296 ^ j * (g - 1)))) rfl (by rw [left32, Nat.mul_right_comm]) ?_
    refine gx rfl <| ?_
    exact at_ (g - 1) ⟨⟨by have h := guess_down hvj (cmpN_pos.1 hc96); omega, by omega⟩, (by have := guess_down hvj (cmpN_pos.1 hc96); omega)⟩
   ·
    have hgq := guess_eq hvj g1 (Nat.le_of_not_lt fun q => hc96 (cmpN_pos.2 q))
    refine eqF 109 (.d (dU g)) rfl (by show FX.d (.v (.int _ _)) = .d (.v (.int _ _)); congr 3; omega) ?_
    refine gx rfl <| sb _ ((W.set j (R / (v * 4294967296 ^ j))).map dU) rfl (mapU_getZ (k := j) (by omega) (by omega)) rfl (by (rw [← hgq, Int.toNat_natCast, ← mapU_set]) <;> rfl) rfl <| ?_
    refine cl (fu := ⟨0⟩) rfl (q_Less (a := R) (b := v * 4294967296 ^ j * g) (ia := ia + 32) (by rw [hgq]; exact Nat.mul_div_le _ _) (by omega)) rfl <| ?_
    refine eqF 113 (.d (dN (R - v * 4294967296 ^ j * (R / (v * 4294967296 ^ j))))) rfl (by rw [hgq]) ?_
    refine gx rfl <| ?_
    exact at_ ⟨W.set j (R / (v * 4294967296 ^ j)), R - v * 4294967296 ^ j * (R / (v * 4294967296 ^ j)), j⟩ (by dsimp only; exact ⟨⟨by simpa using h1, h2'.set _ (by omega), by omega, (long_inv (by omega) h4 hvj rfl).1, (long_inv (by omega) h4 hvj rfl).2, by omega⟩, (by omega)⟩)
 ·
  obtain rfl : k = 0 := by omega
  rw [Nat.pow_zero, Nat.mul_one] at h5
  rw [Nat.pow_zero, Nat.mul_one, List.drop_zero, hR0, hv] at h4
  rw [hv] at h5
  have hend := long_end h5 h4
  haveI hRB : BN R (ia + 32) := ⟨by omega⟩
  refine fz 42 rfl rfl <| cl rfl (q_Trim (ds := W) (by omega)) rfl <| cl rfl (q_Right (a := R) (k := s) (ia := ia + 32) (by omega) (by omega)) rfl <| ?_
  exact rz rfl (by show DV.tp [dLi _, dN _] = .tp [dN _, dN _]; rw [dL_trim h2' hend.1, hend.2])
end Go.Sx
end

section
set_option maxRecDepth 100000
namespace Go.Sx
open Go Go.Proofs
theorem dg_len_mono {a b : Nat} (h : b ≤ a) : (dg b).length ≤ (dg a).length := dg_len_of (Nat.lt_of_le_of_lt h (dg_lt_pow a))
set_option maxHeartbeats 4000000 in
theorem q_Divide {GB : Gh} {a b ia ib : Nat} [ha : BN a ia] [hb : BN b ib] (hb0 : 0 < b) (hi : ia ≤ 500000000 := by decide) (hj : ib ≤ 500000000 := by decide) : PF GB Tryz.prog 121 [dN a, dN b] (.tp [dN (a / b), dN (a % b)]) := by
 have hla := mapU_len (dg a)
 have hlb := mapU_len (dg b)
 have hba := dg_len_le ha.h
 have hbb := dg_len_le hb.h
 have hba' : (dg a).length ≤ 20000000 := by omega
 have hbb' : (dg b).length ≤ 20000000 := by omega
 have hlb1 : 1 ≤ (dg b).length := dg_len_ge (k := 0) (by rw [Nat.pow_zero]; exact hb0)
 refine fn (fu := ⟨7⟩) Tryz.func121 rfl rfl Tryz.ntmps121 rfl rfl (fun C => ?_)
 refine mg (X := Unit) (fun _ => [(0, .d (dN a)), (1, .d (dN b))]) (fun _ => []) (fun _ => True) [0, 1] [] rfl ?_ (fun _ => rfl) (fun _ hm => ?_)
 ·
  refine gx rfl <| cl rfl (q_word (a := a) (ia := ia) (by omega)) rfl <| ?_
  refine bd (fu1 := ⟨0⟩) rfl rfl rfl (fun hc18 => ?_) (fun hc18 => ?_)
  ·
   refine eqF 6 (.d (.v (.int .u64 (a : Nat)))) rfl (by rw [if_pos hc18]) ?_
   refine gx rfl <| cl rfl (q_word (a := b) (ia := ib) (by omega)) rfl <| ?_
   refine bd (fu1 := ⟨0⟩) rfl rfl rfl (fun hc24 => ?_) (fun hc24 => ?_)
   ·
    refine eqF 8 (.d (.v (.int .u64 (b : Nat)))) rfl (by rw [if_pos hc24]) ?_
    have hdl := Nat.div_le_self a b
    have hml := Nat.mod_le a b
    refine gx (hv := by simp only [allP]; exact ⟨(by omega), (by omega), (by omega)⟩) rfl <| cl (hv := by simp only [allP]; exact ⟨(by omega), (by omega)⟩) rfl (q_Word (u := a / b) (by omega)) rfl <| cl rfl (q_Word (u := a % b) (by omega)) rfl <| ?_
    exact rz rfl rfl
   ·
    exact at_ () trivial
  ·
   exact at_ () trivial
 ·
  refine cl rfl (q_Cmp (by omega) (by omega)) rfl <| ?_
  refine br rfl rfl rfl (fun hc36 => ?_) (fun hc36 => ?_)
  ·
   have hab := cmpN_neg.1 hc36
   refine ro0 rfl rfl <| ap _ rfl rfl (slOkU _) rfl <| ?_
   refine fzE 39 rfl ?_
   exact rz rfl (by show DV.tp [_, .sl ([] ++ _)] = .tp [_, _]; rw [Nat.div_eq_of_lt hab, Nat.mod_eq_of_lt hab, dN_zero]; rfl)
  ·
   have hab : b ≤ a := Nat.le_of_not_lt fun q => hc36 (cmpN_neg.2 q)
   have hlab : (dg b).length ≤ (dg a).length := dg_len_mono hab
   refine br (fu1 := ⟨4⟩) rfl rfl rfl (fun hc42 => ?_) (fun hc42 => ?_)
   ·
    have hb1 : b < 4294967296 := by have := dg_lt_pow b; rw [show (dg b).length = 1 by omega] at this; omega
    have hbd : (dg b).getD 0 0 = b := dg_one_digit (by omega)
    refine eqF 44 (.d (vI ((dg a).length : Nat))) rfl (by rw [hla]; rfl) ?_
    refine gx rfl <| mk (fu := ⟨13⟩) ((List.replicate (dg a).length 0).map dU) rfl rfl (by rw [← mapU_rep]; rfl) rfl <| ?_
    refine eqF 47 (.d (vI ((dg a).length : Nat))) rfl (by rw [hla]; rfl) ?_
    refine gx rfl <| ?_
    refine lp (X := List Nat × Nat) (fun ⟨W, k⟩ => [(0, .d (dN a)), (1, .d (dN b)), (10, .rw 45), (11, .d (dU (dv ((dg a).drop k) % b))), (12, .d (vI ((k : Nat) - 1)))]) (fun ⟨W, k⟩ => [(45, some (.b 224 1 (W.map dU) true))]) (fun ⟨W, k⟩ => W.length = (dg a).length ∧ DOk W ∧ k ≤ (dg a).length ∧ dv (W.drop k) = dv ((dg a).drop k) / b) (fun ⟨W, k⟩ => k) ⟨List.replicate (dg a).length 0, (dg a).length⟩ rfl ⟨by simp, .replicate _, Nat.le_refl _, by simp [dv]⟩ (fun _ => rfl) (fun ⟨W, k⟩ hk => ?_) (hF := (by refine ⟨rfl, rfl, rfl, leI rfl (by simp [dv, dU]), leI rfl (by simp [vI]), ?_⟩; repeat (first | exact trivial | refine And.intro rfl ?_)))
    try dsimp only at hk ⊢
    obtain ⟨h1, h2, h3, h4⟩ := hk
    have hlw := mapU_len W
    refine br (fu1 := ⟨0⟩) rfl rfl rfl (fun hc50 => ?_) (fun hc50 => ?_)
    ·
     obtain ⟨k, rfl⟩ : ∃ j, k = j + 1 := ⟨k - 1, by omega⟩
     have hsi := short_inv hb0 (by omega) h1 h4
     have hrm := Nat.mod_lt (dv ((dg a).drop (k + 1))) hb0
     have hdk := dg_lt a k
     have hqd : (dv ((dg a).drop (k + 1)) % b * 4294967296 + (dg a).getD k 0) / b < 4294967296 := by rw [Nat.div_lt_iff_lt_mul hb0]; have := Nat.mul_le_mul_left 4294967296 (show dv ((dg a).drop (k + 1)) % b + 1 ≤ b from hrm); omega
     refine eqF 12 (.d (vI (k : Nat))) rfl (by show FX.d (.v (.int _ _)) = .d (.v (.int _ _)); congr 3; omega) ?_
     refine gx rfl <| ix _ rfl (mapU_getZ (k := k) (by omega) (by omega)) rfl <| ix _ rfl (mapU_getZ (k := 0) rfl (by omega)) rfl <| cl rfl (q_Div32 (h := dv ((dg a).drop (k + 1)) % b) (l := (dg a).getD k 0) (y := (dg b).getD 0 0) (by omega) hdk (by omega)) rfl <| ?_
     refine sb (hv := by simp only [allP]; exact ⟨by kernel_rfl, by omega⟩) _ ((W.set k ((dv ((dg a).drop (k + 1)) % b * 4294967296 + (dg a).getD k 0) / b)).map dU) rfl (mapU_getZ (k := k) (by omega) (by omega)) rfl (by (rw [hbd, Int.toNat_natCast, ← mapU_set]) <;> rfl) rfl <| ?_
     exact at_ ⟨W.set k ((dv ((dg a).drop (k + 1)) % b * 4294967296 + (dg a).getD k 0) / b), k⟩ (by dsimp only; exact ⟨⟨by simpa using h1, h2.set _ hqd, by omega, hsi.1⟩, (by omega)⟩) (by refine ⟨rfl, rfl, rfl, leI rfl (by rw [hsi.2, hbd]), leI rfl (by first | (simp [vI]; done) | (simp [vI]; omega)), ?_⟩; repeat (first | exact trivial | refine And.intro rfl ?_))
    ·
     refine fz 45 rfl rfl <| cl rfl (q_Trim (ds := W) (by omega)) rfl <| rf rfl rfl <| cl rfl (q_Trim (ds := [dv ((dg a).drop k) % b]) (by simp)) rfl <| ?_
     exact rz rfl (by show DV.tp [dLi _, dLi _] = .tp [_, _]; obtain rfl : k = 0 := (by omega); rw [List.drop_zero, List.drop_zero, dv_dg] at h4; rw [List.drop_zero, dv_dg]; rw [dL_trim h2 h4, dL_trim (.cons (by have := Nat.mod_lt a hb0; omega) .nil) (n := a % b) (by simp [dv])])
   ·
    refine cl rfl (q_long (by omega) (by omega) hlb1 hlab) rfl <| ?_
    exact rz rfl rfl
theorem gcd_next (x y : Nat) : Nat.gcd y (x % y) = Nat.gcd x y := by rw [Nat.gcd_comm x y, Nat.gcd_rec y x, Nat.gcd_comm]
set_option maxHeartbeats 4000000 in
theorem q_Common {GB : Gh} {a b ia ib : Nat} [ha : BN a ia] [hb : BN b ib] (hi : ia ≤ 240000000 := by decide) (hj : ib ≤ 240000000 := by decide) : PF GB Tryz.prog 73 [dN a, dN b] (dN (Nat.gcd a b)) := by
 refine fn (fu := ⟨6⟩) Tryz.func73 rfl rfl Tryz.ntmps73 rfl rfl (fun C => ?_)
 refine mg (X := Unit) (fun _ => [(0, .d (dN a)), (1, .d (dN b))]) (fun _ => []) (fun _ => True) [0, 1] [] rfl ?_ (fun _ => rfl) (fun _ hm => ?_)
 ·
  refine gx rfl <| cl rfl (q_word (a := a) (ia := ia) (by omega)) rfl <| ?_
  refine bd (fu1 := ⟨0⟩) rfl rfl rfl (fun hc16 => ?_) (fun hc16 => ?_)
  ·
   refine eqF 5 (.d (.v (.int .u64 (a : Nat)))) rfl (by rw [if_pos hc16]) ?_
   refine gx rfl <| cl rfl (q_word (a := b) (ia := ib) (by omega)) rfl <| ?_
   refine bd (fu1 := ⟨0⟩) rfl rfl rfl (fun hc22 => ?_) (fun hc22 => ?_)
   ·
    refine eqF 7 (.d (.v (.int .u64 (b : Nat)))) rfl (by rw [if_pos hc22]) ?_
    refine gx rfl <| ?_
    refine lp (X := Nat × Nat) (fun ⟨x, y⟩ => [(5, .d (.v (.int .u64 (x : Nat)))), (7, .d (.v (.int .u64 (y : Nat))))]) (fun ⟨x, y⟩ => []) (fun ⟨x, y⟩ => x < 18446744073709551616 ∧ y < 18446744073709551616 ∧ Nat.gcd x y = Nat.gcd a b) (fun ⟨x, y⟩ => y) ⟨a, b⟩ rfl ⟨hc16, hc22, rfl⟩ (fun _ => rfl) (fun ⟨x, y⟩ hk => ?_)
    try dsimp only at hk ⊢
    obtain ⟨h1, h2, h3⟩ := hk
    refine br (v1 := fun hc24 => by simp only [allP]; exact ⟨⟨(by omega), (by omega)⟩, by kernel_rfl⟩) rfl rfl rfl (fun hc24 => ?_) (fun hc24 => ?_)
    ·
     exact at_ ⟨y, x % y⟩ (by dsimp only; exact ⟨⟨h2, by have := Nat.mod_lt x (show 0 < y by omega); omega, by rw [gcd_next, h3]⟩, (by exact Nat.mod_lt _ (by omega))⟩)
    ·
     refine cl rfl (q_Word (u := x) h1) rfl <| ?_
     exact rz rfl (by show dN x = _; rw [← h3, show y = 0 by omega, Nat.gcd_zero_right])
   ·
    exact at_ () trivial
  ·
   exact at_ () trivial
 ·
  refine lp (fu := ⟨5⟩) (X := Nat × Nat) (fun ⟨x, y⟩ => [(0, .d (dN x)), (1, .d (dN y))]) (fun ⟨x, y⟩ => []) (fun ⟨x, y⟩ => x < 2 ^ (ia + ib) ∧ y < 2 ^ (ia + ib) ∧ Nat.gcd x y = Nat.gcd a b) (fun ⟨x, y⟩ => y) ⟨a, b⟩ rfl ⟨(ha.mono (by omega)).h, (hb.mono (by omega)).h, rfl⟩ (fun _ => rfl) (fun ⟨x, y⟩ hk => ?_)
  try dsimp only at hk ⊢
  obtain ⟨h1, h2, h3⟩ := hk
  have hly := mapU_len (dg y)
  haveI hx' : BN x (ia + ib) := ⟨h1⟩
  haveI hy' : BN y (ia + ib) := ⟨h2⟩
  refine eqF 32 (.d (vI ((dg y).length : Nat))) rfl (by rw [hly]; rfl) ?_
  refine gx rfl <| ?_
  refine br rfl rfl rfl (fun hc33 => ?_) (fun hc33 => ?_)
  ·
   have hy0 : 0 < y := Nat.pos_of_ne_zero fun q => by subst q; rw [dg_zero] at hc33; simp at hc33
   refine cl rfl (q_Divide (a := x) (b := y) (ia := ia + ib) (ib := ia + ib) hy0 (by omega) (by omega)) rfl <| ?_
   exact at_ ⟨y, x % y⟩ (by dsimp only; exact ⟨⟨h2, by have := Nat.mod_lt x hy0; omega, by rw [gcd_next, h3]⟩, (by exact Nat.mod_lt _ hy0)⟩)
  ·
   have hy0 : y = 0 := dg_len_zero.1 (by omega)
   have hlx := dg_len_le h1
   have hmx := mapU_len (dg x)
   refine ro0 rfl rfl <| ap _ rfl rfl (slOkU _) rfl <| ?_
   refine fzE 44 rfl ?_
   exact rz rfl (by show DV.sl ([] ++ _) = _; rw [← h3, hy0, Nat.gcd_zero_right]; rfl)
theorem eI_zv (neg : Bool) (m : Nat) : eI (zv neg m) = .ag [.v (.bool (neg && decide (0 < m))), dN m] := by unfold eI; rw [zv_abs, zv_neg_lt]
theorem zv_opp (z : Int) : zv (!decide (z < 0)) z.natAbs = -z := by
 unfold zv
 by_cases h : z < 0 <;> simp [h] <;> omega
theorem zv_mulI (a b : Int) : zv (!(decide (a < 0) == decide (b < 0))) (a.natAbs * b.natAbs) = a * b := by
 have h := zv_mul (decide (a < 0)) (decide (b < 0)) a.natAbs b.natAbs
 rw [zv_eta, zv_eta] at h
 exact h
theorem q_Make {GB : Gh} {neg : Bool} {m : Nat} : PF GB Tryz.prog 93 [.v (.bool neg), dN m] (eI (zv neg m)) := by
 have hl := mapU_len (dg m)
 have hz := @dg_len_zero m
 refine fn Tryz.func93 rfl rfl Tryz.ntmps93 rfl rfl (fun C => ?_)
 refine csb 6 rfl rfl rfl (fun hg6 => ?_) (fun hg6 => ?_)
 ·
  exact rz rfl (by rw [eI_zv, hg6]; show DV.ag [.v (.bool _), _] = .ag [.v (.bool _), _]; congr 4; rw [Bool.true_and]; exact decide_eq_decide.2 (by omega))
 ·
  exact rz rfl (by rw [eI_zv, hg6]; rfl)
end Go.Sx
end
