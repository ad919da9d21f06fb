/-
  Package nat: the product, division by one digit, shifts. Package nat: division by one digit, shifts by less than a digit. Plain arithmetic of long division in base 2^32. Package nat: shift to the right. Package nat: long division.
-/
import Derived.Test.YtkijgpopaaknfaaGreatDoorRf8
set_option linter.unusedSimpArgs false
set_option linter.unusedVariables false
section
set_option maxRecDepth 100000
namespace Go.Sx
open Go Go.Proofs
structure NatMulO where
 ws : List Nat
 i : Nat
structure NatMulI where
 ws : List Nat
 k : Nat
 c : Nat
theorem mul_c {x y w c : Nat} (hx : x < 4294967296) (hy : y < 4294967296) (hw : w < 4294967296) (hc : c < 4294967296) : c + x * y + w < 18446744073709551616 := by
 have : x * y ≤ 4294967295 * 4294967295 := Nat.mul_le_mul (by omega) (by omega)
 omega
theorem set_getD {ws : List Nat} {i j d : Nat} (h : i ≠ j) : (ws.set i d).getD j 0 = ws.getD j 0 := by
 rw [List.getD_eq_getElem?_getD, List.getD_eq_getElem?_getD, List.getElem?_set_ne h]
set_option maxHeartbeats 1000000 in
theorem nat_Mul {A B G : Gh} {x y : SV} {ds es : List Nat} {kk : Nat} (hx : IsD A x ds) (hy : IsD B y es) [GL A G] [GL B G] (hk : dv ds * dv es < 2 ^ kk) (hb : ds.length ≤ 562949953421) (hb2 : es.length ≤ 562949953421) :
   Fn Tryz.prog 143 [x.v, y.v] G (fun v G' => ∃ z : SV, v = z.v ∧ IsN kk G' z (dv ds * dv es)) := by
 have htl := trimD_len ds
 have htl2 := trimD_len es
 have hcall := fun G1 (_ : GL A G1) => nat_trim (G := G1) hx (by omega)
 have hcall2 := fun G1 (_ : GL B G1) => nat_trim (G := G1) hy (by omega)
 have hxt := hx.trim
 have hyt := hy.trim
 rw [← dv_trimD ds, ← dv_trimD es] at hk ⊢
 generalize trimD ds = a at *
 generalize trimD es = b at *
 have hok := hxt.ok
 have hok2 := hyt.ok
 refine Fn.intro Tryz.func143 rfl rfl Tryz.ntmps143 rfl ?_
 intro C _ _
 refine sR <| sa rfl rfl <| zE <| sR <| sm rfl rfl <| ?_
 refine sc (zC rfl rfl (hcall _ inferInstance) rfl ?_)
 rintro _ G1 _ rfl
 refine sm rfl rfl <| ?_
 refine sc (zC rfl rfl (hcall2 _ inferInstance) rfl ?_)
 rintro _ G2 _ rfl
 refine sa rfl rfl <| sa rfl rfl <| zE <| sR <| sm rfl rfl <| slen rfl rfl <| sm rfl rfl <| slen rfl rfl <| sy (yd_add64 rfl rfl) rfl <| ?_
 refine sc (ch_make rfl rfl (by omega) (by omega) (by omega) (by rfl) rfl ?_)
 intro b3
 rw [zeros_dI, show ((a.length : Int) + (b.length : Int)).toNat = a.length + b.length by omega]
 refine sa rfl rfl <| zE <| st_seq <| sR <| sm rfl rfl <| slen rfl rfl <| sm rfl rfl <| zE <| st_block <| ?_
 refine st_loop (X := NatMulO) (fun q => [(23, .int .i64 q.i), (22, .int .i64 a.length), (21, .slice x.a a.length x.c), (1, .slice y.a b.length y.c), (5, .slice (some ⟨b3, 0, none⟩) (a.length + b.length) (a.length + b.length))])
   (fun q => [⟨b3, q.ws.map dI, 224, true⟩])
   (fun q _ => q.i ≤ a.length ∧ q.ws.length = a.length + b.length ∧ DOk q.ws ∧ (∀ j, q.i + b.length ≤ j → q.ws.getD j 0 = 0) ∧ dv q.ws = dv (a.take q.i) * dv b) (fun q => a.length - q.i) ⟨List.replicate (a.length + b.length) 0, 0⟩
   ⟨Nat.zero_le _, by simp, .replicate _, fun j _ => getD_rep _ _, by simp [dv, dv_replicate]⟩ (.cons rfl (.cons rfl (.cons rfl (.cons rfl (.cons rfl .nil))))) rfl ?_
 rintro ⟨ws, i⟩ Gy _ ⟨hia, hwl, hwo, hz, hinv⟩
 simp only [] at hia hwl hwo hz hinv ⊢
 refine sR <| sy (yd_lss rfl rfl) rfl <| zE <| st_seq <| ?_
 refine st_condE rfl (fun hc => ?_) (fun hc => ?_) -- slot 24
 · have hin : i = a.length := by omega
   refine st_exit <| st_te <| st_te <| st_inBlock_eq <| sR <| sm rfl rfl <| ?_
   refine st_freeze b3 (.hd ..) (fun G3 _ hgb => ?_)
   have hD : IsD G3 ⟨some ⟨b3, 0, none⟩, a.length + b.length, a.length + b.length⟩ ws := .of_block hwo hgb.h hwl.symm (Nat.le_refl _) (by rw [List.take_of_length_le (by simp)])
   have hdv : dv ws = dv a * dv b := by rw [hinv, hin, List.take_of_length_le (Nat.le_refl _)]
   refine sc (zC rfl rfl (nat_trim hD (by omega)) rfl ?_)
   rintro _ G4 _ rfl
   refine sa rfl rfl <| zE <| st_ret <| ?_
   refine zD (.tmp rfl .nil) ⟨⟨some ⟨b3, 0, none⟩, (trimD ws).length, a.length + b.length⟩, rfl, ?_⟩
   have h3 := hD.trim.up (G := G4)
   rw [← hdv] at hk ⊢
   exact ⟨by rw [dg_trim hwo]; exact h3, hk⟩
 have hia' : i < a.length := by omega
 have hga := hok.get i
 refine zK <| st_seq <| st_block <| sR <| sm rfl rfl <| sy (yd_ixD (z := ⟨x.a, a.length, x.c⟩) hxt rfl rfl (by omega) (by show (i : Int) < (a.length : Nat); omega)) rfl <| sy (yd_ldD hxt rfl (by omega)) rfl <| sa rfl rfl <| sa rfl rfl <| zE <| st_seq <| ?_
 rw [Int.toNat_natCast]
 refine st_region <| sa rfl rfl <| zE <| st_seq <| sR <| sm rfl rfl <| slen rfl rfl <| sm rfl rfl <| zE <| st_block <| ?_
 refine st_loop (X := NatMulI) (fun q => [(30, .int .i64 q.k), (29, .int .i64 b.length), (28, .slice y.a b.length y.c), (8, .int .u64 q.c), (7, .int .u32 ((a.getD i 0 : Nat) : Int)), (5, .slice (some ⟨b3, 0, none⟩) (a.length + b.length) (a.length + b.length)), (6, .int .i64 i), (23, .int .i64 i), (22, .int .i64 a.length), (21, .slice x.a a.length x.c), (1, .slice y.a b.length y.c)])
   (fun q => [⟨b3, q.ws.map dI, 224, true⟩])
   (fun q _ => q.k ≤ b.length ∧ q.ws.length = a.length + b.length ∧ DOk q.ws ∧ q.c < 4294967296 ∧ (∀ j, i + b.length ≤ j → q.ws.getD j 0 = 0) ∧ dv q.ws + 4294967296 ^ (i + q.k) * q.c = dv (a.take i) * dv b + 4294967296 ^ i * (a.getD i 0 * dv (b.take q.k))) (fun q => b.length - q.k) ⟨ws, 0, 0⟩
   ⟨Nat.zero_le _, hwl, hwo, Nat.zero_lt_succ _, hz, by simp [dv, hinv]⟩ (.cons rfl (.cons rfl (.cons rfl (.cons rfl (.cons rfl (.cons rfl (.cons rfl (.cons rfl (.cons rfl (.cons rfl (.cons rfl .nil))))))))))) rfl ?_
 clear hz hwl hwo hinv ws
 rintro ⟨ws, k, c⟩ Gz _ ⟨hkb, hwl, hwo, hcc, hz, hinv⟩
 simp only [] at hkb hwl hwo hcc hz hinv ⊢
 refine sR <| sy (yd_lss rfl rfl) rfl <| zE <| st_seq <| ?_
 refine st_condE rfl (fun hc2 => ?_) (fun hc2 => ?_) -- slot 31
 · have hkn : k = b.length := by omega
   have e1 : ((i : Int) + (b.length : Int)).toNat = i + b.length := by omega
   refine st_exit <| st_te <| st_te <| st_inBlock_eq <| st_region <| sm rfl rfl <| sm rfl rfl <| sm rfl rfl <| slen rfl rfl <| sy (yd_add64 rfl rfl) rfl <| sm rfl rfl <| sy (yd_toU32 rfl) rfl <| ?_
   refine sy (yd_ixO rfl rfl (by omega) (by omega)) rfl <| ?_
   rw [e1]
   refine sc (ch_storeD (d := c) rfl rfl (by omega) (.hd ..) (by omega) rfl ?_)
   refine zE <| st_region <| sy (yd_add64 rfl rfl) rfl <| sm rfl rfl <| zE <| ?_
   refine st_again ⟨ws.set (i + b.length) c, i + 1⟩ ⟨by show i + 1 ≤ _; omega, by simp [hwl], hwo.set _ hcc, fun j hj => ?_, ?_⟩ (by show a.length - (i + 1) < a.length - i; omega) (.cons rfl (.cons rfl (.cons rfl (.cons rfl (.cons rfl .nil))))) rfl
   · have hj' : i + 1 + b.length ≤ j := hj
     show (ws.set (i + b.length) c).getD j 0 = 0
     rw [set_getD (by omega)]; exact hz j (by omega)
   · show dv (ws.set (i + b.length) c) = dv (a.take (i + 1)) * dv b
     have h1 := dv_set ws (i + b.length) c (by omega)
     rw [hz (i + b.length) (Nat.le_refl _), Nat.mul_zero, Nat.add_zero] at h1
     rw [h1, ← hkn, hinv, hkn, List.take_of_length_le (Nat.le_refl _), dv_take_succ, Nat.add_mul, Nat.mul_assoc]
 have hkb' : k < b.length := by omega
 have hgb := hok2.get k
 have hgw := hwo.get (i + k)
 have hm := mul_c hga hgb hgw hcc
 have e1 : ((i : Int) + (k : Int)).toNat = i + k := by omega
 have e2 : ((a.getD i 0 : Nat) : Int) * ((b.getD k 0 : Nat) : Int) = ((a.getD i 0 * b.getD k 0 : Nat) : Int) := by rw [Int.natCast_mul]
 refine zK <| st_seq <| st_block <| sR <| sm rfl rfl <| sy (yd_ixD (z := ⟨y.a, b.length, y.c⟩) hyt rfl rfl (by omega) (by show (k : Int) < (b.length : Nat); omega)) rfl <| sy (yd_ldD hyt rfl (by omega)) rfl <| sa rfl rfl <| sa rfl rfl <| zE <| st_seq <| ?_
 rw [Int.toNat_natCast]
 refine st_region <| sm rfl rfl <| sm rfl rfl <| sy (yd_toU64 rfl) rfl <| sm rfl rfl <| sy (yd_toU64 rfl) rfl <| sy (yd_mulU rfl rfl (by rw [e2]; omega) (by rw [e2]; omega)) rfl <| ?_
 rw [e2]
 refine sm rfl rfl <| sm rfl rfl <| sm rfl rfl <| sy (yd_add64 rfl rfl) rfl <| sy (yd_ixO rfl rfl (by omega) (by omega)) rfl <| ?_
 rw [e1]
 refine sy (yd_ldO rfl (by omega)) rfl <| sy (yd_toU64 rfl) rfl <| ?_
 refine sy (yd_addU rfl rfl) rfl <| sy (yd_addU rfl rfl) rfl <| sa rfl rfl <| zE <| sR <| sm rfl rfl <| sm rfl rfl <| sm rfl rfl <| ?_
 rw [show (c : Int) + (((a.getD i 0 * b.getD k 0 : Nat) : Int) + ((ws.getD (i + k) 0 : Nat) : Int)) = ((c + a.getD i 0 * b.getD k 0 + ws.getD (i + k) 0 : Nat) : Int) by omega]
 generalize hcc2 : c + a.getD i 0 * b.getD k 0 + ws.getD (i + k) 0 = cc
 rw [hcc2] at hm
 refine sy (yd_add64 rfl rfl) rfl <| sm rfl rfl <| sy (yd_toU32 rfl) rfl <| sy (yd_ixO rfl rfl (by omega) (by omega)) rfl <| ?_
 rw [e1]
 refine sc (ch_storeD (d := cc % 4294967296) rfl rfl (by omega) (.hd ..) (by omega) rfl ?_)
 refine zE <| st_region <| sm rfl rfl <| sy (yd_shr rfl rfl (by decide)) rfl <| sa rfl rfl <| zE <| st_region <| sy (yd_add64 rfl rfl) rfl <| sm rfl rfl <| zE <| ?_
 rw [shr32]
 refine st_again ⟨ws.set (i + k) (cc % 4294967296), k + 1, cc / 4294967296⟩ ⟨by show k + 1 ≤ _; omega, by simp [hwl], hwo.set _ (by omega), by show cc / 4294967296 < _; omega, fun j hj => ?_, ?_⟩ (by show b.length - (k + 1) < b.length - k; omega) (.cons rfl (.cons rfl (.cons rfl (.cons rfl (.cons rfl (.cons rfl (.cons rfl (.cons rfl (.cons rfl (.cons rfl (.cons rfl .nil))))))))))) rfl
 · show (ws.set (i + k) (cc % 4294967296)).getD j 0 = 0
   rw [set_getD (by omega)]; exact hz j hj
 · show dv (ws.set (i + k) (cc % 4294967296)) + 4294967296 ^ (i + (k + 1)) * (cc / 4294967296) = dv (a.take i) * dv b + 4294967296 ^ i * (a.getD i 0 * dv (b.take (k + 1)))
   have h1 := dv_set ws (i + k) (cc % 4294967296) (by omega)
   rw [← hcc2] at h1 ⊢
   have h2 := mul_step h1 hinv
   rw [← Nat.add_assoc, Nat.pow_succ, h2, dv_take_succ, Nat.mul_add, Nat.mul_add, Nat.pow_add]
   have : 4294967296 ^ i * (a.getD i 0 * (4294967296 ^ k * b.getD k 0)) = 4294967296 ^ i * 4294967296 ^ k * (a.getD i 0 * b.getD k 0) := by
     rw [Nat.mul_left_comm (a.getD i 0), ← Nat.mul_assoc]
   rw [this, Nat.add_assoc]
end Go.Sx
end

section
set_option maxRecDepth 100000
namespace Go.Sx
open Go Go.Proofs
theorem or_add' {P : Program} {t : TypeId} (a b k : Nat) (ha : a < 2 ^ k) (h : a + b * 2 ^ k < 18446744073709551616) (w : World) : (binOp .or t (.int .u64 ((b * 2 ^ k : Nat) : Int)) (.int .u64 (a : Int))).run P w = .ok (.int .u64 ((a + b * 2 ^ k : Nat) : Int)) w := by
 have h1 : (BitVec.ofInt 64 ((b * 2 ^ k : Nat) : Int) ||| BitVec.ofInt 64 (a : Int)).toNat = a + b * 2 ^ k := by
  rw [BitVec.toNat_or, BitVec.ofInt_natCast, BitVec.ofInt_natCast, BitVec.toNat_ofNat, BitVec.toNat_ofNat, Nat.mod_eq_of_lt (by omega), Nat.mod_eq_of_lt (by omega)]
  rw [← Nat.shiftLeft_eq, ← Nat.shiftLeft_add_eq_or_of_lt ha, Nat.shiftLeft_eq]
  omega
 have h2 : IntKind.u64.wrap ((a + b * 2 ^ k : Nat) : Int) = ((a + b * 2 ^ k : Nat) : Int) := by rw [wrap_u64]; omega
 simp only [binOp]
 show (Op.intBits .or .u64 ((b * 2 ^ k : Nat) : Int) (a : Int)).run P w = _
 unfold Op.intBits
 show (pure (Value.int .u64 (IntKind.u64.wrap ((BitVec.ofInt 64 ((b * 2 ^ k : Nat) : Int) ||| BitVec.ofInt 64 (a : Int)).toNat : Int))) : Sem Value).run P w = _
 rw [h1, h2, run_pure]
theorem or_add32 {P : Program} {t : TypeId} (a b k : Nat) (ha : a < 2 ^ k) (h : a + b * 2 ^ k < 4294967296) (w : World) : (binOp .or t (.int .u32 (a : Int)) (.int .u32 ((b * 2 ^ k : Nat) : Int))).run P w = .ok (.int .u32 ((a + b * 2 ^ k : Nat) : Int)) w := by
 have h1 : (BitVec.ofInt 32 (a : Int) ||| BitVec.ofInt 32 ((b * 2 ^ k : Nat) : Int)).toNat = a + b * 2 ^ k := by
  rw [BitVec.toNat_or, BitVec.ofInt_natCast, BitVec.ofInt_natCast, BitVec.toNat_ofNat, BitVec.toNat_ofNat, Nat.mod_eq_of_lt (by omega), Nat.mod_eq_of_lt (by omega)]
  rw [← Nat.shiftLeft_eq, Nat.or_comm, ← Nat.shiftLeft_add_eq_or_of_lt ha, Nat.shiftLeft_eq]
  omega
 have h2 : IntKind.u32.wrap ((a + b * 2 ^ k : Nat) : Int) = ((a + b * 2 ^ k : Nat) : Int) := by rw [wrap_u32]; omega
 simp only [binOp]
 show (Op.intBits .or .u32 (a : Int) ((b * 2 ^ k : Nat) : Int)).run P w = _
 unfold Op.intBits
 show (pure (Value.int .u32 (IntKind.u32.wrap ((BitVec.ofInt 32 (a : Int) ||| BitVec.ofInt 32 ((b * 2 ^ k : Nat) : Int)).toNat : Int))) : Sem Value).run P w = _
 rw [h1, h2, run_pure]
theorem shl_u64 (d k : Nat) (hk : k < 64) (h : d * 2 ^ k < 18446744073709551616) {q : Int} (hq : q.toNat = k) : IntKind.u64.wrap ((d : Int) * 2 ^ min q.toNat IntKind.u64.bits) = ((d * 2 ^ k : Nat) : Int) := by
 rw [hq, Nat.min_eq_left (by show k ≤ 64; omega), wrap_u64]
 have e2 : (d : Int) * 2 ^ k = ((d * 2 ^ k : Nat) : Int) := by push_cast; rfl
 rw [e2]; omega
theorem shr_u64 (d k : Nat) (hk : k < 64) {q : Int} (hq : q.toNat = k) : (d : Int).fdiv (2 ^ min q.toNat IntKind.u64.bits) = ((d / 2 ^ k : Nat) : Int) := by
 rw [hq, Nat.min_eq_left (by show k ≤ 64; omega), Int.fdiv_eq_ediv_of_nonneg _ (Int.le_of_lt (Int.pow_pos (by decide)))]
 push_cast; rfl
theorem emod32 (q : Nat) (h : q < 4294967296) : (q : Int) % 4294967296 = q := by omega
structure NatShort where
 ws : List Nat
 k : Nat
 r : Nat
set_option maxHeartbeats 1000000 in
theorem nat_short {A G : Gh} {x : SV} {a : List Nat} {d kk : Nat} (hx : IsD A x a) [GL A G] (hd0 : 0 < d) (hd : d < 4294967296) (hk : dv a / d < 2 ^ kk) (hb : a.length ≤ 1125899906842) :
   Fn Tryz.prog 213 [x.v, .int .u32 (d : Int)] G (fun v G' => ∃ z : SV, v = .tuple #[z.v, .int .u32 ((dv a % d : Nat) : Int)] ∧ IsN kk G' z (dv a / d)) := by
 have hlen := hx.len
 refine Fn.intro Tryz.func213 rfl rfl Tryz.ntmps213 rfl ?_
 intro C _ _
 refine sR <| sa rfl rfl <| sa rfl rfl <| zE <| sR <| sm rfl rfl <| slen rfl rfl <| ?_
 refine sc (ch_make rfl rfl (by omega) (by omega) (by omega) (by rfl) rfl ?_)
 intro b1
 rw [zeros_dI, show (x.n : Int).toNat = a.length by omega]
 refine sa rfl rfl <| zE <| sR <| sa rfl rfl <| zE <| st_seq <| sR <| sm rfl rfl <| slen rfl rfl <| sy (yd_sub64 rfl rfl) rfl <| ?_
 refine sa rfl rfl <| zE <| st_block <| ?_
 refine st_loop (X := NatShort) (fun q => [(8, .int .i64 (q.k - 1)), (7, .int .u64 q.r), (0, .slice x.a x.n x.c), (6, .slice (some ⟨b1, 0, none⟩) a.length a.length), (1, .int .u32 d)])
   (fun q => [⟨b1, q.ws.map dI, 224, true⟩])
   (fun q _ => q.k ≤ a.length ∧ q.ws.length = a.length ∧ DOk q.ws ∧ q.r < d ∧ dv (a.drop q.k) = d * dv (q.ws.drop q.k) + q.r) (fun q => q.k) ⟨List.replicate a.length 0, a.length, 0⟩
   ⟨Nat.le_refl _, by simp, .replicate _, hd0, by simp [dv]⟩ (.cons (by rw [hlen]; rfl) (.cons rfl (.cons rfl (.cons rfl (.cons rfl .nil))))) rfl ?_
 rintro ⟨ws, k, r⟩ Gy _ ⟨hka, hwl, hwo, hr, hinv⟩
 simp only [] at hka hwl hwo hr hinv ⊢
 refine st_seq <| sR <| sm rfl rfl <| sy (yd_geq rfl rfl) rfl <| zE <| ?_
 refine st_condE rfl (fun hc => ?_) (fun hc => ?_) -- slot 17
 · have hk0 : k = 0 := by omega
   refine st_exit <| st_te <| st_te <| st_inBlock_eq <| sR <| sm rfl rfl <| ?_
   refine st_freeze b1 (.hd ..) (fun G1 _ hgb => ?_)
   have hD : IsD G1 ⟨some ⟨b1, 0, none⟩, a.length, a.length⟩ ws := .of_block hwo hgb.h hwl.symm (Nat.le_refl _) (by rw [List.take_of_length_le (by simp)])
   subst hk0
   simp only [List.drop_zero] at hinv
   have hdv : dv a / d = dv ws := by rw [hinv, Nat.mul_add_div hd0, Nat.div_eq_of_lt hr, Nat.add_zero]
   have hdm : dv a % d = r := by rw [hinv, Nat.mul_add_mod, Nat.mod_eq_of_lt hr]
   refine sc (zC rfl rfl (nat_trim hD (by omega)) rfl ?_)
   rintro _ G2 _ rfl
   refine sm rfl rfl <| sy (yd_toU32 rfl) rfl <| sa rfl rfl <| sa rfl rfl <| zE <| st_ret <| ?_
   refine zD (.tmp rfl (.tmp rfl .nil)) ⟨⟨some ⟨b1, 0, none⟩, (trimD ws).length, a.length⟩, ?_, ?_⟩
   · rw [hdm, show (r : Int) % 4294967296 = r by omega]; rfl
   have h3 := hD.trim.up (G := G2)
   exact ⟨by rw [hdv, dg_trim hwo]; exact h3, hk⟩
 have hk1 : 0 < k := by omega
 have hkt : ((k : Int) - 1).toNat = k - 1 := by omega
 have hga := hx.ok.get (k - 1)
 have hv : a.getD (k - 1) 0 + r * 2 ^ 32 < d * 4294967296 := by
   have : (r + 1) * 4294967296 ≤ d * 4294967296 := Nat.mul_le_mul_right _ hr
   rw [Nat.add_mul] at this
   omega
 have hv2 : a.getD (k - 1) 0 + r * 2 ^ 32 < 18446744073709551616 := by omega
 refine zK <| st_seq <| st_block <| sR <| sm rfl rfl <| sy (yd_shl rfl rfl (by decide)) rfl <| sm rfl rfl <| sm rfl rfl <| sy (yd_ixD hx rfl rfl (by omega) (by omega)) rfl <| ?_
 rw [shl_u64 r 32 (by decide) (by omega) rfl]
 refine sy (yd_ldD hx rfl (by omega)) rfl <| sy (yd_toU64 rfl (by omega) (by rw [hkt]; omega)) rfl <| ?_
 rw [hkt]
 refine sy (yd_int rfl rfl (or_add' (a.getD (k - 1) 0) r 32 (by omega) hv2)) rfl <| ?_
 generalize hvv : a.getD (k - 1) 0 + r * 2 ^ 32 = vv at *
 have hq : vv / d < 4294967296 := Nat.div_lt_of_lt_mul hv
 have hrr := Nat.mod_lt vv hd0
 refine sa rfl rfl <| zE <| sR <| sm rfl rfl <| sm rfl rfl <| sm rfl rfl <| sm rfl rfl <| ?_
 refine sy (yd_toU64 rfl) rfl <| sy (yd_quoU rfl rfl (by omega) (by omega) (by omega)) rfl <| sy (yd_toU32 rfl) rfl <| sy (yd_ixO rfl rfl (by omega) (by omega)) rfl <| ?_
 rw [hkt]
 have e1 : (vv : Int) / (d : Int) % 4294967296 = ((vv / d : Nat) : Int) := by
   have e0 : (vv : Int) / (d : Int) = ((vv / d : Nat) : Int) := (Int.natCast_ediv vv d).symm
   rw [e0]; exact emod32 _ hq
 refine sc (ch_storeD (d := vv / d) rfl rfl e1 (.hd ..) (by omega) rfl ?_)
 refine zE <| st_region <| sm rfl rfl <| sm rfl rfl <| sy (yd_toU64 rfl) rfl <| sy (yd_remU rfl rfl (by omega) (by omega)) rfl <| sa rfl rfl <| zE <| st_region <| sm rfl rfl <| ?_
 refine sy (yd_sub64 rfl rfl) rfl <| sa rfl rfl <| zE <| ?_
 refine st_again ⟨ws.set (k - 1) (vv / d), k - 1, vv % d⟩ ⟨by show k - 1 ≤ _; omega, by simp [hwl], hwo.set _ hq, hrr, ?_⟩ (by show k - 1 < k; omega) (.cons (by rw [show ((k - 1 : Nat) : Int) = (k : Int) - 1 by omega]; rfl) (.cons (by rw [Int.natCast_emod]; rfl) (.cons rfl (.cons rfl (.cons rfl .nil))))) rfl
 show dv (a.drop (k - 1)) = d * dv ((ws.set (k - 1) (vv / d)).drop (k - 1)) + vv % d
 have hk2 : k - 1 + 1 = k := by omega
 rw [List.drop_eq_getElem_cons (by omega : k - 1 < a.length), List.drop_eq_getElem_cons (by simp; omega : k - 1 < (ws.set (k - 1) (vv / d)).length), hk2, List.getElem_set_self, List.drop_set_of_lt (by omega)]
 have e3 : a[k - 1]'(by omega) = a.getD (k - 1) 0 := by rw [List.getD_eq_getElem?_getD, List.getElem?_eq_getElem (by omega)]; rfl
 simp only [dv, e3, hinv]
 have h1 := Nat.div_add_mod vv d
 have h2 : d * (vv / d + 4294967296 * dv (ws.drop k)) = d * (vv / d) + 4294967296 * (d * dv (ws.drop k)) := by rw [Nat.mul_add, Nat.mul_left_comm]
 rw [h2, Nat.mul_add]
 omega
section
variable {P : Program} {C : Ctx} {n : Nat} {fr : Fr} {own : List Own} {G : Gh} {dst : Option Nat} {t t1 t2 ty' : TypeId} {pos : String} {af : Array Edge} {gd : Option (Nat × Bool)} {x y : Operand}
theorem yd_min {k : IntKind} {p q : Int} (hx : opv fr x = some (.int k p)) (hy : opv fr y = some (.int k q)) :
  Yd P C fr own G ⟨dst, .call ⟨.builtin .min, #[x, y], #[t1, t2]⟩, ty', pos, af, gd⟩ (.int k (if q < p then q else p)) := by
 intro a w hf hh
 simp only [execOp, resolve, List.map_toArray, List.map_cons, List.map_nil, opv_eval hf hx, opv_eval hf hy]
 have h1 : (Builtin.min_ #[t1, t2] ty' #[.int k p, .int k q]).run P w = .ok (.int k (if q < p then q else p)) w := by
  simp [Builtin.min_, Builtin.min2, run_pure]
 exact value_of h1
end
structure NatShift where
 ws : List Nat
 i : Nat
set_option maxHeartbeats 1000000 in
theorem nat_Shl {A G : Gh} {x : SV} {ds : List Nat} {k kk : Nat} (hx : IsD A x ds) [GL A G] (hk32 : k < 32) (hk : dv ds * 2 ^ k < 2 ^ kk) (hb : ds.length ≤ 1125899906842) :
   Fn Tryz.prog 226 [x.v, .int .u64 (k : Int)] G (fun v G' => ∃ z : SV, v = z.v ∧ IsN kk G' z (dv ds * 2 ^ k) ∧ z.c ≤ (trimD ds).length + 1) := by
 have htl := trimD_len ds
 have hcall := fun G1 (_ : GL A G1) => nat_trim (G := G1) hx (by omega)
 have hxt := hx.trim
 rw [← dv_trimD ds] at hk ⊢
 generalize trimD ds = a at *
 have hok := hxt.ok
 refine Fn.intro Tryz.func226 rfl rfl Tryz.ntmps226 rfl ?_
 intro C _ _
 refine sR <| sa rfl rfl <| zE <| sR <| sm rfl rfl <| ?_
 refine sc (zC rfl rfl (hcall _ inferInstance) rfl ?_)
 rintro _ G1 _ rfl
 refine sm rfl rfl <| sy (yd_min rfl rfl) rfl <| ?_
 rw [if_neg (by omega : ¬ (1048576 : Int) < (k : Int))]
 refine sa rfl rfl <| sa rfl rfl <| zE <| st_seq <| sR <| sm rfl rfl <| slen rfl rfl <| sy (yd_eql rfl rfl) rfl <| zE <| ?_
 refine st_condP rfl (fun hc => ?_) (fun hc => ?_) -- slot 17
 · refine sR <| sa rfl rfl <| zE <| st_ret <| ?_
   have : a = [] := List.eq_nil_of_length_eq_zero (by omega)
   subst this
   refine zD (.tmp rfl .nil) ⟨⟨none, 0, 0⟩, rfl, ?_⟩
   have e0 : dv [] * 2 ^ k = 0 := by simp [dv]
   rw [e0]
   exact ⟨⟨by unfold dg; exact .nil _, Nat.pow_pos (by omega)⟩, Nat.zero_le _⟩
 refine zK <| sR <| sm rfl rfl <| sy (yd_quoU rfl rfl (by omega) (by omega) (by decide)) rfl <| sy (yd_toI64 rfl) rfl <| sm rfl rfl <| sy (yd_remU rfl rfl (by omega) (by decide)) rfl <| ?_
 rw [show (k : Int) / 32 = 0 by omega, show (k : Int) % 32 = k by omega]
 refine sa rfl rfl <| sa rfl rfl <| zE <| sR <| sm rfl rfl <| slen rfl rfl <| sm rfl rfl <| sy (yd_add64 rfl rfl) rfl <| sy (yd_add64 rfl rfl) rfl <| ?_
 refine sc (ch_make rfl rfl (by omega) (by omega) (by omega) (by rfl) rfl ?_)
 intro b2
 rw [zeros_dI, show ((a.length : Int) + 0 + 1).toNat = a.length + 1 by omega]
 refine sa rfl rfl <| zE <| st_seq <| sR <| sm rfl rfl <| slen rfl rfl <| sm rfl rfl <| zE <| st_block <| ?_
 refine st_loop (X := NatShift) (fun q => [(31, .int .i64 q.i), (30, .int .i64 a.length), (29, .slice x.a a.length x.c), (6, .int .u64 k), (7, .slice (some ⟨b2, 0, none⟩) (a.length + 1) (a.length + 1)), (5, .int .i64 0)])
   (fun q => [⟨b2, q.ws.map dI, 224, true⟩])
   (fun q _ => q.i ≤ a.length ∧ q.ws.length = a.length + 1 ∧ DOk q.ws ∧ (∀ j, q.i < j → q.ws.getD j 0 = 0) ∧ q.ws.getD q.i 0 < 2 ^ k ∧ dv q.ws = dv (a.take q.i) * 2 ^ k) (fun q => a.length - q.i) ⟨List.replicate (a.length + 1) 0, 0⟩
   ⟨Nat.zero_le _, by simp, .replicate _, fun j _ => getD_rep _ _, by rw [getD_rep]; exact Nat.pow_pos (by omega), by simp [dv, dv_replicate]⟩ (.cons rfl (.cons rfl (.cons rfl (.cons rfl (.cons rfl (.cons rfl .nil)))))) rfl ?_
 rintro ⟨ws, i⟩ Gy _ ⟨hia, hwl, hwo, hz, hwi, hinv⟩
 simp only [] at hia hwl hwo hz hwi hinv ⊢
 refine sR <| sy (yd_lss rfl rfl) rfl <| zE <| st_seq <| ?_
 refine st_condE rfl (fun hc => ?_) (fun hc => ?_) -- slot 32
 · have hin : i = a.length := by omega
   refine st_exit <| st_te <| st_te <| st_inBlock_eq <| sR <| sm rfl rfl <| ?_
   refine st_freeze b2 (.hd ..) (fun G3 _ hgb => ?_)
   have hD : IsD G3 ⟨some ⟨b2, 0, none⟩, a.length + 1, a.length + 1⟩ ws := .of_block hwo hgb.h hwl.symm (Nat.le_refl _) (by rw [List.take_of_length_le (by simp)])
   have hdv : dv a * 2 ^ k = dv ws := by rw [hinv, hin, List.take_of_length_le (Nat.le_refl _)]
   refine sc (zC rfl rfl (nat_trim hD (by omega)) rfl ?_)
   rintro _ G4 _ rfl
   refine sa rfl rfl <| zE <| st_ret <| ?_
   refine zD (.tmp rfl .nil) ⟨⟨some ⟨b2, 0, none⟩, (trimD ws).length, a.length + 1⟩, rfl, ?_⟩
   have h3 := hD.trim.up (G := G4)
   rw [hdv] at hk ⊢
   exact ⟨⟨by rw [dg_trim hwo]; exact h3, hk⟩, Nat.le_refl _⟩
 have hia' : i < a.length := by omega
 have hga := hok.get i
 have hp32 : (2 : Nat) ^ k ≤ 2 ^ 31 := Nat.pow_le_pow_right (by omega) (by omega)
 have hp0 : 0 < (2 : Nat) ^ k := Nat.pow_pos (by omega)
 have hvb : a.getD i 0 * 2 ^ k < 4294967296 * 2 ^ k := Nat.mul_lt_mul_of_pos_right hga hp0
 have hv64 : a.getD i 0 * 2 ^ k < 18446744073709551616 := by omega
 refine zK <| st_seq <| st_block <| sR <| sm rfl rfl <| sy (yd_ixD (z := ⟨x.a, a.length, x.c⟩) hxt rfl rfl (by omega) (by show (i : Int) < (a.length : Nat); omega)) rfl <| sy (yd_ldD hxt rfl (by omega)) rfl <| sa rfl rfl <| sa rfl rfl <| zE <| st_seq <| ?_
 rw [Int.toNat_natCast]
 refine st_region <| sm rfl rfl <| sy (yd_toU64 rfl) rfl <| sm rfl rfl <| sy (yd_shl rfl rfl (by omega)) rfl <| ?_
 rw [shl_u64 (a.getD i 0) k (by omega) hv64 (Int.toNat_natCast k)]
 -- the low digit is a multiple of 2^k
 have hlow : a.getD i 0 * 2 ^ k % 4294967296 = a.getD i 0 % 2 ^ (32 - k) * 2 ^ k := by
   have : 4294967296 = 2 ^ (32 - k) * 2 ^ k := by rw [← Nat.pow_add, show 32 - k + k = 32 by omega]
   rw [this, Nat.mul_mod_mul_right]
 have hlt : a.getD i 0 * 2 ^ k % 4294967296 < 4294967296 := Nat.mod_lt _ (by decide)
 have hsum : ws.getD i 0 + a.getD i 0 % 2 ^ (32 - k) * 2 ^ k < 4294967296 := by
   have h1 : a.getD i 0 % 2 ^ (32 - k) < 2 ^ (32 - k) := Nat.mod_lt _ (Nat.pow_pos (by omega))
   have h2 : (a.getD i 0 % 2 ^ (32 - k) + 1) * 2 ^ k ≤ 2 ^ (32 - k) * 2 ^ k := Nat.mul_le_mul_right _ h1
   rw [← Nat.pow_add, show 32 - k + k = 32 by omega, Nat.add_mul] at h2
   omega
 refine sa rfl rfl <| zE <| sR <| sm rfl rfl <| ?_
 refine sm rfl rfl <| sm rfl rfl <| sy (yd_add64 rfl rfl) rfl <| sy (yd_ixO rfl rfl (by omega) (by omega)) rfl <| ?_
 rw [show ((i : Int) + 0).toNat = i by omega]
 refine sy (yd_ldO rfl (by omega)) rfl <| sm rfl rfl <| sy (yd_toU32 rfl) rfl <| ?_
 rw [show ((a.getD i 0 * 2 ^ k : Nat) : Int) % 4294967296 = ((a.getD i 0 % 2 ^ (32 - k) * 2 ^ k : Nat) : Int) by rw [← hlow]; rfl]
 refine sy (yd_int rfl rfl (or_add32 (ws.getD i 0) (a.getD i 0 % 2 ^ (32 - k)) k hwi hsum)) rfl <| sy (yd_ixO rfl rfl (by omega) (by omega)) rfl <| ?_
 rw [show ((i : Int) + 0).toNat = i by omega]
 refine sc (ch_storeD (d := ws.getD i 0 + a.getD i 0 % 2 ^ (32 - k) * 2 ^ k) rfl rfl rfl (.hd ..) (by omega) rfl ?_)
 refine zE <| st_region <| sm rfl rfl <| sm rfl rfl <| sm rfl rfl <| sy (yd_add64 rfl rfl) rfl <| sy (yd_add64 rfl rfl) rfl <| sm rfl rfl <| sy (yd_shr rfl rfl (by decide)) rfl <| ?_
 rw [shr32]
 have hhi : a.getD i 0 * 2 ^ k / 4294967296 < 2 ^ k := Nat.div_lt_of_lt_mul hvb
 refine sy (yd_toU32 rfl) rfl <| sy (yd_ixO rfl rfl (by omega) (by omega)) rfl <| ?_
 rw [show ((i : Int) + 0 + 1).toNat = i + 1 by omega]
 refine sc (ch_storeD (d := a.getD i 0 * 2 ^ k / 4294967296) rfl rfl (by omega) (.hd ..) (by simp; omega) rfl ?_)
 refine zE <| st_region <| sy (yd_add64 rfl rfl) rfl <| sm rfl rfl <| zE <| ?_
 refine st_again ⟨(ws.set i (ws.getD i 0 + a.getD i 0 % 2 ^ (32 - k) * 2 ^ k)).set (i + 1) (a.getD i 0 * 2 ^ k / 4294967296), i + 1⟩ ⟨by show i + 1 ≤ _; omega, by simp [hwl], (hwo.set _ hsum).set _ (by omega), fun j hj => ?_, ?_, ?_⟩ (by show a.length - (i + 1) < a.length - i; omega) (.cons rfl (.cons rfl (.cons rfl (.cons rfl (.cons rfl (.cons rfl .nil)))))) rfl
 · have hj' : i + 1 < j := hj
   show ((ws.set i _).set (i + 1) _).getD j 0 = 0
   rw [set_getD (by omega), set_getD (by omega)]; exact hz j (by omega)
 · show ((ws.set i _).set (i + 1) (a.getD i 0 * 2 ^ k / 4294967296)).getD (i + 1) 0 < 2 ^ k
   rw [List.getD_eq_getElem?_getD, List.getElem?_set_self (by simp; omega)]
   exact hhi
 · show dv ((ws.set i (ws.getD i 0 + a.getD i 0 % 2 ^ (32 - k) * 2 ^ k)).set (i + 1) (a.getD i 0 * 2 ^ k / 4294967296)) = dv (a.take (i + 1)) * 2 ^ k
   have h1 := dv_set (ws.set i (ws.getD i 0 + a.getD i 0 % 2 ^ (32 - k) * 2 ^ k)) (i + 1) (a.getD i 0 * 2 ^ k / 4294967296) (by simp; omega)
   rw [set_getD (by omega), hz (i + 1) (by omega), Nat.mul_zero, Nat.add_zero] at h1
   have h2 := dv_set ws i (ws.getD i 0 + a.getD i 0 % 2 ^ (32 - k) * 2 ^ k) (by omega)
   rw [Nat.mul_add] at h2
   rw [h1, dv_take_succ, Nat.add_mul, ← hinv, Nat.mul_assoc, mul_split (4294967296 ^ i) (a.getD i 0 * 2 ^ k), ← hlow] at *
   rw [Nat.pow_succ]
   omega
end Go.Sx
end

section
namespace Go.Sx
theorem powB (i : Nat) : (4294967296 : Nat) ^ (i + 1) = 4294967296 ^ i * 4294967296 := Nat.pow_succ ..
theorem kn_init {U p V T S first third : Nat} (hU : U < (first * 4294967296 + third + 1) * p) (h3 : third < 4294967296) (hV : (T * 4294967296 + S) * p ≤ V) (hT : 0 < T) :
  U < (first / T + 1) * V := by
 have h1 : first + 1 ≤ (first / T + 1) * T := by
  have := Nat.lt_mul_div_succ first hT
  rw [Nat.mul_comm]; omega
 calc U < (first * 4294967296 + third + 1) * p := hU
  _ ≤ ((first + 1) * 4294967296) * p := Nat.mul_le_mul_right _ (by omega)
  _ ≤ (((first / T + 1) * T) * 4294967296) * p := Nat.mul_le_mul_right _ (Nat.mul_le_mul_right _ h1)
  _ = (first / T + 1) * ((T * 4294967296) * p) := by rw [Nat.mul_assoc (first / T + 1), Nat.mul_assoc (first / T + 1)]
  _ ≤ (first / T + 1) * V := Nat.mul_le_mul_left _ (Nat.le_trans (Nat.mul_le_mul_right _ (Nat.le_add_right _ _)) hV)
theorem kn_f {U p V T S first third v0 : Nat} (hU : (first * 4294967296 + third) * p ≤ U) (hV : V = (T * 4294967296 + S) * p + v0) (hv : v0 < p) (hlt : U < V * 4294967296) : first ≤ T * 4294967296 + S := by
 rcases Nat.lt_or_ge (T * 4294967296 + S) first with h | h
 · exfalso
   have h1 : (T * 4294967296 + S + 1) * p ≤ first * p := Nat.mul_le_mul_right p h
   rw [Nat.add_mul _ 1, Nat.one_mul] at h1
   rw [Nat.add_mul, Nat.mul_right_comm] at hU
   have : 0 ≤ third * p := Nat.zero_le _
   omega
 · exact h
theorem kn_dec {U p V T S first third g r : Nat} (hU : U < (first * 4294967296 + third + 1) * p) (hV : (T * 4294967296 + S) * p ≤ V) (hg : first = g * T + r) (hc : r * 4294967296 + third < g * S) : U < g * V := by
 refine Nat.lt_of_lt_of_le hU (Nat.le_trans (Nat.mul_le_mul_right p (m := g * (T * 4294967296 + S)) ?_) ?_)
 · rw [Nat.mul_add, ← Nat.mul_assoc, hg, Nat.add_mul]; omega
 · rw [Nat.mul_assoc]; exact Nat.mul_le_mul_left _ hV
theorem kn_hi {U p V T S first third g r v0 : Nat} (hU : (first * 4294967296 + third) * p ≤ U) (hV : V = (T * 4294967296 + S) * p + v0) (hv : v0 < p) (hT : 0 < T) (hg : first = g * T + r) (hgB : g < 4294967296) (hc : g * S ≤ r * 4294967296 + third) : g * V < U + V := by
 have h1 : g * ((T * 4294967296 + S) * p) ≤ U := by
  rw [← Nat.mul_assoc]
  refine Nat.le_trans (Nat.mul_le_mul_right p ?_) hU
  rw [Nat.mul_add, ← Nat.mul_assoc, hg, Nat.add_mul]; omega
 have h2 : g * v0 ≤ 4294967295 * v0 := Nat.mul_le_mul_right _ (by omega)
 have h3 : 4294967296 * p ≤ V := by
  rw [hV]
  refine Nat.le_trans (Nat.mul_le_mul_right p ?_) (Nat.le_add_right _ _)
  omega
 have h4 : g * V = g * ((T * 4294967296 + S) * p) + g * v0 := by rw [← Nat.mul_add, ← hV]
 omega
theorem kn_rest {U V R g : Nat} (h : U < (g + 1) * V) (hr : R + g * V = U) : R < V := by
 rw [Nat.add_mul, Nat.one_mul] at h
 omega
theorem kn_back {U V R R' g w M : Nat} (h2 : g * V < U + V) (hr : R + g * V = U + M) (hb : R' + w * M = R + V) (hR : R < M) (hR' : R' < M) (hw : w ≤ 1) (hg : 0 < g) : R' + (g - 1) * V = U ∧ R' < V := by
 have hgv : g * V = (g - 1) * V + V := by
   conv => lhs; rw [show g = (g - 1) + 1 by omega, Nat.add_mul, Nat.one_mul]
 have : w = 1 := by
   rcases Nat.lt_or_ge w 1 with h | h
   · have : w = 0 := by omega
     subst this
     omega
   · omega
 subst this
 omega
theorem dv_dropS (us : List Nat) (i : Nat) : dv (us.drop i) = us.getD i 0 + 4294967296 * dv (us.drop (i + 1)) := by
 rcases Nat.lt_or_ge i us.length with h | h
 · rw [List.drop_eq_getElem_cons h]; simp [dv, List.getD, List.getElem?_eq_getElem h]
 · rw [List.drop_of_length_le h, List.drop_of_length_le (by omega)]
   simp [dv, List.getElem?_eq_none h, List.getD]
theorem dv_split' (us : List Nat) (i : Nat) : dv us = dv (us.take i) + 4294967296 ^ i * dv (us.drop i) := by
 rcases Nat.lt_or_ge us.length i with h | h
 · rw [List.take_of_length_le (by omega), List.drop_of_length_le (by omega)]; simp [dv]
 · exact dv_split us i h
theorem dv_take_lt {us : List Nat} (h : DOk us) (i : Nat) : dv (us.take i) < 4294967296 ^ i := by
 refine Nat.lt_of_lt_of_le (dv_lt (h.take i)) (Nat.pow_le_pow_right (by decide) ?_)
 simp [List.length_take]; omega
theorem dv_drop0 {us : List Nat} {i : Nat} (hd : dv us < 4294967296 ^ i) : dv (us.drop i) = 0 := by
 have h := dv_split' us i
 rcases Nat.eq_zero_or_pos (dv (us.drop i)) with h0 | h0
 · exact h0
 · have := Nat.mul_le_mul_left (4294967296 ^ i) h0
   omega
theorem ms_step {W W' U E p u x bo b c c1 g d : Nat} (hs : W' + p * u = W + p * x) (hw : W + E = U + (bo + c) * p) (hc : c1 = c + g * d) (hx : x + (c1 % 4294967296 + bo) = u + b * 4294967296) :
  W' + (E + g * d * p) = U + (b + c1 / 4294967296) * (p * 4294967296) := by
 have h1 := congrArg (p * ·) hx
 simp only [Nat.mul_add] at h1
 have h2 : p * c1 = p * (c1 % 4294967296) + p * (c1 / 4294967296) * 4294967296 := by
  rw [Nat.mul_assoc, ← Nat.mul_add, Nat.mod_add_div']
 have h3 : p * c1 = p * c + p * (g * d) := by rw [hc, Nat.mul_add]
 rw [Nat.add_mul, Nat.mul_comm bo, Nat.mul_comm c] at hw
 rw [Nat.mul_comm (g * d), Nat.add_mul, ← Nat.mul_assoc b, ← Nat.mul_assoc (c1 / 4294967296), Nat.mul_comm b, Nat.mul_comm (c1 / 4294967296)]
 rw [← Nat.mul_assoc] at h1
 omega
theorem ms_last {W W' U E p u x bo b c : Nat} (hs : W' + p * u = W + p * x) (hw : W + E = U + (bo + c) * p) (hx : x + (c + bo) = u + b * 4294967296) : W' + E = U + b * (p * 4294967296) := by
 have h1 := congrArg (p * ·) hx
 simp only [Nat.mul_add] at h1
 rw [Nat.add_mul, Nat.mul_comm bo, Nat.mul_comm c] at hw
 rw [← Nat.mul_assoc b, Nat.mul_comm b]
 rw [← Nat.mul_assoc] at h1
 omega
theorem ab_step {W W' R E p u d c : Nat} (hs : W' + p * u = W + p * ((c + (u + d)) % 4294967296)) (hw : W + c * p = R + E) : W' + (c + (u + d)) / 4294967296 * (p * 4294967296) = R + (E + d * p) := by
 have h2 : p * (c + (u + d)) = p * ((c + (u + d)) % 4294967296) + p * ((c + (u + d)) / 4294967296) * 4294967296 := by
  rw [Nat.mul_assoc, ← Nat.mul_add, Nat.mod_add_div']
 rw [Nat.mul_add p c, Nat.mul_add p u] at h2
 rw [Nat.mul_comm c] at hw
 rw [Nat.mul_comm d, ← Nat.mul_assoc, Nat.mul_comm _ p]
 omega
theorem ab_last {W W' R p u c : Nat} (hs : W' + p * u = W + p * ((u + c) % 4294967296)) (hw : W + c * p = R) : W' + (u + c) / 4294967296 * (p * 4294967296) = R := by
 have h2 : p * (u + c) = p * ((u + c) % 4294967296) + p * ((u + c) / 4294967296) * 4294967296 := by
  rw [Nat.mul_assoc, ← Nat.mul_add, Nat.mod_add_div']
 rw [Nat.mul_add p u] at h2
 rw [Nat.mul_comm c] at hw
 rw [← Nat.mul_assoc, Nat.mul_comm _ p]
 omega
theorem head3 {us : List Nat} (h : DOk us) (i : Nat) (hd : dv us < 4294967296 ^ (i + 3)) :
  dv us = ((us.getD (i + 2) 0 * 4294967296 + us.getD (i + 1) 0) * 4294967296 + us.getD i 0) * 4294967296 ^ i + dv (us.take i) := by
 have h0 := dv_drop0 hd
 rw [dv_split' us i, dv_dropS us i, dv_dropS us (i + 1), dv_dropS us (i + 2), h0, Nat.add_comm, Nat.mul_comm]
 congr 2
 omega
theorem head2 {us : List Nat} (h : DOk us) (i : Nat) (hd : dv us < 4294967296 ^ (i + 2)) :
  dv us = (us.getD (i + 1) 0 * 4294967296 + us.getD i 0) * 4294967296 ^ i + dv (us.take i) := by
 have h0 := dv_drop0 hd
 rw [dv_split' us i, dv_dropS us i, dv_dropS us (i + 1), h0, Nat.add_comm, Nat.mul_comm]
 congr 2
 omega
theorem dv_set_lt {us : List Nat} {k i d : Nat} (h : DOk us) (hd : d < 4294967296) (hk : dv us < 4294967296 ^ k) (hi : i < k) : dv (us.set i d) < 4294967296 ^ k := by
 rw [dv_split' _ k, List.drop_set, if_pos hi, dv_drop0 hk, Nat.mul_zero, Nat.add_zero]
 exact dv_take_lt (h.set i hd) k
end Go.Sx
end

section
set_option maxRecDepth 100000
namespace Go.Sx
open Go Go.Proofs
theorem shr_digit (p k a1 a2 E : Nat) (hk : k < 32) (h1 : a1 < 4294967296) (hp : p = 2 ^ k) : (a1 + 4294967296 * (a2 + 4294967296 * E)) / p = (a1 + a2 * 4294967296) / p % 4294967296 + 4294967296 * ((a2 + 4294967296 * E) / p) := by
 subst hp
 have hp0 : 0 < (2 : Nat) ^ k := Nat.pow_pos (by omega)
 have hB : 4294967296 = 2 ^ (32 - k) * 2 ^ k := by rw [← Nat.pow_add, show 32 - k + k = 32 by omega]
 -- the quotient and the rest of the quotient by the base
 have hq : (a1 + 4294967296 * (a2 + 4294967296 * E)) / 2 ^ k / 4294967296 = (a2 + 4294967296 * E) / 2 ^ k := by
  rw [Nat.div_div_eq_div_mul, Nat.mul_comm (2 ^ k), ← Nat.div_div_eq_div_mul, Nat.add_mul_div_left _ _ (by decide), Nat.div_eq_of_lt h1, Nat.zero_add]
 have hr : (a1 + 4294967296 * (a2 + 4294967296 * E)) / 2 ^ k % 4294967296 = (a1 + a2 * 4294967296) / 2 ^ k % 4294967296 := by
  have e1 : a1 + 4294967296 * (a2 + 4294967296 * E) = (a1 + a2 * 4294967296) + 2 ^ k * (2 ^ (32 - k) * (4294967296 * E)) := by
   rw [← Nat.mul_assoc (2 ^ k), Nat.mul_comm (2 ^ k) (2 ^ (32 - k)), ← hB]
   omega
  rw [e1, Nat.add_mul_div_left _ _ hp0]
  rw [show 2 ^ (32 - k) * (4294967296 * E) = 4294967296 * (2 ^ (32 - k) * E) by rw [Nat.mul_left_comm]]
  rw [Nat.add_mul_mod_self_left]
 have h := Nat.mod_add_div ((a1 + 4294967296 * (a2 + 4294967296 * E)) / 2 ^ k) 4294967296
 rw [hq, hr] at h
 exact h.symm
theorem dv_drop (a : List Nat) (i : Nat) : dv (a.drop i) = a.getD i 0 + 4294967296 * dv (a.drop (i + 1)) := by
 by_cases h : i < a.length
 · rw [List.drop_eq_getElem_cons h, List.getD_eq_getElem?_getD, List.getElem?_eq_getElem h]; rfl
 · rw [List.drop_of_length_le (by omega), List.drop_of_length_le (by omega), getD_ge (by omega)]; rfl
theorem shr_step {a : List Nat} (ha : DOk a) (k i : Nat) (hk : k < 32) : dv (a.drop i) / 2 ^ k = (a.getD i 0 + a.getD (i + 1) 0 * 4294967296) / 2 ^ k % 4294967296 + 4294967296 * (dv (a.drop (i + 1)) / 2 ^ k) := by
 rw [dv_drop a i, dv_drop a (i + 1)]
 exact shr_digit _ k _ _ _ hk (ha.get i) rfl
set_option maxHeartbeats 1000000 in
theorem nat_Shr {A G : Gh} {x : SV} {ds : List Nat} {k kk : Nat} (hx : IsD A x ds) [GL A G] (hk32 : k < 32) (hk : dv ds / 2 ^ k < 2 ^ kk) (hb : ds.length ≤ 1125899906842) :
   Fn Tryz.prog 227 [x.v, .int .u64 (k : Int)] G (fun v G' => ∃ z : SV, v = z.v ∧ IsN kk G' z (dv ds / 2 ^ k)) := by
 have htl := trimD_len ds
 have hcall := fun G1 (_ : GL A G1) => nat_trim (G := G1) hx (by omega)
 have hxt := hx.trim
 rw [← dv_trimD ds] at hk ⊢
 generalize trimD ds = a at *
 have hok := hxt.ok
 refine Fn.intro Tryz.func227 rfl rfl Tryz.ntmps227 rfl ?_
 intro C _ _
 refine sR <| sa rfl rfl <| zE <| sR <| sm rfl rfl <| ?_
 refine sc (zC rfl rfl (hcall _ inferInstance) rfl ?_)
 rintro _ G1 _ rfl
 refine sa rfl rfl <| zE <| st_seq <| sR <| sm rfl rfl <| sy (yd_quoU rfl rfl (by omega) (by omega) (by decide)) rfl <| sm rfl rfl <| slen rfl rfl <| sy (yd_toU64 rfl) rfl <| ?_
 rw [show (k : Int) / 32 = 0 by omega]
 refine sy (yd_geq rfl rfl) rfl <| zE <| ?_
 refine st_condP rfl (fun hc => ?_) (fun hc => ?_) -- slot 17
 · refine sR <| sa rfl rfl <| zE <| st_ret <| ?_
   have : a = [] := List.eq_nil_of_length_eq_zero (by omega)
   subst this
   refine zD (.tmp rfl .nil) ⟨⟨none, 0, 0⟩, rfl, ?_⟩
   have e0 : dv [] / 2 ^ k = 0 := by simp [dv]
   rw [e0]
   exact ⟨by unfold dg; exact .nil _, Nat.pow_pos (by omega)⟩
 refine zK <| sR <| sm rfl rfl <| sy (yd_quoU rfl rfl (by omega) (by omega) (by decide)) rfl <| sy (yd_toI64 rfl) rfl <| sm rfl rfl <| sy (yd_remU rfl rfl (by omega) (by decide)) rfl <| ?_
 rw [show (k : Int) / 32 = 0 by omega, show (k : Int) % 32 = k by omega]
 refine sa rfl rfl <| sa rfl rfl <| zE <| sR <| sm rfl rfl <| slen rfl rfl <| sm rfl rfl <| sy (yd_sub64 rfl rfl) rfl <| ?_
 refine sc (ch_make rfl rfl (by omega) (by omega) (by omega) (by rfl) rfl ?_)
 intro b2
 rw [zeros_dI, show ((a.length : Int) - 0).toNat = a.length by omega]
 refine sa rfl rfl <| zE <| st_seq <| sR <| sm rfl rfl <| slen rfl rfl <| sm rfl rfl <| zE <| st_block <| ?_
 refine st_loop (X := NatShift) (fun q => [(30, .int .i64 q.i), (29, .int .i64 a.length), (0, .slice x.a a.length x.c), (5, .int .i64 0), (7, .slice (some ⟨b2, 0, none⟩) a.length a.length), (6, .int .u64 k)])
   (fun q => [⟨b2, q.ws.map dI, 224, true⟩])
   (fun q _ => q.i ≤ a.length ∧ q.ws.length = a.length ∧ DOk q.ws ∧ dv a / 2 ^ k = dv (q.ws.take q.i) + 4294967296 ^ q.i * (dv (a.drop q.i) / 2 ^ k)) (fun q => a.length - q.i) ⟨List.replicate a.length 0, 0⟩
   ⟨Nat.zero_le _, by simp, .replicate _, by simp [dv]⟩ (.cons rfl (.cons rfl (.cons rfl (.cons rfl (.cons rfl (.cons rfl .nil)))))) rfl ?_
 rintro ⟨ws, i⟩ Gy _ ⟨hia, hwl, hwo, hinv⟩
 simp only [] at hia hwl hwo hinv ⊢
 refine sR <| sy (yd_lss rfl rfl) rfl <| zE <| st_seq <| ?_
 refine st_condE rfl (fun hc => ?_) (fun hc => ?_) -- slot 31
 · have hin : i = a.length := by omega
   refine st_exit <| st_te <| st_te <| st_inBlock_eq <| sR <| sm rfl rfl <| ?_
   refine st_freeze b2 (.hd ..) (fun G3 _ hgb => ?_)
   have hD : IsD G3 ⟨some ⟨b2, 0, none⟩, a.length, a.length⟩ ws := .of_block hwo hgb.h hwl.symm (Nat.le_refl _) (by rw [List.take_of_length_le (by simp)])
   have hdv : dv a / 2 ^ k = dv ws := by
     rw [hinv, hin, List.take_of_length_le (by omega), List.drop_length]
     simp [dv]
   refine sc (zC rfl rfl (nat_trim hD (by omega)) rfl ?_)
   rintro _ G4 _ rfl
   refine sa rfl rfl <| zE <| st_ret <| ?_
   refine zD (.tmp rfl .nil) ⟨⟨some ⟨b2, 0, none⟩, (trimD ws).length, a.length⟩, rfl, ?_⟩
   have h3 := hD.trim.up (G := G4)
   rw [hdv] at hk ⊢
   exact ⟨by rw [dg_trim hwo]; exact h3, hk⟩
 have hia' : i < a.length := by omega
 have hga := hok.get i
 have hga2 := hok.get (i + 1)
 refine zK <| st_seq <| st_block <| sR <| sm rfl rfl <| sa rfl rfl <| zE <| sR <| sm rfl rfl <| sm rfl rfl <| sm rfl rfl <| sy (yd_add64 rfl rfl) rfl <| ?_
 refine sy (yd_ixD (z := ⟨x.a, a.length, x.c⟩) hxt rfl rfl (by omega) (by show ((i : Int) + 0) < (a.length : Nat); omega)) rfl <| ?_
 rw [show ((i : Int) + 0).toNat = i by omega]
 refine sy (yd_ldD hxt rfl (by omega)) rfl <| sy (yd_toU64 rfl) rfl <| sa rfl rfl <| zE <| ?_
 refine st_cut Unit (fun _ => [(30, .int .i64 i), (8, .int .i64 i), (29, .int .i64 a.length), (0, .slice x.a a.length x.c), (5, .int .i64 0), (7, .slice (some ⟨b2, 0, none⟩) a.length a.length), (6, .int .u64 k), (9, .int .u64 ((a.getD i 0 + a.getD (i + 1) 0 * 2 ^ 32 : Nat) : Int))]) (fun _ => [⟨b2, ws.map dI, 224, true⟩]) (fun _ _ => True) ?_ ?_
 · refine sR <| sm rfl rfl <| sm rfl rfl <| sy (yd_add64 rfl rfl) rfl <| sy (yd_add64 rfl rfl) rfl <| sm rfl rfl <| slen rfl rfl <| sy (yd_lss rfl rfl) rfl <| ?_
   refine zE <| ?_
   refine st_condP rfl (fun hc2 => ?_) (fun hc2 => ?_) -- slot 46
   · refine st_region <| sm rfl rfl <| sm rfl rfl <| sm rfl rfl <| sm rfl rfl <| sy (yd_add64 rfl rfl) rfl <| sy (yd_add64 rfl rfl) rfl <| sy (yd_ixD (z := ⟨x.a, a.length, x.c⟩) hxt rfl rfl (by omega) (by show ((i : Int) + 0 + 1) < (a.length : Nat); omega)) rfl <| ?_
     rw [show ((i : Int) + 0 + 1).toNat = i + 1 by omega]
     refine sy (yd_ldD hxt rfl (by omega)) rfl <| sy (yd_toU64 rfl) rfl <| sy (yd_shl rfl rfl (by decide)) rfl <| ?_
     rw [shl_u64 (a.getD (i + 1) 0) 32 (by decide) (by omega) rfl]
     refine sy (yd_int rfl rfl (or_add (a.getD i 0) (a.getD (i + 1) 0) 32 (by omega) (by omega))) rfl <| sa rfl rfl <| zE <| ?_
     exact st_at () trivial (.cons rfl (.cons rfl (.cons rfl (.cons rfl (.cons rfl (.cons rfl (.cons rfl (.cons rfl .nil)))))))) rfl
   refine zK <| ?_
   have h0 : a.getD (i + 1) 0 = 0 := getD_ge (by omega)
   exact st_at () trivial (.cons rfl (.cons rfl (.cons rfl (.cons rfl (.cons rfl (.cons rfl (.cons rfl (.cons (by rw [h0, Nat.zero_mul, Nat.add_zero]; rfl) .nil)))))))) rfl
 rintro _ Gz _ _
 refine st_region <| sm rfl rfl <| sm rfl rfl <| sm rfl rfl <| sm rfl rfl <| sy (yd_shr rfl rfl (by omega)) rfl <| ?_
 rw [shr_u64 _ k (by omega) (Int.toNat_natCast k)]
 refine sy (yd_toU32 rfl) rfl <| sy (yd_ixO rfl rfl (by omega) (by omega)) rfl <| ?_
 rw [Int.toNat_natCast]
 refine sc (ch_storeD (d := (a.getD i 0 + a.getD (i + 1) 0 * 2 ^ 32) / 2 ^ k % 4294967296) rfl rfl (by rw [Int.natCast_emod]; rfl) (.hd ..) (by omega) rfl ?_)
 refine zE <| st_region <| sy (yd_add64 rfl rfl) rfl <| sm rfl rfl <| zE <| ?_
 refine st_again ⟨ws.set i ((a.getD i 0 + a.getD (i + 1) 0 * 2 ^ 32) / 2 ^ k % 4294967296), i + 1⟩ ⟨by show i + 1 ≤ _; omega, by simp [hwl], hwo.set _ (Nat.mod_lt _ (by decide)), ?_⟩ (by show a.length - (i + 1) < a.length - i; omega) (.cons rfl (.cons rfl (.cons rfl (.cons rfl (.cons rfl (.cons rfl .nil)))))) rfl
 show dv a / 2 ^ k = dv ((ws.set i ((a.getD i 0 + a.getD (i + 1) 0 * 2 ^ 32) / 2 ^ k % 4294967296)).take (i + 1)) + 4294967296 ^ (i + 1) * (dv (a.drop (i + 1)) / 2 ^ k)
 rw [hinv, dv_set_take (by omega), shr_step hok k i hk32, powB i, Nat.mul_add, Nat.mul_assoc, Nat.add_assoc]
end Go.Sx
end

section
set_option maxRecDepth 100000
namespace Go.Sx
open Go Go.Proofs
theorem dg_len {V n : Nat} (h1 : 4294967296 ^ (n - 1) ≤ V) (h2 : V < 4294967296 ^ n) (hn : 0 < n) : (dg V).length = n := by
 obtain ⟨e, hk, hr⟩ := dg_spec V
 have hne : dg V ≠ [] := fun h => by
  rw [h] at e
  have : 0 < 4294967296 ^ (n - 1) := Nat.pow_pos (by decide)
  simp [dv] at e; omega
 have h3 := nrm_ge hr hne
 have h4 := dv_lt hk
 rw [e] at h3 h4
 have h5 := (Nat.pow_lt_pow_iff_right (a := 4294967296) (by decide)).1 (Nat.lt_of_le_of_lt h3 h2)
 have h6 := (Nat.pow_lt_pow_iff_right (a := 4294967296) (by decide)).1 (Nat.lt_of_le_of_lt h1 h4)
 omega
theorem top_shift {t s : Nat} (h0 : 0 < t) (ht : t < 4294967296) (hs : s = 32 - bl t) : s < 32 ∧ 2147483648 ≤ t * 2 ^ s ∧ (t + 1) * 2 ^ s ≤ 4294967296 := by
 have h1 : bl t ≤ 32 := bl_le.2 ht
 have h2 : bl t ≠ 0 := fun h => by
   have := lt_bl t
   rw [h] at this; omega
 have h3 := lt_bl t
 have h4 : ¬ t < 2 ^ (bl t - 1) := fun h => by
   have := bl_le.2 h
   omega
 have e1 : 2 ^ (bl t - 1) * 2 ^ s = 2147483648 := by rw [← Nat.pow_add, show bl t - 1 + s = 31 by omega]
 have e2 : 2 ^ bl t * 2 ^ s = 4294967296 := by rw [← Nat.pow_add, show bl t + s = 32 by omega]
 refine ⟨by omega, ?_, ?_⟩
 · rw [← e1]; exact Nat.mul_le_mul_right _ (by omega)
 · rw [← e2]; exact Nat.mul_le_mul_right _ h3
theorem head1 {us : List Nat} (h : DOk us) (i : Nat) (hd : us.length = i + 1) : dv us = us.getD i 0 * 4294967296 ^ i + dv (us.take i) := by
 have h0 : dv (us.drop (i + 1)) = 0 := by rw [List.drop_of_length_le (by omega)]; rfl
 rw [dv_split' us i, dv_dropS us i, h0, Nat.add_comm, Nat.mul_comm]; rfl
theorem nrm_top {b : List Nat} (h : Nrm b) (i : Nat) (hi : b.length = i + 1) : 0 < b.getD i 0 := by
 rcases Nat.eq_zero_or_pos (b.getD i 0) with h0 | h0
 · exfalso
   apply h
   rw [List.getLast?_eq_getElem?, hi, show i + 1 - 1 = i from rfl]
   rw [List.getD, List.getElem?_eq_getElem (by omega)] at h0
   rw [List.getElem?_eq_getElem (by omega)]
   simpa using h0
 · exact h0
theorem dv_zeros (a : List Nat) (k : Nat) : dv (a ++ List.replicate k 0) = dv a := by rw [dv_append, dv_replicate]; simp
structure NatLong where
 us : List Nat
 qs : List Nat
 j : Nat
structure NatGuess where
 g : Nat
 r : Nat
structure NatMs where
 ws : List Nat
 k : Nat
 bo : Nat
 c : Nat
theorem and_mask {P : Program} {t : TypeId} (c : Nat) (h : c < 18446744073709551616) (w : World) : (binOp .and t (.int .u64 (c : Int)) (.int .u64 4294967295)).run P w = .ok (.int .u64 ((c % 4294967296 : Nat) : Int)) w := by
 have h1 : (BitVec.ofInt 64 (c : Int) &&& BitVec.ofInt 64 4294967295).toNat = c % 4294967296 := by
  rw [BitVec.toNat_and, BitVec.ofInt_natCast, BitVec.toNat_ofNat, Nat.mod_eq_of_lt (by omega), show (BitVec.ofInt 64 4294967295).toNat = 2 ^ 32 - 1 from rfl, Nat.and_two_pow_sub_one_eq_mod]
 have h2 : IntKind.u64.wrap ((c % 4294967296 : Nat) : Int) = ((c % 4294967296 : Nat) : Int) := by rw [wrap_u64]; omega
 simp only [binOp]
 show (Op.intBits .and .u64 (c : Int) 4294967295).run P w = _
 unfold Op.intBits
 show (pure (Value.int .u64 (IntKind.u64.wrap ((BitVec.ofInt 64 (c : Int) &&& BitVec.ofInt 64 4294967295).toNat : Int))) : Sem Value).run P w = _
 rw [h1, h2, run_pure]
def msx (u m bo : Nat) : Nat := if m + bo ≤ u then u - (m + bo) else u + 18446744073709551616 - (m + bo)
theorem sub2 (u m bo : Nat) (hu : u < 4294967296) (hm : m < 4294967296) (hb : bo ≤ 1) : IntKind.u64.wrap (IntKind.u64.wrap ((u : Int) - (m : Int)) - (bo : Int)) = ((msx u m bo : Nat) : Int) := by
 rw [wrap_u64, wrap_u64]
 unfold msx
 split <;> omega
theorem msx_spec (u m bo : Nat) (hu : u < 4294967296) (hm : m < 4294967296) (hb : bo ≤ 1) : msx u m bo % 4294967296 + (m + bo) = u + msx u m bo / 9223372036854775808 * 4294967296 ∧ msx u m bo / 9223372036854775808 ≤ 1 ∧ msx u m bo < 18446744073709551616 := by
 unfold msx
 split <;> omega
set_option maxHeartbeats 2000000 in
theorem nat_long {A B G : Gh} {x y : SV} {a b : List Nat} {k1 k2 : Nat} (hx : IsD A x a) (hy : IsD B y b) [GL A G] [GL B G] (hna : Nrm a) (hnb : Nrm b) (hb2 : 2 ≤ b.length) (hle : dv b ≤ dv a)
   (hq : dv a / dv b < 2 ^ k1) (hr : dv a % dv b < 2 ^ k2) (hl : a.length ≤ 112589990684) :
   Fn Tryz.prog 214 [x.v, y.v] G (fun v G' => ∃ z r : SV, v = .tuple #[z.v, r.v] ∧ IsN k1 G' z (dv a / dv b) ∧ IsN k2 G' r (dv a % dv b)) := by
 have hxl := hx.len
 have hyl := hy.len
 obtain ⟨n, hn⟩ : ∃ n, b.length = n + 2 := ⟨b.length - 2, by omega⟩
 have hbp : 0 < dv b := Nat.pos_of_ne_zero fun h => by
   rw [nrm_zero hnb] at h
   rw [h] at hn; simp at hn
 have hnm : b.length ≤ a.length := by
   rcases Nat.lt_or_ge a.length b.length with h | h
   · have := dv_len_lt hx.ok hnb h
     omega
   · exact h
 have htp := nrm_top hnb (n + 1) hn
 have htl := hy.ok.get (n + 1)
 have hbv := head1 hy.ok (n + 1) hn
 have hbt := dv_take_lt hy.ok (n + 1)
 obtain ⟨s, hs⟩ : ∃ s, s = 32 - bl (b.getD (n + 1) 0) := ⟨_, rfl⟩
 obtain ⟨hs32, hs1, hs2⟩ := top_shift htp htl hs
 have hble : bl (b.getD (n + 1) 0) ≤ 32 := bl_le.2 htl
 have hpn : 0 < 4294967296 ^ (n + 1) := Nat.pow_pos (by decide)
 have hps : 0 < 2 ^ s := Nat.pow_pos (by decide)
 have hV1 : 2147483648 * 4294967296 ^ (n + 1) ≤ dv b * 2 ^ s := by
   refine Nat.le_trans (Nat.mul_le_mul_right _ hs1) ?_
   rw [Nat.mul_assoc, Nat.mul_comm (2 ^ s), ← Nat.mul_assoc]
   exact Nat.mul_le_mul_right _ (by omega)
 have hV2 : dv b * 2 ^ s < 4294967296 ^ (n + 2) := by
   refine Nat.lt_of_lt_of_le (Nat.mul_lt_mul_of_pos_right (k := 2 ^ s) (m := (b.getD (n + 1) 0 + 1) * 4294967296 ^ (n + 1)) (by rw [Nat.add_mul, Nat.one_mul]; omega) hps) ?_
   rw [Nat.mul_assoc, Nat.mul_comm (4294967296 ^ (n + 1)), ← Nat.mul_assoc, powB (n + 1), Nat.mul_comm _ 4294967296]
   exact Nat.mul_le_mul_right _ hs2
 have hVl : (dg (dv b * 2 ^ s)).length = n + 2 := dg_len (by show 4294967296 ^ (n + 1) ≤ _; omega) hV2 (by omega)
 have hal := dv_lt hx.ok
 have hU2 : dv a * 2 ^ s < 4294967296 ^ (a.length + 1) := by
   rw [powB]
   exact Nat.mul_lt_mul'' hal (Nat.lt_of_lt_of_le (Nat.pow_lt_pow_right (by decide) hs32) (by decide))
 have hUl1 : (dg (dv a * 2 ^ s)).length ≤ a.length + 1 := by
   have h1 := nrm_len (dg_spec (dv a * 2 ^ s)).2.2 (k := 32 * (a.length + 1)) (by rw [(dg_spec _).1, Nat.pow_mul]; exact hU2)
   omega
 have hUl0 : a.length ≤ (dg (dv a * 2 ^ s)).length := by
   have hane : a ≠ [] := fun h => by
     have := congrArg List.length h
     simp only [List.length_nil] at this; omega
   have h1 := nrm_ge hna hane
   have h2 := dv_lt (dg_spec (dv a * 2 ^ s)).2.1
   rw [(dg_spec _).1] at h2
   have h3 : dv a ≤ dv a * 2 ^ s := Nat.le_mul_of_pos_right _ hps
   have h4 := (Nat.pow_lt_pow_iff_right (a := 4294967296) (by decide)).1 (Nat.lt_of_le_of_lt (Nat.le_trans h1 h3) h2)
   omega
 have hU3 : dv a * 2 ^ s < dv b * 2 ^ s * 4294967296 ^ (a.length - n - 1) := by
   have h1 : 4294967296 ^ (n + 1) * 4294967296 ^ (a.length - n - 1) = 4294967296 ^ a.length := by rw [← Nat.pow_add, show n + 1 + (a.length - n - 1) = a.length by omega]
   refine Nat.lt_of_lt_of_le (Nat.mul_lt_mul_of_pos_right hal hps) (Nat.le_trans (Nat.mul_le_mul_left _ (Nat.pow_le_pow_right (by decide) (show s ≤ 31 by omega))) ?_)
   rw [← h1, Nat.mul_comm, ← Nat.mul_assoc]
   exact Nat.mul_le_mul_right _ hV1
 have hta := trimD_nrm hna
 have htb := trimD_nrm hnb
 refine Fn.intro Tryz.func214 rfl rfl Tryz.ntmps214 rfl ?_
 intro C _ _
 refine sR <| sa rfl rfl <| sa rfl rfl <| zE <| st_scope <| sR <| sm rfl rfl <| sm rfl rfl <| slen rfl rfl <| sy (yd_sub64 rfl rfl) rfl <| ?_
 refine sy (yd_ixD hy rfl rfl (by omega) (by omega)) rfl <| ?_
 rw [show ((y.n : Int) - 1).toNat = n + 1 by omega]
 refine sy (yd_ldD hy rfl (by omega)) rfl <| ?_
 refine sc (zC rfl rfl (bits_lz32 htl) rfl ?_)
 rintro _ G1 _ rfl
 refine sy (yd_toU64 rfl) rfl <| ?_
 rw [show (32 - (bl (b.getD (n + 1) 0) : Int)) = (s : Int) by omega]
 refine sa rfl rfl <| zE <| sR <| sm rfl rfl <| sm rfl rfl <| ?_
 refine sc (zC rfl rfl (nat_Shl (kk := 32 * (a.length + 1)) hx hs32 (by rw [Nat.pow_mul]; exact hU2) (by omega)) rfl ?_)
 rintro _ G2 _ ⟨u, rfl, hu, huc⟩
 have hul := hu.len
 rw [hta] at huc
 refine sc (ch_slice (by rfl) (by rfl) (by rfl) (by rfl) rfl ?_)
 intro b3
 refine sc (ch_append_grow (z := .int .u32 0) (m := 2) rfl rfl (src_D hu.d) (src_own inferInstance rfl) (by omega) (by decide) (by omega) rfl ?_)
 intro b4 cap h1
 have ecs : (dg (dv a * 2 ^ s)).map dI ++ [Value.int .u32 0, .int .u32 0] ++ zeros (.int .u32 0) (cap - (u.n + 2)) = (dg (dv a * 2 ^ s) ++ List.replicate (cap - u.n) 0).map dI := by
   rw [zeros_dI, show cap - u.n = (cap - (u.n + 2)) + 1 + 1 by omega, List.replicate_succ, List.replicate_succ]
   simp [dI]
 rw [ecs]
 clear ecs
 have hus : dv (dg (dv a * 2 ^ s) ++ List.replicate (cap - u.n) 0) = dv a * 2 ^ s := by rw [dv_zeros, (dg_spec _).1]
 have huo : DOk (dg (dv a * 2 ^ s) ++ List.replicate (cap - u.n) 0) := (dg_spec _).2.1.append (.replicate _)
 have hulen : (dg (dv a * 2 ^ s) ++ List.replicate (cap - u.n) 0).length = cap := by simp; omega
 generalize dg (dv a * 2 ^ s) ++ List.replicate (cap - u.n) 0 = us0 at hus huo hulen ⊢
 refine sm rfl rfl <| slen rfl rfl <| sy (yd_add64 rfl rfl) rfl <| sy (yd_slice_hi rfl rfl (by omega) (by omega)) rfl <| sa rfl rfl <| zE <| sR <| sm rfl rfl <| ?_
 refine sm rfl rfl <| ?_
 refine sc (zC rfl rfl (nat_Shl (kk := 32 * (n + 2)) hy hs32 (by rw [Nat.pow_mul]; exact hV2) (by omega)) rfl ?_)
 rintro _ G4 _ ⟨v, rfl, hv, _⟩
 have hvl := hv.len
 obtain ⟨hvv, hvo, hvn⟩ := dg_spec (dv b * 2 ^ s)
 replace hv := hv.d
 rw [hVl] at hvl
 generalize hvs : dg (dv b * 2 ^ s) = vs at *
 refine sa rfl rfl <| zE <| sR <| sm rfl rfl <| slen rfl rfl <| sa rfl rfl <| zE <| st_seq <| dr (fun _ => false) [(0, true), (1, true), (2, true), (3, true), (4, true), (5, true), (6, true), (7, true), (8, true), (9, true), (10, true), (11, true), (12, true), (13, true)] follows (by kernel_rfl) <| ?_
 refine dM rfl rfl rfl <| dM rfl rfl rfl <| dy rfl (fun _ => yd_sub64 rfl rfl (by omega) (by omega)) rfl rfl <| dy rfl (fun _ => yd_ixD hv rfl rfl (by omega) (by omega)) rfl rfl <| ?_
 rw [show ((v.n : Int) - 1).toNat = n + 1 by omega]
 have hvt := hvo.get (n + 1)
 have hv2 := hvo.get n
 refine dy rfl (fun _ => yd_ldD hv rfl (by omega)) rfl rfl <| dy rfl (fun _ => yd_toU64 rfl (by omega) (by omega)) rfl rfl <| dM rfl rfl rfl <| dM rfl rfl rfl <| ?_
 refine dy rfl (fun _ => yd_sub64 rfl rfl (by omega) (by omega)) rfl rfl <| dy rfl (fun _ => yd_ixD hv rfl rfl (by omega) (by omega)) rfl rfl <| ?_
 rw [show ((v.n : Int) - 2).toNat = n by omega]
 refine dy rfl (fun _ => yd_ldD hv rfl (by omega)) rfl rfl <| ?_
 refine dy rfl (fun _ => yd_toU64 rfl (by omega) (by omega)) rfl rfl <| dA rfl rfl rfl <| dA rfl rfl rfl <| dn <| sR <| sm rfl rfl <| ?_
 refine slen rfl rfl <| sm rfl rfl <| sy (yd_sub64 rfl rfl) rfl <| ?_
 obtain ⟨l, hlq⟩ : ∃ l, a.length = n + 1 + l := ⟨a.length - n - 1, by omega⟩
 rw [show a.length - n - 1 = l by omega] at hU3
 rw [show (((x.n : Int) + 1).toNat : Int) - v.n = (l : Nat) by omega, show ((x.n : Int) + 1).toNat = a.length + 1 by omega]
 refine sc (ch_make rfl rfl (by omega) (by omega) (by omega) (by rfl) rfl ?_)
 intro b5
 rw [zeros_dI, Int.toNat_natCast]
 refine st_drop [_, _] (.cons_cons _ (.cons_cons _ (.cons _ .slnil))) ?_
 refine sa rfl rfl <| zE <| st_seq <| st_label <| st_seq <| sR <| sm rfl rfl <| slen rfl rfl <| sy (yd_sub64 rfl rfl) rfl <| sa rfl rfl <| zE <| st_block <| ?_
 refine st_loop (X := NatLong) (fun q => [(13, .int .i64 ((q.j : Int) - 1)), (7, .slice (some ⟨b4, 0, none⟩) (a.length + 1) cap), (9, .int .i64 v.n), (10, .int .u64 (vs.getD (n + 1) 0 : Nat)), (11, .int .u64 (vs.getD n 0 : Nat)), (8, .slice v.a v.n v.c), (12, .slice (some ⟨b5, 0, none⟩) l l), (6, .int .u64 s)])
   (fun q => [⟨b5, q.qs.map dI, 224, true⟩, ⟨b4, q.us.map dI, 224, true⟩])
   (fun q _ => q.us.length = cap ∧ DOk q.us ∧ q.qs.length = l ∧ DOk q.qs ∧ q.j ≤ l ∧ (∀ i, i < q.j → q.qs.getD i 0 = 0) ∧ dv a * 2 ^ s = dv q.us + dv vs * dv q.qs ∧ dv q.us < dv vs * 4294967296 ^ q.j) (fun q => q.j) ⟨us0, List.replicate l 0, l⟩
   ⟨hulen, huo, by simp, .replicate _, Nat.le_refl _, fun i _ => by simp [List.getD, List.getElem?_replicate]; split <;> rfl, by simp only [dv_replicate]; omega, by simp only [hus, hvv]; exact hU3⟩ (.cons rfl (.cons rfl (.cons rfl (.cons rfl (.cons rfl (.cons rfl (.cons rfl (.cons rfl .nil)))))))) rfl ?_
 rintro ⟨us, qs, j⟩ Gx _ ⟨hul2, huo2, hql, hqo, hjl, hq0, hinv, hlt⟩
 simp only [] at hul2 huo2 hql hqo hjl hq0 hinv hlt ⊢
 refine st_seq <| sR <| sm rfl rfl <| sy (yd_geq rfl rfl) rfl <| zE <| ?_
 refine st_condE rfl (fun hc => ?_) (fun hc => ?_) -- slot 68
 · have hj0 : j = 0 := by omega
   subst hj0
   refine st_exit <| st_te <| st_te <| st_inBlock_eq <| st_seq <| ?_
   refine st_freeze b5 (.hd ..) (fun G5 _ hgb5 => ?_)
   refine st_freeze b4 (.hd ..) (fun G6 _ hgb4 => ?_)
   refine dr (fun _ => false) [(0, true), (2, true), (3, true), (4, true), (5, true), (1, false), (6, false), (7, true), (8, true)] follows (by kernel_rfl) <| ?_
   have hDq : IsD G6 ⟨some ⟨b5, 0, none⟩, l, l⟩ qs := .of_block hqo (hgb5.up (G := G6)) hql.symm (Nat.le_refl _) (by rw [List.take_of_length_le (by simp)])
   have hut : dv (us.take (n + 2)) = dv us := by
     have h0 := dv_split' us (n + 2)
     rw [dv_drop0 (by rw [Nat.pow_zero, Nat.mul_one, hvv] at hlt; omega)] at h0
     omega
   have hDu : IsD G6 ⟨some ⟨b4, 0, none⟩, n + 2, cap⟩ (us.take (n + 2)) := .of_block (huo2.take _) hgb4.h (by simp; omega) (by omega) (by rw [List.map_take, List.length_take, Nat.min_eq_left (by omega)])
   have hV0 : 0 < dv vs := by rw [hvv]; exact Nat.mul_pos hbp hps
   rw [Nat.pow_zero, Nat.mul_one] at hlt
   have hdq : dv a / dv b = dv qs := by
     rw [← Nat.mul_div_mul_right _ _ hps, hinv, ← hvv, Nat.add_mul_div_left _ _ hV0, Nat.div_eq_of_lt hlt, Nat.zero_add]
   have hdr : dv a % dv b = dv (us.take (n + 2)) / 2 ^ s := by
     have : dv us = dv a % dv b * 2 ^ s := by
       rw [← Nat.mul_mod_mul_right, hinv, ← hvv, Nat.add_mul_mod_self_left, Nat.mod_eq_of_lt hlt]
     rw [hut, this, Nat.mul_div_cancel _ hps]
   refine dM rfl rfl rfl <| dM rfl rfl rfl <| dM rfl rfl rfl <| dy rfl (fun _ => yd_slice_hi rfl rfl (by omega) (by omega)) rfl rfl <| ?_
   rw [show (v.n : Int).toNat = n + 2 by omega]
   refine dM rfl rfl rfl <| ?_
   refine dc rfl rfl (zC rfl rfl (nat_trim hDq (by omega)) rfl ?_)
   rintro _ G7 _ rfl
   refine dr_s <| ?_
   refine dc rfl rfl (zC rfl rfl (nat_Shr (kk := k2) hDu hs32 (by rw [← hdr]; exact hr) (by simp; omega)) rfl ?_)
   rintro _ G8 _ ⟨r, rfl, hr8⟩
   refine dr_s <| dA rfl rfl rfl <| dA rfl rfl rfl <| dn <| st_ret <| ?_
   refine zD (.tmp rfl (.tmp rfl .nil)) ⟨⟨some ⟨b5, 0, none⟩, (trimD qs).length, l⟩, r, rfl, ?_, ?_⟩
   · rw [hdq]
     refine ⟨?_, by rw [← hdq]; exact hq⟩
     rw [dg_trim hqo]
     exact hDq.trim.up
   · rw [hdr]; exact hr8
 obtain ⟨i, rfl⟩ : ∃ i, j = i + 1 := ⟨j - 1, by omega⟩
 rw [show (((i + 1 : Nat) : Int) - 1) = i by omega]
 have hpi : 0 < 4294967296 ^ i := Nat.pow_pos (by decide)
 -- the digits that the guess looks at
 obtain ⟨p, hp⟩ : ∃ p, p = 4294967296 ^ (i + n) := ⟨_, rfl⟩
 obtain ⟨V, hV⟩ : ∃ V, V = dv vs * 4294967296 ^ i := ⟨_, rfl⟩
 have hvB : dv vs < 4294967296 ^ (n + 2) := by rw [hvv]; exact hV2
 have hvh := head2 hvo n hvB
 have hltV : dv us < V * 4294967296 := by rw [hV, Nat.mul_assoc, ← powB]; exact hlt
 have hV0 : 0 < V := by rw [hV]; exact Nat.mul_pos (by rw [hvv]; exact Nat.mul_pos hbp hps) hpi
 have hT0 : 0 < vs.getD (n + 1) 0 := nrm_top hvn (n + 1) hVl
 have hVp : V = (vs.getD (n + 1) 0 * 4294967296 + vs.getD n 0) * p + dv (vs.take n) * 4294967296 ^ i := by
   rw [hV, hvh, Nat.add_mul, hp, Nat.pow_add, Nat.mul_comm (4294967296 ^ i), Nat.mul_assoc]
 have hv0 : dv (vs.take n) * 4294967296 ^ i < p := by
   rw [hp, Nat.pow_add, Nat.mul_comm]
   exact Nat.mul_lt_mul_of_pos_left (dv_take_lt hvo n) hpi
 have hM : dv us < 4294967296 ^ (i + n + 3) := by
   refine Nat.lt_of_lt_of_le hlt ?_
   rw [show i + n + 3 = (n + 2) + (i + 1) by omega, Nat.pow_add 4294967296 (n + 2) (i + 1)]
   exact Nat.mul_le_mul_right _ (Nat.le_of_lt hvB)
 have huh := head3 huo2 (i + n) hM
 rw [← hp] at huh
 have hu0 := dv_take_lt huo2 (i + n)
 rw [← hp] at hu0
 have hg0 := huo2.get (i + n)
 have hg1 := huo2.get (i + n + 1)
 have hg2 := huo2.get (i + n + 2)
 refine zK <| st_seq <| st_block <| st_seq <| dr (fun _ => false) [(0, true), (1, true), (2, true), (3, true), (4, true), (5, true), (6, true), (7, true), (8, true), (9, true), (10, true), (11, true), (12, true), (13, true), (14, true), (15, true), (16, true), (17, true)] follows (by kernel_rfl) <| ?_
 refine dM rfl rfl rfl <| dM rfl rfl rfl <| dM rfl rfl rfl <| dy rfl (fun _ => yd_add64 rfl rfl (by omega) (by omega)) rfl rfl <| ?_
 refine dy rfl (fun _ => yd_ixO rfl rfl (by omega) (by omega)) rfl rfl <| ?_
 rw [show ((i : Int) + (v.n : Int)).toNat = i + n + 2 by omega]
 refine dy rfl (fun _ => yd_ldO rfl (by omega)) rfl rfl <| dy rfl (fun _ => yd_toU64 rfl (by omega) (by omega)) rfl rfl <| dy rfl (fun _ => yd_shl rfl rfl (by decide)) rfl rfl <| ?_
 rw [shl_u64 (us.getD (i + n + 2) 0) 32 (by decide) (by omega) rfl]
 refine dM rfl rfl rfl <| dM rfl rfl rfl <| dM rfl rfl rfl <| dy rfl (fun _ => yd_add64 rfl rfl (by omega) (by omega)) rfl rfl <| ?_
 refine dy rfl (fun _ => yd_sub64 rfl rfl (by omega) (by omega)) rfl rfl <| dy rfl (fun _ => yd_ixO rfl rfl (by omega) (by omega)) rfl rfl <| ?_
 rw [show ((i : Int) + (v.n : Int) - 1).toNat = i + n + 1 by omega]
 refine dy rfl (fun _ => yd_ldO rfl (by omega)) rfl rfl <| ?_
 refine dy rfl (fun _ => yd_toU64 rfl (by omega) (by omega)) rfl rfl <| dy rfl (fun _ => yd_int rfl rfl (or_add' (us.getD (i + n + 1) 0) (us.getD (i + n + 2) 0) 32 (by omega) (by omega))) rfl rfl <| dA rfl rfl rfl <| dn <| st_seq <| ?_
 obtain ⟨f, hf⟩ : ∃ f, f = us.getD (i + n + 2) 0 * 4294967296 + us.getD (i + n + 1) 0 := ⟨_, rfl⟩
 rw [show us.getD (i + n + 1) 0 + us.getD (i + n + 2) 0 * 2 ^ 32 = f by omega]
 rw [← hf] at huh
 have hfB : f < 18446744073709551616 := by omega
 refine dr (fun _ => false) [(0, true), (1, true), (2, true), (3, true), (4, true), (5, true), (6, true), (7, true)] follows (by kernel_rfl) <| ?_
 refine dM rfl rfl rfl <| dM rfl rfl rfl <| dy rfl (fun _ => yd_quoU rfl rfl (by omega) (by omega) (by omega)) rfl rfl <| dM rfl rfl rfl <| dM rfl rfl rfl <| ?_
 refine dy rfl (fun _ => yd_remU rfl rfl (by omega) (by omega)) rfl rfl <| dA rfl rfl rfl <| dA rfl rfl rfl <| dn <| ?_
 rw [show ((f : Int) / ((vs.getD (n + 1) 0 : Nat) : Int)) = ((f / vs.getD (n + 1) 0 : Nat) : Int) by rfl, show ((f : Int) % ((vs.getD (n + 1) 0 : Nat) : Int)) = ((f % vs.getD (n + 1) 0 : Nat) : Int) by rfl]
 -- GUESS
 have hUle : (f * 4294967296 + us.getD (i + n) 0) * p ≤ dv us := by omega
 have hUlt : dv us < (f * 4294967296 + us.getD (i + n) 0 + 1) * p := by rw [Nat.add_mul _ 1, Nat.one_mul]; omega
 have hVle : (vs.getD (n + 1) 0 * 4294967296 + vs.getD n 0) * p ≤ V := by rw [hVp]; exact Nat.le_add_right _ _
 have hfT : f ≤ vs.getD (n + 1) 0 * 4294967296 + vs.getD n 0 := kn_f hUle hVp hv0 hltV
 refine st_cut Nat (fun g => [(15, .int .u64 (g : Nat)), (13, .int .i64 i), (7, .slice (some ⟨b4, 0, none⟩) (a.length + 1) cap), (9, .int .i64 v.n), (10, .int .u64 (vs.getD (n + 1) 0 : Nat)), (11, .int .u64 (vs.getD n 0 : Nat)), (8, .slice v.a v.n v.c), (12, .slice (some ⟨b5, 0, none⟩) l l), (6, .int .u64 s)]) (fun _ => [⟨b5, qs.map dI, 224, true⟩, ⟨b4, us.map dI, 224, true⟩]) (fun g _ => g < 4294967296 ∧ dv us < (g + 1) * V ∧ g * V < dv us + V) ?_ ?_
 · refine st_block <| ?_
   refine st_loop (X := NatGuess) (fun q => [(15, .int .u64 q.g), (16, .int .u64 q.r), (13, .int .i64 i), (7, .slice (some ⟨b4, 0, none⟩) (a.length + 1) cap), (9, .int .i64 v.n), (10, .int .u64 (vs.getD (n + 1) 0 : Nat)), (11, .int .u64 (vs.getD n 0 : Nat)), (8, .slice v.a v.n v.c), (12, .slice (some ⟨b5, 0, none⟩) l l), (6, .int .u64 s)]) (fun _ => [⟨b5, qs.map dI, 224, true⟩, ⟨b4, us.map dI, 224, true⟩]) (fun q _ => f = q.g * vs.getD (n + 1) 0 + q.r ∧ q.r < 4294967296 ∧ dv us < (q.g + 1) * V) (fun q => q.g) ⟨f / vs.getD (n + 1) 0, f % vs.getD (n + 1) 0⟩
     ⟨(Nat.div_add_mod' ..).symm, Nat.lt_trans (Nat.mod_lt _ hT0) hvt, kn_init hUlt hg0 hVle hT0⟩ (.cons rfl (.cons rfl (.cons rfl (.cons rfl (.cons rfl (.cons rfl (.cons rfl (.cons rfl (.cons rfl (.cons rfl .nil)))))))))) rfl ?_
   rintro ⟨g, r⟩ Gy _ ⟨hfg, hrB, hlo⟩
   simp only [] at hfg hrB hlo ⊢
   have hgT : g * 1 ≤ g * vs.getD (n + 1) 0 := Nat.mul_le_mul_left _ hT0
   refine st_seq <| sR <| sm rfl rfl <| sy (yd_shr rfl rfl (by decide)) rfl <| ?_
   rw [shr_u64 g 32 (by decide) rfl]
   refine sy (yd_neq rfl rfl) rfl <| sm rfl rfl <| ?_
   refine st_caseP 97 rfl (fun hg => ?_) (fun hg => ?_)
   · have hgB : 4294967296 ≤ g := by omega
     have hdec : dv us < g * V := Nat.lt_of_lt_of_le hltV (by rw [Nat.mul_comm]; exact Nat.mul_le_mul_right _ hgB)
     refine ss rfl rfl rfl rfl <| ss rfl rfl rfl rfl <| ss rfl rfl rfl rfl <| ss rfl rfl rfl rfl <| ss rfl rfl rfl rfl <| ss rfl rfl rfl rfl <| ss rfl rfl rfl rfl <| ss rfl rfl rfl rfl <| ss rfl rfl rfl rfl <| ?_
     refine ss rfl rfl rfl rfl <| ss rfl rfl rfl rfl <| ss rfl rfl rfl rfl <| ss rfl rfl rfl rfl <| ss rfl rfl rfl rfl <| ss rfl rfl rfl rfl <| sy (yd_pickT rfl rfl) rfl <| zE <| st_condT rfl <| ?_
     refine zK <| st_block <| ?_
     obtain ⟨g', rfl⟩ : ∃ g', g = g' + 1 := ⟨g - 1, by rcases Nat.eq_zero_or_pos g with h | h; (rw [h, Nat.zero_mul] at hdec; omega); omega⟩
     refine sR <| sm rfl rfl <| sy (yd_subU rfl rfl (by omega) (by omega)) rfl <| sa rfl rfl <| zE <| sR <| sm rfl rfl <| sm rfl rfl <| sy (yd_addU rfl rfl) rfl <| ?_
     refine sa rfl rfl <| zE <| sR <| sm rfl rfl <| sy (yd_shr rfl rfl (by decide)) rfl <| ?_
     rw [show ((g' + 1 : Nat) : Int) - 1 = (g' : Nat) by omega, show ((r : Int) + ((vs.getD (n + 1) 0 : Nat) : Int)) = ((r + vs.getD (n + 1) 0 : Nat) : Int) from rfl, shr_u64 (r + vs.getD (n + 1) 0) 32 (by decide) rfl]
     have hfg' : f = g' * vs.getD (n + 1) 0 + (r + vs.getD (n + 1) 0) := by rw [hfg, Nat.add_mul, Nat.one_mul]; omega
     refine sy (yd_neq rfl rfl) rfl <| zE <| ?_
     refine st_condP rfl (fun hc3 => ?_) (fun hc3 => ?_) -- slot 121
     · have hr3 : 4294967296 ≤ r + vs.getD (n + 1) 0 := by omega
       have hgB : g' < 4294967296 := by
         rcases Nat.lt_or_ge g' 4294967296 with h | h
         · exact h
         · have := Nat.mul_le_mul_right (vs.getD (n + 1) 0) h
           omega
       have hgS : g' * vs.getD n 0 ≤ (r + vs.getD (n + 1) 0) * 4294967296 + us.getD (i + n) 0 := by
         have h1 := Nat.mul_le_mul (Nat.le_of_lt hgB) (Nat.le_of_lt hv2)
         omega
       refine st_exit <| st_inBlock_ne rfl <| st_te <| st_inBlock_eq <| ?_
       exact st_at g' ⟨hgB, hdec, kn_hi hUle hVp hv0 hT0 hfg' hgB hgS⟩ (.cons rfl (.cons rfl (.cons rfl (.cons rfl (.cons rfl (.cons rfl (.cons rfl (.cons rfl (.cons rfl .nil))))))))) rfl
     refine zK <| ?_
     exact st_again ⟨g', r + vs.getD (n + 1) 0⟩ ⟨hfg', by show r + vs.getD (n + 1) 0 < _; omega, hdec⟩ (by show g' < g' + 1; omega) (.cons rfl (.cons rfl (.cons rfl (.cons rfl (.cons rfl (.cons rfl (.cons rfl (.cons rfl (.cons rfl (.cons rfl .nil)))))))))) rfl
   have hgB : g < 4294967296 := by omega
   have hgS : g * vs.getD n 0 < 4294967296 * 4294967296 := Nat.mul_lt_mul'' hgB hv2
   have e2 : (g : Int) * ((vs.getD n 0 : Nat) : Int) = ((g * vs.getD n 0 : Nat) : Int) := rfl
   refine syg rfl rfl (yd_move rfl) rfl <| syg rfl rfl (yd_move rfl) rfl <| syg rfl rfl (yd_mulU rfl rfl (by rw [e2]; omega) (by rw [e2]; omega)) rfl <| syg rfl rfl (yd_move rfl) rfl <| syg rfl rfl (yd_shl rfl rfl (by decide)) rfl <| ?_
   rw [shl_u64 r 32 (by decide) (by omega) rfl]
   refine syg rfl rfl (yd_move rfl) rfl <| syg rfl rfl (yd_move rfl) rfl <| syg rfl rfl (yd_move rfl) rfl <| syg rfl rfl (yd_add64 rfl rfl) rfl <| syg rfl rfl (yd_sub64 rfl rfl) rfl <| ?_
   refine syg rfl rfl (yd_ixO rfl rfl (by omega) (by omega)) rfl <| ?_
   rw [show ((i : Int) + (v.n : Int) - 2).toNat = i + n by omega]
   refine syg rfl rfl (yd_ldO rfl (by omega)) rfl <| syg rfl rfl (yd_toU64 rfl) rfl <| syg rfl rfl (yd_int rfl rfl (or_add' (us.getD (i + n) 0) r 32 (by omega) (by omega))) rfl <| ?_
   refine syg rfl rfl (yd_gtr rfl rfl) rfl <| sy (yd_pickF rfl rfl) rfl <| zE <| ?_
   rw [e2]
   refine st_condE rfl (fun hc2 => ?_) (fun hc2 => ?_) -- slot 113
   · refine st_exit <| st_te <| st_te <| st_inBlock_eq <| ?_
     exact st_at g ⟨hgB, hlo, kn_hi hUle hVp hv0 hT0 hfg hgB (by omega)⟩ (.cons rfl (.cons rfl (.cons rfl (.cons rfl (.cons rfl (.cons rfl (.cons rfl (.cons rfl (.cons rfl .nil))))))))) rfl
   have hdec : dv us < g * V := kn_dec hUlt hVle hfg (by omega)
   refine zK <| st_block <| ?_
   obtain ⟨g', rfl⟩ : ∃ g', g = g' + 1 := ⟨g - 1, by rcases Nat.eq_zero_or_pos g with h | h; (rw [h, Nat.zero_mul] at hdec; omega); omega⟩
   refine sR <| sm rfl rfl <| sy (yd_subU rfl rfl (by omega) (by omega)) rfl <| sa rfl rfl <| zE <| sR <| sm rfl rfl <| sm rfl rfl <| sy (yd_addU rfl rfl) rfl <| ?_
   refine sa rfl rfl <| zE <| sR <| sm rfl rfl <| sy (yd_shr rfl rfl (by decide)) rfl <| ?_
   rw [show ((g' + 1 : Nat) : Int) - 1 = (g' : Nat) by omega, show ((r : Int) + ((vs.getD (n + 1) 0 : Nat) : Int)) = ((r + vs.getD (n + 1) 0 : Nat) : Int) from rfl, shr_u64 (r + vs.getD (n + 1) 0) 32 (by decide) rfl]
   have hfg' : f = g' * vs.getD (n + 1) 0 + (r + vs.getD (n + 1) 0) := by rw [hfg, Nat.add_mul, Nat.one_mul]; omega
   refine sy (yd_neq rfl rfl) rfl <| zE <| ?_
   refine st_condP rfl (fun hc3 => ?_) (fun hc3 => ?_) -- slot 121
   · have hr3 : 4294967296 ≤ r + vs.getD (n + 1) 0 := by omega
     have hgB : g' < 4294967296 := by
       rcases Nat.lt_or_ge g' 4294967296 with h | h
       · exact h
       · have := Nat.mul_le_mul_right (vs.getD (n + 1) 0) h
         omega
     have hgS : g' * vs.getD n 0 ≤ (r + vs.getD (n + 1) 0) * 4294967296 + us.getD (i + n) 0 := by
       have h1 := Nat.mul_le_mul (Nat.le_of_lt hgB) (Nat.le_of_lt hv2)
       omega
     refine st_exit <| st_inBlock_ne rfl <| st_te <| st_inBlock_eq <| ?_
     exact st_at g' ⟨hgB, hdec, kn_hi hUle hVp hv0 hT0 hfg' hgB hgS⟩ (.cons rfl (.cons rfl (.cons rfl (.cons rfl (.cons rfl (.cons rfl (.cons rfl (.cons rfl (.cons rfl .nil))))))))) rfl
   refine zK <| ?_
   exact st_again ⟨g', r + vs.getD (n + 1) 0⟩ ⟨hfg', by show r + vs.getD (n + 1) 0 < _; omega, hdec⟩ (by show g' < g' + 1; omega) (.cons rfl (.cons rfl (.cons rfl (.cons rfl (.cons rfl (.cons rfl (.cons rfl (.cons rfl (.cons rfl (.cons rfl .nil)))))))))) rfl
 rintro g Gz _ ⟨hgB, hlo, hhi⟩
 -- SUB
 refine sR <| sa rfl rfl <| sa rfl rfl <| zE <| st_seq <| sR <| sm rfl rfl <| slen rfl rfl <| sm rfl rfl <| zE <| st_block <| ?_
 refine st_loop (X := NatMs) (fun q => [(18, .int .u64 q.c), (17, .int .u64 q.bo), (124, .int .i64 q.k), (123, .int .i64 v.n), (122, .slice v.a v.n v.c), (15, .int .u64 (g : Nat)), (13, .int .i64 i), (7, .slice (some ⟨b4, 0, none⟩) (a.length + 1) cap), (9, .int .i64 v.n), (10, .int .u64 (vs.getD (n + 1) 0 : Nat)), (11, .int .u64 (vs.getD n 0 : Nat)), (8, .slice v.a v.n v.c), (12, .slice (some ⟨b5, 0, none⟩) l l), (6, .int .u64 s)]) (fun q => [⟨b5, qs.map dI, 224, true⟩, ⟨b4, q.ws.map dI, 224, true⟩])
   (fun q _ => q.ws.length = cap ∧ DOk q.ws ∧ q.k ≤ n + 2 ∧ q.bo ≤ 1 ∧ q.c < 4294967296 ∧ dv q.ws < 4294967296 ^ (i + n + 3) ∧ dv q.ws + g * (dv (vs.take q.k) * 4294967296 ^ i) = dv us + (q.bo + q.c) * 4294967296 ^ (i + q.k)) (fun q => n + 2 - q.k) ⟨us, 0, 0, 0⟩
   ⟨hul2, huo2, Nat.zero_le _, Nat.zero_le _, by show (0 : Nat) < 4294967296; decide, hM, by simp [dv]⟩ (.cons rfl (.cons rfl (.cons rfl (.cons rfl (.cons rfl (.cons rfl (.cons rfl (.cons rfl (.cons rfl (.cons rfl (.cons rfl (.cons rfl (.cons rfl (.cons rfl .nil)))))))))))))) rfl ?_
 rintro ⟨ws, k, bo, c⟩ Gy _ ⟨hwl, hwo, hk, hbo, hc4, hwM, hw⟩
 simp only [] at hwl hwo hk hbo hc4 hwM hw ⊢
 refine sR <| sy (yd_lss rfl rfl) rfl <| zE <| st_seq <| ?_
 refine st_condE rfl (fun hkc => ?_) (fun hkc => ?_) -- slot 125
 · have hkn : k = n + 2 := by omega
   subst hkn
   rw [List.take_of_length_le (by omega), ← hV] at hw
   refine st_exit <| st_te <| st_te <| st_inBlock_eq <| sR <| sm rfl rfl <| sm rfl rfl <| sm rfl rfl <| sy (yd_add64 rfl rfl) rfl <| sy (yd_ixO rfl rfl (by omega) (by omega)) rfl <| ?_
   rw [show ((i : Int) + (v.n : Int)).toNat = i + n + 2 by omega]
   have hwg := hwo.get (i + n + 2)
   refine sy (yd_ldO rfl (by omega)) rfl <| sy (yd_toU64 rfl) rfl <| sm rfl rfl <| sy (yd_subw rfl rfl) rfl <| sm rfl rfl <| sy (yd_subw rfl rfl) rfl <| ?_
   rw [sub2 _ _ _ hwg hc4 hbo]
   obtain ⟨hx1, hx2, hx3⟩ := msx_spec (ws.getD (i + n + 2) 0) c bo hwg hc4 hbo
   generalize msx (ws.getD (i + n + 2) 0) c bo = xx at hx1 hx2 hx3 ⊢
   refine sa rfl rfl <| zE <| sR <| sm rfl rfl <| sm rfl rfl <| sm rfl rfl <| sy (yd_add64 rfl rfl) rfl <| sm rfl rfl <| sy (yd_toU32 rfl) rfl <| sy (yd_ixO rfl rfl (by omega) (by omega)) rfl <| ?_
   rw [show ((i : Int) + (v.n : Int)).toNat = i + n + 2 by omega]
   refine sc (ch_storeD (d := xx % 4294967296) rfl rfl (by rw [Int.natCast_emod]; rfl) (.tl _ _ _ _ _ _ _ _ (.hd ..)) (by omega) rfl ?_)
   have hs2 := dv_set ws (i + n + 2) (xx % 4294967296) (by omega)
   have hl2 := ms_last hs2 hw hx1
   rw [← powB] at hl2
   have hM2 := dv_set_lt (i := i + n + 2) (d := xx % 4294967296) hwo (Nat.mod_lt _ (by decide)) hwM (by omega)
   have ho2 := hwo.set (i + n + 2) (d := xx % 4294967296) (Nat.mod_lt _ (by decide))
   have hn2 : (ws.set (i + n + 2) (xx % 4294967296)).length = cap := by rw [List.length_set]; exact hwl
   generalize ws.set (i + n + 2) (xx % 4294967296) = ws2 at hl2 hM2 ho2 hn2 ⊢
   replace hl2 : dv ws2 + g * V = dv us + xx / 9223372036854775808 * 4294967296 ^ (i + n + 3) := hl2
   have hqset : ∀ d, dv (qs.set i d) = dv qs + 4294967296 ^ i * d := fun d => by
     have := dv_set qs i d (by omega)
     rw [hq0 i (by omega)] at this
     simpa using this
   have hqz : ∀ d i', i' < i → (qs.set i d).getD i' 0 = 0 := fun d i' h => by
     have := hq0 i' (by omega)
     simpa [List.getD, List.getElem?_set, show ¬ i = i' by omega] using this
   have hinv2 : ∀ d R, R + d * V = dv us → dv a * 2 ^ s = R + dv vs * dv (qs.set i d) := fun d R h => by
     rw [hinv, ← h, hqset, Nat.mul_add, ← Nat.mul_assoc, ← hV, Nat.mul_comm d]; omega
   refine zE <| sR <| sm rfl rfl <| sm rfl rfl <| sm rfl rfl <| sy (yd_toU32 rfl) rfl <| sy (yd_ixO rfl rfl (by omega) (by omega)) rfl <| ?_
   rw [Int.toNat_natCast]
   refine sc (ch_storeD (d := g) rfl rfl (emod32 g hgB) (.hd ..) (by omega) rfl ?_)
   refine zE <| st_seq <| sR <| sm rfl rfl <| sy (yd_shr rfl rfl (by decide)) rfl <| ?_
   rw [shr_u64 xx 63 (by decide) rfl]
   refine sy (yd_eql rfl rfl) rfl <| zE <| ?_
   refine st_condP rfl (fun ht => ?_) (fun ht => ?_) -- slot 184
   · have ht0 : xx / 2 ^ 63 = 0 := by omega
     rw [show xx / 9223372036854775808 = xx / 2 ^ 63 from rfl, ht0, Nat.zero_mul, Nat.add_zero] at hl2
     refine st_exit <| st_te <| st_inBlock_eq <| st_region <| sm rfl rfl <| sy (yd_sub64 rfl rfl) rfl <| sa rfl rfl <| zE <| ?_
     exact st_again ⟨ws2, qs.set i g, i⟩ ⟨hn2, ho2, by simpa using hql, hqo.set _ hgB, by show i ≤ l; omega, hqz g, hinv2 g _ hl2, by show dv ws2 < _; rw [← hV]; exact kn_rest hlo hl2⟩ (by show i < i + 1; omega) (.cons rfl (.cons rfl (.cons rfl (.cons rfl (.cons rfl (.cons rfl (.cons rfl (.cons rfl .nil)))))))) rfl
   have ht1 : xx / 9223372036854775808 = 1 := by
     have : xx / 9223372036854775808 ≠ 0 := fun h => ht (by rw [show xx / 2 ^ 63 = xx / 9223372036854775808 from rfl, h]; rfl)
     omega
   rw [ht1, Nat.one_mul] at hl2
   obtain ⟨g', rfl⟩ : ∃ g', g = g' + 1 := ⟨g - 1, by rcases Nat.eq_zero_or_pos g with h | h; (rw [h, Nat.zero_mul] at hl2; omega); omega⟩
   refine zK <| sR <| sm rfl rfl <| sm rfl rfl <| sy (yd_ixO rfl rfl (by omega) (by omega)) rfl <| ?_
   rw [Int.toNat_natCast]
   refine sy (yd_ldO rfl (by simp; omega)) rfl <| ?_
   rw [show (qs.set i (g' + 1)).getD i 0 = g' + 1 by simp [List.getD, List.getElem?_set, show i < qs.length by omega]]
   refine sy (yd_subw rfl rfl) rfl <| sy (yd_ixO rfl rfl (by omega) (by omega)) rfl <| ?_
   rw [Int.toNat_natCast]
   refine sc (ch_storeD (d := g') rfl rfl (by rw [wrap_u32]; omega) (.hd ..) (by simp; omega) rfl ?_)
   rw [List.set_set]
   refine zE <| sR <| sa rfl rfl <| zE <| st_seq <| sR <| sm rfl rfl <| slen rfl rfl <| sm rfl rfl <| zE <| st_block <| ?_
   refine st_loop (X := NatMs) (fun q => [(18, .int .u64 q.c), (193, .int .i64 q.k), (192, .int .i64 v.n), (191, .slice v.a v.n v.c), (13, .int .i64 i), (7, .slice (some ⟨b4, 0, none⟩) (a.length + 1) cap), (9, .int .i64 v.n), (10, .int .u64 (vs.getD (n + 1) 0 : Nat)), (11, .int .u64 (vs.getD n 0 : Nat)), (8, .slice v.a v.n v.c), (12, .slice (some ⟨b5, 0, none⟩) l l), (6, .int .u64 s)]) (fun q => [⟨b5, (qs.set i g').map dI, 224, true⟩, ⟨b4, q.ws.map dI, 224, true⟩])
     (fun q _ => q.ws.length = cap ∧ DOk q.ws ∧ q.k ≤ n + 2 ∧ q.c ≤ 1 ∧ dv q.ws < 4294967296 ^ (i + n + 3) ∧ dv q.ws + q.c * 4294967296 ^ (i + q.k) = dv ws2 + dv (vs.take q.k) * 4294967296 ^ i) (fun q => n + 2 - q.k) ⟨ws2, 0, 0, 0⟩
     ⟨hn2, ho2, Nat.zero_le _, Nat.zero_le _, hM2, by simp [dv]⟩ (.cons rfl (.cons rfl (.cons rfl (.cons rfl (.cons rfl (.cons rfl (.cons rfl (.cons rfl (.cons rfl (.cons rfl (.cons rfl (.cons rfl .nil)))))))))))) rfl ?_
   rintro ⟨wa, k, _, ca⟩ Gz _ ⟨hal2, hao, hak, hac, haM, ha⟩
   simp only [] at hal2 hao hak hac haM ha ⊢
   refine sR <| sy (yd_lss rfl rfl) rfl <| zE <| st_seq <| ?_
   refine st_condE rfl (fun hkd => ?_) (fun hkd => ?_) -- slot 194
   · have hkn : k = n + 2 := by omega
     subst hkn
     rw [List.take_of_length_le (by omega), ← hV] at ha
     have hag := hao.get (i + n + 2)
     refine st_exit <| st_te <| st_te <| st_inBlock_eq <| st_region <| sm rfl rfl <| sm rfl rfl <| sm rfl rfl <| sy (yd_add64 rfl rfl) rfl <| sy (yd_ixO rfl rfl (by omega) (by omega)) rfl <| ?_
     rw [show ((i : Int) + (v.n : Int)).toNat = i + n + 2 by omega]
     refine sy (yd_ldO rfl (by omega)) rfl <| sm rfl rfl <| sy (yd_toU32 rfl) rfl <| sy (yd_addw rfl rfl) rfl <| sy (yd_ixO rfl rfl (by omega) (by omega)) rfl <| ?_
     rw [show ((i : Int) + (v.n : Int)).toNat = i + n + 2 by omega]
     refine sc (ch_storeD (d := (wa.getD (i + n + 2) 0 + ca) % 4294967296) rfl rfl (by rw [wrap_u32]; omega) (.tl _ _ _ _ _ _ _ _ (.hd ..)) (by omega) rfl ?_)
     have hs4 := dv_set wa (i + n + 2) ((wa.getD (i + n + 2) 0 + ca) % 4294967296) (by omega)
     have hl4 := ab_last hs4 ha
     rw [← powB] at hl4
     have hM4 := dv_set_lt (i := i + n + 2) (d := (wa.getD (i + n + 2) 0 + ca) % 4294967296) hao (Nat.mod_lt _ (by decide)) haM (by omega)
     obtain ⟨hR1, hR2⟩ := kn_back hhi hl2 hl4 hM2 hM4 (by omega) (Nat.succ_pos _)
     refine zE <| st_region <| sm rfl rfl <| sy (yd_sub64 rfl rfl) rfl <| sa rfl rfl <| zE <| ?_
     exact st_again ⟨wa.set (i + n + 2) ((wa.getD (i + n + 2) 0 + ca) % 4294967296), qs.set i g', i⟩ ⟨by simpa using hal2, hao.set _ (Nat.mod_lt _ (by decide)), by simpa using hql, hqo.set _ (by omega), by show i ≤ l; omega, hqz g', hinv2 g' _ hR1, by show dv _ < _; rw [← hV]; exact hR2⟩ (by show i < i + 1; omega) (.cons rfl (.cons rfl (.cons rfl (.cons rfl (.cons rfl (.cons rfl (.cons rfl (.cons rfl .nil)))))))) rfl
   have hvk := hvo.get k
   have hag := hao.get (i + k)
   refine zK <| st_seq <| st_block <| sR <| sm rfl rfl <| sy (yd_ixD hv rfl rfl (by omega) (by omega)) rfl <| ?_
   rw [Int.toNat_natCast]
   refine sy (yd_ldD hv rfl (by omega)) rfl <| sa rfl rfl <| sa rfl rfl <| zE <| st_seq <| ?_
   refine st_region <| sm rfl rfl <| sm rfl rfl <| sm rfl rfl <| sm rfl rfl <| sy (yd_add64 rfl rfl) rfl <| sy (yd_ixO rfl rfl (by omega) (by omega)) rfl <| ?_
   rw [show ((i : Int) + (k : Int)).toNat = i + k by omega]
   refine sy (yd_ldO rfl (by omega)) rfl <| sy (yd_toU64 rfl) rfl <| sm rfl rfl <| sy (yd_toU64 rfl) rfl <| sy (yd_addU rfl rfl) rfl <| sy (yd_addU rfl rfl) rfl <| ?_
   rw [show (ca : Int) + (((wa.getD (i + k) 0 : Nat) : Int) + ((vs.getD k 0 : Nat) : Int)) = ((ca + (wa.getD (i + k) 0 + vs.getD k 0) : Nat) : Int) from rfl]
   refine sa rfl rfl <| zE <| sR <| sm rfl rfl <| sm rfl rfl <| sm rfl rfl <| sy (yd_add64 rfl rfl) rfl <| sm rfl rfl <| sy (yd_toU32 rfl) rfl <| sy (yd_ixO rfl rfl (by omega) (by omega)) rfl <| ?_
   rw [show ((i : Int) + (k : Int)).toNat = i + k by omega]
   refine sc (ch_storeD (d := (ca + (wa.getD (i + k) 0 + vs.getD k 0)) % 4294967296) rfl rfl (by rw [Int.natCast_emod]; rfl) (.tl _ _ _ _ _ _ _ _ (.hd ..)) (by omega) rfl ?_)
   refine zE <| st_region <| sm rfl rfl <| sy (yd_shr rfl rfl (by decide)) rfl <| ?_
   rw [shr_u64 (ca + (wa.getD (i + k) 0 + vs.getD k 0)) 32 (by decide) rfl]
   refine sa rfl rfl <| zE <| st_region <| sy (yd_add64 rfl rfl) rfl <| sm rfl rfl <| zE <| ?_
   refine st_again ⟨wa.set (i + k) ((ca + (wa.getD (i + k) 0 + vs.getD k 0)) % 4294967296), k + 1, 0, (ca + (wa.getD (i + k) 0 + vs.getD k 0)) / 2 ^ 32⟩ ⟨by simpa using hal2, hao.set _ (Nat.mod_lt _ (by decide)), by show k + 1 ≤ _; omega, by show (ca + (wa.getD (i + k) 0 + vs.getD k 0)) / 4294967296 ≤ 1; omega, dv_set_lt hao (Nat.mod_lt _ (by decide)) haM (by omega), ?_⟩ (by show n + 2 - (k + 1) < n + 2 - k; omega) (.cons rfl (.cons rfl (.cons rfl (.cons rfl (.cons rfl (.cons rfl (.cons rfl (.cons rfl (.cons rfl (.cons rfl (.cons rfl (.cons rfl .nil)))))))))))) rfl
   show dv (wa.set (i + k) ((ca + (wa.getD (i + k) 0 + vs.getD k 0)) % 4294967296)) + ((ca + (wa.getD (i + k) 0 + vs.getD k 0)) / 4294967296) * 4294967296 ^ (i + k + 1) = dv ws2 + dv (vs.take (k + 1)) * 4294967296 ^ i
   rw [dv_take_succ, Nat.add_mul (dv (vs.take k)), powB, show 4294967296 ^ k * vs.getD k 0 * 4294967296 ^ i = vs.getD k 0 * 4294967296 ^ (i + k) by rw [Nat.pow_add, Nat.mul_comm (4294967296 ^ k), Nat.mul_assoc, Nat.mul_comm (4294967296 ^ k)]]
   exact ab_step (dv_set wa (i + k) _ (by omega)) ha
 have hvk := hvo.get k
 have hwg := hwo.get (i + k)
 refine zK <| st_seq <| st_block <| sR <| sm rfl rfl <| sy (yd_ixD hv rfl rfl (by omega) (by omega)) rfl <| ?_
 rw [Int.toNat_natCast]
 refine sy (yd_ldD hv rfl (by omega)) rfl <| sa rfl rfl <| sa rfl rfl <| zE <| st_seq <| ?_
 have hgd : g * vs.getD k 0 ≤ 4294967295 * 4294967295 := Nat.mul_le_mul (by omega) (by omega)
 have e3 : (g : Int) * ((vs.getD k 0 : Nat) : Int) = ((g * vs.getD k 0 : Nat) : Int) := rfl
 refine st_region <| sm rfl rfl <| sm rfl rfl <| sm rfl rfl <| sy (yd_toU64 rfl) rfl <| sy (yd_mulU rfl rfl (by rw [e3]; omega) (by rw [e3]; omega)) rfl <| ?_
 rw [e3]
 refine sy (yd_addU rfl rfl) rfl <| ?_
 rw [show (c : Int) + ((g * vs.getD k 0 : Nat) : Int) = ((c + g * vs.getD k 0 : Nat) : Int) from rfl]
 obtain ⟨c1, hc1⟩ : ∃ c1, c1 = c + g * vs.getD k 0 := ⟨_, rfl⟩
 rw [← hc1]
 have hc1m : c1 % 4294967296 < 4294967296 := Nat.mod_lt _ (by decide)
 refine sa rfl rfl <| zE <| sR <| sm rfl rfl <| sm rfl rfl <| sm rfl rfl <| sy (yd_add64 rfl rfl) rfl <| sy (yd_ixO rfl rfl (by omega) (by omega)) rfl <| ?_
 rw [show ((i : Int) + (k : Int)).toNat = i + k by omega]
 refine sy (yd_ldO rfl (by omega)) rfl <| sy (yd_toU64 rfl) rfl <| sm rfl rfl <| sy (yd_int rfl rfl (and_mask c1 (by omega))) rfl <| sy (yd_subw rfl rfl) rfl <| sm rfl rfl <| sy (yd_subw rfl rfl) rfl <| ?_
 rw [sub2 _ _ _ hwg hc1m hbo]
 obtain ⟨hx1, hx2, hx3⟩ := msx_spec (ws.getD (i + k) 0) (c1 % 4294967296) bo hwg hc1m hbo
 generalize msx (ws.getD (i + k) 0) (c1 % 4294967296) bo = xx at hx1 hx2 hx3 ⊢
 refine sa rfl rfl <| ?_
 refine zE <| sR <| sm rfl rfl <| sm rfl rfl <| sm rfl rfl <| sy (yd_add64 rfl rfl) rfl <| sm rfl rfl <| sy (yd_toU32 rfl) rfl <| sy (yd_ixO rfl rfl (by omega) (by omega)) rfl <| ?_
 rw [show ((i : Int) + (k : Int)).toNat = i + k by omega]
 refine sc (ch_storeD (d := xx % 4294967296) rfl rfl (by rw [Int.natCast_emod]; rfl) (.tl _ _ _ _ _ _ _ _ (.hd ..)) (by omega) rfl ?_)
 refine zE <| sR <| sm rfl rfl <| sy (yd_shr rfl rfl (by decide)) rfl <| ?_
 rw [shr_u64 xx 63 (by decide) rfl]
 refine sa rfl rfl <| zE <| st_region <| sm rfl rfl <| sy (yd_shr rfl rfl (by decide)) rfl <| ?_
 rw [shr_u64 c1 32 (by decide) rfl]
 refine sa rfl rfl <| ?_
 refine zE <| st_region <| sy (yd_add64 rfl rfl) rfl <| sm rfl rfl <| zE <| ?_
 refine st_again ⟨ws.set (i + k) (xx % 4294967296), k + 1, xx / 2 ^ 63, c1 / 2 ^ 32⟩ ⟨by simpa using hwl, hwo.set _ (Nat.mod_lt _ (by decide)), by show k + 1 ≤ _; omega, hx2, by show c1 / 4294967296 < _; omega, dv_set_lt hwo (Nat.mod_lt _ (by decide)) hwM (by omega), ?_⟩ (by show n + 2 - (k + 1) < n + 2 - k; omega) (.cons rfl (.cons rfl (.cons rfl (.cons rfl (.cons rfl (.cons rfl (.cons rfl (.cons rfl (.cons rfl (.cons rfl (.cons rfl (.cons rfl (.cons rfl (.cons rfl .nil)))))))))))))) rfl
 show dv (ws.set (i + k) (xx % 4294967296)) + g * (dv (vs.take (k + 1)) * 4294967296 ^ i) = dv us + (xx / 9223372036854775808 + c1 / 4294967296) * 4294967296 ^ (i + k + 1)
 rw [dv_take_succ, Nat.add_mul (dv (vs.take k)), powB, show 4294967296 ^ k * vs.getD k 0 * 4294967296 ^ i = vs.getD k 0 * 4294967296 ^ (i + k) by rw [Nat.pow_add, Nat.mul_comm (4294967296 ^ k), Nat.mul_assoc, Nat.mul_comm (4294967296 ^ k)], Nat.mul_add, ← Nat.mul_assoc g (vs.getD k 0)]
 exact ms_step (dv_set ws (i + k) _ (by omega)) hw hc1 hx1
end Go.Sx
end
