/-
  Package nat: long division. Package nat: DivMod, Gcd. Package integer. Package integer: Add, Normal, FromInt, Int64. Package integer: Normal, FromInt, Int64. Package frac: the numbers, reduce.
-/
import Derived.Test.YtkijgpopaaknfaaGreatDoorMd9
set_option linter.unusedSimpArgs false
set_option linter.unusedVariables false
section
set_option maxRecDepth 100000
namespace Go.Sx
open Go Go.Proofs
theorem dg_len {V n : Nat} (h1 : 4294967296 ^ (n - 1) ≤ V) (h2 : V < 4294967296 ^ n) (hn : 0 < n) : (dg V).length = n := by
 obtain ⟨e, hk, hr⟩ := dg_spec V
 have hne : dg V ≠ [] := fun h => by
  rw [h] at e
  have : 0 < 4294967296 ^ (n - 1) := Nat.pow_pos (by decide)
  simp [dv] at e; omega
 have h3 := nrm_ge hr hne
 have h4 := dv_lt hk
 rw [e] at h3 h4
 have h5 := (Nat.pow_lt_pow_iff_right (a := 4294967296) (by decide)).1 (Nat.lt_of_le_of_lt h3 h2)
 have h6 := (Nat.pow_lt_pow_iff_right (a := 4294967296) (by decide)).1 (Nat.lt_of_le_of_lt h1 h4)
 omega
theorem top_shift {t s : Nat} (h0 : 0 < t) (ht : t < 4294967296) (hs : s = 32 - bl t) : s < 32 ∧ 2147483648 ≤ t * 2 ^ s ∧ (t + 1) * 2 ^ s ≤ 4294967296 := by
 have h1 : bl t ≤ 32 := bl_le.2 ht
 have h2 : bl t ≠ 0 := fun h => by
   have := lt_bl t
   rw [h] at this; omega
 have h3 := lt_bl t
 have h4 : ¬ t < 2 ^ (bl t - 1) := fun h => by
   have := bl_le.2 h
   omega
 have e1 : 2 ^ (bl t - 1) * 2 ^ s = 2147483648 := by rw [← Nat.pow_add, show bl t - 1 + s = 31 by omega]
 have e2 : 2 ^ bl t * 2 ^ s = 4294967296 := by rw [← Nat.pow_add, show bl t + s = 32 by omega]
 refine ⟨by omega, ?_, ?_⟩
 · rw [← e1]; exact Nat.mul_le_mul_right _ (by omega)
 · rw [← e2]; exact Nat.mul_le_mul_right _ h3
theorem head1 {us : List Nat} (h : DOk us) (i : Nat) (hd : us.length = i + 1) : dv us = us.getD i 0 * 4294967296 ^ i + dv (us.take i) := by
 have h0 : dv (us.drop (i + 1)) = 0 := by rw [List.drop_of_length_le (by omega)]; rfl
 rw [dv_split' us i, dv_dropS us i, h0, Nat.add_comm, Nat.mul_comm]; rfl
theorem nrm_top {b : List Nat} (h : Nrm b) (i : Nat) (hi : b.length = i + 1) : 0 < b.getD i 0 := by
 rcases Nat.eq_zero_or_pos (b.getD i 0) with h0 | h0
 · exfalso
   apply h
   rw [List.getLast?_eq_getElem?, hi, show i + 1 - 1 = i from rfl]
   rw [List.getD, List.getElem?_eq_getElem (by omega)] at h0
   rw [List.getElem?_eq_getElem (by omega)]
   simpa using h0
 · exact h0
theorem dv_zeros (a : List Nat) (k : Nat) : dv (a ++ List.replicate k 0) = dv a := by rw [dv_append, dv_replicate]; simp
structure NatLong where
 us : List Nat
 qs : List Nat
 j : Nat
structure NatGuess where
 g : Nat
 r : Nat
structure NatMs where
 ws : List Nat
 k : Nat
 bo : Nat
 c : Nat
theorem and_mask {P : Program} {t : TypeId} (c : Nat) (h : c < 18446744073709551616) (w : World) : (binOp .and t (.int .u64 (c : Int)) (.int .u64 4294967295)).run P w = .ok (.int .u64 ((c % 4294967296 : Nat) : Int)) w := by
 have h1 : (BitVec.ofInt 64 (c : Int) &&& BitVec.ofInt 64 4294967295).toNat = c % 4294967296 := by
  rw [BitVec.toNat_and, BitVec.ofInt_natCast, BitVec.toNat_ofNat, Nat.mod_eq_of_lt (by omega), show (BitVec.ofInt 64 4294967295).toNat = 2 ^ 32 - 1 from rfl, Nat.and_two_pow_sub_one_eq_mod]
 have h2 : IntKind.u64.wrap ((c % 4294967296 : Nat) : Int) = ((c % 4294967296 : Nat) : Int) := by rw [wrap_u64]; omega
 simp only [binOp]
 show (Op.intBits .and .u64 (c : Int) 4294967295).run P w = _
 unfold Op.intBits
 show (pure (Value.int .u64 (IntKind.u64.wrap ((BitVec.ofInt 64 (c : Int) &&& BitVec.ofInt 64 4294967295).toNat : Int))) : Sem Value).run P w = _
 rw [h1, h2, run_pure]
def msx (u m bo : Nat) : Nat := if m + bo ≤ u then u - (m + bo) else u + 18446744073709551616 - (m + bo)
theorem sub2 (u m bo : Nat) (hu : u < 4294967296) (hm : m < 4294967296) (hb : bo ≤ 1) : IntKind.u64.wrap (IntKind.u64.wrap ((u : Int) - (m : Int)) - (bo : Int)) = ((msx u m bo : Nat) : Int) := by
 rw [wrap_u64, wrap_u64]
 unfold msx
 split <;> omega
theorem msx_spec (u m bo : Nat) (hu : u < 4294967296) (hm : m < 4294967296) (hb : bo ≤ 1) : msx u m bo % 4294967296 + (m + bo) = u + msx u m bo / 9223372036854775808 * 4294967296 ∧ msx u m bo / 9223372036854775808 ≤ 1 ∧ msx u m bo < 18446744073709551616 := by
 unfold msx
 split <;> omega
set_option maxHeartbeats 2000000 in
theorem nat_long {A B G : Gh} {x y : SV} {a b : List Nat} {k1 k2 : Nat} (hx : IsD A x a) (hy : IsD B y b) [GL A G] [GL B G] (hna : Nrm a) (hnb : Nrm b) (hb2 : 2 ≤ b.length) (hle : dv b ≤ dv a)
   (hq : dv a / dv b < 2 ^ k1) (hr : dv a % dv b < 2 ^ k2) (hl : a.length ≤ 112589990684) :
   Fn Tryz.prog 214 [x.v, y.v] G (fun v G' => ∃ z r : SV, v = .tuple #[z.v, r.v] ∧ IsN k1 G' z (dv a / dv b) ∧ IsN k2 G' r (dv a % dv b)) := by
 have hxl := hx.len
 have hyl := hy.len
 obtain ⟨n, hn⟩ : ∃ n, b.length = n + 2 := ⟨b.length - 2, by omega⟩
 have hbp : 0 < dv b := Nat.pos_of_ne_zero fun h => by
   rw [nrm_zero hnb] at h
   rw [h] at hn; simp at hn
 have hnm : b.length ≤ a.length := by
   rcases Nat.lt_or_ge a.length b.length with h | h
   · have := dv_len_lt hx.ok hnb h
     omega
   · exact h
 have htp := nrm_top hnb (n + 1) hn
 have htl := hy.ok.get (n + 1)
 have hbv := head1 hy.ok (n + 1) hn
 have hbt := dv_take_lt hy.ok (n + 1)
 obtain ⟨s, hs⟩ : ∃ s, s = 32 - bl (b.getD (n + 1) 0) := ⟨_, rfl⟩
 obtain ⟨hs32, hs1, hs2⟩ := top_shift htp htl hs
 have hble : bl (b.getD (n + 1) 0) ≤ 32 := bl_le.2 htl
 have hpn : 0 < 4294967296 ^ (n + 1) := Nat.pow_pos (by decide)
 have hps : 0 < 2 ^ s := Nat.pow_pos (by decide)
 have hV1 : 2147483648 * 4294967296 ^ (n + 1) ≤ dv b * 2 ^ s := by
   refine Nat.le_trans (Nat.mul_le_mul_right _ hs1) ?_
   rw [Nat.mul_assoc, Nat.mul_comm (2 ^ s), ← Nat.mul_assoc]
   exact Nat.mul_le_mul_right _ (by omega)
 have hV2 : dv b * 2 ^ s < 4294967296 ^ (n + 2) := by
   refine Nat.lt_of_lt_of_le (Nat.mul_lt_mul_of_pos_right (k := 2 ^ s) (m := (b.getD (n + 1) 0 + 1) * 4294967296 ^ (n + 1)) (by rw [Nat.add_mul, Nat.one_mul]; omega) hps) ?_
   rw [Nat.mul_assoc, Nat.mul_comm (4294967296 ^ (n + 1)), ← Nat.mul_assoc, powB (n + 1), Nat.mul_comm _ 4294967296]
   exact Nat.mul_le_mul_right _ hs2
 have hVl : (dg (dv b * 2 ^ s)).length = n + 2 := dg_len (by show 4294967296 ^ (n + 1) ≤ _; omega) hV2 (by omega)
 have hal := dv_lt hx.ok
 have hU2 : dv a * 2 ^ s < 4294967296 ^ (a.length + 1) := by
   rw [powB]
   exact Nat.mul_lt_mul'' hal (Nat.lt_of_lt_of_le (Nat.pow_lt_pow_right (by decide) hs32) (by decide))
 have hUl1 : (dg (dv a * 2 ^ s)).length ≤ a.length + 1 := by
   have h1 := nrm_len (dg_spec (dv a * 2 ^ s)).2.2 (k := 32 * (a.length + 1)) (by rw [(dg_spec _).1, Nat.pow_mul]; exact hU2)
   omega
 have hUl0 : a.length ≤ (dg (dv a * 2 ^ s)).length := by
   have hane : a ≠ [] := fun h => by
     have := congrArg List.length h
     simp only [List.length_nil] at this; omega
   have h1 := nrm_ge hna hane
   have h2 := dv_lt (dg_spec (dv a * 2 ^ s)).2.1
   rw [(dg_spec _).1] at h2
   have h3 : dv a ≤ dv a * 2 ^ s := Nat.le_mul_of_pos_right _ hps
   have h4 := (Nat.pow_lt_pow_iff_right (a := 4294967296) (by decide)).1 (Nat.lt_of_le_of_lt (Nat.le_trans h1 h3) h2)
   omega
 have hU3 : dv a * 2 ^ s < dv b * 2 ^ s * 4294967296 ^ (a.length - n - 1) := by
   have h1 : 4294967296 ^ (n + 1) * 4294967296 ^ (a.length - n - 1) = 4294967296 ^ a.length := by rw [← Nat.pow_add, show n + 1 + (a.length - n - 1) = a.length by omega]
   refine Nat.lt_of_lt_of_le (Nat.mul_lt_mul_of_pos_right hal hps) (Nat.le_trans (Nat.mul_le_mul_left _ (Nat.pow_le_pow_right (by decide) (show s ≤ 31 by omega))) ?_)
   rw [← h1, Nat.mul_comm, ← Nat.mul_assoc]
   exact Nat.mul_le_mul_right _ hV1
 have hta := trimD_nrm hna
 have htb := trimD_nrm hnb
 refine Fn.intro Tryz.func214 rfl rfl Tryz.ntmps214 rfl ?_
 intro C _ _
 refine sR <| sa rfl rfl <| sa rfl rfl <| zE <| st_scope <| sR <| sm rfl rfl <| sm rfl rfl <| slen rfl rfl <| sy (yd_sub64 rfl rfl) rfl <| ?_
 refine sy (yd_ixD hy rfl rfl (by omega) (by omega)) rfl <| ?_
 rw [show ((y.n : Int) - 1).toNat = n + 1 by omega]
 refine sy (yd_ldD hy rfl (by omega)) rfl <| ?_
 refine sc (zC rfl rfl (bits_lz32 htl) rfl ?_)
 rintro _ G1 _ rfl
 refine sy (yd_toU64 rfl) rfl <| ?_
 rw [show (32 - (bl (b.getD (n + 1) 0) : Int)) = (s : Int) by omega]
 refine sa rfl rfl <| zE <| sR <| sm rfl rfl <| sm rfl rfl <| ?_
 refine sc (zC rfl rfl (nat_Shl (kk := 32 * (a.length + 1)) hx hs32 (by rw [Nat.pow_mul]; exact hU2) (by omega)) rfl ?_)
 rintro _ G2 _ ⟨u, rfl, hu, huc⟩
 have hul := hu.len
 rw [hta] at huc
 refine sc (ch_slice (by rfl) (by rfl) (by rfl) (by rfl) rfl ?_)
 intro b3
 refine sc (ch_append_grow (z := .int .u32 0) (m := 2) rfl rfl (src_D hu.d) (src_own inferInstance rfl) (by omega) (by decide) (by omega) rfl ?_)
 intro b4 cap h1
 have ecs : (dg (dv a * 2 ^ s)).map dI ++ [Value.int .u32 0, .int .u32 0] ++ zeros (.int .u32 0) (cap - (u.n + 2)) = (dg (dv a * 2 ^ s) ++ List.replicate (cap - u.n) 0).map dI := by
   rw [zeros_dI, show cap - u.n = (cap - (u.n + 2)) + 1 + 1 by omega, List.replicate_succ, List.replicate_succ]
   simp [dI]
 rw [ecs]
 clear ecs
 have hus : dv (dg (dv a * 2 ^ s) ++ List.replicate (cap - u.n) 0) = dv a * 2 ^ s := by rw [dv_zeros, (dg_spec _).1]
 have huo : DOk (dg (dv a * 2 ^ s) ++ List.replicate (cap - u.n) 0) := (dg_spec _).2.1.append (.replicate _)
 have hulen : (dg (dv a * 2 ^ s) ++ List.replicate (cap - u.n) 0).length = cap := by simp; omega
 generalize dg (dv a * 2 ^ s) ++ List.replicate (cap - u.n) 0 = us0 at hus huo hulen ⊢
 refine sm rfl rfl <| slen rfl rfl <| sy (yd_add64 rfl rfl) rfl <| sy (yd_slice_hi rfl rfl (by omega) (by omega)) rfl <| sa rfl rfl <| zE <| sR <| sm rfl rfl <| ?_
 refine sm rfl rfl <| ?_
 refine sc (zC rfl rfl (nat_Shl (kk := 32 * (n + 2)) hy hs32 (by rw [Nat.pow_mul]; exact hV2) (by omega)) rfl ?_)
 rintro _ G4 _ ⟨v, rfl, hv, _⟩
 have hvl := hv.len
 obtain ⟨hvv, hvo, hvn⟩ := dg_spec (dv b * 2 ^ s)
 replace hv := hv.d
 rw [hVl] at hvl
 generalize hvs : dg (dv b * 2 ^ s) = vs at *
 refine sa rfl rfl <| zE <| sR <| sm rfl rfl <| slen rfl rfl <| sa rfl rfl <| zE <| st_seq <| dr (fun _ => false) [(0, true), (1, true), (2, true), (3, true), (4, true), (5, true), (6, true), (7, true), (8, true), (9, true), (10, true), (11, true), (12, true), (13, true)] follows (by kernel_rfl) <| ?_
 refine dM rfl rfl rfl <| dM rfl rfl rfl <| dy rfl (fun _ => yd_sub64 rfl rfl (by omega) (by omega)) rfl rfl <| dy rfl (fun _ => yd_ixD hv rfl rfl (by omega) (by omega)) rfl rfl <| ?_
 rw [show ((v.n : Int) - 1).toNat = n + 1 by omega]
 have hvt := hvo.get (n + 1)
 have hv2 := hvo.get n
 refine dy rfl (fun _ => yd_ldD hv rfl (by omega)) rfl rfl <| dy rfl (fun _ => yd_toU64 rfl (by omega) (by omega)) rfl rfl <| dM rfl rfl rfl <| dM rfl rfl rfl <| ?_
 refine dy rfl (fun _ => yd_sub64 rfl rfl (by omega) (by omega)) rfl rfl <| dy rfl (fun _ => yd_ixD hv rfl rfl (by omega) (by omega)) rfl rfl <| ?_
 rw [show ((v.n : Int) - 2).toNat = n by omega]
 refine dy rfl (fun _ => yd_ldD hv rfl (by omega)) rfl rfl <| ?_
 refine dy rfl (fun _ => yd_toU64 rfl (by omega) (by omega)) rfl rfl <| dA rfl rfl rfl <| dA rfl rfl rfl <| dn <| sR <| sm rfl rfl <| ?_
 refine slen rfl rfl <| sm rfl rfl <| sy (yd_sub64 rfl rfl) rfl <| ?_
 obtain ⟨l, hlq⟩ : ∃ l, a.length = n + 1 + l := ⟨a.length - n - 1, by omega⟩
 rw [show a.length - n - 1 = l by omega] at hU3
 rw [show (((x.n : Int) + 1).toNat : Int) - v.n = (l : Nat) by omega, show ((x.n : Int) + 1).toNat = a.length + 1 by omega]
 refine sc (ch_make rfl rfl (by omega) (by omega) (by omega) (by rfl) rfl ?_)
 intro b5
 rw [zeros_dI, Int.toNat_natCast]
 refine st_drop [_, _] (.cons_cons _ (.cons_cons _ (.cons _ .slnil))) ?_
 refine sa rfl rfl <| zE <| st_seq <| st_label <| st_seq <| sR <| sm rfl rfl <| slen rfl rfl <| sy (yd_sub64 rfl rfl) rfl <| sa rfl rfl <| zE <| st_block <| ?_
 refine st_loop (X := NatLong) (fun q => [(13, .int .i64 ((q.j : Int) - 1)), (7, .slice (some ⟨b4, 0, none⟩) (a.length + 1) cap), (9, .int .i64 v.n), (10, .int .u64 (vs.getD (n + 1) 0 : Nat)), (11, .int .u64 (vs.getD n 0 : Nat)), (8, .slice v.a v.n v.c), (12, .slice (some ⟨b5, 0, none⟩) l l), (6, .int .u64 s)])
   (fun q => [⟨b5, q.qs.map dI, 224, true⟩, ⟨b4, q.us.map dI, 224, true⟩])
   (fun q _ => q.us.length = cap ∧ DOk q.us ∧ q.qs.length = l ∧ DOk q.qs ∧ q.j ≤ l ∧ (∀ i, i < q.j → q.qs.getD i 0 = 0) ∧ dv a * 2 ^ s = dv q.us + dv vs * dv q.qs ∧ dv q.us < dv vs * 4294967296 ^ q.j) (fun q => q.j) ⟨us0, List.replicate l 0, l⟩
   ⟨hulen, huo, by simp, .replicate _, Nat.le_refl _, fun i _ => by simp [List.getD, List.getElem?_replicate]; split <;> rfl, by simp only [dv_replicate]; omega, by simp only [hus, hvv]; exact hU3⟩ (.cons rfl (.cons rfl (.cons rfl (.cons rfl (.cons rfl (.cons rfl (.cons rfl (.cons rfl .nil)))))))) rfl ?_
 rintro ⟨us, qs, j⟩ Gx _ ⟨hul2, huo2, hql, hqo, hjl, hq0, hinv, hlt⟩
 simp only [] at hul2 huo2 hql hqo hjl hq0 hinv hlt ⊢
 refine st_seq <| sR <| sm rfl rfl <| sy (yd_geq rfl rfl) rfl <| zE <| ?_
 refine st_condE rfl (fun hc => ?_) (fun hc => ?_) -- slot 68
 · have hj0 : j = 0 := by omega
   subst hj0
   refine st_exit <| st_te <| st_te <| st_inBlock_eq <| st_seq <| ?_
   refine st_freeze b5 (.hd ..) (fun G5 _ hgb5 => ?_)
   refine st_freeze b4 (.hd ..) (fun G6 _ hgb4 => ?_)
   refine dr (fun _ => false) [(0, true), (2, true), (3, true), (4, true), (5, true), (1, false), (6, false), (7, true), (8, true)] follows (by kernel_rfl) <| ?_
   have hDq : IsD G6 ⟨some ⟨b5, 0, none⟩, l, l⟩ qs := .of_block hqo (hgb5.up (G := G6)) hql.symm (Nat.le_refl _) (by rw [List.take_of_length_le (by simp)])
   have hut : dv (us.take (n + 2)) = dv us := by
     have h0 := dv_split' us (n + 2)
     rw [dv_drop0 (by rw [Nat.pow_zero, Nat.mul_one, hvv] at hlt; omega)] at h0
     omega
   have hDu : IsD G6 ⟨some ⟨b4, 0, none⟩, n + 2, cap⟩ (us.take (n + 2)) := .of_block (huo2.take _) hgb4.h (by simp; omega) (by omega) (by rw [List.map_take, List.length_take, Nat.min_eq_left (by omega)])
   have hV0 : 0 < dv vs := by rw [hvv]; exact Nat.mul_pos hbp hps
   rw [Nat.pow_zero, Nat.mul_one] at hlt
   have hdq : dv a / dv b = dv qs := by
     rw [← Nat.mul_div_mul_right _ _ hps, hinv, ← hvv, Nat.add_mul_div_left _ _ hV0, Nat.div_eq_of_lt hlt, Nat.zero_add]
   have hdr : dv a % dv b = dv (us.take (n + 2)) / 2 ^ s := by
     have : dv us = dv a % dv b * 2 ^ s := by
       rw [← Nat.mul_mod_mul_right, hinv, ← hvv, Nat.add_mul_mod_self_left, Nat.mod_eq_of_lt hlt]
     rw [hut, this, Nat.mul_div_cancel _ hps]
   refine dM rfl rfl rfl <| dM rfl rfl rfl <| dM rfl rfl rfl <| dy rfl (fun _ => yd_slice_hi rfl rfl (by omega) (by omega)) rfl rfl <| ?_
   rw [show (v.n : Int).toNat = n + 2 by omega]
   refine dM rfl rfl rfl <| ?_
   refine dc rfl rfl (zC rfl rfl (nat_trim hDq (by omega)) rfl ?_)
   rintro _ G7 _ rfl
   refine dr_s <| ?_
   refine dc rfl rfl (zC rfl rfl (nat_Shr (kk := k2) hDu hs32 (by rw [← hdr]; exact hr) (by simp; omega)) rfl ?_)
   rintro _ G8 _ ⟨r, rfl, hr8⟩
   refine dr_s <| dA rfl rfl rfl <| dA rfl rfl rfl <| dn <| st_ret <| ?_
   refine zD (.tmp rfl (.tmp rfl .nil)) ⟨⟨some ⟨b5, 0, none⟩, (trimD qs).length, l⟩, r, rfl, ?_, ?_⟩
   · rw [hdq]
     refine ⟨?_, by rw [← hdq]; exact hq⟩
     rw [dg_trim hqo]
     exact hDq.trim.up
   · rw [hdr]; exact hr8
 obtain ⟨i, rfl⟩ : ∃ i, j = i + 1 := ⟨j - 1, by omega⟩
 rw [show (((i + 1 : Nat) : Int) - 1) = i by omega]
 have hpi : 0 < 4294967296 ^ i := Nat.pow_pos (by decide)
 -- the digits that the guess looks at
 obtain ⟨p, hp⟩ : ∃ p, p = 4294967296 ^ (i + n) := ⟨_, rfl⟩
 obtain ⟨V, hV⟩ : ∃ V, V = dv vs * 4294967296 ^ i := ⟨_, rfl⟩
 have hvB : dv vs < 4294967296 ^ (n + 2) := by rw [hvv]; exact hV2
 have hvh := head2 hvo n hvB
 have hltV : dv us < V * 4294967296 := by rw [hV, Nat.mul_assoc, ← powB]; exact hlt
 have hV0 : 0 < V := by rw [hV]; exact Nat.mul_pos (by rw [hvv]; exact Nat.mul_pos hbp hps) hpi
 have hT0 : 0 < vs.getD (n + 1) 0 := nrm_top hvn (n + 1) hVl
 have hVp : V = (vs.getD (n + 1) 0 * 4294967296 + vs.getD n 0) * p + dv (vs.take n) * 4294967296 ^ i := by
   rw [hV, hvh, Nat.add_mul, hp, Nat.pow_add, Nat.mul_comm (4294967296 ^ i), Nat.mul_assoc]
 have hv0 : dv (vs.take n) * 4294967296 ^ i < p := by
   rw [hp, Nat.pow_add, Nat.mul_comm]
   exact Nat.mul_lt_mul_of_pos_left (dv_take_lt hvo n) hpi
 have hM : dv us < 4294967296 ^ (i + n + 3) := by
   refine Nat.lt_of_lt_of_le hlt ?_
   rw [show i + n + 3 = (n + 2) + (i + 1) by omega, Nat.pow_add 4294967296 (n + 2) (i + 1)]
   exact Nat.mul_le_mul_right _ (Nat.le_of_lt hvB)
 have huh := head3 huo2 (i + n) hM
 rw [← hp] at huh
 have hu0 := dv_take_lt huo2 (i + n)
 rw [← hp] at hu0
 have hg0 := huo2.get (i + n)
 have hg1 := huo2.get (i + n + 1)
 have hg2 := huo2.get (i + n + 2)
 refine zK <| st_seq <| st_block <| st_seq <| dr (fun _ => false) [(0, true), (1, true), (2, true), (3, true), (4, true), (5, true), (6, true), (7, true), (8, true), (9, true), (10, true), (11, true), (12, true), (13, true), (14, true), (15, true), (16, true), (17, true)] follows (by kernel_rfl) <| ?_
 refine dM rfl rfl rfl <| dM rfl rfl rfl <| dM rfl rfl rfl <| dy rfl (fun _ => yd_add64 rfl rfl (by omega) (by omega)) rfl rfl <| ?_
 refine dy rfl (fun _ => yd_ixO rfl rfl (by omega) (by omega)) rfl rfl <| ?_
 rw [show ((i : Int) + (v.n : Int)).toNat = i + n + 2 by omega]
 refine dy rfl (fun _ => yd_ldO rfl (by omega)) rfl rfl <| dy rfl (fun _ => yd_toU64 rfl (by omega) (by omega)) rfl rfl <| dy rfl (fun _ => yd_shl rfl rfl (by decide)) rfl rfl <| ?_
 rw [shl_u64 (us.getD (i + n + 2) 0) 32 (by decide) (by omega) rfl]
 refine dM rfl rfl rfl <| dM rfl rfl rfl <| dM rfl rfl rfl <| dy rfl (fun _ => yd_add64 rfl rfl (by omega) (by omega)) rfl rfl <| ?_
 refine dy rfl (fun _ => yd_sub64 rfl rfl (by omega) (by omega)) rfl rfl <| dy rfl (fun _ => yd_ixO rfl rfl (by omega) (by omega)) rfl rfl <| ?_
 rw [show ((i : Int) + (v.n : Int) - 1).toNat = i + n + 1 by omega]
 refine dy rfl (fun _ => yd_ldO rfl (by omega)) rfl rfl <| ?_
 refine dy rfl (fun _ => yd_toU64 rfl (by omega) (by omega)) rfl rfl <| dy rfl (fun _ => yd_int rfl rfl (or_add' (us.getD (i + n + 1) 0) (us.getD (i + n + 2) 0) 32 (by omega) (by omega))) rfl rfl <| dA rfl rfl rfl <| dn <| st_seq <| ?_
 obtain ⟨f, hf⟩ : ∃ f, f = us.getD (i + n + 2) 0 * 4294967296 + us.getD (i + n + 1) 0 := ⟨_, rfl⟩
 rw [show us.getD (i + n + 1) 0 + us.getD (i + n + 2) 0 * 2 ^ 32 = f by omega]
 rw [← hf] at huh
 have hfB : f < 18446744073709551616 := by omega
 refine dr (fun _ => false) [(0, true), (1, true), (2, true), (3, true), (4, true), (5, true), (6, true), (7, true)] follows (by kernel_rfl) <| ?_
 refine dM rfl rfl rfl <| dM rfl rfl rfl <| dy rfl (fun _ => yd_quoU rfl rfl (by omega) (by omega) (by omega)) rfl rfl <| dM rfl rfl rfl <| dM rfl rfl rfl <| ?_
 refine dy rfl (fun _ => yd_remU rfl rfl (by omega) (by omega)) rfl rfl <| dA rfl rfl rfl <| dA rfl rfl rfl <| dn <| ?_
 rw [show ((f : Int) / ((vs.getD (n + 1) 0 : Nat) : Int)) = ((f / vs.getD (n + 1) 0 : Nat) : Int) by rfl, show ((f : Int) % ((vs.getD (n + 1) 0 : Nat) : Int)) = ((f % vs.getD (n + 1) 0 : Nat) : Int) by rfl]
 -- GUESS
 have hUle : (f * 4294967296 + us.getD (i + n) 0) * p ≤ dv us := by omega
 have hUlt : dv us < (f * 4294967296 + us.getD (i + n) 0 + 1) * p := by rw [Nat.add_mul _ 1, Nat.one_mul]; omega
 have hVle : (vs.getD (n + 1) 0 * 4294967296 + vs.getD n 0) * p ≤ V := by rw [hVp]; exact Nat.le_add_right _ _
 have hfT : f ≤ vs.getD (n + 1) 0 * 4294967296 + vs.getD n 0 := kn_f hUle hVp hv0 hltV
 refine st_cut Nat (fun g => [(15, .int .u64 (g : Nat)), (13, .int .i64 i), (7, .slice (some ⟨b4, 0, none⟩) (a.length + 1) cap), (9, .int .i64 v.n), (10, .int .u64 (vs.getD (n + 1) 0 : Nat)), (11, .int .u64 (vs.getD n 0 : Nat)), (8, .slice v.a v.n v.c), (12, .slice (some ⟨b5, 0, none⟩) l l), (6, .int .u64 s)]) (fun _ => [⟨b5, qs.map dI, 224, true⟩, ⟨b4, us.map dI, 224, true⟩]) (fun g _ => g < 4294967296 ∧ dv us < (g + 1) * V ∧ g * V < dv us + V) ?_ ?_
 · refine st_block <| ?_
   refine st_loop (X := NatGuess) (fun q => [(15, .int .u64 q.g), (16, .int .u64 q.r), (13, .int .i64 i), (7, .slice (some ⟨b4, 0, none⟩) (a.length + 1) cap), (9, .int .i64 v.n), (10, .int .u64 (vs.getD (n + 1) 0 : Nat)), (11, .int .u64 (vs.getD n 0 : Nat)), (8, .slice v.a v.n v.c), (12, .slice (some ⟨b5, 0, none⟩) l l), (6, .int .u64 s)]) (fun _ => [⟨b5, qs.map dI, 224, true⟩, ⟨b4, us.map dI, 224, true⟩]) (fun q _ => f = q.g * vs.getD (n + 1) 0 + q.r ∧ q.r < 4294967296 ∧ dv us < (q.g + 1) * V) (fun q => q.g) ⟨f / vs.getD (n + 1) 0, f % vs.getD (n + 1) 0⟩
     ⟨(Nat.div_add_mod' ..).symm, Nat.lt_trans (Nat.mod_lt _ hT0) hvt, kn_init hUlt hg0 hVle hT0⟩ (.cons rfl (.cons rfl (.cons rfl (.cons rfl (.cons rfl (.cons rfl (.cons rfl (.cons rfl (.cons rfl (.cons rfl .nil)))))))))) rfl ?_
   rintro ⟨g, r⟩ Gy _ ⟨hfg, hrB, hlo⟩
   simp only [] at hfg hrB hlo ⊢
   have hgT : g * 1 ≤ g * vs.getD (n + 1) 0 := Nat.mul_le_mul_left _ hT0
   refine st_seq <| sR <| sm rfl rfl <| sy (yd_shr rfl rfl (by decide)) rfl <| ?_
   rw [shr_u64 g 32 (by decide) rfl]
   refine sy (yd_neq rfl rfl) rfl <| sm rfl rfl <| ?_
   refine st_caseP 97 rfl (fun hg => ?_) (fun hg => ?_)
   · have hgB : 4294967296 ≤ g := by omega
     have hdec : dv us < g * V := Nat.lt_of_lt_of_le hltV (by rw [Nat.mul_comm]; exact Nat.mul_le_mul_right _ hgB)
     refine ss rfl rfl rfl rfl <| ss rfl rfl rfl rfl <| ss rfl rfl rfl rfl <| ss rfl rfl rfl rfl <| ss rfl rfl rfl rfl <| ss rfl rfl rfl rfl <| ss rfl rfl rfl rfl <| ss rfl rfl rfl rfl <| ss rfl rfl rfl rfl <| ?_
     refine ss rfl rfl rfl rfl <| ss rfl rfl rfl rfl <| ss rfl rfl rfl rfl <| ss rfl rfl rfl rfl <| ss rfl rfl rfl rfl <| ss rfl rfl rfl rfl <| sy (yd_pickT rfl rfl) rfl <| zE <| st_condT rfl <| ?_
     refine zK <| st_block <| ?_
     obtain ⟨g', rfl⟩ : ∃ g', g = g' + 1 := ⟨g - 1, by rcases Nat.eq_zero_or_pos g with h | h; (rw [h, Nat.zero_mul] at hdec; omega); omega⟩
     refine sR <| sm rfl rfl <| sy (yd_subU rfl rfl (by omega) (by omega)) rfl <| sa rfl rfl <| zE <| sR <| sm rfl rfl <| sm rfl rfl <| sy (yd_addU rfl rfl) rfl <| ?_
     refine sa rfl rfl <| zE <| sR <| sm rfl rfl <| sy (yd_shr rfl rfl (by decide)) rfl <| ?_
     rw [show ((g' + 1 : Nat) : Int) - 1 = (g' : Nat) by omega, show ((r : Int) + ((vs.getD (n + 1) 0 : Nat) : Int)) = ((r + vs.getD (n + 1) 0 : Nat) : Int) from rfl, shr_u64 (r + vs.getD (n + 1) 0) 32 (by decide) rfl]
     have hfg' : f = g' * vs.getD (n + 1) 0 + (r + vs.getD (n + 1) 0) := by rw [hfg, Nat.add_mul, Nat.one_mul]; omega
     refine sy (yd_neq rfl rfl) rfl <| zE <| ?_
     refine st_condP rfl (fun hc3 => ?_) (fun hc3 => ?_) -- slot 121
     · have hr3 : 4294967296 ≤ r + vs.getD (n + 1) 0 := by omega
       have hgB : g' < 4294967296 := by
         rcases Nat.lt_or_ge g' 4294967296 with h | h
         · exact h
         · have := Nat.mul_le_mul_right (vs.getD (n + 1) 0) h
           omega
       have hgS : g' * vs.getD n 0 ≤ (r + vs.getD (n + 1) 0) * 4294967296 + us.getD (i + n) 0 := by
         have h1 := Nat.mul_le_mul (Nat.le_of_lt hgB) (Nat.le_of_lt hv2)
         omega
       refine st_exit <| st_inBlock_ne rfl <| st_te <| st_inBlock_eq <| ?_
       exact st_at g' ⟨hgB, hdec, kn_hi hUle hVp hv0 hT0 hfg' hgB hgS⟩ (.cons rfl (.cons rfl (.cons rfl (.cons rfl (.cons rfl (.cons rfl (.cons rfl (.cons rfl (.cons rfl .nil))))))))) rfl
     refine zK <| ?_
     exact st_again ⟨g', r + vs.getD (n + 1) 0⟩ ⟨hfg', by show r + vs.getD (n + 1) 0 < _; omega, hdec⟩ (by show g' < g' + 1; omega) (.cons rfl (.cons rfl (.cons rfl (.cons rfl (.cons rfl (.cons rfl (.cons rfl (.cons rfl (.cons rfl (.cons rfl .nil)))))))))) rfl
   have hgB : g < 4294967296 := by omega
   have hgS : g * vs.getD n 0 < 4294967296 * 4294967296 := Nat.mul_lt_mul'' hgB hv2
   have e2 : (g : Int) * ((vs.getD n 0 : Nat) : Int) = ((g * vs.getD n 0 : Nat) : Int) := rfl
   refine syg rfl rfl (yd_move rfl) rfl <| syg rfl rfl (yd_move rfl) rfl <| syg rfl rfl (yd_mulU rfl rfl (by rw [e2]; omega) (by rw [e2]; omega)) rfl <| syg rfl rfl (yd_move rfl) rfl <| syg rfl rfl (yd_shl rfl rfl (by decide)) rfl <| ?_
   rw [shl_u64 r 32 (by decide) (by omega) rfl]
   refine syg rfl rfl (yd_move rfl) rfl <| syg rfl rfl (yd_move rfl) rfl <| syg rfl rfl (yd_move rfl) rfl <| syg rfl rfl (yd_add64 rfl rfl) rfl <| syg rfl rfl (yd_sub64 rfl rfl) rfl <| ?_
   refine syg rfl rfl (yd_ixO rfl rfl (by omega) (by omega)) rfl <| ?_
   rw [show ((i : Int) + (v.n : Int) - 2).toNat = i + n by omega]
   refine syg rfl rfl (yd_ldO rfl (by omega)) rfl <| syg rfl rfl (yd_toU64 rfl) rfl <| syg rfl rfl (yd_int rfl rfl (or_add' (us.getD (i + n) 0) r 32 (by omega) (by omega))) rfl <| ?_
   refine syg rfl rfl (yd_gtr rfl rfl) rfl <| sy (yd_pickF rfl rfl) rfl <| zE <| ?_
   rw [e2]
   refine st_condE rfl (fun hc2 => ?_) (fun hc2 => ?_) -- slot 113
   · refine st_exit <| st_te <| st_te <| st_inBlock_eq <| ?_
     exact st_at g ⟨hgB, hlo, kn_hi hUle hVp hv0 hT0 hfg hgB (by omega)⟩ (.cons rfl (.cons rfl (.cons rfl (.cons rfl (.cons rfl (.cons rfl (.cons rfl (.cons rfl (.cons rfl .nil))))))))) rfl
   have hdec : dv us < g * V := kn_dec hUlt hVle hfg (by omega)
   refine zK <| st_block <| ?_
   obtain ⟨g', rfl⟩ : ∃ g', g = g' + 1 := ⟨g - 1, by rcases Nat.eq_zero_or_pos g with h | h; (rw [h, Nat.zero_mul] at hdec; omega); omega⟩
   refine sR <| sm rfl rfl <| sy (yd_subU rfl rfl (by omega) (by omega)) rfl <| sa rfl rfl <| zE <| sR <| sm rfl rfl <| sm rfl rfl <| sy (yd_addU rfl rfl) rfl <| ?_
   refine sa rfl rfl <| zE <| sR <| sm rfl rfl <| sy (yd_shr rfl rfl (by decide)) rfl <| ?_
   rw [show ((g' + 1 : Nat) : Int) - 1 = (g' : Nat) by omega, show ((r : Int) + ((vs.getD (n + 1) 0 : Nat) : Int)) = ((r + vs.getD (n + 1) 0 : Nat) : Int) from rfl, shr_u64 (r + vs.getD (n + 1) 0) 32 (by decide) rfl]
   have hfg' : f = g' * vs.getD (n + 1) 0 + (r + vs.getD (n + 1) 0) := by rw [hfg, Nat.add_mul, Nat.one_mul]; omega
   refine sy (yd_neq rfl rfl) rfl <| zE <| ?_
   refine st_condP rfl (fun hc3 => ?_) (fun hc3 => ?_) -- slot 121
   · have hr3 : 4294967296 ≤ r + vs.getD (n + 1) 0 := by omega
     have hgB : g' < 4294967296 := by
       rcases Nat.lt_or_ge g' 4294967296 with h | h
       · exact h
       · have := Nat.mul_le_mul_right (vs.getD (n + 1) 0) h
         omega
     have hgS : g' * vs.getD n 0 ≤ (r + vs.getD (n + 1) 0) * 4294967296 + us.getD (i + n) 0 := by
       have h1 := Nat.mul_le_mul (Nat.le_of_lt hgB) (Nat.le_of_lt hv2)
       omega
     refine st_exit <| st_inBlock_ne rfl <| st_te <| st_inBlock_eq <| ?_
     exact st_at g' ⟨hgB, hdec, kn_hi hUle hVp hv0 hT0 hfg' hgB hgS⟩ (.cons rfl (.cons rfl (.cons rfl (.cons rfl (.cons rfl (.cons rfl (.cons rfl (.cons rfl (.cons rfl .nil))))))))) rfl
   refine zK <| ?_
   exact st_again ⟨g', r + vs.getD (n + 1) 0⟩ ⟨hfg', by show r + vs.getD (n + 1) 0 < _; omega, hdec⟩ (by show g' < g' + 1; omega) (.cons rfl (.cons rfl (.cons rfl (.cons rfl (.cons rfl (.cons rfl (.cons rfl (.cons rfl (.cons rfl (.cons rfl .nil)))))))))) rfl
 rintro g Gz _ ⟨hgB, hlo, hhi⟩
 -- SUB
 refine sR <| sa rfl rfl <| sa rfl rfl <| zE <| st_seq <| sR <| sm rfl rfl <| slen rfl rfl <| sm rfl rfl <| zE <| st_block <| ?_
 refine st_loop (X := NatMs) (fun q => [(18, .int .u64 q.c), (17, .int .u64 q.bo), (124, .int .i64 q.k), (123, .int .i64 v.n), (122, .slice v.a v.n v.c), (15, .int .u64 (g : Nat)), (13, .int .i64 i), (7, .slice (some ⟨b4, 0, none⟩) (a.length + 1) cap), (9, .int .i64 v.n), (10, .int .u64 (vs.getD (n + 1) 0 : Nat)), (11, .int .u64 (vs.getD n 0 : Nat)), (8, .slice v.a v.n v.c), (12, .slice (some ⟨b5, 0, none⟩) l l), (6, .int .u64 s)]) (fun q => [⟨b5, qs.map dI, 224, true⟩, ⟨b4, q.ws.map dI, 224, true⟩])
   (fun q _ => q.ws.length = cap ∧ DOk q.ws ∧ q.k ≤ n + 2 ∧ q.bo ≤ 1 ∧ q.c < 4294967296 ∧ dv q.ws < 4294967296 ^ (i + n + 3) ∧ dv q.ws + g * (dv (vs.take q.k) * 4294967296 ^ i) = dv us + (q.bo + q.c) * 4294967296 ^ (i + q.k)) (fun q => n + 2 - q.k) ⟨us, 0, 0, 0⟩
   ⟨hul2, huo2, Nat.zero_le _, Nat.zero_le _, by show (0 : Nat) < 4294967296; decide, hM, by simp [dv]⟩ (.cons rfl (.cons rfl (.cons rfl (.cons rfl (.cons rfl (.cons rfl (.cons rfl (.cons rfl (.cons rfl (.cons rfl (.cons rfl (.cons rfl (.cons rfl (.cons rfl .nil)))))))))))))) rfl ?_
 rintro ⟨ws, k, bo, c⟩ Gy _ ⟨hwl, hwo, hk, hbo, hc4, hwM, hw⟩
 simp only [] at hwl hwo hk hbo hc4 hwM hw ⊢
 refine sR <| sy (yd_lss rfl rfl) rfl <| zE <| st_seq <| ?_
 refine st_condE rfl (fun hkc => ?_) (fun hkc => ?_) -- slot 125
 · have hkn : k = n + 2 := by omega
   subst hkn
   rw [List.take_of_length_le (by omega), ← hV] at hw
   refine st_exit <| st_te <| st_te <| st_inBlock_eq <| sR <| sm rfl rfl <| sm rfl rfl <| sm rfl rfl <| sy (yd_add64 rfl rfl) rfl <| sy (yd_ixO rfl rfl (by omega) (by omega)) rfl <| ?_
   rw [show ((i : Int) + (v.n : Int)).toNat = i + n + 2 by omega]
   have hwg := hwo.get (i + n + 2)
   refine sy (yd_ldO rfl (by omega)) rfl <| sy (yd_toU64 rfl) rfl <| sm rfl rfl <| sy (yd_subw rfl rfl) rfl <| sm rfl rfl <| sy (yd_subw rfl rfl) rfl <| ?_
   rw [sub2 _ _ _ hwg hc4 hbo]
   obtain ⟨hx1, hx2, hx3⟩ := msx_spec (ws.getD (i + n + 2) 0) c bo hwg hc4 hbo
   generalize msx (ws.getD (i + n + 2) 0) c bo = xx at hx1 hx2 hx3 ⊢
   refine sa rfl rfl <| zE <| sR <| sm rfl rfl <| sm rfl rfl <| sm rfl rfl <| sy (yd_add64 rfl rfl) rfl <| sm rfl rfl <| sy (yd_toU32 rfl) rfl <| sy (yd_ixO rfl rfl (by omega) (by omega)) rfl <| ?_
   rw [show ((i : Int) + (v.n : Int)).toNat = i + n + 2 by omega]
   refine sc (ch_storeD (d := xx % 4294967296) rfl rfl (by rw [Int.natCast_emod]; rfl) (.tl _ _ _ _ _ _ _ _ (.hd ..)) (by omega) rfl ?_)
   have hs2 := dv_set ws (i + n + 2) (xx % 4294967296) (by omega)
   have hl2 := ms_last hs2 hw hx1
   rw [← powB] at hl2
   have hM2 := dv_set_lt (i := i + n + 2) (d := xx % 4294967296) hwo (Nat.mod_lt _ (by decide)) hwM (by omega)
   have ho2 := hwo.set (i + n + 2) (d := xx % 4294967296) (Nat.mod_lt _ (by decide))
   have hn2 : (ws.set (i + n + 2) (xx % 4294967296)).length = cap := by rw [List.length_set]; exact hwl
   generalize ws.set (i + n + 2) (xx % 4294967296) = ws2 at hl2 hM2 ho2 hn2 ⊢
   replace hl2 : dv ws2 + g * V = dv us + xx / 9223372036854775808 * 4294967296 ^ (i + n + 3) := hl2
   have hqset : ∀ d, dv (qs.set i d) = dv qs + 4294967296 ^ i * d := fun d => by
     have := dv_set qs i d (by omega)
     rw [hq0 i (by omega)] at this
     simpa using this
   have hqz : ∀ d i', i' < i → (qs.set i d).getD i' 0 = 0 := fun d i' h => by
     have := hq0 i' (by omega)
     simpa [List.getD, List.getElem?_set, show ¬ i = i' by omega] using this
   have hinv2 : ∀ d R, R + d * V = dv us → dv a * 2 ^ s = R + dv vs * dv (qs.set i d) := fun d R h => by
     rw [hinv, ← h, hqset, Nat.mul_add, ← Nat.mul_assoc, ← hV, Nat.mul_comm d]; omega
   refine zE <| sR <| sm rfl rfl <| sm rfl rfl <| sm rfl rfl <| sy (yd_toU32 rfl) rfl <| sy (yd_ixO rfl rfl (by omega) (by omega)) rfl <| ?_
   rw [Int.toNat_natCast]
   refine sc (ch_storeD (d := g) rfl rfl (emod32 g hgB) (.hd ..) (by omega) rfl ?_)
   refine zE <| st_seq <| sR <| sm rfl rfl <| sy (yd_shr rfl rfl (by decide)) rfl <| ?_
   rw [shr_u64 xx 63 (by decide) rfl]
   refine sy (yd_eql rfl rfl) rfl <| zE <| ?_
   refine st_condP rfl (fun ht => ?_) (fun ht => ?_) -- slot 184
   · have ht0 : xx / 2 ^ 63 = 0 := by omega
     rw [show xx / 9223372036854775808 = xx / 2 ^ 63 from rfl, ht0, Nat.zero_mul, Nat.add_zero] at hl2
     refine st_exit <| st_te <| st_inBlock_eq <| st_region <| sm rfl rfl <| sy (yd_sub64 rfl rfl) rfl <| sa rfl rfl <| zE <| ?_
     exact st_again ⟨ws2, qs.set i g, i⟩ ⟨hn2, ho2, by simpa using hql, hqo.set _ hgB, by show i ≤ l; omega, hqz g, hinv2 g _ hl2, by show dv ws2 < _; rw [← hV]; exact kn_rest hlo hl2⟩ (by show i < i + 1; omega) (.cons rfl (.cons rfl (.cons rfl (.cons rfl (.cons rfl (.cons rfl (.cons rfl (.cons rfl .nil)))))))) rfl
   have ht1 : xx / 9223372036854775808 = 1 := by
     have : xx / 9223372036854775808 ≠ 0 := fun h => ht (by rw [show xx / 2 ^ 63 = xx / 9223372036854775808 from rfl, h]; rfl)
     omega
   rw [ht1, Nat.one_mul] at hl2
   obtain ⟨g', rfl⟩ : ∃ g', g = g' + 1 := ⟨g - 1, by rcases Nat.eq_zero_or_pos g with h | h; (rw [h, Nat.zero_mul] at hl2; omega); omega⟩
   refine zK <| sR <| sm rfl rfl <| sm rfl rfl <| sy (yd_ixO rfl rfl (by omega) (by omega)) rfl <| ?_
   rw [Int.toNat_natCast]
   refine sy (yd_ldO rfl (by simp; omega)) rfl <| ?_
   rw [show (qs.set i (g' + 1)).getD i 0 = g' + 1 by simp [List.getD, List.getElem?_set, show i < qs.length by omega]]
   refine sy (yd_subw rfl rfl) rfl <| sy (yd_ixO rfl rfl (by omega) (by omega)) rfl <| ?_
   rw [Int.toNat_natCast]
   refine sc (ch_storeD (d := g') rfl rfl (by rw [wrap_u32]; omega) (.hd ..) (by simp; omega) rfl ?_)
   rw [List.set_set]
   refine zE <| sR <| sa rfl rfl <| zE <| st_seq <| sR <| sm rfl rfl <| slen rfl rfl <| sm rfl rfl <| zE <| st_block <| ?_
   refine st_loop (X := NatMs) (fun q => [(18, .int .u64 q.c), (193, .int .i64 q.k), (192, .int .i64 v.n), (191, .slice v.a v.n v.c), (13, .int .i64 i), (7, .slice (some ⟨b4, 0, none⟩) (a.length + 1) cap), (9, .int .i64 v.n), (10, .int .u64 (vs.getD (n + 1) 0 : Nat)), (11, .int .u64 (vs.getD n 0 : Nat)), (8, .slice v.a v.n v.c), (12, .slice (some ⟨b5, 0, none⟩) l l), (6, .int .u64 s)]) (fun q => [⟨b5, (qs.set i g').map dI, 224, true⟩, ⟨b4, q.ws.map dI, 224, true⟩])
     (fun q _ => q.ws.length = cap ∧ DOk q.ws ∧ q.k ≤ n + 2 ∧ q.c ≤ 1 ∧ dv q.ws < 4294967296 ^ (i + n + 3) ∧ dv q.ws + q.c * 4294967296 ^ (i + q.k) = dv ws2 + dv (vs.take q.k) * 4294967296 ^ i) (fun q => n + 2 - q.k) ⟨ws2, 0, 0, 0⟩
     ⟨hn2, ho2, Nat.zero_le _, Nat.zero_le _, hM2, by simp [dv]⟩ (.cons rfl (.cons rfl (.cons rfl (.cons rfl (.cons rfl (.cons rfl (.cons rfl (.cons rfl (.cons rfl (.cons rfl (.cons rfl (.cons rfl .nil)))))))))))) rfl ?_
   rintro ⟨wa, k, _, ca⟩ Gz _ ⟨hal2, hao, hak, hac, haM, ha⟩
   simp only [] at hal2 hao hak hac haM ha ⊢
   refine sR <| sy (yd_lss rfl rfl) rfl <| zE <| st_seq <| ?_
   refine st_condE rfl (fun hkd => ?_) (fun hkd => ?_) -- slot 194
   · have hkn : k = n + 2 := by omega
     subst hkn
     rw [List.take_of_length_le (by omega), ← hV] at ha
     have hag := hao.get (i + n + 2)
     refine st_exit <| st_te <| st_te <| st_inBlock_eq <| st_region <| sm rfl rfl <| sm rfl rfl <| sm rfl rfl <| sy (yd_add64 rfl rfl) rfl <| sy (yd_ixO rfl rfl (by omega) (by omega)) rfl <| ?_
     rw [show ((i : Int) + (v.n : Int)).toNat = i + n + 2 by omega]
     refine sy (yd_ldO rfl (by omega)) rfl <| sm rfl rfl <| sy (yd_toU32 rfl) rfl <| sy (yd_addw rfl rfl) rfl <| sy (yd_ixO rfl rfl (by omega) (by omega)) rfl <| ?_
     rw [show ((i : Int) + (v.n : Int)).toNat = i + n + 2 by omega]
     refine sc (ch_storeD (d := (wa.getD (i + n + 2) 0 + ca) % 4294967296) rfl rfl (by rw [wrap_u32]; omega) (.tl _ _ _ _ _ _ _ _ (.hd ..)) (by omega) rfl ?_)
     have hs4 := dv_set wa (i + n + 2) ((wa.getD (i + n + 2) 0 + ca) % 4294967296) (by omega)
     have hl4 := ab_last hs4 ha
     rw [← powB] at hl4
     have hM4 := dv_set_lt (i := i + n + 2) (d := (wa.getD (i + n + 2) 0 + ca) % 4294967296) hao (Nat.mod_lt _ (by decide)) haM (by omega)
     obtain ⟨hR1, hR2⟩ := kn_back hhi hl2 hl4 hM2 hM4 (by omega) (Nat.succ_pos _)
     refine zE <| st_region <| sm rfl rfl <| sy (yd_sub64 rfl rfl) rfl <| sa rfl rfl <| zE <| ?_
     exact st_again ⟨wa.set (i + n + 2) ((wa.getD (i + n + 2) 0 + ca) % 4294967296), qs.set i g', i⟩ ⟨by simpa using hal2, hao.set _ (Nat.mod_lt _ (by decide)), by simpa using hql, hqo.set _ (by omega), by show i ≤ l; omega, hqz g', hinv2 g' _ hR1, by show dv _ < _; rw [← hV]; exact hR2⟩ (by show i < i + 1; omega) (.cons rfl (.cons rfl (.cons rfl (.cons rfl (.cons rfl (.cons rfl (.cons rfl (.cons rfl .nil)))))))) rfl
   have hvk := hvo.get k
   have hag := hao.get (i + k)
   refine zK <| st_seq <| st_block <| sR <| sm rfl rfl <| sy (yd_ixD hv rfl rfl (by omega) (by omega)) rfl <| ?_
   rw [Int.toNat_natCast]
   refine sy (yd_ldD hv rfl (by omega)) rfl <| sa rfl rfl <| sa rfl rfl <| zE <| st_seq <| ?_
   refine st_region <| sm rfl rfl <| sm rfl rfl <| sm rfl rfl <| sm rfl rfl <| sy (yd_add64 rfl rfl) rfl <| sy (yd_ixO rfl rfl (by omega) (by omega)) rfl <| ?_
   rw [show ((i : Int) + (k : Int)).toNat = i + k by omega]
   refine sy (yd_ldO rfl (by omega)) rfl <| sy (yd_toU64 rfl) rfl <| sm rfl rfl <| sy (yd_toU64 rfl) rfl <| sy (yd_addU rfl rfl) rfl <| sy (yd_addU rfl rfl) rfl <| ?_
   rw [show (ca : Int) + (((wa.getD (i + k) 0 : Nat) : Int) + ((vs.getD k 0 : Nat) : Int)) = ((ca + (wa.getD (i + k) 0 + vs.getD k 0) : Nat) : Int) from rfl]
   refine sa rfl rfl <| zE <| sR <| sm rfl rfl <| sm rfl rfl <| sm rfl rfl <| sy (yd_add64 rfl rfl) rfl <| sm rfl rfl <| sy (yd_toU32 rfl) rfl <| sy (yd_ixO rfl rfl (by omega) (by omega)) rfl <| ?_
   rw [show ((i : Int) + (k : Int)).toNat = i + k by omega]
   refine sc (ch_storeD (d := (ca + (wa.getD (i + k) 0 + vs.getD k 0)) % 4294967296) rfl rfl (by rw [Int.natCast_emod]; rfl) (.tl _ _ _ _ _ _ _ _ (.hd ..)) (by omega) rfl ?_)
   refine zE <| st_region <| sm rfl rfl <| sy (yd_shr rfl rfl (by decide)) rfl <| ?_
   rw [shr_u64 (ca + (wa.getD (i + k) 0 + vs.getD k 0)) 32 (by decide) rfl]
   refine sa rfl rfl <| zE <| st_region <| sy (yd_add64 rfl rfl) rfl <| sm rfl rfl <| zE <| ?_
   refine st_again ⟨wa.set (i + k) ((ca + (wa.getD (i + k) 0 + vs.getD k 0)) % 4294967296), k + 1, 0, (ca + (wa.getD (i + k) 0 + vs.getD k 0)) / 2 ^ 32⟩ ⟨by simpa using hal2, hao.set _ (Nat.mod_lt _ (by decide)), by show k + 1 ≤ _; omega, by show (ca + (wa.getD (i + k) 0 + vs.getD k 0)) / 4294967296 ≤ 1; omega, dv_set_lt hao (Nat.mod_lt _ (by decide)) haM (by omega), ?_⟩ (by show n + 2 - (k + 1) < n + 2 - k; omega) (.cons rfl (.cons rfl (.cons rfl (.cons rfl (.cons rfl (.cons rfl (.cons rfl (.cons rfl (.cons rfl (.cons rfl (.cons rfl (.cons rfl .nil)))))))))))) rfl
   show dv (wa.set (i + k) ((ca + (wa.getD (i + k) 0 + vs.getD k 0)) % 4294967296)) + ((ca + (wa.getD (i + k) 0 + vs.getD k 0)) / 4294967296) * 4294967296 ^ (i + k + 1) = dv ws2 + dv (vs.take (k + 1)) * 4294967296 ^ i
   rw [dv_take_succ, Nat.add_mul (dv (vs.take k)), powB, show 4294967296 ^ k * vs.getD k 0 * 4294967296 ^ i = vs.getD k 0 * 4294967296 ^ (i + k) by rw [Nat.pow_add, Nat.mul_comm (4294967296 ^ k), Nat.mul_assoc, Nat.mul_comm (4294967296 ^ k)]]
   exact ab_step (dv_set wa (i + k) _ (by omega)) ha
 have hvk := hvo.get k
 have hwg := hwo.get (i + k)
 refine zK <| st_seq <| st_block <| sR <| sm rfl rfl <| sy (yd_ixD hv rfl rfl (by omega) (by omega)) rfl <| ?_
 rw [Int.toNat_natCast]
 refine sy (yd_ldD hv rfl (by omega)) rfl <| sa rfl rfl <| sa rfl rfl <| zE <| st_seq <| ?_
 have hgd : g * vs.getD k 0 ≤ 4294967295 * 4294967295 := Nat.mul_le_mul (by omega) (by omega)
 have e3 : (g : Int) * ((vs.getD k 0 : Nat) : Int) = ((g * vs.getD k 0 : Nat) : Int) := rfl
 refine st_region <| sm rfl rfl <| sm rfl rfl <| sm rfl rfl <| sy (yd_toU64 rfl) rfl <| sy (yd_mulU rfl rfl (by rw [e3]; omega) (by rw [e3]; omega)) rfl <| ?_
 rw [e3]
 refine sy (yd_addU rfl rfl) rfl <| ?_
 rw [show (c : Int) + ((g * vs.getD k 0 : Nat) : Int) = ((c + g * vs.getD k 0 : Nat) : Int) from rfl]
 obtain ⟨c1, hc1⟩ : ∃ c1, c1 = c + g * vs.getD k 0 := ⟨_, rfl⟩
 rw [← hc1]
 have hc1m : c1 % 4294967296 < 4294967296 := Nat.mod_lt _ (by decide)
 refine sa rfl rfl <| zE <| sR <| sm rfl rfl <| sm rfl rfl <| sm rfl rfl <| sy (yd_add64 rfl rfl) rfl <| sy (yd_ixO rfl rfl (by omega) (by omega)) rfl <| ?_
 rw [show ((i : Int) + (k : Int)).toNat = i + k by omega]
 refine sy (yd_ldO rfl (by omega)) rfl <| sy (yd_toU64 rfl) rfl <| sm rfl rfl <| sy (yd_int rfl rfl (and_mask c1 (by omega))) rfl <| sy (yd_subw rfl rfl) rfl <| sm rfl rfl <| sy (yd_subw rfl rfl) rfl <| ?_
 rw [sub2 _ _ _ hwg hc1m hbo]
 obtain ⟨hx1, hx2, hx3⟩ := msx_spec (ws.getD (i + k) 0) (c1 % 4294967296) bo hwg hc1m hbo
 generalize msx (ws.getD (i + k) 0) (c1 % 4294967296) bo = xx at hx1 hx2 hx3 ⊢
 refine sa rfl rfl <| ?_
 refine zE <| sR <| sm rfl rfl <| sm rfl rfl <| sm rfl rfl <| sy (yd_add64 rfl rfl) rfl <| sm rfl rfl <| sy (yd_toU32 rfl) rfl <| sy (yd_ixO rfl rfl (by omega) (by omega)) rfl <| ?_
 rw [show ((i : Int) + (k : Int)).toNat = i + k by omega]
 refine sc (ch_storeD (d := xx % 4294967296) rfl rfl (by rw [Int.natCast_emod]; rfl) (.tl _ _ _ _ _ _ _ _ (.hd ..)) (by omega) rfl ?_)
 refine zE <| sR <| sm rfl rfl <| sy (yd_shr rfl rfl (by decide)) rfl <| ?_
 rw [shr_u64 xx 63 (by decide) rfl]
 refine sa rfl rfl <| zE <| st_region <| sm rfl rfl <| sy (yd_shr rfl rfl (by decide)) rfl <| ?_
 rw [shr_u64 c1 32 (by decide) rfl]
 refine sa rfl rfl <| ?_
 refine zE <| st_region <| sy (yd_add64 rfl rfl) rfl <| sm rfl rfl <| zE <| ?_
 refine st_again ⟨ws.set (i + k) (xx % 4294967296), k + 1, xx / 2 ^ 63, c1 / 2 ^ 32⟩ ⟨by simpa using hwl, hwo.set _ (Nat.mod_lt _ (by decide)), by show k + 1 ≤ _; omega, hx2, by show c1 / 4294967296 < _; omega, dv_set_lt hwo (Nat.mod_lt _ (by decide)) hwM (by omega), ?_⟩ (by show n + 2 - (k + 1) < n + 2 - k; omega) (.cons rfl (.cons rfl (.cons rfl (.cons rfl (.cons rfl (.cons rfl (.cons rfl (.cons rfl (.cons rfl (.cons rfl (.cons rfl (.cons rfl (.cons rfl (.cons rfl .nil)))))))))))))) rfl
 show dv (ws.set (i + k) (xx % 4294967296)) + g * (dv (vs.take (k + 1)) * 4294967296 ^ i) = dv us + (xx / 9223372036854775808 + c1 / 4294967296) * 4294967296 ^ (i + k + 1)
 rw [dv_take_succ, Nat.add_mul (dv (vs.take k)), powB, show 4294967296 ^ k * vs.getD k 0 * 4294967296 ^ i = vs.getD k 0 * 4294967296 ^ (i + k) by rw [Nat.pow_add, Nat.mul_comm (4294967296 ^ k), Nat.mul_assoc, Nat.mul_comm (4294967296 ^ k)], Nat.mul_add, ← Nat.mul_assoc g (vs.getD k 0)]
 exact ms_step (dv_set ws (i + k) _ (by omega)) hw hc1 hx1
end Go.Sx
end

section
set_option maxRecDepth 100000
namespace Go.Sx
open Go Go.Proofs
theorem nat_DivMod {A B G : Gh} {x y : SV} {a b : List Nat} {k1 k2 : Nat} (hx : IsD A x a) (hy : IsD B y b) [GL A G] [GL B G] (hb0 : 0 < dv b)
   (hq : dv a / dv b < 2 ^ k1) (hr : dv a % dv b < 2 ^ k2) (hl : a.length ≤ 112589990684) (hl2 : b.length ≤ 112589990684) :
   Fn Tryz.prog 176 [x.v, y.v] G (fun v G' => ∃ z r : SV, v = .tuple #[z.v, r.v, .bool true] ∧ IsN k1 G' z (dv a / dv b) ∧ IsN k2 G' r (dv a % dv b)) := by
 have hla := trimD_len a
 have hlb := trimD_len b
 have hca := fun G1 (_ : GL A G1) => nat_trim (G := G1) hx (by omega)
 have hcb := fun G1 (_ : GL B G1) => nat_trim (G := G1) hy (by omega)
 have hxt := hx.trim
 have hyt := hy.trim
 have hna := Nrm.trimD a
 have hnb := Nrm.trimD b
 rw [← dv_trimD a, ← dv_trimD b] at hq hr ⊢
 rw [← dv_trimD b] at hb0
 generalize trimD a = a' at *
 generalize trimD b = b' at *
 refine Fn.intro Tryz.func176 rfl rfl Tryz.ntmps176 rfl ?_
 intro C _ _
 refine sR <| sa rfl rfl <| sa rfl rfl <| sa rfl rfl <| zE <| sR <| sm rfl rfl <| ?_
 refine sc (zC rfl rfl (hca _ inferInstance) rfl ?_)
 rintro _ G1 _ rfl
 refine sm rfl rfl <| ?_
 refine sc (zC rfl rfl (hcb _ inferInstance) rfl ?_)
 rintro _ G2 _ rfl
 refine sa rfl rfl <| sa rfl rfl <| zE <| st_seq <| st_block <| sR <| sm rfl rfl <| slen rfl rfl <| sy (yd_eql rfl rfl) rfl <| sa rfl rfl <| zE <| ?_
 refine st_condP rfl (fun hc => ?_) (fun hc => ?_) -- slot 15
 · exfalso
   have : b' = [] := List.eq_nil_of_length_eq_zero (by omega)
   rw [this] at hb0
   exact absurd hb0 (by simp [dv])
 refine sR <| sm rfl rfl <| sm rfl rfl <| ?_
 refine sc (zC rfl rfl (nat_Cmp hxt hyt (by omega) (by omega)) rfl ?_)
 rintro _ G3 _ rfl
 refine sy (yd_lss rfl rfl) rfl <| sa rfl rfl <| zE <| ?_
 refine st_condP rfl (fun hc2 => ?_) (fun hc2 => ?_) -- slot 19
 · have hlt : dv a' < dv b' := by
     unfold cmpN at hc2
     split at hc2
     · assumption
     · split at hc2 <;> omega
   refine sR <| sm rfl rfl <| ?_
   refine sc (zC rfl rfl (nat_Clone hxt (by omega)) rfl ?_)
   rintro _ G4 _ ⟨z, rfl, hz⟩
   refine sa rfl rfl <| sa rfl rfl <| sa rfl rfl <| zE <| st_ret <| ?_
   refine zD (.tmp rfl (.tmp rfl (.tmp rfl .nil))) ⟨⟨none, 0, 0⟩, z, rfl, ?_, ?_⟩
   · rw [Nat.div_eq_of_lt hlt]
     exact ⟨by unfold dg; exact .nil _, Nat.pow_pos (by decide)⟩
   · rw [Nat.mod_eq_of_lt hlt] at hr ⊢
     exact ⟨by rw [dg_dv hxt.ok hna]; exact hz, hr⟩
 have hle : dv b' ≤ dv a' := by
   unfold cmpN at hc2
   split at hc2
   · omega
   · omega
 refine sR <| sm rfl rfl <| slen rfl rfl <| sy (yd_eql rfl rfl) rfl <| sa rfl rfl <| zE <| ?_
 refine st_condP rfl (fun hc3 => ?_) (fun hc3 => ?_) -- slot 26
 · have hb1 : b'.length = 1 := by omega
   obtain ⟨d, rfl⟩ := List.length_eq_one_iff.1 hb1
   have hdv : dv [d] = d := by simp [dv]
   have hdB := hyt.ok.head
   rw [hdv] at hb0 hq hr ⊢
   refine sR <| sm rfl rfl <| sm rfl rfl <| sy (yd_ixD (z := ⟨y.a, 1, y.c⟩) hyt rfl rfl (by omega) (by show (0 : Int) < ((1 : Nat) : Int); omega)) rfl <| sy (yd_ldD (i := 0) hyt rfl (by simp)) rfl <| ?_
   rw [show [d].getD 0 0 = d from rfl]
   refine sc (zC rfl rfl (nat_short (x := ⟨x.a, a'.length, x.c⟩) hxt hb0 hdB hq (by omega)) rfl ?_)
   rintro _ G5 _ ⟨z, rfl, hz⟩
   have hmB : dv a' % d < 4294967296 := Nat.lt_trans (Nat.mod_lt _ hb0) hdB
   refine sm rfl rfl <| sx rfl rfl rfl <| sx rfl rfl rfl <| sa rfl rfl <| sa rfl rfl <| zE <| sR <| sm rfl rfl <| sm rfl rfl <| sy (yd_toU64 rfl) rfl <| ?_
   refine sc (zC rfl rfl (nat_FromUint (by omega)) rfl ?_)
   rintro _ G6 _ ⟨r, rfl, hr6⟩
   refine sa rfl rfl <| sa rfl rfl <| sa rfl rfl <| zE <| st_ret <| ?_
   exact zD (.tmp rfl (.tmp rfl (.tmp rfl .nil))) ⟨z, r, rfl, hz.up, hr6.mono hr⟩
 have hb2 : 2 ≤ b'.length := by omega
 refine zK <| sR <| sm rfl rfl <| sm rfl rfl <| ?_
 refine sc (zC rfl rfl (nat_long (x := ⟨x.a, a'.length, x.c⟩) (y := ⟨y.a, b'.length, y.c⟩) hxt hyt hna hnb hb2 hle hq hr (by omega)) rfl ?_)
 rintro _ G7 _ ⟨z, r, rfl, hz, hr7⟩
 refine sm rfl rfl <| sx rfl rfl rfl <| sx rfl rfl rfl <| sa rfl rfl <| sa rfl rfl <| zE <| sR <| sm rfl rfl <| sm rfl rfl <| sa rfl rfl <| sa rfl rfl <| sa rfl rfl <| zE <| ?_
 refine st_ret <| ?_
 exact zD (.tmp rfl (.tmp rfl (.tmp rfl .nil))) ⟨z, r, rfl, hz, hr7⟩
theorem dg_len_le {u k : Nat} (h : u < 2 ^ k) : 32 * (dg u).length ≤ k + 31 := nrm_len (dg_spec u).2.2 (by rw [(dg_spec u).1]; exact h)
theorem IsN.dvl {k : Nat} {G : Gh} {x : SV} {v : Nat} (_ : IsN k G x v) : dv (dg v) = v := (dg_spec v).1
structure NatGcd where
 a : SV
 b : SV
 u : Nat
 v : Nat
theorem nat_Gcd {A B G : Gh} {x y : SV} {a b : List Nat} {k k0 : Nat} (hx : IsD A x a) (hy : IsD B y b) [GL A G] [GL B G] (ha : dv a < 2 ^ k0) (hb : dv b < 2 ^ k0) (hk0 : k0 ≤ 1099511627776)
   (hg0 : Nat.gcd (dv a) (dv b) < 2 ^ k) (hl : a.length ≤ 112589990684) (hl2 : b.length ≤ 112589990684) :
   Fn Tryz.prog 145 [x.v, y.v] G (fun v G' => ∃ z : SV, v = z.v ∧ IsN k G' z (Nat.gcd (dv a) (dv b))) := by
 refine Fn.intro Tryz.func145 rfl rfl Tryz.ntmps145 rfl ?_
 intro C _ _
 refine sR <| sa rfl rfl <| zE <| sR <| sm rfl rfl <| ?_
 refine sc (zC rfl rfl (nat_Norm hx ha (by omega)) rfl ?_)
 rintro _ G1 _ ⟨x1, rfl, hx1⟩
 refine sm rfl rfl <| ?_
 refine sc (zC rfl rfl (nat_Norm hy hb (by omega)) rfl ?_)
 rintro _ G2 _ ⟨y1, rfl, hy1⟩
 generalize dv a = ua at *
 generalize dv b = ub at *
 refine sa rfl rfl <| sa rfl rfl <| zE <| st_seq <| st_block <| ?_
 refine st_loop (X := NatGcd) (fun q => [(0, .slice q.a.a q.a.n q.a.c), (1, .slice q.b.a q.b.n q.b.c)]) (fun _ => []) (fun q G => IsN k0 G q.a q.u ∧ IsN k0 G q.b q.v ∧ Nat.gcd q.u q.v = Nat.gcd ua ub) (fun q => q.v) ⟨x1, y1, ua, ub⟩
   ⟨hx1.up, hy1, rfl⟩ (.cons rfl (.cons rfl .nil)) rfl ?_
 rintro ⟨p, q, u, v⟩ Gx _ ⟨hp, hq, hgc⟩
 simp only [] at hp hq hgc ⊢
 have hpl := hp.len
 have hql := hq.len
 have hpb := dg_len_le hp.lt
 have hqb := dg_len_le hq.lt
 refine st_seq <| sR <| sm rfl rfl <| slen rfl rfl <| sy (yd_gtr rfl rfl) rfl <| sm rfl rfl <| ?_
 refine st_caseP 19 rfl (fun hg => ?_) (fun hg => ?_)
 · refine ss rfl rfl rfl rfl <| ss rfl rfl rfl rfl <| ss rfl rfl rfl rfl <| sy (yd_pickT rfl rfl) rfl <| zE <| st_condT rfl <| zK <| st_block <| st_seq <| sR <| sm rfl rfl <| ?_
   refine slen rfl rfl <| sy (yd_eql rfl rfl) rfl <| zE <| ?_
   refine st_condP rfl (fun hc1 => ?_) (fun hc1 => ?_) -- slot 26
   · refine sR <| sm rfl rfl <| sa rfl rfl <| zE <| st_ret <| ?_
     have hv0 : v = 0 := by
       have : dg v = [] := List.eq_nil_of_length_eq_zero (by omega)
       have h2 := hq.dvl
       rw [this] at h2
       exact h2.symm
     have hue : u = Nat.gcd ua ub := by rw [← hgc, hv0, Nat.gcd_zero_right]
     exact zD (.tmp rfl .nil) ⟨p, rfl, by rw [← hue] at hg0 ⊢; exact hp.mono hg0⟩
   have hv0 : 0 < v := Nat.pos_of_ne_zero fun h => by
     have h1 : dg v = [] := by rw [h]; unfold dg; rfl
     rw [h1] at hql
     simp only [List.length_nil] at hql
     omega
   have hm := Nat.mod_lt u hv0
   refine zK <| sR <| sm rfl rfl <| sm rfl rfl <| ?_
   refine sc (zC rfl rfl (nat_DivMod (k1 := k0) (k2 := k0) hp.d hq.d (by rw [hq.dvl]; exact hv0) (by rw [hp.dvl]; exact Nat.lt_of_le_of_lt (Nat.div_le_self _ _) hp.lt) (by rw [hp.dvl, hq.dvl]; exact Nat.lt_trans hm hq.lt) (by omega) (by omega)) rfl ?_)
   rintro _ G3 _ ⟨z, r, rfl, hz, hr⟩
   rw [hp.dvl, hq.dvl] at hr
   refine sm rfl rfl <| sx rfl rfl rfl <| sx rfl rfl rfl <| sx rfl rfl rfl <| sa rfl rfl <| sa rfl rfl <| sa rfl rfl <| zE <| st_region <| sm rfl rfl <| sm rfl rfl <| sa rfl rfl <| sa rfl rfl <| ?_
   refine zE <| ?_
   exact st_again ⟨q, r, v, u % v⟩ ⟨hq.up, hr, by show Nat.gcd v (u % v) = _; rw [← hgc, Nat.gcd_comm u, Nat.gcd_rec v u, Nat.gcd_comm]⟩ hm (.cons rfl (.cons rfl .nil)) rfl
 refine syg rfl rfl (yd_move rfl) rfl <| syg rfl rfl (yd_len rfl) rfl <| syg rfl rfl (yd_gtr rfl rfl) rfl <| sy (yd_pickF rfl rfl) rfl <| zE <| ?_
 refine st_condE rfl (fun hc => ?_) (fun hc => ?_) -- slot 23
 · have small : ∀ {w : Nat}, (dg w).length ≤ 2 → w < 18446744073709551616 := fun {w} h => by
     have h1 := dv_lt (dg_spec w).2.1
     rw [(dg_spec w).1] at h1
     exact Nat.lt_of_lt_of_le h1 (Nat.le_trans (Nat.pow_le_pow_right (by decide) h) (by decide))
   have hu64 : u < 18446744073709551616 := small (by omega)
   have hv64 : v < 18446744073709551616 := small (by omega)
   refine st_exit <| st_te <| st_te <| st_inBlock_eq <| sR <| sm rfl rfl <| ?_
   refine sc (zC rfl rfl (nat_Uint hp.d (by omega)) rfl ?_)
   rintro _ G4 _ rfl
   rw [hp.dvl, if_pos hu64]
   refine sm rfl rfl <| sx rfl rfl rfl <| sx rfl rfl rfl <| sa rfl rfl <| sa rfl rfl <| zE <| sR <| sm rfl rfl <| ?_
   refine sc (zC rfl rfl (nat_Uint hq.d (by omega)) rfl ?_)
   rintro _ G5 _ rfl
   rw [hq.dvl, if_pos hv64]
   refine sm rfl rfl <| sx rfl rfl rfl <| sx rfl rfl rfl <| sa rfl rfl <| sa rfl rfl <| zE <| st_seq <| st_block <| ?_
   refine st_loop (X := Nat × Nat) (fun q => [(8, .int .u64 (q.1 : Nat)), (10, .int .u64 (q.2 : Nat))]) (fun _ => []) (fun q _ => q.1 < 18446744073709551616 ∧ q.2 < 18446744073709551616 ∧ Nat.gcd q.1 q.2 = Nat.gcd ua ub) (fun q => q.2) (u, v)
     ⟨hu64, hv64, hgc⟩ (.cons rfl (.cons rfl .nil)) rfl ?_
   rintro ⟨u1, v1⟩ Gy _ ⟨hu1, hv1, hgc1⟩
   simp only [] at hu1 hv1 hgc1 ⊢
   refine st_seq <| sR <| sm rfl rfl <| sy (yd_neq rfl rfl) rfl <| zE <| ?_
   refine st_condE rfl (fun hc5 => ?_) (fun hc5 => ?_) -- slot 48
   · refine st_exit <| st_te <| st_te <| st_inBlock_eq <| sR <| sm rfl rfl <| ?_
     refine sc (zC rfl rfl (nat_FromUint hu1) rfl ?_)
     rintro _ G6 _ ⟨z, rfl, hz⟩
     refine sa rfl rfl <| zE <| st_ret <| ?_
     have hv0 : v1 = 0 := by omega
     have hue : u1 = Nat.gcd ua ub := by rw [← hgc1, hv0, Nat.gcd_zero_right]
     exact zD (.tmp rfl .nil) ⟨z, rfl, by rw [← hue] at hg0 ⊢; exact hz.mono hg0⟩
   have hv0 : 0 < v1 := by omega
   refine zK <| st_block <| dr (fun _ => false) [(0, true), (1, true), (2, true), (3, true), (4, true), (5, true)] follows (by kernel_rfl) <| dM rfl rfl rfl <| dM rfl rfl rfl <| ?_
   refine dM rfl rfl rfl <| dy rfl (fun _ => yd_remU rfl rfl (by omega) (by omega)) rfl rfl <| dA rfl rfl rfl <| dA rfl rfl rfl <| dn <| ?_
   exact st_again (v1, u1 % v1) ⟨hv1, Nat.lt_trans (Nat.mod_lt _ hv0) hv1, by show Nat.gcd v1 (u1 % v1) = _; rw [← hgc1, Nat.gcd_comm u1, Nat.gcd_rec v1 u1, Nat.gcd_comm]⟩ (by show u1 % v1 < v1; exact Nat.mod_lt _ hv0) (.cons rfl (.cons rfl .nil)) rfl
 refine zK <| st_block <| st_seq <| sR <| sm rfl rfl <| ?_
 refine slen rfl rfl <| sy (yd_eql rfl rfl) rfl <| zE <| ?_
 refine st_condP rfl (fun hc1 => ?_) (fun hc1 => ?_) -- slot 26
 · refine sR <| sm rfl rfl <| sa rfl rfl <| zE <| st_ret <| ?_
   have hv0 : v = 0 := by
     have : dg v = [] := List.eq_nil_of_length_eq_zero (by omega)
     have h2 := hq.dvl
     rw [this] at h2
     exact h2.symm
   have hue : u = Nat.gcd ua ub := by rw [← hgc, hv0, Nat.gcd_zero_right]
   exact zD (.tmp rfl .nil) ⟨p, rfl, by rw [← hue] at hg0 ⊢; exact hp.mono hg0⟩
 have hv0 : 0 < v := Nat.pos_of_ne_zero fun h => by
   have h1 : dg v = [] := by rw [h]; unfold dg; rfl
   rw [h1] at hql
   simp only [List.length_nil] at hql
   omega
 have hm := Nat.mod_lt u hv0
 refine zK <| sR <| sm rfl rfl <| sm rfl rfl <| ?_
 refine sc (zC rfl rfl (nat_DivMod (k1 := k0) (k2 := k0) hp.d hq.d (by rw [hq.dvl]; exact hv0) (by rw [hp.dvl]; exact Nat.lt_of_le_of_lt (Nat.div_le_self _ _) hp.lt) (by rw [hp.dvl, hq.dvl]; exact Nat.lt_trans hm hq.lt) (by omega) (by omega)) rfl ?_)
 rintro _ G3 _ ⟨z, r, rfl, hz, hr⟩
 rw [hp.dvl, hq.dvl] at hr
 refine sm rfl rfl <| sx rfl rfl rfl <| sx rfl rfl rfl <| sx rfl rfl rfl <| sa rfl rfl <| sa rfl rfl <| sa rfl rfl <| zE <| st_region <| sm rfl rfl <| sm rfl rfl <| sa rfl rfl <| sa rfl rfl <| ?_
 refine zE <| ?_
 exact st_again ⟨q, r, v, u % v⟩ ⟨hq.up, hr, by show Nat.gcd v (u % v) = _; rw [← hgc, Nat.gcd_comm u, Nat.gcd_rec v u, Nat.gcd_comm]⟩ hm (.cons rfl (.cons rfl .nil)) rfl
end Go.Sx
end

section
set_option maxRecDepth 100000
namespace Go.Sx
open Go Go.Proofs
structure IV where
 neg : Bool
 a : SV
def IV.v (z : IV) : Value := .agg ⟨[.bool z.neg, .slice z.a.a z.a.n z.a.c]⟩
def zv (neg : Bool) (u : Nat) : Int := if neg then -(u : Int) else u
theorem zv_abs (neg : Bool) (u : Nat) : (zv neg u).natAbs = u := by cases neg <;> simp [zv]
theorem zv_neg (neg : Bool) (u : Nat) : zv (!neg) u = - zv neg u := by cases neg <;> simp [zv]
theorem zv_mul (n m : Bool) (u w : Nat) : zv (n != m) (u * w) = zv n u * zv m w := by cases n <;> cases m <;> simp [zv, Int.neg_mul, Int.mul_neg]
theorem zv_neg_lt (neg : Bool) (u : Nat) : decide (zv neg u < 0) = (neg && decide (0 < u)) := by
 cases neg <;> simp [zv]
theorem zv_eta (m : Int) : zv (decide (m < 0)) m.natAbs = m := by
 unfold zv
 by_cases h : m < 0 <;> simp [h] <;> omega
structure IsI (k : Nat) (G : Gh) (z : IV) (m : Int) : Prop where
 neg : z.neg = decide (m < 0)
 abs : IsN k G z.a m.natAbs
theorem IsI.up {k : Nat} {A G : Gh} {z : IV} {m : Int} (h : IsI k A z m) [GL A G] : IsI k G z m := ⟨h.neg, h.abs.up⟩
theorem IsI.dvl {k : Nat} {G : Gh} {z : IV} {m : Int} (h : IsI k G z m) : dv (dg m.natAbs) = m.natAbs := h.abs.dvl
theorem IsI.zv {k : Nat} {G : Gh} {z : IV} {m : Int} (h : IsI k G z m) : zv z.neg m.natAbs = m := by rw [h.neg]; exact zv_eta m
theorem IsI.len {k : Nat} {G : Gh} {z : IV} {m : Int} (h : IsI k G z m) : 32 * (dg m.natAbs).length ≤ k + 31 := dg_len_le h.abs.lt
theorem IsI.mk' {k : Nat} {G : Gh} {x : SV} {neg : Bool} {u : Nat} (h : IsN k G x u) : IsI k G ⟨neg && decide (0 < u), x⟩ (Go.Sx.zv neg u) :=
 ⟨(zv_neg_lt neg u).symm, by rw [zv_abs]; exact h⟩
theorem IsN.pos {k : Nat} {G : Gh} {x : SV} {u : Nat} (h : IsN k G x u) : decide (0 < (x.n : Int)) = decide (0 < u) := by
 have h1 := h.len
 rw [h1]
 congr 1
 rcases Nat.eq_zero_or_pos u with h0 | h0
 · subst h0; unfold dg; simp
 · have : dg u ≠ [] := fun h2 => by
     have := (dg_spec u).1
     rw [h2] at this; simp [dv] at this; omega
   have := List.length_pos_iff.2 this
   simp; omega
theorem integer_Norm {A G : Gh} {x : SV} {neg : Bool} {ds : List Nat} {k : Nat} (hx : IsD A x ds) [GL A G] (hk : dv ds < 2 ^ k) (hb : ds.length ≤ 1125899906842) :
   Fn Tryz.prog 179 [.agg ⟨[.bool neg, .slice x.a x.n x.c]⟩] G (fun v G' => ∃ z : IV, v = z.v ∧ IsI k G' z (zv neg (dv ds))) := by
 refine Fn.intro Tryz.func179 rfl rfl Tryz.ntmps179 rfl ?_
 intro C _ _
 refine sR <| ?_
 refine sc (ch_box rfl rfl ?_)
 intro b1
 refine sc (ch_alloc rfl ?_)
 intro b2
 refine zE <| sR <| sf rfl rfl <| slo1 rfl rfl rfl <| ?_
 refine sc (zC rfl rfl (nat_Norm hx hk hb) rfl ?_)
 rintro _ G3 _ ⟨z, rfl, hz⟩
 have hp := hz.pos
 refine sa rfl rfl <| zE <| sR <| sf rfl rfl <| slo1 rfl rfl rfl <| sm rfl rfl <| ?_
 cases neg with
 | true =>
   refine syg rfl rfl (yd_move rfl) rfl <| syg rfl rfl (yd_len rfl) rfl <| syg rfl rfl (yd_gtr rfl rfl) rfl <| sy (yd_pickT rfl rfl) rfl <| sm rfl rfl <| sy (yd_build rfl) rfl <| ?_
   refine sc (ch_store rfl rfl (.hd ..) rfl (Nat.le_refl 2) rfl rfl ?_)
   refine zE <| st_ret <| ?_
   exact zD (.agg rfl ii ii rfl .nil) ⟨⟨decide (0 < (z.n : Int)), z⟩, rfl, by rw [hp]; exact IsI.mk' (neg := true) hz⟩
 | false =>
   refine ss rfl rfl rfl rfl <| ss rfl rfl rfl rfl <| ss rfl rfl rfl rfl <| sy (yd_pickF rfl rfl) rfl <| sm rfl rfl <| sy (yd_build rfl) rfl <| ?_
   refine sc (ch_store rfl rfl (.hd ..) rfl (Nat.le_refl 2) rfl rfl ?_)
   refine zE <| st_ret <| ?_
   exact zD (.agg rfl ii ii rfl .nil) ⟨⟨false, z⟩, rfl, IsI.mk' (neg := false) hz⟩
theorem integer_signed {A G : Gh} {x : SV} {neg : Bool} {u k : Nat} (hx : IsN k A x u) [GL A G] :
   Fn Tryz.prog 234 [.bool neg, .slice x.a x.n x.c] G (fun v G' => ∃ z : IV, v = z.v ∧ IsI k G' z (zv neg u)) := by
 refine Fn.intro Tryz.func234 rfl rfl Tryz.ntmps234 rfl ?_
 intro C _ _
 refine sR <| ?_
 refine sc (ch_alloc rfl ?_)
 intro b1
 have hp := hx.pos
 refine zE <| sR <| sm rfl rfl <| sm rfl rfl <| ?_
 cases neg with
 | true =>
   refine syg rfl rfl (yd_move rfl) rfl <| syg rfl rfl (yd_len rfl) rfl <| syg rfl rfl (yd_gtr rfl rfl) rfl <| sy (yd_pickT rfl rfl) rfl <| sm rfl rfl <| sy (yd_build rfl) rfl <| ?_
   refine sc (ch_store rfl rfl (.hd ..) rfl (Nat.le_refl 2) rfl rfl ?_)
   refine zE <| st_ret <| ?_
   exact zD (.agg rfl ii ii rfl .nil) ⟨⟨decide (0 < (x.n : Int)), x⟩, rfl, by rw [hp]; exact IsI.mk' (neg := true) hx.up⟩
 | false =>
   refine ss rfl rfl rfl rfl <| ss rfl rfl rfl rfl <| ss rfl rfl rfl rfl <| sy (yd_pickF rfl rfl) rfl <| sm rfl rfl <| sy (yd_build rfl) rfl <| ?_
   refine sc (ch_store rfl rfl (.hd ..) rfl (Nat.le_refl 2) rfl rfl ?_)
   refine zE <| st_ret <| ?_
   exact zD (.agg rfl ii ii rfl .nil) ⟨⟨false, x⟩, rfl, IsI.mk' (neg := false) hx.up⟩
theorem integer_Neg {A G : Gh} {x : SV} {neg : Bool} {ds : List Nat} {k : Nat} (hx : IsD A x ds) [GL A G] (hk : dv ds < 2 ^ k) (hb : ds.length ≤ 1125899906842) :
  Fn Tryz.prog 199 [.agg ⟨[.bool neg, .slice x.a x.n x.c]⟩] G (fun v G' => ∃ z : IV, v = z.v ∧ IsI k G' z (- zv neg (dv ds))) := by
 refine Fn.intro Tryz.func199 rfl rfl Tryz.ntmps199 rfl ?_
 intro C _ _
 refine sR <| ?_
 refine sc (ch_box rfl rfl ?_)
 intro b1
 refine sc (ch_alloc rfl ?_)
 intro b2
 refine zE <| sR <| sf rfl rfl <| slo1 rfl rfl rfl <| sy (yd_not rfl) rfl <| sf rfl rfl <| slo1 rfl rfl rfl <| sy (yd_build rfl) rfl <| ?_
 refine sc (zC rfl rfl (integer_Norm hx hk hb) rfl ?_)
 rintro _ G3 _ ⟨z, rfl, hz⟩
 refine sc (ch_store rfl rfl (.hd ..) rfl (Nat.le_refl 2) rfl rfl ?_)
 refine zE <| st_ret <| ?_
 exact zD (.agg rfl ii ii rfl .nil) ⟨z, rfl, by rw [← zv_neg]; exact hz⟩
theorem integer_Sign {A G : Gh} {x : SV} {neg : Bool} {ds : List Nat} (hx : IsD A x ds) [GL A G] (hb : ds.length ≤ 1125899906842624) :
   Fn Tryz.prog 175 [.agg ⟨[.bool neg, .slice x.a x.n x.c]⟩] G (fun v _ => v = .int .i64 (Int.sign (zv neg (dv ds)))) := by
 refine Fn.intro Tryz.func175 rfl rfl Tryz.ntmps175 rfl ?_
 intro C _ _
 refine sR <| ?_
 refine sc (ch_box rfl rfl ?_)
 intro b1
 have hlt := lt_bl (dv ds)
 refine sa rfl rfl <| zE <| st_seq <| st_block <| sR <| sf rfl rfl <| slo1 rfl rfl rfl <| ?_
 refine sc (zC rfl rfl (nat_Bits hx hb) rfl ?_)
 rintro _ G2 _ rfl
 refine sy (yd_eql rfl rfl) rfl <| sa rfl rfl <| zE <| ?_
 refine st_condP rfl (fun hc => ?_) (fun hc => ?_) -- slot 3
 · have h0 : bl (dv ds) = 0 := by omega
   rw [h0] at hlt
   have h1 : dv ds = 0 := by omega
   refine sR <| sa rfl rfl <| zE <| st_ret <| ?_
   exact zD (.tmp rfl .nil) (by rw [h1]; cases neg <;> rfl)
 have h1 : 0 < dv ds := Nat.pos_of_ne_zero fun h => by rw [h, bl_zero] at hc; exact hc rfl
 refine sR <| sf rfl rfl <| slo1 rfl rfl rfl <| sa rfl rfl <| zE <| ?_
 cases neg with
 | true =>
   refine st_condT rfl <| sR <| sa rfl rfl <| zE <| st_ret <| ?_
   exact zD (.tmp rfl .nil) (by rw [Int.sign_eq_neg_one_of_neg (by simp [zv]; omega)]; rfl)
 | false =>
   refine st_condF rfl <| zK <| sR <| sa rfl rfl <| zE <| st_ret <| ?_
   exact zD (.tmp rfl .nil) (by rw [Int.sign_eq_one_of_pos (by simp [zv]; omega)]; rfl)
theorem integer_Mul {A B G : Gh} {x y : SV} {n1 n2 : Bool} {ds es : List Nat} {k : Nat} (hx : IsD A x ds) (hy : IsD B y es) [GL A G] [GL B G] (hk : dv ds * dv es < 2 ^ k) (hb : ds.length ≤ 562949953421) (hb2 : es.length ≤ 562949953421) :
  Fn Tryz.prog 231 [.agg ⟨[.bool n1, .slice x.a x.n x.c]⟩, .agg ⟨[.bool n2, .slice y.a y.n y.c]⟩] G (fun v G' => ∃ z : IV, v = z.v ∧ IsI k G' z (zv n1 (dv ds) * zv n2 (dv es))) := by
 refine Fn.intro Tryz.func231 rfl rfl Tryz.ntmps231 rfl ?_
 intro C _ _
 refine sR <| ?_
 refine sc (ch_box rfl rfl ?_)
 intro b1
 refine sc (ch_box rfl rfl ?_)
 intro b2
 refine sc (ch_alloc rfl ?_)
 intro b3
 refine zE <| st_seq <| dr (fun i => Nat.beq i 11) [(0, true), (1, true), (2, true), (3, true), (4, true), (5, true), (6, true), (7, true), (8, true), (9, false), (10, false), (11, false)] follows (by kernel_rfl) <| ?_
 refine dF rfl rfl rfl <| dL1 rfl rfl rfl rfl <| dF rfl rfl rfl <| dL1 rfl rfl rfl rfl <| ?_
 refine dy rfl (fun _ => yd_neB rfl rfl) rfl rfl <| dF rfl rfl rfl <| dL1 rfl rfl rfl rfl <| dF rfl rfl rfl <| ?_
 refine dL1 rfl rfl rfl rfl <| ?_
 refine dc rfl rfl (zC rfl rfl (nat_Mul hx hy hk hb hb2) rfl ?_)
 rintro _ G4 _ ⟨z, rfl, hz⟩
 refine dr_s <| ?_
 refine dc rfl rfl (zC rfl rfl (integer_signed hz) rfl ?_)
 rintro _ G5 _ ⟨z, rfl, hz⟩
 refine dr_s <| ?_
 refine dc rfl rfl (ch_store rfl rfl (.hd ..) rfl (Nat.le_refl 2) rfl rfl ?_)
 refine dr_f rfl <| dn <| st_ret <| ?_
 exact zD (.agg rfl ii ii rfl .nil) ⟨z, rfl, by rw [← zv_mul]; exact hz⟩
end Go.Sx
end

section
set_option maxRecDepth 100000
namespace Go.Sx
open Go Go.Proofs
theorem zv_add_same (n : Bool) (u w : Nat) : zv n (u + w) = zv n u + zv n w := by cases n <;> simp [zv] <;> omega
theorem integer_Add {A B G : Gh} {x y : SV} {n1 n2 : Bool} {ds es : List Nat} {k : Nat} (hx : IsD A x ds) (hy : IsD B y es) [GL A G] [GL B G] (hk : dv ds + dv es < 2 ^ k) (hb : ds.length ≤ 562949953421) (hb2 : es.length ≤ 562949953421) :
   Fn Tryz.prog 230 [.agg ⟨[.bool n1, .slice x.a x.n x.c]⟩, .agg ⟨[.bool n2, .slice y.a y.n y.c]⟩] G (fun v G' => ∃ z : IV, v = z.v ∧ IsI k G' z (zv n1 (dv ds) + zv n2 (dv es))) := by
 refine Fn.intro Tryz.func230 rfl rfl Tryz.ntmps230 rfl ?_
 intro C _ _
 refine sR <| ?_
 refine sc (ch_box rfl rfl ?_)
 intro b1
 refine sc (ch_box rfl rfl ?_)
 intro b2
 refine sc (ch_alloc rfl ?_)
 intro b3
 refine zE <| st_seq <| sR <| sf rfl rfl <| slo1 rfl rfl rfl <| sf rfl rfl <| slo1 rfl rfl rfl <| sy (yd_eqB rfl rfl) rfl <| zE <| ?_
 refine st_condE rfl (fun hc => ?_) (fun hc => ?_) -- slot 13
 · have hne : n2 = !n1 := by cases n1 <;> cases n2 <;> first | rfl | (exfalso; revert hc; decide)
   subst hne
   refine zK <| st_seq <| sR <| sf rfl rfl <| slo1 rfl rfl rfl <| sf rfl rfl <| slo1 rfl rfl rfl <| ?_
   refine sc (zC rfl rfl (nat_Sub (kk := k) hx hy (by omega) (by omega) (by omega)) rfl ?_)
   rintro _ G6 _ ⟨z, rfl, hz⟩
   refine sm rfl rfl <| sx rfl rfl rfl <| sx rfl rfl rfl <| sa rfl rfl <| sa rfl rfl <| zE <| sR <| sm rfl rfl <| zE <| ?_
   refine st_condP rfl (fun hc2 => ?_) (fun hc2 => ?_) -- slot 30
   · refine sR <| sf rfl rfl <| slo1 rfl rfl rfl <| sm rfl rfl <| ?_
     refine sc (zC rfl rfl (integer_signed hz) rfl ?_)
     rintro _ G7 _ ⟨z2, rfl, hz2⟩
     refine sc (ch_store rfl rfl (.hd ..) rfl (Nat.le_refl 2) rfl rfl ?_)
     refine zE <| st_ret <| ?_
     refine zD (.agg rfl ii ii rfl .nil) ⟨z2, rfl, ?_⟩
     have : zv n1 (dv ds - dv es) = zv n1 (dv ds) + zv (!n1) (dv es) := by cases n1 <;> simp [zv] <;> omega
     rw [← this]; exact hz2
   refine zK <| sR <| sf rfl rfl <| slo1 rfl rfl rfl <| sf rfl rfl <| slo1 rfl rfl rfl <| ?_
   refine sc (zC rfl rfl (nat_Sub (kk := k) hy hx (by omega) (by omega) (by omega)) rfl ?_)
   rintro _ G8 _ ⟨z2, rfl, hz2⟩
   refine sm rfl rfl <| sx rfl rfl rfl <| sx rfl rfl rfl <| sa rfl rfl <| sa rfl rfl <| zE <| sR <| sf rfl rfl <| slo1 rfl rfl rfl <| sm rfl rfl <| ?_
   refine sc (zC rfl rfl (integer_signed hz2) rfl ?_)
   rintro _ G9 _ ⟨z3, rfl, hz3⟩
   refine sc (ch_store rfl rfl (.hd ..) rfl (Nat.le_refl 2) rfl rfl ?_)
   refine zE <| st_ret <| ?_
   refine zD (.agg rfl ii ii rfl .nil) ⟨z3, rfl, ?_⟩
   have : zv (!n1) (dv es - dv ds) = zv n1 (dv ds) + zv (!n1) (dv es) := by cases n1 <;> simp [zv] <;> omega
   rw [← this]; exact hz3
 · have he : n2 = n1 := by cases n1 <;> cases n2 <;> first | rfl | (exfalso; revert hc; decide)
   subst he
   refine st_seq <| dr (fun i => Nat.beq i 8) [(0, true), (1, true), (2, true), (3, true), (4, true), (5, true), (6, false), (7, false), (8, false)] follows (by kernel_rfl) <| dF rfl rfl rfl <| ?_
   refine dL1 rfl rfl rfl rfl <| dF rfl rfl rfl <| dL1 rfl rfl rfl rfl <| dF rfl rfl rfl <| ?_
   refine dL1 rfl rfl rfl rfl <| ?_
   refine dc rfl rfl (zC rfl rfl (nat_Add hx hy hk (by omega) (by omega)) rfl ?_)
   rintro _ G4 _ ⟨z, rfl, hz⟩
   refine dr_s <| ?_
   refine dc rfl rfl (zC rfl rfl (integer_signed hz) rfl ?_)
   rintro _ G5 _ ⟨z2, rfl, hz2⟩
   refine dr_s <| ?_
   refine dc rfl rfl (ch_store rfl rfl (.hd ..) rfl (Nat.le_refl 2) rfl rfl ?_)
   refine dr_f rfl <| dn <| st_ret <| ?_
   exact zD (.agg rfl ii ii rfl .nil) ⟨z2, rfl, by rw [← zv_add_same]; exact hz2⟩
end Go.Sx
end

section
set_option maxRecDepth 100000
namespace Go.Sx
open Go Go.Proofs
theorem wrap_i64 (p : Int) : IntKind.i64.wrap p = (p + 9223372036854775808) % 18446744073709551616 - 9223372036854775808 := by
 have e : IntKind.i64.wrap p = if (true && decide (p % 2 ^ 64 ≥ 2 ^ (64 - 1))) = true then p % 2 ^ 64 - 2 ^ 64 else p % 2 ^ 64 := rfl
 rw [e, show (2 : Int) ^ 64 = 18446744073709551616 by decide, show (2 : Int) ^ (64 - 1) = 9223372036854775808 by decide, Bool.true_and]
 by_cases h : p % 18446744073709551616 ≥ 9223372036854775808
 · rw [decide_eq_true h, if_pos rfl]; omega
 · rw [decide_eq_false h, if_neg (by decide)]; omega
theorem integer_FromInt {G : Gh} {n : Int} {k : Nat} (h0 : -9223372036854775808 ≤ n) (h1 : n ≤ 9223372036854775807) (hk : n.natAbs < 2 ^ k) :
   Fn Tryz.prog 148 [.int .i64 n] G (fun v G' => ∃ z : IV, v = z.v ∧ IsI k G' z n) := by
 refine Fn.intro Tryz.func148 rfl rfl Tryz.ntmps148 rfl ?_
 intro C _ _
 refine sR <| ?_
 refine sc (ch_alloc rfl ?_)
 intro b1
 refine zE <| sR <| sm rfl rfl <| sy (yd_conv rfl) rfl <| ?_
 rw [wrap_u64]
 refine sa rfl rfl <| zE <| ?_
 refine st_cut Unit (fun _ => [(0, .int .i64 n), (2, .pointer (some ⟨b1, 0, none⟩)), (3, .int .u64 (n.natAbs : Nat))]) (fun _ => [⟨b1, [.bool false, .slice none 0 0], 44, true⟩]) (fun _ _ => True) ?_ ?_
 · refine sR <| sm rfl rfl <| sy (yd_lss rfl rfl) rfl <| zE <| ?_
   refine st_condP rfl (fun hc => ?_) (fun hc => ?_) -- slot 7
   · refine st_region <| sm rfl rfl <| sy (yd_neg rfl) rfl <| ?_
     rw [wrap_u64, show (0 - n % 18446744073709551616) % 18446744073709551616 = (n.natAbs : Nat) by omega]
     refine sa rfl rfl <| zE <| ?_
     exact st_at () trivial (.cons rfl (.cons rfl (.cons rfl .nil))) rfl
   rw [show n % 18446744073709551616 = (n.natAbs : Nat) by omega]
   refine zK <| ?_
   exact st_at () trivial (.cons rfl (.cons rfl (.cons rfl .nil))) rfl
 rintro _ Gx _ _
 refine sR <| sm rfl rfl <| sy (yd_lss rfl rfl) rfl <| sm rfl rfl <| ?_
 refine sc (zC rfl rfl (nat_FromUint (by omega)) rfl ?_)
 rintro _ G2 _ ⟨z, rfl, hz⟩
 refine sy (yd_build rfl) rfl <| ?_
 refine sc (ch_store rfl rfl (.hd ..) rfl (Nat.le_refl 2) rfl rfl ?_)
 refine zE <| st_ret <| ?_
 exact zD (.agg rfl ii ii rfl .nil) ⟨⟨decide (n < 0), z⟩, rfl, rfl, hz.mono hk⟩
theorem integer_Int64 {A G : Gh} {x : SV} {neg : Bool} {ds : List Nat} (hx : IsD A x ds) [GL A G] (hb : ds.length ≤ 1125899906842624) (hs : dv ds < 9223372036854775808) :
   Fn Tryz.prog 177 [.agg ⟨[.bool neg, .slice x.a x.n x.c]⟩] G (fun v _ => v = .tuple #[.int .i64 (zv neg (dv ds)), .bool true]) := by
 refine Fn.intro Tryz.func177 rfl rfl Tryz.ntmps177 rfl ?_
 intro C _ _
 refine sR <| ?_
 refine sc (ch_box rfl rfl ?_)
 intro b1
 refine sa rfl rfl <| sa rfl rfl <| zE <| sR <| sf rfl rfl <| slo1 rfl rfl rfl <| ?_
 refine sc (zC rfl rfl (nat_Uint hx hb) rfl ?_)
 rintro _ G2 _ rfl
 have h64 : dv ds < 18446744073709551616 := by omega
 rw [if_pos h64, decide_eq_true h64]
 refine sm rfl rfl <| sx rfl rfl rfl <| sx rfl rfl rfl <| sa rfl rfl <| sa rfl rfl <| zE <| st_seq <| st_block <| sR <| sm rfl rfl <| sm rfl rfl <| ?_
 refine syg rfl rfl (yd_fieldAddr rfl) rfl <| syg rfl rfl (yd_load_own1 rfl rfl) rfl <| sy (yd_pickT rfl rfl) rfl <| sm rfl rfl <| ?_
 cases neg with
 | true =>
   refine syg rfl rfl (yd_move rfl) rfl <| syg rfl rfl (yd_leq rfl rfl) rfl <| sy (yd_pickT rfl rfl) rfl <| sa rfl rfl <| zE <| ?_
   refine st_condP rfl (fun hc => ?_) (fun hc => ?_) -- slot 12
   · refine sR <| sm rfl rfl <| sy (yd_neg rfl) rfl <| sy (yd_conv rfl) rfl <| ?_
     rw [wrap_u64, wrap_i64, show ((0 - ((dv ds : Nat) : Int)) % 18446744073709551616 + 9223372036854775808) % 18446744073709551616 - 9223372036854775808 = zv true (dv ds) by simp only [zv, if_true]; omega]
     refine sa rfl rfl <| sa rfl rfl <| zE <| st_ret <| ?_
     exact zD (.tmp rfl (.tmp rfl .nil)) rfl
   exfalso; omega
 | false =>
   refine ss rfl rfl rfl rfl <| ss rfl rfl rfl rfl <| sy (yd_pickF rfl rfl) rfl <| sa rfl rfl <| zE <| st_condF rfl <| sR <| sm rfl rfl <| sm rfl rfl <| ?_
   refine syg rfl rfl (yd_fieldAddr rfl) rfl <| syg rfl rfl (yd_load_own1 rfl rfl) rfl <| syg rfl rfl (yd_not rfl) rfl <| sy (yd_pickT rfl rfl) rfl <| sm rfl rfl <| ?_
   refine syg rfl rfl (yd_move rfl) rfl <| syg rfl rfl (yd_leq rfl rfl) rfl <| sy (yd_pickT rfl rfl) rfl <| sa rfl rfl <| zE <| ?_
   refine st_condP rfl (fun hc => ?_) (fun hc => ?_) -- slot 25
   · refine sR <| sm rfl rfl <| sy (yd_toI64 rfl) rfl <| sa rfl rfl <| sa rfl rfl <| zE <| st_ret <| ?_
     exact zD (.tmp rfl (.tmp rfl .nil)) rfl
   exfalso; omega
theorem integer_Normal {A G : Gh} {x : SV} {neg : Bool} {ds : List Nat} (hx : IsD A x ds) [GL A G] (hb : ds.length ≤ 1125899906842624) :
   Fn Tryz.prog 97 [.agg ⟨[.bool neg, .slice x.a x.n x.c]⟩] G (fun v _ => v = .bool (decide (Nrm ds ∧ (neg = true → ds ≠ [])))) := by
 have hlen := hx.len
 refine Fn.intro Tryz.func97 rfl rfl Tryz.ntmps97 rfl ?_
 intro C _ _
 refine sR <| ?_
 refine sc (ch_box rfl rfl ?_)
 intro b1
 refine sa rfl rfl <| zE <| sR <| sf rfl rfl <| slo1 rfl rfl rfl <| ?_
 refine sc (zC rfl rfl (nat_Normal hx hb) rfl ?_)
 rintro _ G2 _ rfl
 refine sm rfl rfl <| ?_
 by_cases hN : Nrm ds
 · rw [decide_eq_true hN]
   refine syg rfl rfl (yd_fieldAddr rfl) rfl <| syg rfl rfl (yd_load_own1 rfl rfl) rfl <| syg rfl rfl (yd_not rfl) rfl <| syg rfl rfl (yd_move rfl) rfl <| ?_
   cases neg with
   | false =>
     refine ss rfl rfl rfl rfl <| ss rfl rfl rfl rfl <| ss rfl rfl rfl rfl <| ss rfl rfl rfl rfl <| syg rfl rfl (yd_pickT rfl rfl) rfl <| sy (yd_pickT rfl rfl) rfl <| sa rfl rfl <| zE <| st_ret <| ?_
     exact zD (.tmp rfl .nil) (by simp [hN, tupled])
   | true =>
     refine syg rfl rfl (yd_fieldAddr rfl) rfl <| syg rfl rfl (yd_load_own1 rfl rfl) rfl <| syg rfl rfl (yd_len rfl) rfl <| syg rfl rfl (yd_gtr rfl rfl) rfl <| syg rfl rfl (yd_pickF rfl rfl) rfl <| ?_
     refine sy (yd_pickT rfl rfl) rfl <| sa rfl rfl <| zE <| st_ret <| ?_
     refine zD (.tmp rfl .nil) ?_
     show Value.bool (decide ((0 : Int) < (x.n : Int))) = _
     congr 1
     rw [decide_eq_decide]
     constructor
     · intro h
       exact ⟨hN, fun _ h2 => by rw [h2] at hlen; simp at hlen; omega⟩
     · rintro ⟨_, h2⟩
       have := List.length_pos_iff.2 (h2 rfl)
       omega
 · rw [decide_eq_false hN]
   refine ss rfl rfl rfl rfl <| ss rfl rfl rfl rfl <| ss rfl rfl rfl rfl <| ss rfl rfl rfl rfl <| ?_
   refine ssu rfl rfl rfl <| ssu rfl rfl rfl <| ssu rfl rfl rfl <| ssu rfl rfl rfl <| ss rfl rfl rfl rfl <| sy (yd_pickF rfl rfl) rfl <| sa rfl rfl <| zE <| st_ret <| ?_
   exact zD (.tmp rfl .nil) (by simp [hN, tupled])
end Go.Sx
end

section
set_option maxRecDepth 100000
namespace Go.Sx
open Go Go.Proofs
structure RV where
 n : Int
 d : Int
 p : Option Addr
def RV.v (z : RV) : Value := .agg ⟨[.int .i64 z.n, .int .i64 z.d, .pointer z.p]⟩
structure SmallR (z : RV) (q : Rat) : Prop where
 p : z.p = none
 n : z.n = q.num
 d : z.d = (q.den : Int) - 1
 b1 : q.num.natAbs < 4611686018427387904
 b2 : q.den < 4611686018427387904
structure BigR (k : Nat) (G : Gh) (z : RV) (q : Rat) : Prop where
 n : z.n = 0
 d : z.d = 0
 ex : ∃ (b : Nat) (x : IV) (y : SV), z.p = some ⟨b, 0, none⟩ ∧ G b = some [.bool x.neg, .slice x.a.a x.a.n x.a.c, .slice y.a y.n y.c] ∧ IsI k G x q.num ∧ IsN k G y q.den
 no : ¬ (q.num.natAbs < 4611686018427387904 ∧ q.den < 4611686018427387904)
def IsR (k : Nat) (G : Gh) (z : RV) (q : Rat) : Prop := q.num.natAbs < 2 ^ k ∧ q.den < 2 ^ k ∧ (SmallR z q ∨ BigR k G z q)
theorem BigR.up {k : Nat} {A G : Gh} {z : RV} {q : Rat} (h : BigR k A z q) [hl : GL A G] : BigR k G z q :=
 ⟨h.n, h.d, let ⟨b, x, y, h1, h2, h3, h4⟩ := h.ex; ⟨b, x, y, h1, hl.le _ _ h2, h3.up, h4.up⟩, h.no⟩
theorem IsR.up {k : Nat} {A G : Gh} {z : RV} {q : Rat} (h : IsR k A z q) [GL A G] : IsR k G z q :=
 ⟨h.1, h.2.1, h.2.2.imp id fun h => h.up⟩
theorem IsR.mono {k k' : Nat} {G : Gh} {z : RV} {q : Rat} (h : IsR k G z q) (h1 : q.num.natAbs < 2 ^ k') (h2 : q.den < 2 ^ k') : IsR k' G z q :=
 ⟨h1, h2, h.2.2.imp id fun h => ⟨h.n, h.d, let ⟨b, x, y, h3, h4, h5, h6⟩ := h.ex; ⟨b, x, y, h3, h4, ⟨h5.neg, h5.abs.mono h1⟩, h6.mono h2⟩, h.no⟩⟩
theorem IsR.zero {k : Nat} {G : Gh} (hk : 1 ≤ k) : IsR k G ⟨0, 0, none⟩ 0 :=
 ⟨Nat.pow_pos (by decide), Nat.one_lt_two_pow (by omega), .inl ⟨rfl, rfl, rfl, by decide, by decide⟩⟩
theorem zv_div {neg : Bool} {u g : Nat} (h : g ∣ u) : zv neg (u / g) = zv neg u / (g : Int) := by
 cases neg
 · simp [zv]
 · simp only [zv, if_true]
   rw [Int.neg_ediv_of_dvd (Int.natCast_dvd_natCast.2 h), Int.natCast_ediv]
theorem rat_num {m : Int} {e : Nat} (he : 0 < e) : (mkRat m e).num = m / ((Nat.gcd m.natAbs e : Nat) : Int) ∧ (mkRat m e).den = e / Nat.gcd m.natAbs e := by
 rw [Rat.num_mkRat, Rat.den_mkRat, if_neg (by omega), if_neg (by omega), Nat.gcd_comm]
 exact ⟨rfl, rfl⟩
theorem bl_le62 {x : Nat} : (((bl x : Nat) : Int) ≤ 62) ↔ x < 4611686018427387904 := by
 have : bl x ≤ 62 ↔ x < 2 ^ 62 := bl_le
 omega
structure FracRed where
 x : SV
 y : SV
 ds : List Nat
 es : List Nat
theorem frac_reduce {A B G : Gh} {x y : SV} {neg : Bool} {ds es : List Nat} {k : Nat} (hx : IsD A x ds) (hy : IsD B y es) [GL A G] [GL B G] (h1 : dv ds < 2 ^ k) (h2 : dv es < 2 ^ k) (hk1 : 1 ≤ k) (hk : k ≤ 1099511627776) (hl1 : ds.length ≤ 112589990684) (hl2 : es.length ≤ 112589990684) :
   Fn Tryz.prog 140 [.agg ⟨[.bool neg, .slice x.a x.n x.c]⟩, .slice y.a y.n y.c] G (fun v G' => ∃ z : RV, v = z.v ∧ IsR k G' z (mkRat (zv neg (dv ds)) (dv es))) := by
 refine Fn.intro Tryz.func140 rfl rfl Tryz.ntmps140 rfl ?_
 intro C _ _
 refine sR <| ?_
 refine sc (ch_box rfl rfl ?_)
 intro b1
 refine sc (ch_alloc rfl ?_)
 intro b2
 refine zE <| st_seq <| sR <| sm rfl rfl <| ?_
 refine sc (zC rfl rfl (nat_Bits hy (by omega)) rfl ?_)
 rintro _ G3 _ rfl
 refine sy (yd_eql rfl rfl) rfl <| sm rfl rfl <| ?_
 have hlt := lt_bl (dv es)
 refine st_caseP 13 rfl (fun hg => ?_) (fun hg => ?_)
 · have he0 : dv es = 0 := by
     have : bl (dv es) = 0 := by omega
     rw [this] at hlt; omega
   refine ss rfl rfl rfl rfl <| ss rfl rfl rfl rfl <| ss rfl rfl rfl rfl <| sy (yd_pickT rfl rfl) rfl <| zE <| st_condT rfl <| sR <| sy (yd_build rfl) rfl <| ?_
   refine sc (ch_store rfl rfl (.hd ..) rfl (Nat.le_refl 3) rfl rfl ?_)
   refine zE <| st_ret <| ?_
   exact zD (.agg rfl ii ii rfl .nil) ⟨⟨0, 0, none⟩, rfl, by rw [he0, Rat.mkRat_zero]; exact .zero hk1⟩
 have he0 : 0 < dv es := Nat.pos_of_ne_zero fun h => by rw [h, bl_zero] at hg; exact hg rfl
 refine syg rfl rfl (yd_load_own rfl rfl) rfl <| ?_
 refine st_chg rfl rfl rfl (zC rfl rfl (integer_Sign (x := x) hx (by omega)) rfl ?_)
 rintro _ G4 _ rfl
 refine syg rfl rfl (yd_eql rfl rfl) rfl <| sy (yd_pickF rfl rfl) rfl <| zE <| ?_
 refine st_condP rfl (fun hc => ?_) (fun hc => ?_) -- slot 17
 · have hm0 : zv neg (dv ds) = 0 := Int.sign_eq_zero_iff_zero.1 hc
   refine sR <| sy (yd_build rfl) rfl <| ?_
   refine sc (ch_store rfl rfl (.hd ..) rfl (Nat.le_refl 3) rfl rfl ?_)
   refine zE <| st_ret <| ?_
   exact zD (.agg rfl ii ii rfl .nil) ⟨⟨0, 0, none⟩, rfl, by rw [hm0, Rat.zero_mkRat]; exact .zero hk1⟩
 obtain ⟨hrn, hrd⟩ := rat_num (m := zv neg (dv ds)) he0
 rw [zv_abs] at hrn hrd
 have hgp : 0 < Nat.gcd (dv ds) (dv es) := Nat.gcd_pos_of_pos_right _ he0
 have hgle : Nat.gcd (dv ds) (dv es) < 2 ^ k := Nat.lt_of_le_of_lt (Nat.gcd_le_right _ he0) h2
 rw [← zv_div (Nat.gcd_dvd_left ..)] at hrn
 generalize mkRat (zv neg (dv ds)) (dv es) = q at *
 refine zK <| ?_
 have hdk : dv ds / Nat.gcd (dv ds) (dv es) < 2 ^ k := Nat.lt_of_le_of_lt (Nat.div_le_self _ _) h1
 have hek : dv es / Nat.gcd (dv ds) (dv es) < 2 ^ k := Nat.lt_of_le_of_lt (Nat.div_le_self _ _) h2
 have hqk : q.num.natAbs < 2 ^ k := by rw [hrn, zv_abs]; exact hdk
 have hqd : q.den < 2 ^ k := by rw [hrd]; exact hek
 refine st_cut FracRed (fun q => [(1, .slice q.y.a q.y.n q.y.c), (2, .pointer (some ⟨b1, 0, none⟩)), (4, .pointer (some ⟨b2, 0, none⟩))]) (fun q => [⟨b2, [.int .i64 0, .int .i64 0, .pointer none], 103, true⟩, ⟨b1, [.bool neg, .slice q.x.a q.x.n q.x.c], 44, true⟩])
   (fun q G => (IsD G q.x q.ds ∧ dv q.ds = dv ds / Nat.gcd (dv ds) (dv es) ∧ q.ds.length ≤ 112589990684) ∧ IsD G q.y q.es ∧ dv q.es = dv es / Nat.gcd (dv ds) (dv es) ∧ q.es.length ≤ 112589990684) ?_ ?_
 · refine sR <| sf rfl rfl <| slo1 rfl rfl rfl <| sm rfl rfl <| ?_
   refine sc (zC rfl rfl (nat_Gcd (x := x) (y := y) hx hy h1 h2 hk hgle hl1 hl2) rfl ?_)
   rintro _ G5 _ ⟨g, rfl, hg5⟩
   have hlg := lt_bl (Nat.gcd (dv ds) (dv es))
   refine sa rfl rfl <| zE <| sR <| sm rfl rfl <| ?_
   have hgl := dg_len_le hg5.lt
   refine sc (zC rfl rfl (nat_Bits hg5.d (by omega)) rfl ?_)
   rintro _ G6 _ rfl
   rw [hg5.dvl]
   refine sy (yd_gtr rfl rfl) rfl <| zE <| ?_
   refine st_condP rfl (fun hc2 => ?_) (fun hc2 => ?_) -- slot 25
   · refine sR <| sf rfl rfl <| slo1 rfl rfl rfl <| sm rfl rfl <| ?_
     refine sc (zC rfl rfl (nat_DivMod (x := x) (y := g) (k1 := k) (k2 := k) hx hg5.d (by rw [hg5.dvl]; exact hgp) (by rw [hg5.dvl]; exact hdk) (by rw [hg5.dvl]; exact Nat.lt_of_le_of_lt (Nat.mod_le _ _) h1) hl1 (by omega)) rfl ?_)
     rintro _ G7 _ ⟨z1, r1, rfl, hz1, _⟩
     rw [hg5.dvl] at hz1
     refine sm rfl rfl <| sx rfl rfl rfl <| sx rfl rfl rfl <| sx rfl rfl rfl <| sf rfl rfl <| ?_
     refine sc (ch_store1 rfl rfl (.tl _ _ _ _ _ _ _ _ (.hd ..)) (Nat.le_refl 2) rfl rfl ?_)
     refine zE <| st_region <| sm rfl rfl <| sm rfl rfl <| ?_
     refine sc (zC rfl rfl (nat_DivMod (x := y) (y := g) (k1 := k) (k2 := k) hy hg5.d (by rw [hg5.dvl]; exact hgp) (by rw [hg5.dvl]; exact hek) (by rw [hg5.dvl]; exact Nat.lt_of_le_of_lt (Nat.mod_le _ _) h2) hl2 (by omega)) rfl ?_)
     rintro _ G8 _ ⟨z2, r2, rfl, hz2, _⟩
     rw [hg5.dvl] at hz2
     refine sm rfl rfl <| sx rfl rfl rfl <| sx rfl rfl rfl <| sx rfl rfl rfl <| sa rfl rfl <| zE <| ?_
     have hl3 := dg_len_le hz1.lt
     have hl4 := dg_len_le hz2.lt
     exact st_at ⟨z1, z2, _, _⟩ ⟨⟨hz1.d.up, hz1.dvl, by show (dg _).length ≤ _; omega⟩, hz2.d, hz2.dvl, by show (dg _).length ≤ _; omega⟩ (.cons rfl (.cons rfl (.cons rfl .nil))) rfl
   have hg1 : Nat.gcd (dv ds) (dv es) = 1 := by
     have h3 : bl (Nat.gcd (dv ds) (dv es)) ≤ 1 := by omega
     have h4 := bl_le.1 h3
     omega
   refine zK <| ?_
   exact st_at ⟨x, y, ds, es⟩ ⟨⟨hx.up, by rw [hg1, Nat.div_one], hl1⟩, hy.up, by rw [hg1, Nat.div_one], hl2⟩ (.cons rfl (.cons rfl (.cons rfl .nil))) rfl
 rintro ⟨x', y', ds', es'⟩ Gx _ ⟨hx', hy'⟩
 simp only [] at hx' hy' ⊢
 have hxl' := hx'.2.2
 have hyl' := hy'.2.2
 refine st_seq <| sR <| sf rfl rfl <| slo1 rfl rfl rfl <| ?_
 refine sc (zC rfl rfl (nat_Bits hx'.1 (by omega)) rfl ?_)
 rintro _ G9 _ rfl
 refine sy (yd_leq rfl rfl) rfl <| sm rfl rfl <| ?_
 refine st_caseP 46 rfl (fun hg => ?_) (fun hg => ?_)
 · refine syg rfl rfl (yd_move rfl) rfl <| ?_
   refine st_chg rfl rfl rfl (zC rfl rfl (nat_Bits hy'.1 (by omega)) rfl ?_)
   rintro _ G10 _ rfl
   refine syg rfl rfl (yd_leq rfl rfl) rfl <| sy (yd_pickT rfl rfl) rfl <| zE <| ?_
   have hsx := bl_le62.1 hg
   rw [hx'.2.1] at hsx
   refine st_condP rfl (fun hc => ?_) (fun hc => ?_) -- slot 50
   · have hsy := bl_le62.1 hc
     rw [hy'.2.1] at hsy
     have hep : 0 < dv es / Nat.gcd (dv ds) (dv es) := Nat.div_pos (Nat.gcd_le_right _ he0) hgp
     refine sR <| slo rfl rfl rfl <| ?_
     refine sc (zC rfl rfl (integer_Int64 (neg := neg) hx'.1 (by omega) (by omega)) rfl ?_)
     rintro _ G11 _ rfl
     rw [hx'.2.1]
     refine sm rfl rfl <| sx rfl rfl rfl <| sx rfl rfl rfl <| sa rfl rfl <| sa rfl rfl <| zE <| sR <| sm rfl rfl <| ?_
     refine sc (zC rfl rfl (nat_Uint hy'.1 (by omega)) rfl ?_)
     rintro _ G12 _ rfl
     rw [hy'.2.1, if_pos (by omega)]
     refine sm rfl rfl <| sx rfl rfl rfl <| sx rfl rfl rfl <| sa rfl rfl <| sa rfl rfl <| zE <| sR <| sm rfl rfl <| sm rfl rfl <| sy (yd_toI64 rfl) rfl <| ?_
     refine sy (yd_sub64 rfl rfl) rfl <| sy (yd_build rfl) rfl <| ?_
     refine sc (ch_store rfl rfl (.hd ..) rfl (Nat.le_refl 3) rfl rfl ?_)
     refine zE <| st_ret <| ?_
     exact zD (.agg rfl ii ii rfl .nil) ⟨⟨_, _, none⟩, rfl, hqk, hqd, .inl ⟨rfl, hrn.symm, by rw [hrd], by rw [hrn, zv_abs]; exact hsx, by rw [hrd]; exact hsy⟩⟩
   have hno : ¬ (q.num.natAbs < 4611686018427387904 ∧ q.den < 4611686018427387904) := fun h => hc (bl_le62.2 (by rw [hy'.2.1, ← hrd]; exact h.2))
   refine zK <| sR <| slo rfl rfl rfl <| ?_
   refine sc (zC rfl rfl (integer_Norm (k := k) (neg := neg) hx'.1 (by rw [hx'.2.1]; exact hdk) (by omega)) rfl ?_)
   rintro _ G13 _ ⟨z1, rfl, hz1⟩
   refine sm rfl rfl <| ?_
   refine sc (zC rfl rfl (nat_Norm (k := k) hy'.1 (by rw [hy'.2.1]; exact hek) (by omega)) rfl ?_)
   rintro _ G14 _ ⟨z2, rfl, hz2⟩
   rw [hx'.2.1, ← hrn] at hz1
   rw [hy'.2.1, ← hrd] at hz2
   refine sy (yd_build rfl) rfl <| ?_
   refine sc (ch_box rfl rfl ?_)
   intro b15
   refine st_freeze b15 (.hd ..) (fun G15 _ hgb => ?_)
   refine sy (yd_build rfl) rfl <| ?_
   refine sc (ch_store rfl rfl (.hd ..) rfl (Nat.le_refl 3) rfl rfl ?_)
   refine zE <| st_ret <| ?_
   exact zD (.agg rfl ii ii rfl .nil) ⟨⟨0, 0, some ⟨b15, 0, none⟩⟩, rfl, hqk, hqd, .inr ⟨rfl, rfl, ⟨b15, z1, z2, rfl, hgb.h, hz1.up, hz2.up⟩, hno⟩⟩
 have hno : ¬ (q.num.natAbs < 4611686018427387904 ∧ q.den < 4611686018427387904) := fun h => hg (bl_le62.2 (by rw [hx'.2.1]; have := h.1; rw [hrn, zv_abs] at this; exact this))
 refine ss rfl rfl rfl rfl <| ss rfl rfl rfl rfl <| ss rfl rfl rfl rfl <| sy (yd_pickF rfl rfl) rfl <| zE <| st_condF rfl <| zK <| sR <| slo rfl rfl rfl <| ?_
 refine sc (zC rfl rfl (integer_Norm (k := k) (neg := neg) hx'.1 (by rw [hx'.2.1]; exact hdk) (by omega)) rfl ?_)
 rintro _ G13 _ ⟨z1, rfl, hz1⟩
 refine sm rfl rfl <| ?_
 refine sc (zC rfl rfl (nat_Norm (k := k) hy'.1 (by rw [hy'.2.1]; exact hek) (by omega)) rfl ?_)
 rintro _ G14 _ ⟨z2, rfl, hz2⟩
 rw [hx'.2.1, ← hrn] at hz1
 rw [hy'.2.1, ← hrd] at hz2
 refine sy (yd_build rfl) rfl <| ?_
 refine sc (ch_box rfl rfl ?_)
 intro b15
 refine st_freeze b15 (.hd ..) (fun G15 _ hgb => ?_)
 refine sy (yd_build rfl) rfl <| ?_
 refine sc (ch_store rfl rfl (.hd ..) rfl (Nat.le_refl 3) rfl rfl ?_)
 refine zE <| st_ret <| ?_
 exact zD (.agg rfl ii ii rfl .nil) ⟨⟨0, 0, some ⟨b15, 0, none⟩⟩, rfl, hqk, hqd, .inr ⟨rfl, rfl, ⟨b15, z1, z2, rfl, hgb.h, hz1.up, hz2.up⟩, hno⟩⟩
end Go.Sx
end
