/-
  Reference: the tape, signs, trees of the reference, lines for package api. Reference: sums and differences of small numbers. Reference: digits (over deep values). Reference: comparison, division, common divisors of small numbers.
-/
import Derived.Test.YtkijgpopaaknfaaGreatDoorMc11
set_option linter.unusedSimpArgs false
set_option linter.unusedVariables false
section
set_option maxRecDepth 100000
namespace Go.Sx
open Go Go.Proofs
theorem scene_New {A G : Gh} {x : SV} {es : List Int} (hx : IsSl A 1 x (es.map (Value.int .i64))) [GL A G] (hb : es.length ≤ 1125899906842624) :
   FnO Tryz.prog 9 [.slice x.a x.n x.c] [] G (fun v own' G' => ∃ b y es', v = .pointer (some ⟨b, 0, none⟩) ∧ own' = [⟨b, [.slice y.a y.n y.c, .int .i64 (0 : Nat)], 93, true⟩] ∧ IsSl G' 1 y (List.map (Value.int .i64) es') ∧ es'.length ≤ 400) := by
 have hlen : x.n = es.length := by simpa using hx.len
 have hcap := hx.cap
 obtain ⟨xa, xn, xc⟩ := x
 simp only [] at hlen hcap
 subst hlen
 refine FnO.intro Tryz.func9 rfl rfl Tryz.ntmps9 rfl ?_
 intro C _ _
 show St C _ [(0, .slice xa es.length xc)] [] _ _
 have hm : (if (400 : Int) < (es.length : Int) then (400 : Int) else (es.length : Int)) = ((min es.length 400 : Nat) : Int) := by split <;> omega
 refine sR <| sa rfl rfl <| st_end <| sR <| sm rfl rfl <| sm rfl rfl <| slen rfl rfl <| sy (yd_min rfl rfl) rfl <| ?_
 rw [hm]
 refine sy (yd_slice_hi rfl rfl (by omega) (by omega)) rfl <| ?_
 rw [Int.toNat_natCast]
 refine sy (yd_build rfl) rfl <| ?_
 refine sc (ch_box rfl rfl ?_)
 intro b1
 refine sa rfl rfl <| st_end <| st_ret <| ?_
 refine st_doneO (.tmp rfl .nil) _ _ (List.Perm.refl _) (List.Sublist.refl _) ⟨b1, ⟨xa, min es.length 400, xc⟩, es.take 400, rfl, rfl, ?_, ?_⟩
 · have := (hx.up (G := G)).take (min es.length 400) (by rw [List.length_map]; omega)
   rw [← List.map_take] at this
   rw [show es.take (min es.length 400) = es.take 400 by rw [List.take_eq_take_iff]; omega] at this
   exact this
 · rw [List.length_take]; omega
theorem tmod_bd (e n : Int) (hn : 0 < n) : -n < e.tmod n ∧ e.tmod n < n := by
 rcases Int.le_total 0 e with h | h
 · rw [Int.tmod_eq_emod_of_nonneg h]
   have := Int.emod_lt_of_pos e hn
   have := Int.emod_nonneg e (by omega : n ≠ 0)
   omega
 · have h2 : (-e).tmod n = (-e) % n := Int.tmod_eq_emod_of_nonneg (by omega)
   rw [Int.neg_tmod] at h2
   have := Int.emod_lt_of_pos (-e) hn
   have := Int.emod_nonneg (-e) (by omega : n ≠ 0)
   omega
set_option maxHeartbeats 1000000 in
theorem Tape_Next {A G : Gh} {x : SV} {es : List Int} (hx : IsSl A 1 x (es.map (Value.int .i64))) (he : es.length ≤ 400) [GL A G] {tb a : Nat} {lo : Bool} {n : Int} (hn : 1 ≤ n) (hn2 : n ≤ 1000) (ha : a ≤ es.length) :
   FnM Tryz.prog 39 [.pointer (some ⟨tb, 0, none⟩), .int .i64 n] [⟨tb, [.slice x.a x.n x.c, .int .i64 a], 93, lo⟩] G (fun v css _ => ∃ (r : Int) (a' : Nat), v = .int .i64 r ∧ 0 ≤ r ∧ r < n ∧ a' ≤ es.length ∧ css = [[.slice x.a x.n x.c, .int .i64 a']]) := by
 have hlen : x.n = es.length := by simpa using hx.len
 obtain ⟨xa, xn, xc⟩ := x
 simp only [] at hlen
 subst hlen
 refine FnM.intro Tryz.func39 rfl rfl Tryz.ntmps39 rfl ?_
 intro C _ _
 show St C _ _ [⟨tb, [.slice xa es.length xc, .int .i64 a], 93, false⟩] _ _
 refine sR <| sa rfl rfl <| st_end <| st_seq <| st_seq <| dr (fun _ => false) [(0, true), (1, true), (2, true), (3, true), (4, true), (5, true), (6, true), (7, true), (8, true), (9, true)] follows (by kernel_rfl) <| ?_
 refine dM rfl rfl rfl <| dy rfl (fun _ => yd_nilCheck rfl) rfl rfl <| dF rfl rfl rfl <| dL1 rfl rfl rfl rfl <| ?_
 refine dM rfl rfl rfl <| dy rfl (fun _ => yd_nilCheck rfl) rfl rfl <| dF rfl rfl rfl <| dL1 rfl rfl rfl rfl <| ?_
 refine dy rfl (fun _ => yd_len rfl) rfl rfl <| dy rfl (fun _ => yd_geq rfl rfl) rfl rfl <| dn <| ?_
 refine st_condP rfl (fun hc => ?_) (fun hc => ?_) -- slot 15
 · refine sR <| sa rfl rfl <| st_end <| st_ret <| ?_
   exact st_doneM (css := [_]) (.tmp rfl .nil) rfl _ (List.Perm.refl _) (List.Sublist.refl _) ⟨0, a, rfl, by omega, by omega, ha, rfl⟩
 have ha1 : a < es.length := by omega
 refine st_skipc <| st_seq <| dr (fun _ => false) [(0, true), (1, true), (2, true), (3, true), (4, true), (5, true), (6, true), (7, true), (8, true), (9, true), (10, true), (11, true), (12, true)] follows (by kernel_rfl) <| ?_
 refine dM rfl rfl rfl <| dy rfl (fun _ => yd_nilCheck rfl) rfl rfl <| dF rfl rfl rfl <| dL1 rfl rfl rfl rfl <| ?_
 refine dM rfl rfl rfl <| dy rfl (fun _ => yd_nilCheck rfl) rfl rfl <| dF rfl rfl rfl <| dL1 rfl rfl rfl rfl <| ?_
 refine dy rfl (fun _ => yd_ix (z := ⟨xa, es.length, xc⟩) hx rfl rfl (by omega) (by show (a : Int) < (es.length : Int); omega)) rfl rfl <| ?_
 rw [Int.toNat_natCast]
 refine dy rfl (fun _ => yd_ldS (i := a) (v := .int .i64 es[a]) hx rfl (by simp [ha1]) rfl) rfl rfl <| dM rfl rfl rfl <| dy rfl (fun _ => yd_rem rfl rfl (by omega)) rfl rfl <| ?_
 obtain ⟨hb1, hb2⟩ := tmod_bd es[a] n (by omega)
 generalize es[a].tmod n = e at hb1 hb2
 refine dA rfl rfl rfl <| dn <| sR <| sm rfl rfl <| sn rfl rfl <| sf rfl rfl <| slo1 rfl rfl rfl <| sy (yd_add64 rfl rfl) rfl <| ?_
 refine sn rfl rfl <| sf rfl rfl <| ?_
 refine sc (ch_storeN1 (cs' := [.slice xa es.length xc, .int .i64 ((a : Int) + 1)]) rfl rfl rfl (.hd ..) (nb rfl) rfl rfl ?_)
 rw [show (a : Int) + 1 = ((a + 1 : Nat) : Int) by omega]
 refine st_end <| ?_
 refine st_cut Int (fun r => [(5, .int .i64 r)]) (fun _ => [⟨tb, [.slice xa es.length xc, .int .i64 ((a + 1 : Nat) : Int)], 93, false⟩]) (fun r _ => 0 ≤ r ∧ r < n) ?_ ?_
 · refine sR <| sm rfl rfl <| sy (yd_lss rfl rfl) rfl <| st_end <| ?_
   refine st_condP rfl (fun hc => ?_) (fun hc => ?_) -- slot 36
   · refine st_region <| sm rfl rfl <| sm rfl rfl <| sy (yd_add64 rfl rfl) rfl <| sa rfl rfl <| st_end <| ?_
     exact st_at (e + n) ⟨by omega, by omega⟩ (.cons rfl .nil) rfl
   refine st_skipc <| ?_
   exact st_at e ⟨by omega, by omega⟩ (.cons rfl .nil) rfl
 rintro r Gx _ ⟨hr1, hr2⟩
 refine sR <| sm rfl rfl <| sa rfl rfl <| st_end <| st_ret <| ?_
 exact st_doneM (css := [_]) (.tmp rfl .nil) rfl _ (List.Perm.refl _) (List.Sublist.refl _) ⟨r, a + 1, rfl, hr1, hr2, ha1, rfl⟩
theorem num_Minus {A G : Gh} {z : IV} {m : Int} (h : IsI 32 A z m) [GL A G] : Fn Tryz.prog 56 [.agg ⟨[.bool z.neg, .slice z.a.a z.a.n z.a.c]⟩] G (fun v G' => ∃ w : IV, v = .agg ⟨[.bool w.neg, .slice w.a.a w.a.n w.a.c]⟩ ∧ IsI 32 G' w (-m)) := by
 refine Fn.intro Tryz.func56 rfl rfl Tryz.ntmps56 rfl ?_
 intro C _ _
 refine sR <| ?_
 refine sc (ch_box rfl rfl ?_)
 intro b1
 refine sc (ch_alloc rfl ?_)
 intro b2
 refine st_end <| sR <| sf rfl rfl <| slo1 rfl rfl rfl <| sy (yd_not rfl) rfl <| sf rfl rfl <| slo1 rfl rfl rfl <| ?_
 refine sc (ch_call rfl rfl (num_Make h.abs) rfl ?_)
 rintro _ G3 _ ⟨w, rfl, hw⟩
 refine sc (chS rfl rfl rfl (nb rfl) rfl rfl ?_)
 refine st_end <| st_ret <| ?_
 exact st_done (.agg rfl ii ii rfl .nil) ⟨w, rfl, (show zv (!z.neg) m.natAbs = -m by rw [zv_neg, h.zv]) ▸ hw⟩
theorem num_Opp {A G : Gh} {z : IV} {m : Int} (h : IsI 32 A z m) [GL A G] : Fn Tryz.prog 88 [.agg ⟨[.bool z.neg, .slice z.a.a z.a.n z.a.c, .slice none 0 0]⟩] G (fun v G' => ∃ w : IV, v = .agg ⟨[.bool w.neg, .slice w.a.a w.a.n w.a.c, .slice none 0 0]⟩ ∧ IsI 32 G' w (-m)) := by
 refine Fn.intro Tryz.func88 rfl rfl Tryz.ntmps88 rfl ?_
 intro C _ _
 refine sR <| ?_
 refine sc (ch_box rfl rfl ?_)
 intro b1
 refine sc (ch_alloc rfl ?_)
 intro b2
 refine st_end <| st_seq <| dr (fun i => Nat.beq i 6) [(0, true), (1, true), (3, true), (4, true), (2, false), (5, true), (6, false)] follows (by kernel_rfl) <| dF rfl rfl rfl <| ?_
 refine dL rfl rfl rfl rfl <| dF rfl rfl rfl <| dL1 rfl rfl rfl rfl <| ?_
 refine dc rfl rfl (ch_call rfl rfl (num_Minus h) rfl ?_)
 rintro _ G3 _ ⟨w, rfl, hw⟩
 refine dr_s <| dy rfl (fun _ => yd_build rfl) rfl rfl <| ?_
 refine dc rfl rfl (chS rfl rfl rfl (nb rfl) rfl rfl ?_)
 refine dr_f rfl <| dn <| st_ret <| ?_
 exact st_done (.agg rfl ii ii rfl .nil) ⟨w, rfl, hw.up⟩
theorem pos_case {m : Int} {n : Nat} {b : Bool} (hp : 0 < (n : Int) ↔ 0 < m.natAbs) (hng : b = decide (m < 0)) (hc : ¬ (n : Int) = 0) (hb : b = false) : 0 < m := by
 rw [hb] at hng
 have h9 : ¬ m < 0 := of_decide_eq_false hng.symm
 omega
theorem num_Sign {A G : Gh} {z : IV} {m : Int} (h : IsI 32 A z m) [GL A G] : Fn Tryz.prog 163 [.agg ⟨[.bool z.neg, .slice z.a.a z.a.n z.a.c]⟩] G (fun v _ => v = .int .i64 (Int.sign m)) := by
 have hp := decide_eq_decide.1 h.abs.pos
 have hng := h.neg
 refine Fn.intro Tryz.func163 rfl rfl Tryz.ntmps163 rfl ?_
 intro C _ _
 refine sR <| ?_
 refine sc (ch_box rfl rfl ?_)
 intro b1
 refine sa rfl rfl <| st_end <| st_seq <| sR <| sf rfl rfl <| slo1 rfl rfl rfl <| slen rfl rfl <| sy (yd_eql rfl rfl) rfl <| st_end <| ?_
 refine st_condP rfl (fun hc => ?_) (fun hc => ?_) -- slot 6
 · -- yes
   refine sR <| sa rfl rfl <| st_end <| st_ret <| ?_
   exact st_done (.tmp rfl .nil) (by rw [show m = 0 by omega]; rfl)
 refine st_skipc <| st_seq <| sR <| sf rfl rfl <| slo1 rfl rfl rfl <| st_end <| ?_
 refine st_condB rfl (fun hc1 => ?_) (fun hc1 => ?_) -- slot 8
 · -- yes
   refine sR <| sa rfl rfl <| st_end <| st_ret <| ?_
   exact st_done (.tmp rfl .nil) (by rw [Int.sign_eq_neg_one_of_neg (by simpa [hc1] using hng.symm)]; rfl)
 refine st_skipc <| sR <| sa rfl rfl <| st_end <| st_ret <| ?_
 exact st_done (.tmp rfl .nil) (by rw [Int.sign_eq_one_of_pos (pos_case hp hng hc hc1)]; rfl)
theorem num_S {A G : Gh} {z : IV} {m : Int} (h : IsI 32 A z m) [GL A G] : Fn Tryz.prog 115 [.agg ⟨[.bool z.neg, .slice z.a.a z.a.n z.a.c, .slice none 0 0]⟩] G (fun v _ => v = .int .i64 (Int.sign m)) := by
 refine Fn.intro Tryz.func115 rfl rfl Tryz.ntmps115 rfl ?_
 intro C _ _
 refine sR <| ?_
 refine sc (ch_box rfl rfl ?_)
 intro b1
 refine sa rfl rfl <| st_end <| sR <| sf rfl rfl <| slo rfl rfl rfl <| ?_
 refine sc (ch_call rfl rfl (num_Sign h) rfl ?_)
 rintro _ G2 _ rfl
 refine sa rfl rfl <| st_end <| st_ret <| ?_
 exact st_done (.tmp rfl .nil) rfl
theorem ref_ToN {A G : Gh} {x : SV} {u : Nat} (hx : IsN 32 A x u) [GL A G] : Fn Tryz.prog 109 [.slice x.a x.n x.c] G (fun v G' => ∃ z : SV, v = .slice z.a z.n z.c ∧ IsN 32 G' z u) := by
 have hb := hx.bits
 have hlen := hx.d.len
 refine Fn.intro Tryz.func109 rfl rfl Tryz.ntmps109 rfl ?_
 intro C _ _
 refine sR <| sa rfl rfl <| st_end <| sR <| ?_
 refine sc (ch_slice0 rfl ?_)
 intro b1
 refine sm rfl rfl <| ?_
 refine sc (ch_append_own (xs := []) (rest := []) (ys := (dg u).map dI) rfl rfl (.hd ..) rfl rfl (Nat.le_refl _) (src_D hx.d) (by simp [hlen]) (dI_flat (dg u)) (by decide) (by omega) rfl rfl ?_)
 intro b cap rest h1 h2
 refine sa rfl rfl <| st_end <| st_freeze b (.hd ..) (fun G' _ hgb => ?_)
 refine st_ret <| ?_
 refine st_done (.tmp rfl .nil) ⟨⟨some ⟨b, 0, none⟩, x.n, cap⟩, by simp [tupled], ?_, hx.lt⟩
 exact .of_block hx.d.ok hgb.h hlen (by omega) (by simp)
theorem ref_ToI {A G : Gh} {z : IV} {m : Int} (h : IsI 32 A z m) [GL A G] : Fn Tryz.prog 51 [.agg ⟨[.bool z.neg, .slice z.a.a z.a.n z.a.c]⟩] G (fun v G' => ∃ w : IV, v = .agg ⟨[.bool w.neg, .slice w.a.a w.a.n w.a.c]⟩ ∧ IsI 32 G' w m) := by
 refine Fn.intro Tryz.func51 rfl rfl Tryz.ntmps51 rfl ?_
 intro C _ _
 refine sR <| ?_
 refine sc (ch_box rfl rfl ?_)
 intro b1
 refine sc (ch_alloc rfl ?_)
 intro b2
 refine st_end <| st_seq <| dr (fun i => Nat.beq i 6) [(0, true), (1, true), (2, true), (3, true), (4, false), (5, true), (6, false)] follows (by kernel_rfl) <| dF rfl rfl rfl <| ?_
 refine dL1 rfl rfl rfl rfl <| dF rfl rfl rfl <| dL1 rfl rfl rfl rfl <| ?_
 refine dc rfl rfl (ch_call rfl rfl (ref_ToN h.abs) rfl ?_)
 rintro _ G3 _ ⟨w, rfl, hw⟩
 refine dr_s <| dy rfl (fun _ => yd_build rfl) rfl rfl <| ?_
 refine dc rfl rfl (chS rfl rfl rfl (nb rfl) rfl rfl ?_)
 refine dr_f rfl <| dn <| st_ret <| ?_
 exact st_done (.agg rfl ii ii rfl .nil) ⟨⟨z.neg, w⟩, rfl, h.neg, hw.up⟩
theorem ref_ToL {A G : Gh} {a b c : IV} {l : LnQ} (ha : IsI 32 A a l.a) (hb : IsI 32 A b l.b) (hc : IsI 32 A c l.c) [GL A G] : Fn Tryz.prog 14 [.agg ⟨[.bool a.neg, .slice a.a.a a.a.n a.a.c, .bool b.neg, .slice b.a.a b.a.n b.a.c, .bool c.neg, .slice c.a.a c.a.n c.a.c]⟩] G (fun v G' => ∃ x y w : IV, v = .agg ⟨[.bool x.neg, .slice x.a.a x.a.n x.a.c, .bool y.neg, .slice y.a.a y.a.n y.a.c, .bool w.neg, .slice w.a.a w.a.n w.a.c]⟩ ∧ IsI 32 G' x l.a ∧ IsI 32 G' y l.b ∧ IsI 32 G' w l.c) := by
 refine Fn.intro Tryz.func14 rfl rfl Tryz.ntmps14 rfl ?_
 intro C _ _
 refine sR <| ?_
 refine sc (ch_box rfl rfl ?_)
 intro b1
 refine sc (ch_alloc rfl ?_)
 intro b2
 refine st_end <| st_seq <| dr (fun i => Nat.beq i 10) [(0, true), (1, true), (3, true), (4, true), (6, true), (7, true), (2, false), (5, false), (8, false), (9, true), (10, false)] follows (by kernel_rfl) <| ?_
 refine dF rfl rfl rfl <| dL rfl rfl rfl rfl <| dF rfl rfl rfl <| dL rfl rfl rfl rfl <| ?_
 refine dF rfl rfl rfl <| dL rfl rfl rfl rfl <| ?_
 refine dc rfl rfl (ch_call rfl rfl (ref_ToI ha) rfl ?_)
 rintro _ G3 _ ⟨x, rfl, hx⟩
 refine dr_s <| ?_
 refine dc rfl rfl (ch_call rfl rfl (ref_ToI hb) rfl ?_)
 rintro _ G4 _ ⟨y, rfl, hy⟩
 refine dr_s <| ?_
 refine dc rfl rfl (ch_call rfl rfl (ref_ToI hc) rfl ?_)
 rintro _ G5 _ ⟨w, rfl, hw⟩
 refine dr_s <| dy rfl (fun _ => yd_build rfl) rfl rfl <| ?_
 refine dc rfl rfl (chS rfl rfl rfl (nb rfl) rfl rfl ?_)
 refine dr_f rfl <| dn <| st_ret <| ?_
 exact st_done (.agg rfl ii ii rfl .nil) ⟨x, y, w, rfl, hx.up, hy.up, hw.up⟩
def IsRT (G : Gh) : Tr → Option Addr → Prop
 | .leaf b, p => ∃ n, p = some ⟨n, 0, none⟩ ∧ G n = some [.bool true, .bool b, .bool false, .slice none 0 0, .bool false, .slice none 0 0, .bool false, .slice none 0 0, .pointer none, .pointer none]
 | .node l x y, p => ∃ (n : Nat) (a b c : IV) (q r : Option Addr), p = some ⟨n, 0, none⟩ ∧ G n = some [.bool false, .bool false, .bool a.neg, .slice a.a.a a.a.n a.a.c, .bool b.neg, .slice b.a.a b.a.n b.a.c, .bool c.neg, .slice c.a.a c.a.n c.a.c, .pointer q, .pointer r] ∧ IsI 32 G a l.a ∧ IsI 32 G b l.b ∧ IsI 32 G c l.c ∧ IsRT G x q ∧ IsRT G y r
theorem IsRT.up {A G : Gh} [hl : GL A G] : ∀ {t : Tr} {p : Option Addr}, IsRT A t p → IsRT G t p
 | .leaf b, p, ⟨n, h1, h2⟩ => ⟨n, h1, hl.le _ _ h2⟩
 | .node l x y, p, ⟨n, a, b, c, q, r, h1, h2, h3, h4, h5, h6, h7⟩ => ⟨n, a, b, c, q, r, h1, hl.le _ _ h2, h3.up, h4.up, h5.up, h6.up, h7.up⟩
theorem ref_Code {G : Gh} {b : Bool} : Fn Tryz.prog 40 [.bool b] G (fun v G' => ∃ p, v = .pointer p ∧ IsRT G' (.leaf b) p) := by
 refine Fn.intro Tryz.func40 rfl rfl Tryz.ntmps40 rfl ?_
 intro C _ _
 refine sR <| sa rfl rfl <| st_end <| sR <| sm rfl rfl <| sy (yd_build rfl) rfl <| ?_
 refine sc (ch_box rfl rfl ?_)
 intro b1
 refine sa rfl rfl <| st_end <| st_ret <| ?_
 refine st_freeze b1 (.hd ..) ?_
 intro G9 _ hfz
 exact st_done (.tmp rfl .nil) ⟨_, rfl, b1, rfl, hfz.h⟩
end Go.Sx
end

section
set_option maxRecDepth 100000
namespace Go.Sx
open Go Go.Proofs
def andN (p q : Int) : Nat := (BitVec.ofInt 32 p &&& BitVec.ofInt 32 q).toNat
def orN (p q : Int) : Nat := (BitVec.ofInt 32 p ||| BitVec.ofInt 32 q).toNat
def xorN (p q : Int) : Nat := (BitVec.ofInt 32 p ^^^ BitVec.ofInt 32 q).toNat
theorem wrap32 (b : BitVec 32) : IntKind.u32.wrap (b.toNat : Int) = (b.toNat : Int) := by
 rw [wrap_u32]; have := b.isLt; omega
theorem andN_lt {p : Int} {q : Nat} (hq : q < 2147483648) : andN p q < 2147483648 := by
 unfold andN
 rw [BitVec.toNat_and, BitVec.ofInt_natCast, BitVec.toNat_ofNat]
 have : (BitVec.ofInt 32 p).toNat &&& q % 2 ^ 32 ≤ q % 2 ^ 32 := Nat.and_le_right
 have h2 : q % 2 ^ 32 ≤ q := Nat.mod_le _ _
 omega
theorem orN_lt {p q : Nat} (hp : p < 2147483648) (hq : q < 2147483648) : orN p q < 2147483648 := by
 unfold orN
 rw [BitVec.toNat_or, BitVec.ofInt_natCast, BitVec.ofInt_natCast, BitVec.toNat_ofNat, BitVec.toNat_ofNat, Nat.mod_eq_of_lt (by omega), Nat.mod_eq_of_lt (by omega)]
 exact Nat.or_lt_two_pow (n := 31) hp hq
section
variable {P : Program} {C : Ctx} {n : Nat} {fr : Fr} {own own' : List Own} {G : Gh} {Φ : Act → World → Prop}
variable {dst : Option Nat} {t t' ty' : TypeId} {pos : String} {af : Array Edge} {gd : Option (Nat × Bool)} {x y : Operand}
theorem yd_and32 {p q : Int} (hx : opv fr x = some (.int .u32 p)) (hy : opv fr y = some (.int .u32 q)) : Yd P C fr own G ⟨dst, .binOp .and t x y t', ty', pos, af, gd⟩ (.int .u32 (andN p q : Nat)) := yd_int hx hy fun w => by
 show (pure (Value.int .u32 (IntKind.u32.wrap ((BitVec.ofInt 32 p &&& BitVec.ofInt 32 q).toNat : Int))) : Sem Value).run P w = _
 rw [wrap32]; rfl
theorem yd_or32 {p q : Int} (hx : opv fr x = some (.int .u32 p)) (hy : opv fr y = some (.int .u32 q)) : Yd P C fr own G ⟨dst, .binOp .or t x y t', ty', pos, af, gd⟩ (.int .u32 (orN p q : Nat)) := yd_int hx hy fun w => by
 show (pure (Value.int .u32 (IntKind.u32.wrap ((BitVec.ofInt 32 p ||| BitVec.ofInt 32 q).toNat : Int))) : Sem Value).run P w = _
 rw [wrap32]; rfl
theorem yd_xor32 {p q : Int} (hx : opv fr x = some (.int .u32 p)) (hy : opv fr y = some (.int .u32 q)) : Yd P C fr own G ⟨dst, .binOp .xor t x y t', ty', pos, af, gd⟩ (.int .u32 (xorN p q : Nat)) := yd_int hx hy fun w => by
 show (pure (Value.int .u32 (IntKind.u32.wrap ((BitVec.ofInt 32 p ^^^ BitVec.ofInt 32 q).toNat : Int))) : Sem Value).run P w = _
 rw [wrap32]; rfl
theorem yd_maxR {k : IntKind} {t1 t2 : TypeId} {p q r : Int} (hx : opv fr x = some (.int k p)) (hy : opv fr y = some (.int k q)) (hr : (if q > p then q else p) = r) :
  Yd P C fr own G ⟨dst, .call ⟨.builtin .max, #[x, y], #[t1, t2]⟩, ty', pos, af, gd⟩ (.int k r) := hr ▸ yd_max hx hy
theorem yd_not32 {p : Int} (hx : opv fr x = some (.int .u32 p)) : Yd P C fr own G ⟨dst, .unOp .xor t x, ty', pos, af, gd⟩ (.int .u32 (xorN IntKind.u32.max p : Nat)) := by
 intro a w hf hh
 simp only [execOp, opv_eval hf hx]
 refine value_of (w' := w) ?_
 show (pure (Value.int .u32 (IntKind.u32.wrap ((BitVec.ofInt 32 IntKind.u32.max ^^^ BitVec.ofInt 32 p).toNat : Int))) : Sem Value).run P w = _
 rw [wrap32]; rfl
end
theorem bits_Add32 {G : Gh} {x y : Nat} (h : x + y < 4294967296) : Fn Tryz.prog 209 [.int .u32 (x : Int), .int .u32 (y : Int), .int .u32 0] G (fun v _ => v = .tuple #[.int .u32 ((x + y : Nat) : Int), .int .u32 0]) := by
 have e1 : ((x : Int) + (y : Int) + 0) % 4294967296 = ((x + y : Nat) : Int) := by omega
 have e2 : ((x : Int) + (y : Int) + 0).fdiv (2 ^ min (32 : Int).toNat IntKind.u64.bits) % 4294967296 = 0 := by
  have : (2 ^ min (32 : Int).toNat IntKind.u64.bits : Int) = 4294967296 := by decide
  rw [this, Int.fdiv_eq_ediv_of_nonneg _ (by omega)]; omega
 refine Fn.intro Tryz.func209 rfl rfl Tryz.ntmps209 rfl ?_
 intro C _ _
 refine sR <| sa rfl rfl <| sa rfl rfl <| st_end <| sR <| sm rfl rfl <| sy (yd_toU64 rfl) rfl <| sm rfl rfl <| sy (yd_toU64 rfl) rfl <| ?_
 refine sy (yd_addU rfl rfl) rfl <| sm rfl rfl <| sy (yd_toU64 rfl) rfl <| sy (yd_addU rfl rfl) rfl <| sa rfl rfl <| st_end <| ?_
 refine sR <| sm rfl rfl <| sy (yd_toU32 rfl) rfl <| sa rfl rfl <| st_end <| sR <| sm rfl rfl <| sy (yd_shr rfl rfl (by decide)) rfl <| sy (yd_toU32 rfl) rfl <| ?_
 refine sa rfl rfl <| st_end <| st_ret <| ?_
 exact st_done (.tmp rfl (.tmp rfl .nil)) (by show Value.tuple #[.int .u32 (((x : Int) + (y : Int) + 0) % 4294967296), .int .u32 (((x : Int) + (y : Int) + 0).fdiv (2 ^ min (32 : Int).toNat IntKind.u64.bits) % 4294967296)] = _; rw [e1, e2])
theorem bits_Sub32 {G : Gh} {x y : Nat} (hx : x < 2147483648) (h : y ≤ x) : Fn Tryz.prog 210 [.int .u32 (x : Int), .int .u32 (y : Int), .int .u32 0] G (fun v _ => v = .tuple #[.int .u32 ((x - y : Nat) : Int), .int .u32 0]) := by
 have e1 : IntKind.u32.wrap (IntKind.u32.wrap ((x : Int) - (y : Int)) - 0) = ((x - y : Nat) : Int) := by rw [wrap_u32, wrap_u32]; omega
 refine Fn.intro Tryz.func210 rfl rfl Tryz.ntmps210 rfl ?_
 intro C _ _
 refine sR <| sa rfl rfl <| sa rfl rfl <| st_end <| sR <| sm rfl rfl <| sm rfl rfl <| sy (yd_subw rfl rfl) rfl <| sm rfl rfl <| sy (yd_subw rfl rfl) rfl <| ?_
 rw [e1]
 refine sa rfl rfl <| st_end <| sR <| sm rfl rfl <| sy (yd_not32 rfl) rfl <| sm rfl rfl <| sy (yd_and32 rfl rfl) rfl <| sm rfl rfl <| sm rfl rfl <| sy (yd_xor32 rfl rfl) rfl <| sy (yd_not32 rfl) rfl <| sm rfl rfl <| ?_
 refine sy (yd_and32 rfl rfl) rfl <| sy (yd_or32 rfl rfl) rfl <| ?_
 have e2 := orN_lt (andN_lt (p := (xorN IntKind.u32.max (x : Int) : Nat)) (q := y) (by omega)) (andN_lt (p := (xorN IntKind.u32.max (xorN (x : Int) (y : Int) : Nat) : Nat)) (q := x - y) (by omega))
 generalize orN _ _ = r at e2
 refine sy (yd_shr rfl rfl (by decide)) rfl <| sa rfl rfl <| st_end <| st_ret <| ?_
 refine st_done (.tmp rfl (.tmp rfl .nil)) ?_
 have e3 : (r : Int).fdiv (2 ^ min (31 : Int).toNat IntKind.u32.bits) = 0 := by
  have : (2 ^ min (31 : Int).toNat IntKind.u32.bits : Int) = 2147483648 := by decide
  rw [this, Int.fdiv_eq_ediv_of_nonneg _ (by omega)]; omega
 show Value.tuple #[.int .u32 _, .int .u32 ((r : Int).fdiv (2 ^ min (31 : Int).toNat IntKind.u32.bits))] = _
 rw [e3]
theorem IsN.small {G : Gh} {x : SV} {u : Nat} (h : IsN 32 G x u) (hu : u ≠ 0) : IsD G x [u] := by
 have e : dg u = [u] := by
  have hl : u < 4294967296 := h.lt
  rw [dg, dif_neg hu, Nat.mod_eq_of_lt hl, Nat.div_eq_of_lt hl, dg, dif_pos rfl]
 rw [← e]; exact h.d
theorem IsN.zero {G : Gh} {x : SV} (h : IsN 32 G x 0) : IsD G x [] := by
 have e : dg 0 = [] := by rw [dg, dif_pos rfl]
 rw [← e]; exact h.d
theorem IsN.of_trim {k : Nat} {G : Gh} {b c : Nat} {ds : List Nat} (hd : IsD G ⟨some ⟨b, 0, none⟩, ds.length, c⟩ ds) (hk : dv ds < 2 ^ k) : IsN k G ⟨some ⟨b, 0, none⟩, (trimD ds).length, c⟩ (dv ds) :=
 ⟨by rw [dg_trim hd.ok]; exact hd.trim, hk⟩
set_option maxHeartbeats 2000000 in
theorem num_Sum {A B G : Gh} {x y : SV} {u w : Nat} (hx : IsN 32 A x u) (hy : IsN 32 B y w) [GL A G] [GL B G] (hs : u + w < 4294967296) : Fn Tryz.prog 172 [.slice x.a x.n x.c, .slice y.a y.n y.c] G (fun v G' => ∃ z : SV, v = .slice z.a z.n z.c ∧ IsN 32 G' z (u + w)) := by
 obtain ⟨xa, xn, xc⟩ := x
 obtain ⟨ya, yn, yc⟩ := y
 by_cases hu : u = 0 <;> by_cases hw : w = 0
 · subst hu
   subst hw
   have hx1 := hx.zero
   have hy1 := hy.zero
   have hl1 : xn = 0 := hx1.len
   have hl2 : yn = 0 := hy1.len
   subst hl1 hl2
   show Fn _ _ [.slice xa 0 xc, .slice ya 0 yc] _ _
   refine Fn.intro Tryz.func172 rfl rfl Tryz.ntmps172 rfl ?_
   intro C _ _
   refine sR <| sa rfl rfl <| st_end <| sR <| sm rfl rfl <| slen rfl rfl <| sm rfl rfl <| slen rfl rfl <| sy (yd_maxR (r := 0) rfl rfl (by decide)) rfl <| sa rfl rfl <| st_end <| st_seq <| ?_
   refine st_region <| sm rfl rfl <| sy (yd_add64 rfl rfl) rfl <| ?_
   refine sc (ch_make rfl rfl (by omega) (by omega) (by omega) (by rfl) rfl ?_)
   intro b1
   refine sa rfl rfl <| st_end <| sR <| sa rfl rfl <| st_end <| st_seq <| sR <| sa rfl rfl <| st_end <| st_block <| ?_
   refine st_loop (X := Unit) (fun _ => [(8, .int .i64 0), (5, .int .i64 0), (0, .slice xa 0 xc), (1, .slice ya 0 yc), (6, .slice (some ⟨b1, 0, none⟩) 1 1), (7, .int .u32 0)]) (fun _ => [⟨b1, [.int .u32 0], 224, true⟩]) (fun _ _ => True) (fun _ => 0) () trivial (.cons rfl (.cons rfl (.cons rfl (.cons rfl (.cons rfl (.cons rfl .nil)))))) rfl ?_
   rintro _ Gx _ _
   refine st_seq <| sR <| sm rfl rfl <| sm rfl rfl <| sy (yd_lss rfl rfl) rfl <| st_end <| st_condF rfl <| st_exit <| st_te <| st_te <| st_inBlock_eq <| sR <| sm rfl rfl <| ?_
   refine sm rfl rfl <| sm rfl rfl <| sy (yd_ixO rfl rfl (by decide) (by decide)) rfl <| ?_
   refine sc (ch_storeN1 (cs' := [.int .u32 0]) rfl rfl rfl (.hd ..) (nb rfl) rfl rfl ?_)
   refine st_end <| sR <| sm rfl rfl <| ?_
   refine st_freeze b1 (.hd ..) (fun G1 _ hgb => ?_)
   have hd : IsD G1 ⟨some ⟨b1, 0, none⟩, ([0] : List Nat).length, 1⟩ [0] := .of_block (by intro d hd; first | (simp at hd; done) | (simp at hd; omega)) hgb.h rfl (Nat.le_refl _) rfl
   refine sc (ch_call rfl rfl (num_Trim hd (by simp)) rfl ?_)
   rintro _ G2 _ rfl
   refine sa rfl rfl <| st_end <| st_ret <| ?_
   have h9 := IsN.of_trim (k := 32) (hd.up (G := G2)) (by first | (simp [dv]; done) | (simp [dv]; omega))
   have e9 : dv [0] = (0 + 0) := by simp [dv]
   rw [e9] at h9
   exact st_done (.tmp rfl .nil) ⟨⟨some ⟨b1, 0, none⟩, (trimD [0]).length, 1⟩, rfl, h9⟩
 · subst hu
   have hy1 := hy.small hw
   have hx1 := hx.zero
   have hl1 : xn = 0 := hx1.len
   have hl2 : yn = 1 := hy1.len
   subst hl1 hl2
   show Fn _ _ [.slice xa 0 xc, .slice ya 1 yc] _ _
   refine Fn.intro Tryz.func172 rfl rfl Tryz.ntmps172 rfl ?_
   intro C _ _
   refine sR <| sa rfl rfl <| st_end <| sR <| sm rfl rfl <| slen rfl rfl <| sm rfl rfl <| slen rfl rfl <| sy (yd_maxR (r := 1) rfl rfl (by decide)) rfl <| sa rfl rfl <| st_end <| st_seq <| ?_
   refine st_region <| sm rfl rfl <| sy (yd_add64 rfl rfl) rfl <| ?_
   refine sc (ch_make rfl rfl (by omega) (by omega) (by omega) (by rfl) rfl ?_)
   intro b1
   refine sa rfl rfl <| st_end <| sR <| sa rfl rfl <| st_end <| st_seq <| sR <| sa rfl rfl <| st_end <| st_block <| ?_
   refine st_loop (X := Bool) (fun | true => [(8, .int .i64 1), (5, .int .i64 1), (0, .slice xa 0 xc), (1, .slice ya 1 yc), (6, .slice (some ⟨b1, 0, none⟩) 2 2), (7, .int .u32 0)] | false => [(8, .int .i64 0), (5, .int .i64 1), (0, .slice xa 0 xc), (1, .slice ya 1 yc), (6, .slice (some ⟨b1, 0, none⟩) 2 2), (7, .int .u32 0)]) (fun | true => [⟨b1, [.int .u32 ((0 + w : Nat) : Int), .int .u32 0], 224, true⟩] | false => [⟨b1, [.int .u32 0, .int .u32 0], 224, true⟩]) (fun _ _ => True) (fun | true => 0 | false => 1) false trivial (.cons rfl (.cons rfl (.cons rfl (.cons rfl (.cons rfl (.cons rfl .nil)))))) rfl ?_
   rintro (_ | _) Gx _ _
   · refine st_seq <| sR <| sm rfl rfl <| sm rfl rfl <| sy (yd_lss rfl rfl) rfl <| st_end <| st_condT rfl <| st_skipc <| st_seq <| st_block <| sR <| sa rfl rfl <| ?_
     refine sa rfl rfl <| st_end <| st_seq <| sR <| sm rfl rfl <| sm rfl rfl <| slen rfl rfl <| sy (yd_lss rfl rfl) rfl <| st_end <| st_condF rfl <| st_skipc <| st_seq <| st_seq <| ?_
     refine st_region <| sm rfl rfl <| sm rfl rfl <| slen rfl rfl <| sy (yd_lss rfl rfl) rfl <| st_end <| st_condT rfl <| st_region <| sm rfl rfl <| sm rfl rfl <| sy (yd_ixD (z := ⟨ya, 1, yc⟩) hy1 rfl rfl (by decide) (show (0 : Int) < ((1 : Nat) : Int) by decide)) rfl <| ?_
     refine sy (yd_ldD (i := 0) hy1 rfl Nat.zero_lt_one) rfl <| sa rfl rfl <| st_end <| st_region <| sm rfl rfl <| sm rfl rfl <| sm rfl rfl <| sm rfl rfl <| sm rfl rfl <| ?_
     refine sc (ch_call rfl rfl (bits_Add32 (x := 0) (y := w) (by omega)) rfl ?_)
     rintro _ G2 _ rfl
     refine sm rfl rfl <| sx rfl rfl rfl <| sx rfl rfl rfl <| sy (yd_ixO rfl rfl (by decide) (by decide)) rfl <| ?_
     refine sc (ch_storeN1 (cs' := [.int .u32 ((0 + w : Nat) : Int), .int .u32 0]) rfl rfl rfl (.hd ..) (nb rfl) rfl rfl ?_)
     refine sa rfl rfl <| st_end <| st_region <| sm rfl rfl <| sy (yd_add64 rfl rfl) rfl <| sa rfl rfl <| st_end <| ?_
     exact st_again true trivial (by decide) (.cons rfl (.cons rfl (.cons rfl (.cons rfl (.cons rfl (.cons rfl .nil)))))) rfl
   refine st_seq <| sR <| sm rfl rfl <| sm rfl rfl <| sy (yd_lss rfl rfl) rfl <| st_end <| st_condF rfl <| st_exit <| st_te <| st_te <| st_inBlock_eq <| sR <| sm rfl rfl <| ?_
   refine sm rfl rfl <| sm rfl rfl <| sy (yd_ixO rfl rfl (by decide) (by decide)) rfl <| ?_
   refine sc (ch_storeN1 (cs' := [.int .u32 ((0 + w : Nat) : Int), .int .u32 0]) rfl rfl rfl (.hd ..) (nb rfl) rfl rfl ?_)
   refine st_end <| sR <| sm rfl rfl <| ?_
   refine st_freeze b1 (.hd ..) (fun G1 _ hgb => ?_)
   have hd : IsD G1 ⟨some ⟨b1, 0, none⟩, ([0 + w, 0] : List Nat).length, 2⟩ [0 + w, 0] := .of_block (by intro d hd; first | (simp at hd; done) | (simp at hd; omega)) hgb.h rfl (Nat.le_refl _) rfl
   refine sc (ch_call rfl rfl (num_Trim hd (by simp)) rfl ?_)
   rintro _ G2 _ rfl
   refine sa rfl rfl <| st_end <| st_ret <| ?_
   have h9 := IsN.of_trim (k := 32) (hd.up (G := G2)) (by first | (simp [dv]; done) | (simp [dv]; omega))
   have e9 : dv [0 + w, 0] = (0 + w) := by simp [dv]
   rw [e9] at h9
   exact st_done (.tmp rfl .nil) ⟨⟨some ⟨b1, 0, none⟩, (trimD [0 + w, 0]).length, 2⟩, rfl, h9⟩
 · have hx1 := hx.small hu
   subst hw
   have hy1 := hy.zero
   have hl1 : xn = 1 := hx1.len
   have hl2 : yn = 0 := hy1.len
   subst hl1 hl2
   show Fn _ _ [.slice xa 1 xc, .slice ya 0 yc] _ _
   refine Fn.intro Tryz.func172 rfl rfl Tryz.ntmps172 rfl ?_
   intro C _ _
   refine sR <| sa rfl rfl <| st_end <| sR <| sm rfl rfl <| slen rfl rfl <| sm rfl rfl <| slen rfl rfl <| sy (yd_maxR (r := 1) rfl rfl (by decide)) rfl <| sa rfl rfl <| st_end <| st_seq <| ?_
   refine st_region <| sm rfl rfl <| sy (yd_add64 rfl rfl) rfl <| ?_
   refine sc (ch_make rfl rfl (by omega) (by omega) (by omega) (by rfl) rfl ?_)
   intro b1
   refine sa rfl rfl <| st_end <| sR <| sa rfl rfl <| st_end <| st_seq <| sR <| sa rfl rfl <| st_end <| st_block <| ?_
   refine st_loop (X := Bool) (fun | true => [(8, .int .i64 1), (5, .int .i64 1), (0, .slice xa 1 xc), (1, .slice ya 0 yc), (6, .slice (some ⟨b1, 0, none⟩) 2 2), (7, .int .u32 0)] | false => [(8, .int .i64 0), (5, .int .i64 1), (0, .slice xa 1 xc), (1, .slice ya 0 yc), (6, .slice (some ⟨b1, 0, none⟩) 2 2), (7, .int .u32 0)]) (fun | true => [⟨b1, [.int .u32 ((u + 0 : Nat) : Int), .int .u32 0], 224, true⟩] | false => [⟨b1, [.int .u32 0, .int .u32 0], 224, true⟩]) (fun _ _ => True) (fun | true => 0 | false => 1) false trivial (.cons rfl (.cons rfl (.cons rfl (.cons rfl (.cons rfl (.cons rfl .nil)))))) rfl ?_
   rintro (_ | _) Gx _ _
   · refine st_seq <| sR <| sm rfl rfl <| sm rfl rfl <| sy (yd_lss rfl rfl) rfl <| st_end <| st_condT rfl <| st_skipc <| st_seq <| st_block <| sR <| sa rfl rfl <| ?_
     refine sa rfl rfl <| st_end <| st_seq <| sR <| sm rfl rfl <| sm rfl rfl <| slen rfl rfl <| sy (yd_lss rfl rfl) rfl <| st_end <| st_condT rfl <| st_region <| sm rfl rfl <| sm rfl rfl <| ?_
     refine sy (yd_ixD (z := ⟨xa, 1, xc⟩) hx1 rfl rfl (by decide) (show (0 : Int) < ((1 : Nat) : Int) by decide)) rfl <| sy (yd_ldD (i := 0) hx1 rfl Nat.zero_lt_one) rfl <| sa rfl rfl <| st_end <| st_seq <| sR <| sm rfl rfl <| sm rfl rfl <| slen rfl rfl <| sy (yd_lss rfl rfl) rfl <| ?_
     refine st_end <| st_condF rfl <| st_skipc <| st_region <| sm rfl rfl <| sm rfl rfl <| sm rfl rfl <| sm rfl rfl <| sm rfl rfl <| ?_
     refine sc (ch_call rfl rfl (bits_Add32 (x := u) (y := 0) (by omega)) rfl ?_)
     rintro _ G2 _ rfl
     refine sm rfl rfl <| sx rfl rfl rfl <| sx rfl rfl rfl <| sy (yd_ixO rfl rfl (by decide) (by decide)) rfl <| ?_
     refine sc (ch_storeN1 (cs' := [.int .u32 ((u + 0 : Nat) : Int), .int .u32 0]) rfl rfl rfl (.hd ..) (nb rfl) rfl rfl ?_)
     refine sa rfl rfl <| st_end <| st_region <| sm rfl rfl <| sy (yd_add64 rfl rfl) rfl <| sa rfl rfl <| st_end <| ?_
     exact st_again true trivial (by decide) (.cons rfl (.cons rfl (.cons rfl (.cons rfl (.cons rfl (.cons rfl .nil)))))) rfl
   refine st_seq <| sR <| sm rfl rfl <| sm rfl rfl <| sy (yd_lss rfl rfl) rfl <| st_end <| st_condF rfl <| st_exit <| st_te <| st_te <| st_inBlock_eq <| sR <| sm rfl rfl <| ?_
   refine sm rfl rfl <| sm rfl rfl <| sy (yd_ixO rfl rfl (by decide) (by decide)) rfl <| ?_
   refine sc (ch_storeN1 (cs' := [.int .u32 ((u + 0 : Nat) : Int), .int .u32 0]) rfl rfl rfl (.hd ..) (nb rfl) rfl rfl ?_)
   refine st_end <| sR <| sm rfl rfl <| ?_
   refine st_freeze b1 (.hd ..) (fun G1 _ hgb => ?_)
   have hd : IsD G1 ⟨some ⟨b1, 0, none⟩, ([u + 0, 0] : List Nat).length, 2⟩ [u + 0, 0] := .of_block (by intro d hd; first | (simp at hd; done) | (simp at hd; omega)) hgb.h rfl (Nat.le_refl _) rfl
   refine sc (ch_call rfl rfl (num_Trim hd (by simp)) rfl ?_)
   rintro _ G2 _ rfl
   refine sa rfl rfl <| st_end <| st_ret <| ?_
   have h9 := IsN.of_trim (k := 32) (hd.up (G := G2)) (by first | (simp [dv]; done) | (simp [dv]; omega))
   have e9 : dv [u + 0, 0] = (u + 0) := by simp [dv]
   rw [e9] at h9
   exact st_done (.tmp rfl .nil) ⟨⟨some ⟨b1, 0, none⟩, (trimD [u + 0, 0]).length, 2⟩, rfl, h9⟩
 · have hx1 := hx.small hu
   have hy1 := hy.small hw
   have hl1 : xn = 1 := hx1.len
   have hl2 : yn = 1 := hy1.len
   subst hl1 hl2
   show Fn _ _ [.slice xa 1 xc, .slice ya 1 yc] _ _
   refine Fn.intro Tryz.func172 rfl rfl Tryz.ntmps172 rfl ?_
   intro C _ _
   refine sR <| sa rfl rfl <| st_end <| sR <| sm rfl rfl <| slen rfl rfl <| sm rfl rfl <| slen rfl rfl <| sy (yd_maxR (r := 1) rfl rfl (by decide)) rfl <| sa rfl rfl <| st_end <| st_seq <| ?_
   refine st_region <| sm rfl rfl <| sy (yd_add64 rfl rfl) rfl <| ?_
   refine sc (ch_make rfl rfl (by omega) (by omega) (by omega) (by rfl) rfl ?_)
   intro b1
   refine sa rfl rfl <| st_end <| sR <| sa rfl rfl <| st_end <| st_seq <| sR <| sa rfl rfl <| st_end <| st_block <| ?_
   refine st_loop (X := Bool) (fun | true => [(8, .int .i64 1), (5, .int .i64 1), (0, .slice xa 1 xc), (1, .slice ya 1 yc), (6, .slice (some ⟨b1, 0, none⟩) 2 2), (7, .int .u32 0)] | false => [(8, .int .i64 0), (5, .int .i64 1), (0, .slice xa 1 xc), (1, .slice ya 1 yc), (6, .slice (some ⟨b1, 0, none⟩) 2 2), (7, .int .u32 0)]) (fun | true => [⟨b1, [.int .u32 ((u + w : Nat) : Int), .int .u32 0], 224, true⟩] | false => [⟨b1, [.int .u32 0, .int .u32 0], 224, true⟩]) (fun _ _ => True) (fun | true => 0 | false => 1) false trivial (.cons rfl (.cons rfl (.cons rfl (.cons rfl (.cons rfl (.cons rfl .nil)))))) rfl ?_
   rintro (_ | _) Gx _ _
   · refine st_seq <| sR <| sm rfl rfl <| sm rfl rfl <| sy (yd_lss rfl rfl) rfl <| st_end <| st_condT rfl <| st_skipc <| st_seq <| st_block <| sR <| sa rfl rfl <| ?_
     refine sa rfl rfl <| st_end <| st_seq <| sR <| sm rfl rfl <| sm rfl rfl <| slen rfl rfl <| sy (yd_lss rfl rfl) rfl <| st_end <| st_condT rfl <| st_region <| sm rfl rfl <| sm rfl rfl <| ?_
     refine sy (yd_ixD (z := ⟨xa, 1, xc⟩) hx1 rfl rfl (by decide) (show (0 : Int) < ((1 : Nat) : Int) by decide)) rfl <| sy (yd_ldD (i := 0) hx1 rfl Nat.zero_lt_one) rfl <| sa rfl rfl <| st_end <| st_seq <| sR <| sm rfl rfl <| sm rfl rfl <| slen rfl rfl <| sy (yd_lss rfl rfl) rfl <| ?_
     refine st_end <| st_condT rfl <| st_region <| sm rfl rfl <| sm rfl rfl <| sy (yd_ixD (z := ⟨ya, 1, yc⟩) hy1 rfl rfl (by decide) (show (0 : Int) < ((1 : Nat) : Int) by decide)) rfl <| sy (yd_ldD (i := 0) hy1 rfl Nat.zero_lt_one) rfl <| sa rfl rfl <| st_end <| st_region <| sm rfl rfl <| ?_
     refine sm rfl rfl <| sm rfl rfl <| sm rfl rfl <| sm rfl rfl <| ?_
     refine sc (ch_call rfl rfl (bits_Add32 (x := u) (y := w) (by omega)) rfl ?_)
     rintro _ G2 _ rfl
     refine sm rfl rfl <| sx rfl rfl rfl <| sx rfl rfl rfl <| sy (yd_ixO rfl rfl (by decide) (by decide)) rfl <| ?_
     refine sc (ch_storeN1 (cs' := [.int .u32 ((u + w : Nat) : Int), .int .u32 0]) rfl rfl rfl (.hd ..) (nb rfl) rfl rfl ?_)
     refine sa rfl rfl <| st_end <| st_region <| sm rfl rfl <| sy (yd_add64 rfl rfl) rfl <| sa rfl rfl <| st_end <| ?_
     exact st_again true trivial (by decide) (.cons rfl (.cons rfl (.cons rfl (.cons rfl (.cons rfl (.cons rfl .nil)))))) rfl
   refine st_seq <| sR <| sm rfl rfl <| sm rfl rfl <| sy (yd_lss rfl rfl) rfl <| st_end <| st_condF rfl <| st_exit <| st_te <| st_te <| st_inBlock_eq <| sR <| sm rfl rfl <| ?_
   refine sm rfl rfl <| sm rfl rfl <| sy (yd_ixO rfl rfl (by decide) (by decide)) rfl <| ?_
   refine sc (ch_storeN1 (cs' := [.int .u32 ((u + w : Nat) : Int), .int .u32 0]) rfl rfl rfl (.hd ..) (nb rfl) rfl rfl ?_)
   refine st_end <| sR <| sm rfl rfl <| ?_
   refine st_freeze b1 (.hd ..) (fun G1 _ hgb => ?_)
   have hd : IsD G1 ⟨some ⟨b1, 0, none⟩, ([u + w, 0] : List Nat).length, 2⟩ [u + w, 0] := .of_block (by intro d hd; first | (simp at hd; done) | (simp at hd; omega)) hgb.h rfl (Nat.le_refl _) rfl
   refine sc (ch_call rfl rfl (num_Trim hd (by simp)) rfl ?_)
   rintro _ G2 _ rfl
   refine sa rfl rfl <| st_end <| st_ret <| ?_
   have h9 := IsN.of_trim (k := 32) (hd.up (G := G2)) (by first | (simp [dv]; done) | (simp [dv]; omega))
   have e9 : dv [u + w, 0] = (u + w) := by simp [dv]
   rw [e9] at h9
   exact st_done (.tmp rfl .nil) ⟨⟨some ⟨b1, 0, none⟩, (trimD [u + w, 0]).length, 2⟩, rfl, h9⟩
set_option maxHeartbeats 2000000 in
theorem num_Less {A B G : Gh} {x y : SV} {u w : Nat} (hx : IsN 32 A x u) (hy : IsN 32 B y w) [GL A G] [GL B G] (hu2 : u < 2147483648) (hs : w ≤ u) : Fn Tryz.prog 173 [.slice x.a x.n x.c, .slice y.a y.n y.c] G (fun v G' => ∃ z : SV, v = .slice z.a z.n z.c ∧ IsN 32 G' z (u - w)) := by
 obtain ⟨xa, xn, xc⟩ := x
 obtain ⟨ya, yn, yc⟩ := y
 by_cases hu : u = 0 <;> by_cases hw : w = 0
 · subst hu
   subst hw
   have hx1 := hx.zero
   have hy1 := hy.zero
   have hl1 : xn = 0 := hx1.len
   have hl2 : yn = 0 := hy1.len
   subst hl1 hl2
   show Fn _ _ [.slice xa 0 xc, .slice ya 0 yc] _ _
   refine Fn.intro Tryz.func173 rfl rfl Tryz.ntmps173 rfl ?_
   intro C _ _
   refine sR <| sa rfl rfl <| st_end <| sR <| sm rfl rfl <| slen rfl rfl <| ?_
   refine sc (ch_make rfl rfl (by omega) (by omega) (by omega) (by rfl) rfl ?_)
   intro b1
   refine sa rfl rfl <| st_end <| sR <| sa rfl rfl <| st_end <| st_seq <| sR <| sm rfl rfl <| slen rfl rfl <| sm rfl rfl <| st_end <| st_block <| ?_
   refine st_loop (X := Unit) (fun _ => [(14, .int .i64 0), (13, .int .i64 0), (0, .slice xa 0 xc), (1, .slice ya 0 yc), (5, .slice (some ⟨b1, 0, none⟩) 0 0), (6, .int .u32 0)]) (fun _ => [⟨b1, [], 224, true⟩]) (fun _ _ => True) (fun _ => 0) () trivial (.cons rfl (.cons rfl (.cons rfl (.cons rfl (.cons rfl (.cons rfl .nil)))))) rfl ?_
   rintro _ Gx _ _
   refine sR <| sy (yd_lss rfl rfl) rfl <| st_end <| st_seq <| st_condF rfl <| st_exit <| st_te <| st_te <| st_inBlock_eq <| sR <| sm rfl rfl <| ?_
   refine st_freeze b1 (.hd ..) (fun G1 _ hgb => ?_)
   have hd : IsD G1 ⟨some ⟨b1, 0, none⟩, ([] : List Nat).length, 0⟩ [] := .of_block (by intro d hd; first | (simp at hd; done) | (simp at hd; omega)) hgb.h rfl (Nat.le_refl _) rfl
   refine sc (ch_call rfl rfl (num_Trim hd (by simp)) rfl ?_)
   rintro _ G2 _ rfl
   refine sa rfl rfl <| st_end <| st_ret <| ?_
   have h9 := IsN.of_trim (k := 32) (hd.up (G := G2)) (by first | (simp [dv]; done) | (simp [dv]; omega))
   have e9 : dv [] = (0 - 0) := by simp [dv]
   rw [e9] at h9
   exact st_done (.tmp rfl .nil) ⟨⟨some ⟨b1, 0, none⟩, (trimD []).length, 0⟩, rfl, h9⟩
 · omega
 · have hx1 := hx.small hu
   subst hw
   have hy1 := hy.zero
   have hl1 : xn = 1 := hx1.len
   have hl2 : yn = 0 := hy1.len
   subst hl1 hl2
   show Fn _ _ [.slice xa 1 xc, .slice ya 0 yc] _ _
   refine Fn.intro Tryz.func173 rfl rfl Tryz.ntmps173 rfl ?_
   intro C _ _
   refine sR <| sa rfl rfl <| st_end <| sR <| sm rfl rfl <| slen rfl rfl <| ?_
   refine sc (ch_make rfl rfl (by omega) (by omega) (by omega) (by rfl) rfl ?_)
   intro b1
   refine sa rfl rfl <| st_end <| sR <| sa rfl rfl <| st_end <| st_seq <| sR <| sm rfl rfl <| slen rfl rfl <| sm rfl rfl <| st_end <| st_block <| ?_
   refine st_loop (X := Bool) (fun | true => [(14, .int .i64 1), (13, .int .i64 1), (0, .slice xa 1 xc), (1, .slice ya 0 yc), (5, .slice (some ⟨b1, 0, none⟩) 1 1), (6, .int .u32 0)] | false => [(14, .int .i64 0), (13, .int .i64 1), (0, .slice xa 1 xc), (1, .slice ya 0 yc), (5, .slice (some ⟨b1, 0, none⟩) 1 1), (6, .int .u32 0)]) (fun | true => [⟨b1, [.int .u32 ((u - 0 : Nat) : Int)], 224, true⟩] | false => [⟨b1, [.int .u32 0], 224, true⟩]) (fun _ _ => True) (fun | true => 0 | false => 1) false trivial (.cons rfl (.cons rfl (.cons rfl (.cons rfl (.cons rfl (.cons rfl .nil)))))) rfl ?_
   rintro (_ | _) Gx _ _
   · refine sR <| sy (yd_lss rfl rfl) rfl <| st_end <| st_seq <| st_condT rfl <| st_skipc <| st_seq <| st_block <| sR <| sm rfl rfl <| sa rfl rfl <| st_end <| st_seq <| ?_
     refine st_region <| sa rfl rfl <| st_end <| st_seq <| sR <| sm rfl rfl <| sm rfl rfl <| slen rfl rfl <| sy (yd_lss rfl rfl) rfl <| st_end <| st_condF rfl <| st_skipc <| st_region <| ?_
     refine sm rfl rfl <| sm rfl rfl <| sm rfl rfl <| sm rfl rfl <| sy (yd_ixD (z := ⟨xa, 1, xc⟩) hx1 rfl rfl (by decide) (show (0 : Int) < ((1 : Nat) : Int) by decide)) rfl <| sy (yd_ldD (i := 0) hx1 rfl Nat.zero_lt_one) rfl <| sm rfl rfl <| sm rfl rfl <| ?_
     refine sc (ch_call rfl rfl (bits_Sub32 (x := u) (y := 0) (by omega) (by omega)) rfl ?_)
     rintro _ G2 _ rfl
     refine sm rfl rfl <| sx rfl rfl rfl <| sx rfl rfl rfl <| sy (yd_ixO rfl rfl (by decide) (by decide)) rfl <| ?_
     refine sc (ch_storeN1 (cs' := [.int .u32 ((u - 0 : Nat) : Int)]) rfl rfl rfl (.hd ..) (nb rfl) rfl rfl ?_)
     refine sa rfl rfl <| st_end <| st_region <| sy (yd_add64 rfl rfl) rfl <| sm rfl rfl <| st_end <| ?_
     exact st_again true trivial (by decide) (.cons rfl (.cons rfl (.cons rfl (.cons rfl (.cons rfl (.cons rfl .nil)))))) rfl
   refine sR <| sy (yd_lss rfl rfl) rfl <| st_end <| st_seq <| st_condF rfl <| st_exit <| st_te <| st_te <| st_inBlock_eq <| sR <| sm rfl rfl <| ?_
   refine st_freeze b1 (.hd ..) (fun G1 _ hgb => ?_)
   have hd : IsD G1 ⟨some ⟨b1, 0, none⟩, ([u - 0] : List Nat).length, 1⟩ [u - 0] := .of_block (by intro d hd; first | (simp at hd; done) | (simp at hd; omega)) hgb.h rfl (Nat.le_refl _) rfl
   refine sc (ch_call rfl rfl (num_Trim hd (by simp)) rfl ?_)
   rintro _ G2 _ rfl
   refine sa rfl rfl <| st_end <| st_ret <| ?_
   have h9 := IsN.of_trim (k := 32) (hd.up (G := G2)) (by first | (simp [dv]; done) | (simp [dv]; omega))
   have e9 : dv [u - 0] = (u - 0) := by simp [dv]
   rw [e9] at h9
   exact st_done (.tmp rfl .nil) ⟨⟨some ⟨b1, 0, none⟩, (trimD [u - 0]).length, 1⟩, rfl, h9⟩
 · have hx1 := hx.small hu
   have hy1 := hy.small hw
   have hl1 : xn = 1 := hx1.len
   have hl2 : yn = 1 := hy1.len
   subst hl1 hl2
   show Fn _ _ [.slice xa 1 xc, .slice ya 1 yc] _ _
   refine Fn.intro Tryz.func173 rfl rfl Tryz.ntmps173 rfl ?_
   intro C _ _
   refine sR <| sa rfl rfl <| st_end <| sR <| sm rfl rfl <| slen rfl rfl <| ?_
   refine sc (ch_make rfl rfl (by omega) (by omega) (by omega) (by rfl) rfl ?_)
   intro b1
   refine sa rfl rfl <| st_end <| sR <| sa rfl rfl <| st_end <| st_seq <| sR <| sm rfl rfl <| slen rfl rfl <| sm rfl rfl <| st_end <| st_block <| ?_
   refine st_loop (X := Bool) (fun | true => [(14, .int .i64 1), (13, .int .i64 1), (0, .slice xa 1 xc), (1, .slice ya 1 yc), (5, .slice (some ⟨b1, 0, none⟩) 1 1), (6, .int .u32 0)] | false => [(14, .int .i64 0), (13, .int .i64 1), (0, .slice xa 1 xc), (1, .slice ya 1 yc), (5, .slice (some ⟨b1, 0, none⟩) 1 1), (6, .int .u32 0)]) (fun | true => [⟨b1, [.int .u32 ((u - w : Nat) : Int)], 224, true⟩] | false => [⟨b1, [.int .u32 0], 224, true⟩]) (fun _ _ => True) (fun | true => 0 | false => 1) false trivial (.cons rfl (.cons rfl (.cons rfl (.cons rfl (.cons rfl (.cons rfl .nil)))))) rfl ?_
   rintro (_ | _) Gx _ _
   · refine sR <| sy (yd_lss rfl rfl) rfl <| st_end <| st_seq <| st_condT rfl <| st_skipc <| st_seq <| st_block <| sR <| sm rfl rfl <| sa rfl rfl <| st_end <| st_seq <| ?_
     refine st_region <| sa rfl rfl <| st_end <| st_seq <| sR <| sm rfl rfl <| sm rfl rfl <| slen rfl rfl <| sy (yd_lss rfl rfl) rfl <| st_end <| st_condT rfl <| st_region <| sm rfl rfl <| ?_
     refine sm rfl rfl <| sy (yd_ixD (z := ⟨ya, 1, yc⟩) hy1 rfl rfl (by decide) (show (0 : Int) < ((1 : Nat) : Int) by decide)) rfl <| sy (yd_ldD (i := 0) hy1 rfl Nat.zero_lt_one) rfl <| sa rfl rfl <| st_end <| st_region <| sm rfl rfl <| sm rfl rfl <| sm rfl rfl <| sm rfl rfl <| sy (yd_ixD (z := ⟨xa, 1, xc⟩) hx1 rfl rfl (by decide) (show (0 : Int) < ((1 : Nat) : Int) by decide)) rfl <| ?_
     refine sy (yd_ldD (i := 0) hx1 rfl Nat.zero_lt_one) rfl <| sm rfl rfl <| sm rfl rfl <| ?_
     refine sc (ch_call rfl rfl (bits_Sub32 (x := u) (y := w) (by omega) (by omega)) rfl ?_)
     rintro _ G2 _ rfl
     refine sm rfl rfl <| sx rfl rfl rfl <| sx rfl rfl rfl <| sy (yd_ixO rfl rfl (by decide) (by decide)) rfl <| ?_
     refine sc (ch_storeN1 (cs' := [.int .u32 ((u - w : Nat) : Int)]) rfl rfl rfl (.hd ..) (nb rfl) rfl rfl ?_)
     refine sa rfl rfl <| st_end <| st_region <| sy (yd_add64 rfl rfl) rfl <| sm rfl rfl <| st_end <| ?_
     exact st_again true trivial (by decide) (.cons rfl (.cons rfl (.cons rfl (.cons rfl (.cons rfl (.cons rfl .nil)))))) rfl
   refine sR <| sy (yd_lss rfl rfl) rfl <| st_end <| st_seq <| st_condF rfl <| st_exit <| st_te <| st_te <| st_inBlock_eq <| sR <| sm rfl rfl <| ?_
   refine st_freeze b1 (.hd ..) (fun G1 _ hgb => ?_)
   have hd : IsD G1 ⟨some ⟨b1, 0, none⟩, ([u - w] : List Nat).length, 1⟩ [u - w] := .of_block (by intro d hd; first | (simp at hd; done) | (simp at hd; omega)) hgb.h rfl (Nat.le_refl _) rfl
   refine sc (ch_call rfl rfl (num_Trim hd (by simp)) rfl ?_)
   rintro _ G2 _ rfl
   refine sa rfl rfl <| st_end <| st_ret <| ?_
   have h9 := IsN.of_trim (k := 32) (hd.up (G := G2)) (by first | (simp [dv]; done) | (simp [dv]; omega))
   have e9 : dv [u - w] = (u - w) := by simp [dv]
   rw [e9] at h9
   exact st_done (.tmp rfl .nil) ⟨⟨some ⟨b1, 0, none⟩, (trimD [u - w]).length, 1⟩, rfl, h9⟩
end Go.Sx
end

section
set_option maxRecDepth 100000
namespace Go.Sx
open Go Go.Proofs
section
variable {P : Program} {GB : Gh} {C : Ctx} {n : Nat} {fr : FrF} {own : List OwnD} {bs : List BufD}
variable {dst : Option Nat} {t t' ty' : TypeId} {pos : String} {af : Array Edge} {gd : Option (Nat × Bool)} {x y z : Operand}
theorem yq_and32 {p q : Int} (hx : opF fr x = some (.d (.v (.int .u32 p)))) (hy : opF fr y = some (.d (.v (.int .u32 q)))) : YD P GB C fr own bs ⟨dst, .binOp .and t x y t', ty', pos, af, gd⟩ (.d (.v (.int .u32 (andN p q : Nat)))) := .of2 hx hy fun a b => yd_and32 a b
theorem yq_or32 {p q : Int} (hx : opF fr x = some (.d (.v (.int .u32 p)))) (hy : opF fr y = some (.d (.v (.int .u32 q)))) : YD P GB C fr own bs ⟨dst, .binOp .or t x y t', ty', pos, af, gd⟩ (.d (.v (.int .u32 (orN p q : Nat)))) := .of2 hx hy fun a b => yd_or32 a b
theorem yq_xor32 {p q : Int} (hx : opF fr x = some (.d (.v (.int .u32 p)))) (hy : opF fr y = some (.d (.v (.int .u32 q)))) : YD P GB C fr own bs ⟨dst, .binOp .xor t x y t', ty', pos, af, gd⟩ (.d (.v (.int .u32 (xorN p q : Nat)))) := .of2 hx hy fun a b => yd_xor32 a b
theorem yq_not32 {p : Int} (hx : opF fr x = some (.d (.v (.int .u32 p)))) : YD P GB C fr own bs ⟨dst, .unOp .xor t x, ty', pos, af, gd⟩ (.d (.v (.int .u32 (xorN IntKind.u32.max p : Nat)))) := .of1 hx fun a => yd_not32 a
theorem yq_max {k : IntKind} {t1 t2 : TypeId} {p q : Int} (hx : opF fr x = some (.d (.v (.int k p)))) (hy : opF fr y = some (.d (.v (.int k q)))) : YD P GB C fr own bs ⟨dst, .call ⟨.builtin .max, #[x, y], #[t1, t2]⟩, ty', pos, af, gd⟩ (.d (.v (.int k (if q > p then q else p)))) := .of2 hx hy fun a b => yd_maxR a b rfl
end
theorem trim_zero {ds : List Nat} {n : Nat} (h : 0 < n ∧ n ≤ ds.length) (hz : ds.getD (n - 1) 0 = 0) : trimD (ds.take n) = trimD (ds.take (n - 1)) := by
 obtain ⟨m, rfl⟩ : ∃ m, n = m + 1 := ⟨n - 1, by omega⟩
 rw [List.take_succ_eq_append_getElem (by omega), Nat.add_sub_cancel]
 rw [Nat.add_sub_cancel, List.getD_eq_getElem?_getD, List.getElem?_eq_getElem (by omega)] at hz
 simp only [Option.getD_some] at hz
 rw [hz, trimD_snoc0]
theorem trim_stop {ds : List Nat} {n : Nat} (h : n ≤ ds.length) (hz : 0 < n → ds.getD (n - 1) 0 ≠ 0) : trimD (ds.take n) = ds.take n := by
 rcases Nat.eq_zero_or_pos n with h0 | h0
 · subst h0; simp [trimD]
 · obtain ⟨m, rfl⟩ : ∃ m, n = m + 1 := ⟨n - 1, by omega⟩
   have hz := hz h0
   rw [List.take_succ_eq_append_getElem (by omega)]
   rw [Nat.add_sub_cancel, List.getD_eq_getElem?_getD, List.getElem?_eq_getElem (by omega)] at hz
   exact trimD_snoc (by simpa using hz)
theorem q_Add32 {GB : Gh} {x y c : Nat} (hx : x < 4294967296) (hy : y < 4294967296) (hc : c ≤ 1) : PF GB Tryz.prog 209 [.v (.int .u32 (x : Int)), .v (.int .u32 (y : Int)), .v (.int .u32 (c : Int))] (.tp [.v (.int .u32 (((x + y + c) % 4294967296 : Nat) : Int)), .v (.int .u32 (((x + y + c) / 4294967296 : Nat) : Int))]) := by
 refine PF.intro Tryz.func209 rfl rfl Tryz.ntmps209 rfl ?_
 intro C
 refine qR <| tA rfl rfl <| tA rfl rfl <| sd_end <| qR <| tM rfl rfl <| tY (yq_toU64 rfl) rfl <| ?_
 refine tM rfl rfl <| tY (yq_toU64 rfl) rfl <| tY (yq_addU rfl rfl) rfl <| tM rfl rfl <| tY (yq_toU64 rfl) rfl <| ?_
 refine tY (yq_addU rfl rfl) rfl <| tA rfl rfl <| sd_end <| qR <| tM rfl rfl <| tY (yq_toU32 rfl) rfl <| tA rfl rfl <| ?_
 refine sd_end <| qR <| tM rfl rfl <| tY (yq_shr rfl rfl (by decide)) rfl <| tY (yq_toU32 rfl) rfl <| tA rfl rfl <| sd_end <| sd_ret <| ?_
 exact sd_done (.tmp rfl (.tmp rfl .nil)) (by
  have e1 : ((x : Int) + y + c) % 4294967296 = (((x + y + c) % 4294967296 : Nat) : Int) := by omega
  have e2 : ((x : Int) + y + c).fdiv (2 ^ min (32 : Int).toNat IntKind.u64.bits) % 4294967296 = (((x + y + c) / 4294967296 : Nat) : Int) := by
   rw [show (2 : Int) ^ min (32 : Int).toNat IntKind.u64.bits = ((4294967296 : Nat) : Int) from rfl, Int.fdiv_eq_ediv_of_nonneg _ (by decide)]
   omega
  show DV.tp [.v (.int _ _), .v (.int _ _)] = _
  rw [e1, e2])
theorem msb_ofInt (n : Nat) (h : n < 4294967296) : (BitVec.ofInt 32 (n : Int)).msb = decide (2147483648 ≤ n) := by
 rw [show BitVec.ofInt 32 (n : Int) = BitVec.ofNat 32 n from BitVec.ofInt_natCast ..]
 rw [BitVec.msb_eq_decide, BitVec.toNat_ofNat, Nat.mod_eq_of_lt (by simpa using h)]
theorem toNat_msb (b : BitVec 32) : b.toNat / 2147483648 = if b.msb then 1 else 0 := by
 have := b.isLt
 rw [BitVec.msb_eq_decide]
 simp only [decide_eq_true_eq, Nat.reduceSub, Nat.reducePow] at *
 split <;> omega
theorem bv_toNat_ofInt (b : BitVec 32) : BitVec.ofInt 32 (b.toNat : Int) = b := by rw [BitVec.ofInt_natCast, BitVec.ofNat_toNat, BitVec.setWidth_eq]
theorem sub_borrow {x y c : Nat} (hx : x < 4294967296) (hy : y < 4294967296) (hc : c ≤ 1) :
  ((orN (andN (xorN IntKind.u32.max x : Nat) y : Nat) (andN (xorN IntKind.u32.max (xorN x y : Nat) : Nat) (IntKind.u32.wrap (IntKind.u32.wrap ((x : Int) - y) - c)) : Nat) : Nat) : Int).fdiv (2 ^ min (31 : Int).toNat IntKind.u32.bits) = (((if x < y + c then 1 else 0) : Nat) : Int) := by
 rw [show ((2 : Int) ^ min (31 : Int).toNat IntKind.u32.bits) = ((2147483648 : Nat) : Int) from rfl, Int.fdiv_eq_ediv_of_nonneg _ (by decide), ← Int.natCast_ediv]
 congr 1
 have hd : ∃ d : Nat, d < 4294967296 ∧ IntKind.u32.wrap (IntKind.u32.wrap ((x : Int) - y) - c) = (d : Int) ∧ ((x ≥ y + c ∧ d = x - (y + c)) ∨ (x < y + c ∧ d = x + 4294967296 - (y + c))) := by
  rw [wrap_u32, wrap_u32]
  refine ⟨((((x : Int) - y) % 4294967296 - c) % 4294967296).toNat, by omega, by omega, by omega⟩
 obtain ⟨d, hd1, hd2, hd3⟩ := hd
 rw [hd2]
 unfold orN andN xorN
 simp only [bv_toNat_ofInt]
 rw [toNat_msb]
 simp only [BitVec.msb_or, BitVec.msb_and, BitVec.msb_xor, msb_ofInt x hx, msb_ofInt y hy, msb_ofInt d hd1]
 have h1 : (BitVec.ofInt 32 IntKind.u32.max).msb = true := by decide
 rw [h1]
 rcases Nat.lt_or_ge x 2147483648 with a | a <;> rcases Nat.lt_or_ge y 2147483648 with b | b <;> rcases Nat.lt_or_ge d 2147483648 with e | e <;>
  simp [Nat.not_le.2, *] <;> (first | omega | (split <;> omega))
theorem sub_diff {x y c : Nat} (hx : x < 4294967296) (hy : y < 4294967296) (hc : c ≤ 1) : IntKind.u32.wrap (IntKind.u32.wrap ((x : Int) - y) - c) = (((if x < y + c then x + 4294967296 - (y + c) else x - (y + c)) : Nat) : Int) := by
 rw [wrap_u32, wrap_u32]
 split <;> omega
theorem q_Sub32 {GB : Gh} {x y c : Nat} (hx : x < 4294967296) (hy : y < 4294967296) (hc : c ≤ 1) : PF GB Tryz.prog 210 [.v (.int .u32 (x : Int)), .v (.int .u32 (y : Int)), .v (.int .u32 (c : Int))] (.tp [.v (.int .u32 (((if x < y + c then x + 4294967296 - (y + c) else x - (y + c)) : Nat) : Int)), .v (.int .u32 (((if x < y + c then 1 else 0) : Nat) : Int))]) := by
 refine PF.intro Tryz.func210 rfl rfl Tryz.ntmps210 rfl ?_
 intro C
 refine qR <| tA rfl rfl <| tA rfl rfl <| sd_end <| qR <| tM rfl rfl <| tM rfl rfl <| tY (yq_subw rfl rfl) rfl <| ?_
 refine tM rfl rfl <| tY (yq_subw rfl rfl) rfl <| tA rfl rfl <| sd_end <| qR <| tM rfl rfl <| tY (yq_not32 rfl) rfl <| tM rfl rfl <| ?_
 refine tY (yq_and32 rfl rfl) rfl <| tM rfl rfl <| tM rfl rfl <| tY (yq_xor32 rfl rfl) rfl <| tY (yq_not32 rfl) rfl <| tM rfl rfl <| tY (yq_and32 rfl rfl) rfl <| ?_
 refine tY (yq_or32 rfl rfl) rfl <| tY (yq_shr rfl rfl (by decide)) rfl <| tA rfl rfl <| sd_end <| sd_ret <| ?_
 exact sd_done (.tmp rfl (.tmp rfl .nil)) (by
  show DV.tp [_, _] = _
  rw [sub_borrow hx hy hc, sub_diff hx hy hc])
theorem q_Trim {GB : Gh} {ds : List Nat} (hl : ds.length ≤ 1125899906842624) : PF GB Tryz.prog 138 [dLi ds] (dLi (trimD ds)) := by
 refine PF.intro Tryz.func138 rfl rfl Tryz.ntmps138 rfl ?_
 intro C
 refine qR <| tA rfl rfl <| sd_end <| qR <| tM rfl rfl <| tY (yq_len rfl) rfl <| tA rfl rfl <| sd_end <| sd_seq <| ?_
 refine sd_block <| ?_
 refine sd_loop (X := Nat) (fun x => [(0, .d (dLi ds)), (3, .d (vI (x : Nat)))]) (fun x => []) (fun x => []) (fun x => x ≤ ds.length ∧ trimD ds = trimD (ds.take x)) (fun x => x) ds.length ⟨Nat.le_refl _, by rw [List.take_length]⟩ (by repeat (first | exact .nil | refine .cons rfl ?_ | refine .cons' rfl (by first | (simp [vI]; done) | (congr 3; omega) | (simp [vI]; omega)) ?_)) rfl rfl ?_
 rintro GB1 hGB1 n ⟨h1, h2⟩
 try dsimp only at *
 refine sd_seq <| qR <| tM rfl rfl <| tY (yq_gtr rfl rfl) rfl <| tM rfl rfl <| ?_
 refine sd_caseP 8 rfl (fun hg8 => ?_) (fun hg8 => ?_)
 ·
  refine tYg rfl rfl (yq_move rfl) rfl <| tYg rfl rfl (yq_move rfl) rfl <| tYg rfl rfl (yq_sub64 rfl rfl) rfl <| tYg rfl rfl (yq_ix rfl rfl (by omega) (mapU_getZ (k := n - 1) (by omega) (by omega)) rfl rfl) rfl <| ?_
  refine tYg rfl rfl (yq_ldE1 rfl rfl) rfl <| tYg rfl rfl (yq_eql rfl rfl) rfl <| tY (yq_pickT rfl rfl) rfl <| sd_end <| ?_
  refine sd_condP rfl (fun hc15 => ?_) (fun hc15 => ?_)
  ·
   have hz : ds.getD (n - 1) 0 = 0 := by omega
   refine sd_skipc <| sd_block <| sd_region <| tM rfl rfl <| tY (yq_sub64 rfl rfl) rfl <| tA rfl rfl <| sd_end <| ?_
   exact sd_again (n - 1) ⟨by omega, by rw [h2, trim_zero (by omega) hz]⟩ (by omega) (by repeat (first | exact .nil | refine .cons rfl ?_ | refine .cons' rfl (by first | (simp [vI]; done) | (congr 3; omega) | (simp [vI]; omega)) ?_)) rfl rfl
  ·
   refine sd_exit <| sd_ts <| sd_te <| sd_inBlock_eq <| qR <| tM rfl rfl <| tM rfl rfl <| tY (yq_slice (nlo := 0) (nhi := n) rfl (slOkU _) rfl rfl trivial (by omega) (by simp; omega)) rfl <| ?_
   refine tA rfl rfl <| sd_end <| sd_ret <| ?_
   exact sd_done (.tmp rfl .nil) (by have := trim_stop h1 (fun _ h => hc15 (by omega)); rw [← h2] at this; show DV.sl _ = _; simp [dLi, this])
 refine tS rfl rfl rfl rfl <| tS rfl rfl rfl rfl <| tS rfl rfl rfl rfl <| tS rfl rfl rfl rfl <| tS rfl rfl rfl rfl <| tS rfl rfl rfl rfl <| tY (yq_pickF rfl rfl) rfl <| sd_end <| sd_condF rfl <| ?_
 refine sd_exit <| sd_ts <| sd_te <| sd_inBlock_eq <| qR <| tM rfl rfl <| tM rfl rfl <| tY (yq_slice (nlo := 0) (nhi := n) rfl (slOkU _) rfl rfl trivial (by omega) (by simp; omega)) rfl <| ?_
 refine tA rfl rfl <| sd_end <| sd_ret <| ?_
 exact sd_done (.tmp rfl .nil) (by obtain rfl : n = 0 := (by omega); show DV.sl _ = _; simp [dLi, h2, trimD])
end Go.Sx
end

section
set_option maxRecDepth 100000
namespace Go.Sx
open Go Go.Proofs
theorem num_sign {G : Gh} {n : Int} : Fn Tryz.prog 122 [.int .i64 n] G (fun v _ => v = .int .i64 (Int.sign n)) := by
 refine Fn.intro Tryz.func122 rfl rfl Tryz.ntmps122 rfl ?_
 intro C _ _
 refine sR <| sa rfl rfl <| st_end <| st_seq <| sR <| sm rfl rfl <| sy (yd_gtr rfl rfl) rfl <| st_end <| ?_
 refine st_condP rfl (fun hc => ?_) (fun hc => ?_) -- slot 4
 · -- yes
   refine sR <| sa rfl rfl <| st_end <| st_ret <| ?_
   exact st_done (.tmp rfl .nil) (by rw [Int.sign_eq_one_of_pos hc]; rfl)
 refine st_skipc <| st_seq <| sR <| sm rfl rfl <| sy (yd_lss rfl rfl) rfl <| st_end <| ?_
 refine st_condP rfl (fun hc2 => ?_) (fun hc2 => ?_) -- slot 6
 · -- yes
   refine sR <| sa rfl rfl <| st_end <| st_ret <| ?_
   exact st_done (.tmp rfl .nil) (by rw [Int.sign_eq_neg_one_of_neg hc2]; rfl)
 refine st_skipc <| sR <| sa rfl rfl <| st_end <| st_ret <| ?_
 exact st_done (.tmp rfl .nil) (by rw [show n = 0 by omega]; rfl)
theorem num_Cmp {A B G : Gh} {x y : SV} {u w : Nat} (hx : IsN 32 A x u) (hy : IsN 32 B y w) [GL A G] [GL B G] : Fn Tryz.prog 74 [.slice x.a x.n x.c, .slice y.a y.n y.c] G (fun v _ => ∃ r : Int, v = .int .i64 r ∧ (r < 0 ↔ u < w)) := by
 obtain ⟨xa, xn, xc⟩ := x
 obtain ⟨ya, yn, yc⟩ := y
 by_cases hu : u = 0 <;> by_cases hw : w = 0
 · subst hu
   subst hw
   have hx1 := hx.zero
   have hy1 := hy.zero
   have hl1 : xn = 0 := hx1.len
   have hl2 : yn = 0 := hy1.len
   subst hl1 hl2
   show Fn _ _ [.slice xa 0 xc, .slice ya 0 yc] _ _
   refine Fn.intro Tryz.func74 rfl rfl Tryz.ntmps74 rfl ?_
   intro C _ _
   refine sR <| sa rfl rfl <| st_end <| st_seq <| sR <| sm rfl rfl <| slen rfl rfl <| sm rfl rfl <| slen rfl rfl <| sy (yd_neq rfl rfl) rfl <| st_end <| st_condF rfl <| ?_
   refine st_skipc <| st_seq <| sR <| sm rfl rfl <| slen rfl rfl <| sy (yd_sub64 rfl rfl) rfl <| sa rfl rfl <| st_end <| st_block <| ?_
   refine st_loop (X := Unit) (fun _ => [(5, .int .i64 (-1)), (0, .slice xa 0 xc), (1, .slice ya 0 yc)]) (fun _ => []) (fun _ _ => True) (fun _ => 0) () trivial (.cons rfl (.cons rfl (.cons rfl .nil))) rfl ?_
   rintro _ Gx _ _
   refine st_seq <| sR <| sm rfl rfl <| sy (yd_geq rfl rfl) rfl <| st_end <| st_condF rfl <| st_exit <| st_te <| st_te <| st_inBlock_eq <| sR <| sa rfl rfl <| st_end <| st_ret <| ?_
   exact st_done (.tmp rfl .nil) ⟨0, rfl, by omega⟩
 · subst hu
   have hy1 := hy.small hw
   have hx1 := hx.zero
   have hl1 : xn = 0 := hx1.len
   have hl2 : yn = 1 := hy1.len
   subst hl1 hl2
   show Fn _ _ [.slice xa 0 xc, .slice ya 1 yc] _ _
   refine Fn.intro Tryz.func74 rfl rfl Tryz.ntmps74 rfl ?_
   intro C _ _
   refine sR <| sa rfl rfl <| st_end <| st_seq <| sR <| sm rfl rfl <| slen rfl rfl <| sm rfl rfl <| slen rfl rfl <| sy (yd_neq rfl rfl) rfl <| st_end <| st_condT rfl <| ?_
   refine sR <| sm rfl rfl <| slen rfl rfl <| sm rfl rfl <| slen rfl rfl <| sy (yd_sub64 rfl rfl) rfl <| ?_
   refine sc (ch_call rfl rfl num_sign rfl ?_)
   rintro _ G1 _ rfl
   refine sa rfl rfl <| st_end <| st_ret <| ?_
   exact st_done (.tmp rfl .nil) ⟨_, rfl, by show (-1 : Int) < 0 ↔ _; omega⟩
 · have hx1 := hx.small hu
   subst hw
   have hy1 := hy.zero
   have hl1 : xn = 1 := hx1.len
   have hl2 : yn = 0 := hy1.len
   subst hl1 hl2
   show Fn _ _ [.slice xa 1 xc, .slice ya 0 yc] _ _
   refine Fn.intro Tryz.func74 rfl rfl Tryz.ntmps74 rfl ?_
   intro C _ _
   refine sR <| sa rfl rfl <| st_end <| st_seq <| sR <| sm rfl rfl <| slen rfl rfl <| sm rfl rfl <| slen rfl rfl <| sy (yd_neq rfl rfl) rfl <| st_end <| st_condT rfl <| ?_
   refine sR <| sm rfl rfl <| slen rfl rfl <| sm rfl rfl <| slen rfl rfl <| sy (yd_sub64 rfl rfl) rfl <| ?_
   refine sc (ch_call rfl rfl num_sign rfl ?_)
   rintro _ G1 _ rfl
   refine sa rfl rfl <| st_end <| st_ret <| ?_
   exact st_done (.tmp rfl .nil) ⟨_, rfl, by show (1 : Int) < 0 ↔ _; omega⟩
 · have hx1 := hx.small hu
   have hy1 := hy.small hw
   have hl1 : xn = 1 := hx1.len
   have hl2 : yn = 1 := hy1.len
   subst hl1 hl2
   show Fn _ _ [.slice xa 1 xc, .slice ya 1 yc] _ _
   refine Fn.intro Tryz.func74 rfl rfl Tryz.ntmps74 rfl ?_
   intro C _ _
   refine sR <| sa rfl rfl <| st_end <| st_seq <| sR <| sm rfl rfl <| slen rfl rfl <| sm rfl rfl <| slen rfl rfl <| sy (yd_neq rfl rfl) rfl <| st_end <| st_condF rfl <| ?_
   refine st_skipc <| st_seq <| sR <| sm rfl rfl <| slen rfl rfl <| sy (yd_sub64 rfl rfl) rfl <| sa rfl rfl <| st_end <| st_block <| ?_
   refine st_loop (X := Bool) (fun | true => [(5, .int .i64 (-1)), (0, .slice xa 1 xc), (1, .slice ya 1 yc)] | false => [(5, .int .i64 0), (0, .slice xa 1 xc), (1, .slice ya 1 yc)]) (fun _ => []) (fun q _ => q = true → u = w) (fun | true => 0 | false => 1) false (fun h => by cases h) (.cons rfl (.cons rfl (.cons rfl .nil))) rfl ?_
   rintro (_ | _) Gx _ hI
   · refine st_seq <| sR <| sm rfl rfl <| sy (yd_geq rfl rfl) rfl <| st_end <| st_condT rfl <| st_skipc <| st_seq <| st_block <| st_seq <| st_seq <| dr (fun _ => false) [(0, true), (1, true), (2, true), (3, true), (4, true), (5, true), (6, true), (7, true), (8, true)] follows (by kernel_rfl) <| ?_
     refine dM rfl rfl rfl <| dM rfl rfl rfl <| dy rfl (fun _ => yd_ixD (z := ⟨xa, 1, xc⟩) hx1 rfl rfl (by decide) (show (0 : Int) < ((1 : Nat) : Int) by decide)) rfl rfl <| dy rfl (fun _ => yd_ldD (i := 0) hx1 rfl Nat.zero_lt_one) rfl rfl <| dM rfl rfl rfl <| dM rfl rfl rfl <| dy rfl (fun _ => yd_ixD (z := ⟨ya, 1, yc⟩) hy1 rfl rfl (by decide) (show (0 : Int) < ((1 : Nat) : Int) by decide)) rfl rfl <| dy rfl (fun _ => yd_ldD (i := 0) hy1 rfl Nat.zero_lt_one) rfl rfl <| dy rfl (fun _ => yd_gtr rfl rfl) rfl rfl <| dn <| ?_
     refine st_condP rfl (fun hc => ?_) (fun hc => ?_)
     · refine sR <| sa rfl rfl <| st_end <| st_ret <| ?_
       have hc' : (w : Int) < (u : Int) := hc
       exact st_done (.tmp rfl .nil) ⟨1, rfl, by omega⟩
     refine st_skipc <| st_seq <| dr (fun _ => false) [(0, true), (1, true), (2, true), (3, true), (4, true), (5, true), (6, true), (7, true), (8, true)] follows (by kernel_rfl) <| ?_
     refine dM rfl rfl rfl <| dM rfl rfl rfl <| dy rfl (fun _ => yd_ixD (z := ⟨xa, 1, xc⟩) hx1 rfl rfl (by decide) (show (0 : Int) < ((1 : Nat) : Int) by decide)) rfl rfl <| dy rfl (fun _ => yd_ldD (i := 0) hx1 rfl Nat.zero_lt_one) rfl rfl <| dM rfl rfl rfl <| dM rfl rfl rfl <| dy rfl (fun _ => yd_ixD (z := ⟨ya, 1, yc⟩) hy1 rfl rfl (by decide) (show (0 : Int) < ((1 : Nat) : Int) by decide)) rfl rfl <| dy rfl (fun _ => yd_ldD (i := 0) hy1 rfl Nat.zero_lt_one) rfl rfl <| dy rfl (fun _ => yd_lss rfl rfl) rfl rfl <| dn <| ?_
     refine st_condP rfl (fun hc2 => ?_) (fun hc2 => ?_)
     · refine sR <| sa rfl rfl <| st_end <| st_ret <| ?_
       have hc' : (u : Int) < (w : Int) := hc2
       exact st_done (.tmp rfl .nil) ⟨-1, rfl, by omega⟩
     refine st_skipc <| st_region <| sm rfl rfl <| sy (yd_sub64 rfl rfl) rfl <| sa rfl rfl <| st_end <| ?_
     have h1 : ¬ (w : Int) < (u : Int) := hc
     have h2 : ¬ (u : Int) < (w : Int) := hc2
     have h3 : u = w := by omega
     exact st_again true (fun _ => h3) (by decide) (.cons rfl (.cons rfl (.cons rfl .nil))) rfl
   refine st_seq <| sR <| sm rfl rfl <| sy (yd_geq rfl rfl) rfl <| st_end <| st_condF rfl <| st_exit <| st_te <| st_te <| st_inBlock_eq <| sR <| sa rfl rfl <| st_end <| st_ret <| ?_
   have h3 := hI rfl
   exact st_done (.tmp rfl .nil) ⟨0, rfl, by omega⟩
theorem num_word {A G : Gh} {x : SV} {u : Nat} (hx : IsN 32 A x u) [GL A G] : Fn Tryz.prog 120 [.slice x.a x.n x.c] G (fun v _ => v = .tuple #[.int .u64 (u : Int), .bool true]) := by
 have hlt : u < 4294967296 := hx.lt
 obtain ⟨xa, xn, xc⟩ := x
 by_cases hu : u = 0
 · subst hu
   have hx1 := hx.zero
   have hl1 : xn = 0 := hx1.len
   subst hl1
   show Fn _ _ [.slice xa 0 xc] _ _
   refine Fn.intro Tryz.func120 rfl rfl Tryz.ntmps120 rfl ?_
   intro C _ _
   refine sR <| sa rfl rfl <| sa rfl rfl <| st_end <| st_seq <| sR <| sm rfl rfl <| slen rfl rfl <| st_end <| st_block <| sR <| sy (yd_eql rfl rfl) rfl <| ?_
   refine sa rfl rfl <| st_end <| st_condT rfl <| sR <| sa rfl rfl <| sa rfl rfl <| st_end <| st_ret <| ?_
   exact st_done (.tmp rfl (.tmp rfl .nil)) rfl
 have hx1 := hx.small hu
 have hl1 : xn = 1 := hx1.len
 subst hl1
 show Fn _ _ [.slice xa 1 xc] _ _
 refine Fn.intro Tryz.func120 rfl rfl Tryz.ntmps120 rfl ?_
 intro C _ _
 refine sR <| sa rfl rfl <| sa rfl rfl <| st_end <| st_seq <| sR <| sm rfl rfl <| slen rfl rfl <| st_end <| st_block <| sR <| sy (yd_eql rfl rfl) rfl <| ?_
 refine sa rfl rfl <| st_end <| st_condF rfl <| sR <| sy (yd_eql rfl rfl) rfl <| sa rfl rfl <| st_end <| st_condT rfl <| sR <| sm rfl rfl <| sy (yd_ixD (z := ⟨xa, 1, xc⟩) hx1 rfl rfl (by decide) (show (0 : Int) < ((1 : Nat) : Int) by decide)) rfl <| ?_
 refine sy (yd_ldD (i := 0) hx1 rfl Nat.zero_lt_one) rfl <| sy (yd_toU64 (p := (u : Int)) rfl (by omega) (by omega)) rfl <| sa rfl rfl <| sa rfl rfl <| st_end <| st_ret <| ?_
 exact st_done (.tmp rfl (.tmp rfl .nil)) rfl
theorem num_Divide {A B G : Gh} {x y : SV} {u w : Nat} (hx : IsN 32 A x u) (hy : IsN 32 B y w) [GL A G] [GL B G] (hw : w ≠ 0) : Fn Tryz.prog 121 [.slice x.a x.n x.c, .slice y.a y.n y.c] G (fun v G' => ∃ z z2 : SV, v = .tuple #[.slice z.a z.n z.c, .slice z2.a z2.n z2.c] ∧ IsN 32 G' z (u / w)) := by
 have h1 : u < 4294967296 := hx.lt
 have h2 : w < 4294967296 := hy.lt
 have h3 : u / w ≤ u := Nat.div_le_self _ _
 have h4 : u % w ≤ u := Nat.mod_le _ _
 have e1 : IntKind.u64.wrap ((u : Int).tdiv (w : Int)) = ((u / w : Nat) : Int) := by
  rw [show (u : Int).tdiv (w : Int) = ((u / w : Nat) : Int) from rfl, wrap_u64]
  generalize u / w = d at h3
  omega
 have e2 : (u : Int).tmod (w : Int) = ((u % w : Nat) : Int) := rfl
 refine Fn.intro Tryz.func121 rfl rfl Tryz.ntmps121 rfl ?_
 intro C _ _
 refine sR <| sa rfl rfl <| sa rfl rfl <| st_end <| st_seq <| sR <| sm rfl rfl <| ?_
 refine sc (ch_call rfl rfl (num_word hx) rfl ?_)
 rintro _ G1 _ rfl
 refine sm rfl rfl <| sx rfl rfl rfl <| sx rfl rfl rfl <| sa rfl rfl <| sa rfl rfl <| st_end <| sR <| sm rfl rfl <| st_end <| st_condT rfl <| sR <| sm rfl rfl <| ?_
 refine sc (ch_call rfl rfl (num_word hy) rfl ?_)
 rintro _ G2 _ rfl
 refine sm rfl rfl <| sx rfl rfl rfl <| sx rfl rfl rfl <| sa rfl rfl <| sa rfl rfl <| st_end <| sR <| sm rfl rfl <| st_end <| st_condT rfl <| st_seq <| dr (fun _ => false) [(0, true), (1, true), (2, true), (4, true), (5, true), (6, true), (3, false), (7, false), (8, true), (9, true)] follows (by kernel_rfl) <| ?_
 refine dM rfl rfl rfl <| dM rfl rfl rfl <| dy rfl (fun _ => yd_quow rfl rfl (by omega)) rfl rfl <| dM rfl rfl rfl <| dM rfl rfl rfl <| ?_
 refine dy rfl (fun _ => yd_rem rfl rfl (by omega)) rfl rfl <| ?_
 rw [e1, e2]
 refine dc rfl rfl (ch_call rfl rfl (num_Word (u := u / w) (by omega)) rfl ?_)
 rintro _ G3 _ ⟨z, rfl, hz⟩
 refine dr_s <| ?_
 refine dc rfl rfl (ch_call rfl rfl (num_Word (u := u % w) (by omega)) rfl ?_)
 rintro _ G4 _ ⟨z2, rfl, hz2⟩
 refine dr_s <| dA rfl rfl rfl <| dA rfl rfl rfl <| dn <| st_ret <| ?_
 exact st_done (.tmp rfl (.tmp rfl .nil)) ⟨z, z2, rfl, (hz.mono (k' := 32) (by omega)).up⟩
theorem num_Common {A B G : Gh} {x y : SV} {u w : Nat} (hx : IsN 32 A x u) (hy : IsN 32 B y w) [GL A G] [GL B G] : Fn Tryz.prog 73 [.slice x.a x.n x.c, .slice y.a y.n y.c] G (fun v G' => ∃ z : SV, v = .slice z.a z.n z.c ∧ IsN 32 G' z (Nat.gcd u w)) := by
 have h1 : u < 4294967296 := hx.lt
 have h2 : w < 4294967296 := hy.lt
 have hg := gcd_lt h1 h2
 refine Fn.intro Tryz.func73 rfl rfl Tryz.ntmps73 rfl ?_
 intro C _ _
 refine sR <| sa rfl rfl <| st_end <| st_seq <| sR <| sm rfl rfl <| ?_
 refine sc (ch_call rfl rfl (num_word hx) rfl ?_)
 rintro _ G1 _ rfl
 refine sm rfl rfl <| sx rfl rfl rfl <| sx rfl rfl rfl <| sa rfl rfl <| sa rfl rfl <| st_end <| sR <| sm rfl rfl <| st_end <| st_condT rfl <| sR <| sm rfl rfl <| ?_
 refine sc (ch_call rfl rfl (num_word hy) rfl ?_)
 rintro _ G2 _ rfl
 refine sm rfl rfl <| sx rfl rfl rfl <| sx rfl rfl rfl <| sa rfl rfl <| sa rfl rfl <| st_end <| sR <| sm rfl rfl <| st_end <| st_condT rfl <| st_seq <| st_block <| ?_
 refine st_loop (X := Nat × Nat) (fun q => [(7, .int .u64 (q.2 : Nat)), (5, .int .u64 (q.1 : Nat))]) (fun _ => []) (fun q _ => q.1 < 4294967296 ∧ q.2 < 4294967296 ∧ Nat.gcd q.1 q.2 = Nat.gcd u w) (fun q => q.2) (u, w) ⟨h1, h2, rfl⟩ (.cons rfl (.cons rfl .nil)) rfl ?_
 rintro q Gx _ ⟨hq1, hq2, hq⟩
 refine st_seq <| sR <| sm rfl rfl <| sy (yd_gtr rfl rfl) rfl <| st_end <| ?_
 refine st_condE rfl (fun hc => ?_) (fun hc => ?_) -- slot 24
 · -- no
   refine st_exit <| st_te <| st_te <| st_inBlock_eq <| sR <| sm rfl rfl <| ?_
   refine sc (ch_call rfl rfl (num_Word (u := q.1) (by omega)) rfl ?_)
   rintro _ G3 _ ⟨z, rfl, hz⟩
   refine sa rfl rfl <| st_end <| st_ret <| ?_
   have h0 : q.2 = 0 := by omega
   rw [h0, Nat.gcd_zero_right] at hq
   exact st_done (.tmp rfl .nil) ⟨z, rfl, by rw [← hq]; exact hz.mono (by omega)⟩
 refine st_skipc <| st_block <| dr (fun _ => false) [(0, true), (1, true), (2, true), (3, true), (4, true), (5, true)] follows (by kernel_rfl) <| dM rfl rfl rfl <| dM rfl rfl rfl <| ?_
 refine dM rfl rfl rfl <| dy rfl (fun _ => yd_rem rfl rfl (by omega)) rfl rfl <| dA rfl rfl rfl <| dA rfl rfl rfl <| dn <| ?_
 have hpos : 0 < q.2 := by omega
 have hlt := Nat.mod_lt q.1 hpos
 exact st_again (q.2, q.1 % q.2) ⟨hq2, by show q.1 % q.2 < _; omega, by rw [← hq]; show Nat.gcd q.2 (q.1 % q.2) = _; rw [Nat.gcd_comm, ← Nat.gcd_rec, Nat.gcd_comm]⟩ hlt (.cons rfl (.cons rfl .nil)) rfl
end Go.Sx
end
