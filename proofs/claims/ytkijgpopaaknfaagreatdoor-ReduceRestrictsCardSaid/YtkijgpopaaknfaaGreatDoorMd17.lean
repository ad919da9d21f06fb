/-
  Package geo: LinesOf, Canon; package reduce: Restrict. Reference: the arithmetic of fractions in plain Lean. Reference: integers and fractions of any size. Reference: fractions of any size. What the reference computes of lines and points. Reference: whole numbers as fractions, lines reversed, rows of lines; what is the same. Reference: points and lines of any size; spans. Reference: directions by angle; spans; the edge of a side. Reference: points with integer coordinates, lines through them. Reference: what is drawn from the tape: numbers, points, lines, trees.
-/
import Derived.Test.YtkijgpopaaknfaaGreatDoorMd16
set_option linter.unusedSimpArgs false
set_option linter.unusedVariables false
section
set_option maxRecDepth 100000
namespace Go.Sx
open Go Go.Proofs
structure LI where
 a : IV
 b : IV
 c : IV
def LI.val (z : LI) : Value := .agg ⟨[.bool z.a.neg, .slice z.a.a.a z.a.a.n z.a.a.c, .bool z.b.neg, .slice z.b.a.a z.b.a.n z.b.a.c, .bool z.c.neg, .slice z.c.a.a z.c.a.n z.c.a.c]⟩
structure IsLI (k : Nat) (G : Gh) (z : LI) (l : LnQ) : Prop where
 a : IsI k G z.a l.a
 b : IsI k G z.b l.b
 c : IsI k G z.c l.c
structure IsLIs (k : Nat) (G : Gh) (x : SV) (ls : List LnQ) : Prop where
 ex : ∃ zs : List LI, IsSl G 6 x (zs.map LI.val) ∧ All2 (IsLI k G) zs ls
theorem IsLIs.len {k : Nat} {G : Gh} {x : SV} {ls : List LnQ} (h : IsLIs k G x ls) : x.n = ls.length := by
 obtain ⟨zs, h1, h2⟩ := h.ex
 rw [h1.len, List.length_map, h2.len]
structure IsLns (k : Nat) (G : Gh) (x : SV) (ls : List LnQ) : Prop where
 ex : ∃ zs : List LV, IsSl G 9 x (zs.map LV.v) ∧ All2 (IsL k G) zs ls
theorem IsLns.len {k : Nat} {G : Gh} {x : SV} {ls : List LnQ} (h : IsLns k G x ls) : x.n = ls.length := by
 obtain ⟨zs, h1, h2⟩ := h.ex
 rw [h1.len, List.length_map, h2.len]
theorem LV.len9 (zs : List LV) : ∀ v ∈ zs.map LV.v, (cellsL v).length = 9 := fun v hv => by
 obtain ⟨f, _, rfl⟩ := List.mem_map.1 hv; rfl
theorem LV.flat (zs : List LV) : ∀ v ∈ zs.map LV.v, ∀ c ∈ cellsL v, Sx.flat c = true := fun v hv c hc => by
 obtain ⟨f, _, rfl⟩ := List.mem_map.1 hv
 simp only [LV.v, cellsL, List.mem_cons, List.not_mem_nil, or_false] at hc
 rcases hc with rfl | rfl | rfl | rfl | rfl | rfl | rfl | rfl | rfl <;> rfl
theorem LV.flat1 (z : LV) : ∀ c ∈ cellsL z.v, Sx.flat c = true := LV.flat [z] _ List.mem_cons_self
set_option maxHeartbeats 1000000 in
theorem geo_LinesOf {k : Nat} (hk1 : 1 ≤ k) (hk : k ≤ 100000000) {A G : Gh} {x : SV} {ls : List LnQ} (hx : IsLIs k A x ls) [GL A G] (hok : ∀ l ∈ ls, l.ok) (hn : ls.length ≤ 1024) :
   Fn Tryz.prog 64 [.agg ⟨[.slice x.a x.n x.c]⟩] G (fun v G' => ∃ y : SV, v = .tuple #[.slice y.a y.n y.c, .bool true] ∧ IsLns k G' y ls) := by
 have hlen := hx.len
 obtain ⟨fs, hs, hfs⟩ := hx.ex
 obtain ⟨xa, xn, xc⟩ := x
 simp only [] at hlen
 subst hlen
 show Fn _ _ [.agg ⟨[.slice xa ls.length xc]⟩] _ _
 refine Fn.intro Tryz.func64 rfl rfl Tryz.ntmps64 rfl ?_
 intro C _ hC
 refine sR <| ?_
 refine sc (ch_box rfl rfl ?_)
 intro b1
 refine sa rfl rfl <| sa rfl rfl <| zE <| st_seq <| sR <| sf rfl rfl <| slo1 rfl rfl rfl <| slen rfl rfl <| sy (yd_gtr rfl rfl) rfl <| zE <| ?_
 refine st_condP rfl (fun hc => absurd hc (by omega)) (fun _ => ?_)
 refine zK <| sR <| sa rfl rfl <| zE <| st_seq <| sR <| sf rfl rfl <| slo1 rfl rfl rfl <| slen rfl rfl <| sm rfl rfl <| zE <| ?_
 refine st_drop [] (List.nil_sublist _) ?_
 refine st_block <| ?_
 refine st_loop (X := Nat × SV × List LV × List Own) (fun q => [(16, .int .i64 q.1), (15, .int .i64 ls.length), (14, .slice xa ls.length xc), (4, .slice q.2.1.a q.2.1.n q.2.1.c)])
   (fun q => q.2.2.2)
   (fun q G' => q.1 ≤ ls.length ∧ q.2.2.1.length = q.1 ∧ Buf 9 105 q.2.1 (q.2.2.1.map LV.v) q.2.2.2 ∧ All2 (IsL k G') q.2.2.1 (ls.take q.1)) (fun q => ls.length - q.1) (0, ⟨none, 0, 0⟩, [], []) ⟨Nat.zero_le _, rfl, Buf.nil .., .nil⟩ (.cons rfl (.cons rfl (.cons rfl (.cons rfl .nil)))) rfl ?_
 rintro ⟨i, w, vs, B⟩ Gx _ ⟨hi, hvs, hB, hzs⟩
 simp only [] at hi hvs hB hzs
 refine sR <| sy (yd_lss rfl rfl) rfl <| zE <| st_seq <| ?_
 refine st_condE rfl (fun hc => ?_) (fun hc => ?_) -- slot 17
 · refine st_exit <| st_te <| st_te <| st_inBlock_eq <| st_seq <| ?_
   refine st_bufFreeze (L := []) hC hB (LV.len9 _) ?_
   intro G2 _ hsl
   refine st_region <| sm rfl rfl <| sa rfl rfl <| sa rfl rfl <| zE <| st_ret <| ?_
   have hi' : i = ls.length := by omega
   rw [hi', List.take_length] at hzs
   exact zD (.tmp rfl (.tmp rfl .nil)) ⟨w, rfl, vs, hsl, hzs.imp fun _ _ h => h.up⟩
 have hi1 : i < ls.length := by omega
 obtain ⟨f, hf, hff⟩ := hfs.get (List.getElem?_eq_getElem hi1)
 have hfi : (fs.map LI.val)[i]? = some (.agg ⟨[.bool f.a.neg, .slice f.a.a.a f.a.a.n f.a.a.c, .bool f.b.neg, .slice f.b.a.a f.b.a.n f.b.a.c, .bool f.c.neg, .slice f.c.a.a f.c.a.n f.c.a.c]⟩) := by rw [List.getElem?_map, hf]; rfl
 refine zK <| st_seq <| st_block <| sR <| sy (yd_ix (z := ⟨xa, ls.length, xc⟩) hs rfl rfl (by omega) (by show (i : Int) < (ls.length : Int); omega)) rfl <| ?_
 rw [Int.toNat_natCast]
 refine sy (yd_ldA (i := i) hs rfl (by rw [List.length_map, hfs.len]; exact hi1) hfi) rfl <| ?_
 refine sc (ch_alloc rfl ?_)
 intro b2
 refine sc (ch_storeN (cs' := [.bool f.a.neg, .slice f.a.a.a f.a.a.n f.a.a.c, .bool f.b.neg, .slice f.b.a.a f.b.a.n f.b.a.c, .bool f.c.neg, .slice f.c.a.a f.c.a.n f.c.a.c]) rfl rfl rfl (.hd ..) rfl (nb rfl) rfl rfl ?_)
 refine zE <| sR <| slo rfl rfl rfl <| ?_
 refine sc (zC rfl rfl (geo_LnOfQ hff.a hff.b hff.c (hok _ (List.getElem_mem hi1)) hk1 hk) rfl ?_)
 rintro _ G3 _ ⟨z, rfl, hz⟩
 refine sm rfl rfl <| sx rfl rfl rfl <| sx rfl rfl rfl <| ?_
 refine sc (ch_alloc rfl ?_)
 intro b4
 refine sc (ch_storeN (cs' := [.int .i64 z.a.n, .int .i64 z.a.d, .pointer z.a.p, .int .i64 z.b.n, .int .i64 z.b.d, .pointer z.b.p, .int .i64 z.c.n, .int .i64 z.c.d, .pointer z.c.p]) rfl rfl rfl (.hd ..) rfl (nb rfl) rfl rfl ?_)
 refine sa rfl rfl <| zE <| st_seq <| sR <| sm rfl rfl <| sy (yd_not rfl) rfl <| zE <| st_condF rfl <| ?_
 refine zK <| st_region <| sm rfl rfl <| slo rfl rfl rfl <| ?_
 refine sc (ch_slice1 rfl (by rfl) (by rfl) (by decide) (by decide) rfl ?_)
 intro b5
 refine sc (ch_append_buf (v := z.v) (vs := vs.map LV.v) (B := B) [_, _, _] rfl hB rfl rfl (src_own inferInstance rfl) rfl (LV.flat1 z) (by decide) (by rw [List.length_map]; omega) rfl rfl ?_)
 intro w1 B1 hB1
 rw [show vs.map LV.v ++ [z.v] = (vs ++ [z]).map LV.v by simp] at hB1
 show St C _ _ (⟨b5, _, _, true⟩ :: ⟨b4, _, _, true⟩ :: ⟨b2, _, _, true⟩ :: B1) _ _
 refine st_drop _ (.cons _ (.cons _ (.cons _ (List.Sublist.refl _)))) ?_
 refine sa rfl rfl <| zE <| st_region <| sy (yd_add64 rfl rfl) rfl <| sm rfl rfl <| zE <| ?_
 refine st_again (i + 1, w1, _, B1) ⟨hi1, by simp [hvs], hB1, ?_⟩ (by show ls.length - (i + 1) < ls.length - i; omega) (.cons rfl (.cons rfl (.cons rfl (.cons rfl .nil)))) rfl
 show All2 _ (vs ++ [z]) (ls.take (i + 1))
 rw [List.take_succ_eq_append_getElem hi1]
 exact (hzs.imp fun _ _ h => h.up).app (.cons hz .nil)
set_option maxHeartbeats 1000000 in
theorem geo_Canon {k : Nat} (hk : k ≤ 100000000) {A G : Gh} {x : SV} {ls : List LnQ} (hx : IsLns k A x ls) [GL A G] (hn : ls.length ≤ 1024) :
   Fn Tryz.prog 65 [.slice x.a x.n x.c] G (fun v G' => (canonQ ls [] = none ∧ v = .tuple #[.slice none 0 0, .bool false]) ∨ ∃ (c : CellQ) (y : SV), canonQ ls [] = some c ∧ v = .tuple #[.slice y.a y.n y.c, .bool true] ∧ IsC k G' y c) := by
 have hlen := hx.len
 obtain ⟨fs, hs, hfs⟩ := hx.ex
 obtain ⟨xa, xn, xc⟩ := x
 simp only [] at hlen
 subst hlen
 show Fn _ _ [.slice xa ls.length xc] _ _
 refine Fn.intro Tryz.func65 rfl rfl Tryz.ntmps65 rfl ?_
 intro C _ _
 refine sR <| sa rfl rfl <| sa rfl rfl <| zE <| st_scope <| sR <| sa rfl rfl <| zE <| sR <| sa rfl rfl <| zE <| st_seq <| st_label <| ?_
 refine st_seq <| sR <| sm rfl rfl <| slen rfl rfl <| sm rfl rfl <| zE <| st_block <| ?_
 refine st_loop (X := Nat × SV × CellQ) (fun q => [(10, .int .i64 q.1), (9, .int .i64 ls.length), (8, .slice xa ls.length xc), (4, .slice q.2.1.a q.2.1.n q.2.1.c), (5, .bool true)]) (fun q => [])
   (fun q G' => q.1 ≤ ls.length ∧ q.2.2.length ≤ q.1 ∧ canonQ (ls.drop q.1) q.2.2 = canonQ ls [] ∧ IsC k G' q.2.1 q.2.2) (fun q => ls.length - q.1) (0, ⟨none, 0, 0⟩, []) ⟨Nat.zero_le _, Nat.zero_le _, rfl, IsC.nil ..⟩ (.cons rfl (.cons rfl (.cons rfl (.cons rfl (.cons rfl .nil))))) rfl ?_
 rintro ⟨i, w, c⟩ Gx _ ⟨hi, hcl, hcq, hc⟩
 simp only [] at hi hcl hcq hc
 refine sR <| sy (yd_lss rfl rfl) rfl <| zE <| st_seq <| ?_
 refine st_condE rfl (fun hc1 => ?_) (fun hc1 => ?_) -- slot 11
 · refine st_exit <| st_te <| st_te <| st_inBlock_eq <| st_seq <| sR <| sm rfl rfl <| sy (yd_not rfl) rfl <| zE <| st_condF rfl <| ?_
   refine zK <| sR <| sm rfl rfl <| sa rfl rfl <| sa rfl rfl <| zE <| st_ret <| ?_
   have hi' : i = ls.length := by omega
   rw [hi', List.drop_length] at hcq
   exact zD (.tmp rfl (.tmp rfl .nil)) (.inr ⟨c, w, hcq.symm, rfl, hc.up⟩)
 have hi1 : i < ls.length := by omega
 rw [List.drop_eq_getElem_cons hi1, canonQ] at hcq
 obtain ⟨z, hf, hz⟩ := hfs.get (List.getElem?_eq_getElem hi1)
 have hfi : (fs.map LV.v)[i]? = some (.agg ⟨[.int .i64 z.a.n, .int .i64 z.a.d, .pointer z.a.p, .int .i64 z.b.n, .int .i64 z.b.d, .pointer z.b.p, .int .i64 z.c.n, .int .i64 z.c.d, .pointer z.c.p]⟩) := by rw [List.getElem?_map, hf]; rfl
 refine zK <| st_seq <| st_block <| sR <| sy (yd_ix (z := ⟨xa, ls.length, xc⟩) hs rfl rfl (by omega) (by show (i : Int) < (ls.length : Int); omega)) rfl <| ?_
 rw [Int.toNat_natCast]
 refine sy (yd_ldA (i := i) hs rfl (by rw [List.length_map, hfs.len]; exact hi1) hfi) rfl <| ?_
 refine sc (ch_alloc rfl ?_)
 intro b1
 refine sc (ch_storeN (cs' := [.int .i64 z.a.n, .int .i64 z.a.d, .pointer z.a.p, .int .i64 z.b.n, .int .i64 z.b.d, .pointer z.b.p, .int .i64 z.c.n, .int .i64 z.c.d, .pointer z.c.p]) rfl rfl rfl (.hd ..) rfl (nb rfl) rfl rfl ?_)
 refine zE <| sR <| sm rfl rfl <| slo rfl rfl rfl <| ?_
 refine sc (zC rfl rfl (Cell_Clip hc hz hk (by omega)) rfl ?_)
 rintro _ G2 _ ⟨y, rfl, hy⟩
 have hyl := clipC_len c ls[i]
 refine st_drop [] (List.nil_sublist _) ?_
 refine sm rfl rfl <| sx rfl rfl rfl <| sx rfl rfl rfl <| sa rfl rfl <| sa rfl rfl <| zE <| sR <| sm rfl rfl <| sy (yd_not rfl) rfl <| zE <| ?_
 cases hb : clipB c ls[i] with
 | false =>
   rw [hb] at hcq
   refine st_condT rfl <| ?_
   refine st_exit <| st_inBlock_ne rfl <| st_te <| st_te <| st_inBlock_eq <| st_seq <| sR <| sm rfl rfl <| sy (yd_not rfl) rfl <| zE <| st_condT rfl <| ?_
   refine sR <| sa rfl rfl <| sa rfl rfl <| zE <| st_ret <| ?_
   exact zD (.tmp rfl (.tmp rfl .nil)) (.inl ⟨hcq.symm, rfl⟩)
 | true =>
   rw [hb] at hcq
   refine st_condF rfl <| ?_
   refine zK <| st_region <| sy (yd_add64 rfl rfl) rfl <| sm rfl rfl <| zE <| ?_
   exact st_again (i + 1, y, clipC c ls[i]) ⟨hi1, by simp only []; omega, hcq, hy.up⟩ (by show ls.length - (i + 1) < ls.length - i; omega) (.cons rfl (.cons rfl (.cons rfl (.cons rfl (.cons rfl .nil))))) rfl
end Go.Sx
end

section
set_option maxRecDepth 100000
namespace Go.Sx
open Go Go.Proofs
theorem eI_eq {a b : Int} (h : a = b) : eI a = eI b := by rw [h]
theorem eQ_int (z : Int) : eQ (z : Rat) = .ag [.v (.bool (decide (z < 0))), dN z.natAbs, .sl []] := by unfold eQ; rw [Rat.num_intCast, Rat.den_intCast]; rfl
theorem rat_of_den {a : Rat} (h : a.den = 1) : ((a.num : Int) : Rat) = a := Rat.ext (Rat.num_intCast _) (by rw [Rat.den_intCast, h])
theorem plus_int {a b : Rat} (ha : a.den = 1) (hb : b.den = 1) : a + b = ((a.num + b.num : Int) : Rat) := by
 rw [Rat.intCast_add, rat_of_den ha, rat_of_den hb]
theorem times_int {a b : Rat} (ha : a.den = 1) (hb : b.den = 1) : a * b = ((a.num * b.num : Int) : Rat) := by
 rw [Rat.intCast_mul, rat_of_den ha, rat_of_den hb]
theorem dD_len (n : Nat) (h : 0 < n) : (if n = 1 then [] else (dg n).map dU).length = 0 ↔ n = 1 := by
 by_cases q : n = 1
 · simp [q]
 · rw [if_neg q, List.length_map, dg_len_zero]; omega
theorem dD_of {n : Nat} (h : n ≠ 1) : dD n = dN n := by unfold dD; rw [if_neg h]; rfl
theorem cmpN_one {g : Nat} : (cmpN g 1 = 0) ↔ g = 1 := by
 unfold cmpN
 constructor
 · intro h; split at h
   · exact absurd h (by decide)
   · split at h
     · assumption
     · exact absurd h (by decide)
 · rintro rfl; rfl
theorem mk_num {x : Int} {d : Nat} (hd : 0 < d) : zv (decide (x < 0)) (x.natAbs / Nat.gcd x.natAbs d) = (mkRat x d).num := by
 rw [Rat.num_mkRat, if_neg (by omega), Nat.gcd_comm]
 have hg : 0 < Nat.gcd d x.natAbs := Nat.gcd_pos_of_pos_left _ hd
 obtain ⟨c, hc⟩ : Nat.gcd d x.natAbs ∣ x.natAbs := Nat.gcd_dvd_right _ _
 generalize Nat.gcd d x.natAbs = g at *
 rw [hc, Nat.mul_div_cancel_left _ hg]
 unfold zv
 by_cases q : x < 0
 · rw [if_pos (by simpa using q), show x = (g : Int) * (-(c : Int)) by rw [Int.mul_neg, ← Int.natCast_mul]; omega, Int.mul_ediv_cancel_left _ (by omega)]
 · rw [if_neg (by simpa using q), show x = (g : Int) * (c : Int) by rw [← Int.natCast_mul]; omega, Int.mul_ediv_cancel_left _ (by omega)]
theorem mk_den {x : Int} {d : Nat} (hd : 0 < d) : d / Nat.gcd x.natAbs d = (mkRat x d).den := by
 rw [Rat.den_mkRat, if_neg (by omega), Nat.gcd_comm]
theorem mk_one {x : Int} {d : Nat} (hd : 0 < d) (h : Nat.gcd x.natAbs d = 1) : (mkRat x d).num = x ∧ (mkRat x d).den = d := by
 rw [← mk_num hd, ← mk_den hd, h, Nat.div_one, Nat.div_one]
 exact ⟨zv_eta x, rfl⟩
end Go.Sx
end

section
set_option maxRecDepth 100000
namespace Go.Sx
open Go Go.Proofs
instance BI.zv (neg : Bool) (m i : Nat) [h : BN m i] : BI (zv neg m) i := ⟨by rw [zv_abs]; exact h.h⟩
section
variable {GB : Gh} {C : Ctx} {n : Nat} {Q0 : Exit → Act → World → Prop} {fr fr' : FrX} {own own' : OwX} {cf cf' : Cf} {vc : List Prop}
def cvwA (fr : FrX) (cf : Cf) : Option Int := match opC fr cf with
 | some ⟨_, .convert t t' x, _, _, _, _⟩ => match lookT tt t, lookT tt t' with
   | some ⟨.int .i64, _, _, _⟩, some ⟨.int .u64, _, _, _⟩ => match evX (lkC fr cf) x with
     | some (.d (.v (.int .i64 p))) => some p
     | _ => none
   | _, _ => none
 | _ => none
theorem cvw [fu : Fu] {p : Int} (q : Int) (h : cvwA fr cf = some p) (e : p % 18446744073709551616 = q) (hgo : goA tt n fu.n fr own cf (.d (.v (.int .u64 q))) [] [] = ⟨vc, fr', own', cf'⟩) (k : CfS Tryz.prog GB C n Q0 fr' own' cf')
  (hv : allP vc := by first | exact trivial | (simp only [allP]; omega)) : CfS Tryz.prog GB C n Q0 fr own cf := by
 unfold cvwA at h
 split at h <;> try (cases h; done)
 rename_i hh
 split at h <;> try (cases h; done)
 rename_i hT hT'
 split at h <;> cases h
 rename_i hx
 have := ti_int (tt_ok _ _ hT) rfl
 have := ti_int (tt_ok _ _ hT') rfl
 refine us hh (.x1 hx fun ρ G ov a w y _ r h1 h2 => ?_) hgo hv k
 rw [isX_int] at h2; subst h2
 refine ⟨_, isX_int.2 rfl, ?_⟩
 rw [← e, ← wrap_u64]
 exact yd_conv h1
def ngwA (fr : FrX) (cf : Cf) : Option Int := match opC fr cf with
 | some ⟨_, .unOp .neg _ x, _, _, _, _⟩ => match evX (lkC fr cf) x with
   | some (.d (.v (.int .u64 p))) => some p
   | _ => none
 | _ => none
theorem ngw [fu : Fu] {p : Int} (q : Int) (h : ngwA fr cf = some p) (e : (0 - p) % 18446744073709551616 = q) (hgo : goA tt n fu.n fr own cf (.d (.v (.int .u64 q))) [] [] = ⟨vc, fr', own', cf'⟩) (k : CfS Tryz.prog GB C n Q0 fr' own' cf')
  (hv : allP vc := by first | exact trivial | (simp only [allP]; omega)) : CfS Tryz.prog GB C n Q0 fr own cf := by
 unfold ngwA at h
 split at h <;> try (cases h; done)
 rename_i hh
 split at h <;> cases h
 rename_i hx
 refine us hh (.x1 hx fun ρ G ov a w y _ r h1 h2 => ?_) hgo hv k
 rw [isX_int] at h2; subst h2
 refine ⟨_, isX_int.2 rfl, ?_⟩
 rw [← e, ← wrap_u64]
 exact yd_neg h1
end
theorem q_Int {GB : Gh} {n : Int} (h0 : -4611686018427387904 ≤ n) (h1 : n ≤ 4611686018427387904) : PF GB Tryz.prog 95 [.v (.int .i64 n)] (eI n) := by
 refine fn Tryz.func95 rfl rfl Tryz.ntmps95 rfl rfl (fun C => ?_)
 refine br (fu1 := ⟨3⟩) (fu2 := ⟨6⟩) rfl rfl rfl (fun hc4 => ?_) (fun hc4 => ?_)
 ·
  refine cvw (fu := ⟨0⟩) (18446744073709551616 + n) rfl (by omega) rfl <| ngw (n.natAbs : Nat) rfl (by omega) rfl <| cl rfl (q_Word (u := n.natAbs) (by omega)) rfl <| ?_
  refine cl rfl q_Make rfl <| ?_
  exact rz rfl (eI_eq (by unfold zv; rw [if_pos rfl]; omega))
 ·
  refine eqF 11 (.d (.v (.int .u64 (n.natAbs : Nat)))) rfl (by show FX.d (.v (.int _ _)) = .d (.v (.int _ _)); congr 3; omega) ?_
  refine gx rfl <| cl rfl (q_Word (u := n.natAbs) (by omega)) rfl <| cl rfl q_Make rfl <| ?_
  exact rz rfl (eI_eq (by unfold zv; rw [if_neg (by decide)]; omega))
theorem q_Sign {GB : Gh} {z : Int} : PF GB Tryz.prog 163 [eI z] (vI z.sign) := by
 have hl := mapU_len (dg z.natAbs)
 have hz := @dg_len_zero z.natAbs
 refine fn Tryz.func163 rfl rfl Tryz.ntmps163 rfl rfl (fun C => ?_)
 refine br rfl rfl rfl (fun hc6 => ?_) (fun hc6 => ?_)
 ·
  exact rz rfl (by show DV.v (.int _ 0) = DV.v (.int _ _); rw [show z = 0 by omega]; rfl)
 ·
  refine bd rfl rfl rfl (fun hc8 => ?_) (fun hc8 => ?_)
  ·
   exact rz rfl (by show DV.v (.int _ (-1)) = DV.v (.int _ _); rw [Int.sign_eq_neg_one_of_neg (by omega)])
  ·
   exact rz rfl (by show DV.v (.int _ 1) = DV.v (.int _ _); rw [Int.sign_eq_one_of_pos (by omega)])
theorem q_Minus {GB : Gh} {z : Int} : PF GB Tryz.prog 56 [eI z] (eI (-z)) := by
 refine fn Tryz.func56 rfl rfl Tryz.ntmps56 rfl rfl (fun C => ?_)
 refine cl rfl q_Make rfl <| ?_
 exact rz rfl (eI_eq (zv_opp z))
theorem add_same {a b : Int} (h : decide (a < 0) = decide (b < 0)) : zv (decide (a < 0)) (a.natAbs + b.natAbs) = a + b := by
 unfold zv
 have h' : a < 0 ↔ b < 0 := by simpa using h
 by_cases q : a < 0
 · have := h'.1 q
   simp [q]; omega
 · have : ¬ b < 0 := fun w => q (h'.2 w)
   simp [q]; omega
theorem add_lt' {a b : Int} (h : ¬ decide (a < 0) = decide (b < 0)) (k : a.natAbs < b.natAbs) : zv (decide (b < 0)) (b.natAbs - a.natAbs) = a + b := by
 unfold zv
 have h' : ¬ (a < 0 ↔ b < 0) := by simpa using h
 by_cases q : b < 0
 · have : ¬ a < 0 := fun w => h' ⟨fun _ => q, fun _ => w⟩
   simp [q]; omega
 · have : a < 0 := Int.not_le.1 fun w => h' ⟨fun e => by omega, fun e => absurd e q⟩
   simp [q]; omega
theorem add_ge' {a b : Int} (h : ¬ decide (a < 0) = decide (b < 0)) (k : b.natAbs ≤ a.natAbs) : zv (decide (a < 0)) (a.natAbs - b.natAbs) = a + b := by
 unfold zv
 have h' : ¬ (a < 0 ↔ b < 0) := by simpa using h
 by_cases q : a < 0
 · have : ¬ b < 0 := fun w => h' ⟨fun _ => w, fun _ => q⟩
   simp [q]; omega
 · have : b < 0 := Int.not_le.1 fun w => h' ⟨fun e => absurd e q, fun e => by omega⟩
   simp [q]; omega
set_option maxHeartbeats 1000000 in
theorem q_Add {GB : Gh} {a b : Int} {i j : Nat} [ha : BI a i] [hb : BI b j] (hi : i ≤ 400000000 := by decide) (hj : j ≤ 400000000 := by decide) : PF GB Tryz.prog 136 [eI a, eI b] (eI (a + b)) := by
 have hba := dg_len_le ha.h
 have hbb := dg_len_le hb.h
 refine fn (fu := ⟨15⟩) Tryz.func136 rfl rfl Tryz.ntmps136 rfl rfl (fun C => ?_)
 refine eqF 9 (.d (.v (.bool (decide (decide (a < 0) = decide (b < 0)))))) rfl (by congr 2) ?_
 refine gx rfl <| ?_
 refine bd rfl rfl rfl (fun hc9 => ?_) (fun hc9 => ?_)
 ·
  refine cl rfl (q_Sum (by omega) (by omega)) rfl <| cl rfl q_Make rfl <| ?_
  exact rz rfl (eI_eq (add_same hc9))
 ·
  refine cl rfl (q_Cmp (by omega) (by omega)) rfl <| ?_
  refine br rfl rfl rfl (fun hc23 => ?_) (fun hc23 => ?_)
  ·
   refine cl rfl (q_Less (by have := cmpN_neg.1 hc23; omega) (by omega)) rfl <| cl rfl q_Make rfl <| ?_
   exact rz rfl (eI_eq (add_lt' hc9 (cmpN_neg.1 hc23)))
  ·
   refine cl rfl (q_Less (Nat.le_of_not_lt fun q => hc23 (cmpN_neg.2 q)) (by omega)) rfl <| cl rfl q_Make rfl <| ?_
   exact rz rfl (eI_eq (add_ge' hc9 (Nat.le_of_not_lt fun q => hc23 (cmpN_neg.2 q))))
set_option maxHeartbeats 1000000 in
theorem q_Mul {GB : Gh} {a b : Int} {i j : Nat} [ha : BI a i] [hb : BI b j] (hi : i ≤ 400000000 := by decide) (hj : j ≤ 400000000 := by decide) : PF GB Tryz.prog 137 [eI a, eI b] (eI (a * b)) := by
 refine fn Tryz.func137 rfl rfl Tryz.ntmps137 rfl rfl (fun C => ?_)
 refine cl rfl (q_Product (by omega) (by omega)) rfl <| cl rfl q_Make rfl <| ?_
 exact rz rfl (eI_eq (zv_mulI a b))
theorem q_CompareI {GB : Gh} {a b : Int} {i j : Nat} [ha : BI a i] [hb : BI b j] (hi : i ≤ 400000000 := by decide) (hj : j ≤ 400000000 := by decide) : PF GB Tryz.prog 131 [eI a, eI b] (vI (a - b).sign) := by
 refine fn Tryz.func131 rfl rfl Tryz.ntmps131 rfl rfl (fun C => ?_)
 refine cl rfl q_Minus rfl <| cl rfl (q_Add (by omega) (by omega)) rfl <| cl rfl q_Sign rfl <| ?_
 exact rz rfl (by rw [Int.sub_eq_add_neg]; rfl)
theorem q_Den {GB : Gh} {q : Rat} : PF GB Tryz.prog 92 [eQ q] (dN q.den) := by
 refine fn Tryz.func92 rfl rfl Tryz.ntmps92 rfl rfl (fun C => ?_)
 refine br rfl rfl rfl (fun hc6 => ?_) (fun hc6 => ?_)
 ·
  refine cl rfl q_One rfl <| ?_
  exact rz rfl (by rw [(dD_len q.den (den_pos' q)).1 (by omega)]; rfl)
 ·
  exact rz rfl (by exact dD_of (fun e => hc6 (by exact congrArg Int.ofNat ((dD_len q.den (den_pos' q)).2 e))))
theorem dg_len_small {n k : Nat} [h : BN n k] (hk : k ≤ 500000000) : (dg n).length ≤ 100000000 := by have := dg_len_le h.h; omega
set_option maxHeartbeats 1000000 in
theorem q_Frac {GB : Gh} {x : Int} {d i j : Nat} [hx : BI x i] [hd : BN d j] (hd0 : 0 < d) (hi : i ≤ 200000000 := by decide) (hj : j ≤ 200000000 := by decide) : PF GB Tryz.prog 113 [eI x, dN d] (eQ (mkRat x d)) := by
 obtain ⟨q, hq⟩ : ∃ q, q = mkRat x d := ⟨_, rfl⟩
 obtain ⟨g, hg⟩ : ∃ g, g = Nat.gcd x.natAbs d := ⟨_, rfl⟩
 have hg0 : 0 < g := hg ▸ Nat.gcd_pos_of_pos_right _ hd0
 haveI hgB : BN g (i + j) := hg ▸ inferInstance
 have hg1 : (dg g).length ≤ 100000000 := dg_len_small (k := i + j) (by omega)
 have ho1 : (dg 1).length ≤ 100000000 := by rw [dg_one]; decide
 haveI hqB : BQ q (i + j) := hq ▸ mkRat_bd hd0 (Nat.lt_of_lt_of_le hx.h (Nat.pow_le_pow_right (by decide) (by omega))) (Nat.lt_of_lt_of_le hd.h (Nat.pow_le_pow_right (by decide) (by omega)))
 refine fn Tryz.func113 rfl rfl Tryz.ntmps113 rfl rfl (fun C => ?_)
 refine cl (fu := ⟨0⟩) rfl (q_Common (by omega) (by omega)) rfl <| ?_
 refine eqF 11 (.d (dN g)) rfl (by rw [hg]) ?_
 refine gx (fu := ⟨4⟩) rfl <| ?_
 refine mg (fu := ⟨1⟩) (X := Unit) (fun _ => [(1, .d (dN q.den)), (2, .ov 2 0), (4, .ov 4 0)]) (fun _ => [(4, some (.o 87 [.ff, .nl, .nl] true)), (2, some (.o 30 [.d (.v (.bool (decide (q.num < 0)))), .d (dN q.num.natAbs)] true))]) (fun _ => True) [1, 2, 4] [4, 2] rfl ?_ (fun _ => rfl) (fun _ hm => ?_)
 ·
  refine gx rfl <| cl rfl q_One rfl <| cl rfl (q_Cmp hg1 ho1) rfl <| ?_
  refine br rfl rfl rfl (fun hc15 => ?_) (fun hc15 => ?_)
  ·
   refine cl rfl (q_Divide hg0 (by omega) (by omega)) rfl <| cl (fu := ⟨0⟩) rfl q_Make rfl <| ?_
   refine eqF 26 (.d (eI q.num)) rfl (by show FX.d (eI (zv _ _)) = _; rw [hg, mk_num hd0, hq]) ?_
   refine gx rfl <| cl (fu := ⟨2⟩) rfl (q_Divide hg0 (by omega) (by omega)) rfl <| ?_
   refine eqF 31 (.d (dN q.den)) rfl (by rw [hg, mk_den hd0, hq]) ?_
   refine gx rfl <| ?_
   exact at_ () trivial
  ·
   have hm := mk_one (x := x) hd0 (by rw [← hg]; exact cmpN_one.1 (Decidable.not_not.1 hc15))
   rw [← hq] at hm
   refine eqF 1 (.d (dN q.den)) rfl (by rw [hm.2]) ?_
   exact at_ () trivial (hO := ⟨rfl, by rw [hm.1]; rfl, trivial⟩)
 ·
  refine mg (X := Unit) (fun _ => [(1, .d (dD q.den)), (2, .ov 2 0), (4, .ov 4 0)]) (fun _ => [(4, some (.o 87 [.ff, .nl, .nl] true)), (2, some (.o 30 [.d (.v (.bool (decide (q.num < 0)))), .d (dN q.num.natAbs)] true))]) (fun _ => True) [1, 2, 4] [4, 2] rfl ?_ (fun _ => rfl) (fun _ hm => ?_)
  ·
   refine gx rfl <| cl rfl q_One rfl <| cl rfl (q_Cmp (dg_len_small (k := i + j) (by omega)) ho1) rfl <| ?_
   refine br rfl rfl rfl (fun hc36 => ?_) (fun hc36 => ?_)
   ·
    refine nlD 1 rfl ?_
    refine eqF 1 (.d (dD q.den)) rfl (by rw [cmpN_one.1 hc36]; rfl) ?_
    exact at_ () trivial
   ·
    refine eqF 1 (.d (dD q.den)) rfl (by rw [dD_of (fun e => hc36 (cmpN_one.2 e))]) ?_
    exact at_ () trivial
  ·
   exact rz rfl (by rw [← hq]; rfl)
end Go.Sx
end

section
set_option maxRecDepth 100000
namespace Go.Sx
open Go Go.Proofs
theorem mkRat_self' (a : Rat) : mkRat a.num a.den = a := by simp [Rat.mkRat_self]
theorem over_mk {a b : Rat} (h : b ≠ 0) : a / b = mkRat (a.num * zv (decide (b.num < 0)) b.den) (a.den * b.num.natAbs) := by
 rw [Rat.mkRat_eq_div]
 have ha : (a.num : Rat) / (a.den : Rat) = a := by rw [← Rat.mkRat_eq_div, mkRat_self']
 have hb : (b.num : Rat) / (b.den : Rat) = b := by rw [← Rat.mkRat_eq_div, mkRat_self']
 have h1 : (a.den : Rat) ≠ 0 := by have := a.den_nz; exact_mod_cast this
 have h2 : (b.den : Rat) ≠ 0 := by have := b.den_nz; exact_mod_cast this
 have h3 : (b.num : Rat) ≠ 0 := by
   intro e
   rw [e] at hb
   apply h; rw [← hb]; grind
 rw [Rat.intCast_mul, Rat.natCast_mul]
 by_cases q : b.num < 0
 · have e1 : ((zv (decide (b.num < 0)) b.den : Int) : Rat) = -(b.den : Rat) := by
     unfold zv; rw [if_pos (by simpa using q), Rat.intCast_neg]; rfl
   have e2 : ((b.num.natAbs : Nat) : Rat) = -(b.num : Rat) := by
     have : ((b.num.natAbs : Nat) : Int) = -b.num := by omega
     rw [← Rat.intCast_neg, ← this]; rfl
   rw [e1, e2]
   generalize (a.num : Rat) = an at *
   generalize (a.den : Rat) = ad at *
   generalize (b.num : Rat) = bn at *
   generalize (b.den : Rat) = bd at *
   subst ha hb
   grind
 · have e1 : ((zv (decide (b.num < 0)) b.den : Int) : Rat) = (b.den : Rat) := by
     unfold zv; rw [if_neg (by simpa using q)]; rfl
   have e2 : ((b.num.natAbs : Nat) : Rat) = (b.num : Rat) := by
     have : ((b.num.natAbs : Nat) : Int) = b.num := by omega
     rw [← this]; rfl
   rw [e1, e2]
   generalize (a.num : Rat) = an at *
   generalize (a.den : Rat) = ad at *
   generalize (b.num : Rat) = bn at *
   generalize (b.den : Rat) = bd at *
   subst ha hb
   grind
theorem le_of_frac {q : Rat} {n : Int} {d : Nat} (hd : 0 < d) (h : q * (d : Rat) = (n : Rat)) : q.num.natAbs ≤ n.natAbs ∧ q.den ≤ d := by
 have e : q = mkRat n d := by
  rw [Rat.mkRat_eq_div]
  have : (d : Rat) ≠ 0 := by exact_mod_cast (by omega : d ≠ 0)
  rw [← h]; grind
 rw [e, Rat.num_mkRat, Rat.den_mkRat, if_neg (by omega), if_neg (by omega)]
 exact ⟨Int.natAbs_ediv_le_natAbs n (d.gcd n.natAbs : Nat), Nat.div_le_self ..⟩
theorem BQ.of_frac {q : Rat} {n : Int} {d i : Nat} (hd : 0 < d) (h : q * (d : Rat) = (n : Rat)) (hn : n.natAbs < 2 ^ i) (hdi : d < 2 ^ i) : BQ q i := by
 have := le_of_frac hd h
 exact ⟨by omega, by omega⟩
theorem num_pos_of {b : Rat} (h : b ≠ 0) : 0 < b.num.natAbs := by
 have : b.num ≠ 0 := fun e => h (Rat.num_eq_zero.1 e)
 omega
instance BQ.over (a b : Rat) (i j : Nat) [ha : BQ a i] [hb : BQ b j] : BQ (a / b) (i + j) := by
 by_cases h : b = 0
 · subst h
   rw [Rat.div_def, Rat.inv_zero, Rat.mul_zero]
   have h2 := ha.hd
   have h3 : 0 < a.den := den_pos' a
   have h4 : 2 ^ i * 1 ≤ 2 ^ i * 2 ^ j := Nat.mul_le_mul_left _ (Nat.pow_pos (by decide))
   rw [← Nat.pow_add] at h4
   exact ⟨by show 0 < _; omega, by show 1 < _; omega⟩
 · rw [over_mk h]
   have hb0 := num_pos_of h
   refine mkRat_bd (Nat.mul_pos (den_pos' a) hb0) ?_ (mul_lt_pow ha.hd hb.hn)
   rw [Int.natAbs_mul, zv_abs]
   exact mul_lt_pow ha.hn hb.hd
theorem q_Of {GB : Gh} {n : Int} (h0 : -4611686018427387904 ≤ n) (h1 : n ≤ 4611686018427387904) : PF GB Tryz.prog 43 [.v (.int .i64 n)] (eQ (n : Rat)) := by
 refine fn Tryz.func43 rfl rfl Tryz.ntmps43 rfl rfl (fun C => ?_)
 refine cl rfl (q_Int (by omega) (by omega)) rfl <| ?_
 exact rz rfl (by rw [eQ_int]; rfl)
theorem q_S {GB : Gh} {q : Rat} : PF GB Tryz.prog 115 [eQ q] (vI q.num.sign) := by
 refine fn Tryz.func115 rfl rfl Tryz.ntmps115 rfl rfl (fun C => ?_)
 refine cl rfl q_Sign rfl <| ?_
 exact rz rfl rfl
theorem q_Opp {GB : Gh} {q : Rat} : PF GB Tryz.prog 88 [eQ q] (eQ (-q)) := by
 refine fn Tryz.func88 rfl rfl Tryz.ntmps88 rfl rfl (fun C => ?_)
 refine cl rfl q_Minus rfl <| ?_
 exact rz rfl (by unfold eQ; rw [Rat.neg_num, Rat.neg_den]; rfl)
set_option maxHeartbeats 1000000 in
theorem q_Times {GB : Gh} {a b : Rat} {i j : Nat} [ha : BQ a i] [hb : BQ b j] (hi : i ≤ 20000000 := by decide) (hj : j ≤ 20000000 := by decide) : PF GB Tryz.prog 90 [eQ a, eQ b] (eQ (a * b)) := by
 have had := den_pos' a
 have hbd := den_pos' b
 have hdp := Nat.mul_pos had hbd
 have e1 := dD_len a.den had
 have e2 := dD_len b.den hbd
 refine fn Tryz.func90 rfl rfl Tryz.ntmps90 rfl rfl (fun C => ?_)
 refine cs 9 rfl rfl rfl (fun hg9 => ?_) (fun hg9 => ?_)
 ·
  refine br rfl rfl rfl (fun hc14 => ?_) (fun hc14 => ?_)
  ·
   refine cl rfl (q_Mul (a := a.num) (b := b.num) (by omega) (by omega)) rfl <| ?_
   exact rz rfl (by rw [times_int (e1.1 (by omega)) (e2.1 (by omega)), eQ_int]; rfl)
  ·
   refine cl rfl (q_Mul (a := a.num) (b := b.num) (by omega) (by omega)) rfl <| cl rfl q_Den rfl <| cl rfl q_Den rfl <| cl rfl (q_Product (by omega) (by omega)) rfl <| ?_
   refine cl rfl (q_Frac hdp (by omega) (by omega)) rfl <| ?_
   exact rz rfl (by rw [rat_mul_mk]; rfl)
 ·
  refine cl rfl (q_Mul (a := a.num) (b := b.num) (by omega) (by omega)) rfl <| cl rfl q_Den rfl <| cl rfl q_Den rfl <| cl rfl (q_Product (by omega) (by omega)) rfl <| ?_
  refine cl rfl (q_Frac hdp (by omega) (by omega)) rfl <| ?_
  exact rz rfl (by rw [rat_mul_mk]; rfl)
set_option maxHeartbeats 1000000 in
theorem q_Plus {GB : Gh} {a b : Rat} {i j : Nat} [ha : BQ a i] [hb : BQ b j] (hi : i ≤ 20000000 := by decide) (hj : j ≤ 20000000 := by decide) : PF GB Tryz.prog 89 [eQ a, eQ b] (eQ (a + b)) := by
 have had := den_pos' a
 have hbd := den_pos' b
 have hdp := Nat.mul_pos had hbd
 have e1 := dD_len a.den had
 have e2 := dD_len b.den hbd
 refine fn Tryz.func89 rfl rfl Tryz.ntmps89 rfl rfl (fun C => ?_)
 refine cs 9 rfl rfl rfl (fun hg9 => ?_) (fun hg9 => ?_)
 ·
  refine br rfl rfl rfl (fun hc14 => ?_) (fun hc14 => ?_)
  ·
   refine cl rfl (q_Add (by omega) (by omega)) rfl <| ?_
   exact rz rfl (by rw [plus_int (e1.1 (by omega)) (e2.1 (by omega)), eQ_int]; rfl)
  ·
   refine cl rfl q_Den rfl <| cl rfl q_Make rfl <| cl rfl (q_Mul (a := a.num) (b := zv false b.den) (by omega) (by omega)) rfl <| cl rfl q_Den rfl <| cl rfl q_Make rfl <| ?_
   refine cl rfl (q_Mul (a := b.num) (b := zv false a.den) (by omega) (by omega)) rfl <| cl rfl (q_Add (by omega) (by omega)) rfl <| cl rfl q_Den rfl <| ?_
   refine cl rfl q_Den rfl <| cl rfl (q_Product (by omega) (by omega)) rfl <| cl rfl (q_Frac hdp (by omega) (by omega)) rfl <| ?_
   exact rz rfl (by rw [rat_add_mk]; rfl)
 ·
  refine cl rfl q_Den rfl <| cl rfl q_Make rfl <| cl rfl (q_Mul (a := a.num) (b := zv false b.den) (by omega) (by omega)) rfl <| cl rfl q_Den rfl <| ?_
  refine cl rfl q_Make rfl <| cl rfl (q_Mul (a := b.num) (b := zv false a.den) (by omega) (by omega)) rfl <| cl rfl (q_Add (by omega) (by omega)) rfl <| ?_
  refine cl rfl q_Den rfl <| cl rfl q_Den rfl <| cl rfl (q_Product (by omega) (by omega)) rfl <| cl rfl (q_Frac hdp (by omega) (by omega)) rfl <| ?_
  exact rz rfl (by rw [rat_add_mk]; rfl)
theorem q_Sub {GB : Gh} {a b : Rat} {i j : Nat} [ha : BQ a i] [hb : BQ b j] (hi : i ≤ 20000000 := by decide) (hj : j ≤ 20000000 := by decide) : PF GB Tryz.prog 166 [eQ a, eQ b] (eQ (a - b)) := by
 refine fn Tryz.func166 rfl rfl Tryz.ntmps166 rfl rfl (fun C => ?_)
 refine cl rfl (q_Opp (q := b)) rfl <| cl rfl (q_Plus (a := a) (b := -b) hi hj) rfl <| ?_
 exact rz rfl (by rw [Rat.sub_eq_add_neg]; rfl)
set_option maxHeartbeats 1000000 in
theorem q_Over {GB : Gh} {a b : Rat} {i j : Nat} [ha : BQ a i] [hb : BQ b j] (hb0 : b ≠ 0) (hi : i ≤ 20000000 := by decide) (hj : j ≤ 20000000 := by decide) : PF GB Tryz.prog 167 [eQ a, eQ b] (eQ (a / b)) := by
 have hbp := num_pos_of hb0
 have hdp := Nat.mul_pos (den_pos' a) hbp
 refine fn Tryz.func167 rfl rfl Tryz.ntmps167 rfl rfl (fun C => ?_)
 refine cl rfl q_Den rfl <| cl rfl q_Make rfl <| cl rfl (q_Mul (a := a.num) (b := zv (decide (b.num < 0)) b.den) (by omega) (by omega)) rfl <| cl rfl q_Den rfl <| ?_
 refine cl rfl (q_Product (a := a.den) (b := b.num.natAbs) (by omega) (by omega)) rfl <| cl rfl (q_Frac (x := a.num * zv (decide (b.num < 0)) b.den) (d := a.den * b.num.natAbs) hdp (by omega) (by omega)) rfl <| ?_
 exact rz rfl (by rw [over_mk hb0]; rfl)
theorem q_C {GB : Gh} {a b : Rat} {i j : Nat} [ha : BQ a i] [hb : BQ b j] (hi : i ≤ 20000000 := by decide) (hj : j ≤ 20000000 := by decide) : PF GB Tryz.prog 128 [eQ a, eQ b] (vI (rcmp a b)) := by
 refine fn Tryz.func128 rfl rfl Tryz.ntmps128 rfl rfl (fun C => ?_)
 refine cl rfl (q_Sub hi hj) rfl <| cl rfl q_S rfl <| ?_
 exact rz rfl (by show vI _ = vI _; rw [sign_sub])
theorem two_ne : ((2 : Int) : Rat) ≠ 0 := by decide
instance BI.two : BI 2 2 := ⟨by decide⟩
theorem q_Half {GB : Gh} {a : Rat} {i : Nat} [ha : BQ a i] (hi : i ≤ 20000000 := by decide) : PF GB Tryz.prog 200 [eQ a] (eQ (a / 2)) := by
 refine fn Tryz.func200 rfl rfl Tryz.ntmps200 rfl rfl (fun C => ?_)
 refine cl rfl (q_Of (n := 2) (by decide) (by decide)) rfl <| cl rfl (q_Over (a := a) (b := ((2 : Int) : Rat)) two_ne hi (by decide)) rfl <| ?_
 exact rz rfl rfl
theorem q_Mid {GB : Gh} {a b : Rat} {i j : Nat} [ha : BQ a i] [hb : BQ b j] (hi : i ≤ 2000000 := by decide) (hj : j ≤ 2000000 := by decide) : PF GB Tryz.prog 201 [eQ a, eQ b] (eQ ((a + b) / 2)) := by
 refine fn Tryz.func201 rfl rfl Tryz.ntmps201 rfl rfl (fun C => ?_)
 refine cl rfl (q_Plus (by omega) (by omega)) rfl <| cl rfl (q_Half (a := a + b) (by omega)) rfl <| ?_
 exact rz rfl rfl
end Go.Sx
end

section
set_option maxRecDepth 100000
namespace Go.Sx
open Go
def crossI (l m : LnQ) : Int := l.a * m.b - m.a * l.b
def meetX (l m : LnQ) : Int := l.b * m.c - m.b * l.c
def meetY (l m : LnQ) : Int := m.a * l.c - l.a * m.c
def meetP (l m : LnQ) : PtQ := if crossI l m = 0 then ⟨0, 0⟩ else ⟨(meetX l m : Rat) / (crossI l m : Rat), (meetY l m : Rat) / (crossI l m : Rat)⟩
def paramQ (l : LnQ) (p : PtQ) : Rat := p.dot l.dir / l.dir.dot l.dir
theorem dd_nn (l : LnQ) : l.dir.dot l.dir = l.nor.dot l.nor := by
 simp only [LnQ.dir, LnQ.nor, PtQ.dot]; grind
theorem dd_pos {l : LnQ} (h : l.Ne) : 0 < l.dir.dot l.dir := by rw [dd_nn]; exact nn_pos h
theorem cross_cast (l m : LnQ) : ((crossI l m : Int) : Rat) = (l.a : Rat) * m.b - (m.a : Rat) * l.b := by
 unfold crossI; rw [Rat.intCast_sub, Rat.intCast_mul, Rat.intCast_mul]
theorem meetX_cast (l m : LnQ) : ((meetX l m : Int) : Rat) = (l.b : Rat) * m.c - (m.b : Rat) * l.c := by
 unfold meetX; rw [Rat.intCast_sub, Rat.intCast_mul, Rat.intCast_mul]
theorem meetY_cast (l m : LnQ) : ((meetY l m : Int) : Rat) = (m.a : Rat) * l.c - (l.a : Rat) * m.c := by
 unfold meetY; rw [Rat.intCast_sub, Rat.intCast_mul, Rat.intCast_mul]
theorem cutK_cross (l m : LnQ) : l.cutK m = -((crossI l m : Int) : Rat) := by
 rw [cross_cast]; simp only [LnQ.cutK, LnQ.nor, LnQ.dir, PtQ.dot]; grind
theorem cutK_dir (l m : LnQ) : m.dir.cross l.dir = l.cutK m := by
 simp only [LnQ.cutK, LnQ.nor, LnQ.dir, PtQ.dot, PtQ.cross]; grind
theorem base_ref {l : LnQ} : (⟨-((l.c : Rat) / l.dir.dot l.dir) * (l.a : Rat), -((l.c : Rat) / l.dir.dot l.dir) * (l.b : Rat)⟩ : PtQ) = l.base := by
 unfold LnQ.base
 rw [dd_nn]
 simp only [LnQ.nor, PtQ.scale, PtQ.mk.injEq]
 constructor <;> grind
theorem at_ref (l : LnQ) (t : Rat) : movQ l.base l.dir t = l.at t := by
 simp only [movQ, LnQ.at, PtQ.add, PtQ.scale, PtQ.mk.injEq]
 constructor <;> grind
theorem param_meet {l m : LnQ} (hl : l.Ne) (h : crossI l m ≠ 0) : paramQ l (meetP l m) = -(l.cutC m / l.cutK m) := by
 have hd : ((crossI l m : Int) : Rat) ≠ 0 := fun e => h (Rat.intCast_eq_zero_iff.1 e)
 have hn := dd_pos hl
 obtain ⟨q, q1, q2⟩ := base_q hl
 rw [cutK_cross]
 unfold paramQ meetP LnQ.cutC
 rw [if_neg h, q2, val_def, meetX_cast, meetY_cast]
 have hc := cross_cast l m
 rw [dd_nn] at hn ⊢
 simp only [LnQ.dir, LnQ.nor, PtQ.dot] at hn q1 ⊢
 generalize ((crossI l m : Int) : Rat) = d at *
 generalize (l.a : Rat) = a at *
 generalize (l.b : Rat) = b at *
 generalize (l.c : Rat) = c at *
 generalize (m.a : Rat) = x at *
 generalize (m.b : Rat) = y at *
 generalize (m.c : Rat) = z at *
 have hn' : a * a + b * b ≠ 0 := by grind
 have e : ((b * z - y * c) / d * b + (x * c - a * z) / d * -a) = ((b * z - y * c) * b - (x * c - a * z) * a) / d := by grind
 rw [e]
 have k1 : (b * z - y * c) * b - (x * c - a * z) * a = (a * a + b * b) * (x * (a * q) + y * (b * q) + z) := by grind
 rw [k1]
 grind
theorem param_frac {l m : LnQ} (hl : l.Ne) (h : crossI l m ≠ 0) : paramQ l (meetP l m) * ((crossI l m * (l.a * l.a + l.b * l.b) : Int) : Rat) = ((meetX l m * l.b - meetY l m * l.a : Int) : Rat) := by
 have hd : ((crossI l m : Int) : Rat) ≠ 0 := fun e => h (Rat.intCast_eq_zero_iff.1 e)
 have hn := dd_pos hl
 unfold paramQ meetP
 rw [if_neg h]
 simp only [Rat.intCast_mul, Rat.intCast_sub, Rat.intCast_add]
 simp only [LnQ.dir, PtQ.dot] at hn ⊢
 generalize ((crossI l m : Int) : Rat) = d at *
 generalize ((meetX l m : Int) : Rat) = x at *
 generalize ((meetY l m : Int) : Rat) = y at *
 generalize (l.a : Rat) = a at *
 generalize (l.b : Rat) = b at *
 have hn' : b * b + -a * -a ≠ 0 := by grind
 grind
theorem partL_cons (l m : LnQ) (t : List LnQ) (v : IvQ) : partL l (m :: t) v = if m = l then partL l t v else if l.cutB v m then partL l t (l.cutV v m) else none := rfl
def updLo (v : IvQ) (t : Rat) : IvQ := if v.nl = true ∨ 0 < rcmp t v.lo then ⟨t, v.hi, false, v.nh⟩ else v
def updHi (v : IvQ) (t : Rat) : IvQ := if v.nh = true ∨ rcmp t v.hi < 0 then ⟨v.lo, t, v.nl, false⟩ else v
structure IvZ (v : IvQ) : Prop where
 lo : v.nl = true → v.lo = 0
 hi : v.nh = true → v.hi = 0
theorem rcmp_pos' (a b : Rat) : 0 < rcmp a b ↔ b < a := by
 unfold rcmp; split
 · constructor
   · intro h; exact absurd h (by decide)
   · intro h; grind
 · split
   · exact ⟨fun _ => by assumption, fun _ => by decide⟩
   · constructor
     · intro h; exact absurd h (by decide)
     · intro h; exact absurd h (by assumption)
theorem rcmp_neg' (a b : Rat) : rcmp a b < 0 ↔ a < b := by
 unfold rcmp; split
 · exact ⟨fun _ => by assumption, fun _ => by decide⟩
 · split
   · constructor
     · intro h; exact absurd h (by decide)
     · intro h; grind
   · constructor
     · intro h; exact absurd h (by decide)
     · intro h; exact absurd h (by assumption)
theorem updLo_meet {v : IvQ} (h : IvZ v) (t : Rat) : updLo v t = v.meet ⟨t, 0, false, true⟩ := by
 obtain ⟨lo, hi, nl, nh⟩ := v
 obtain ⟨h1, h2⟩ := h
 unfold updLo IvQ.meet
 simp only [rcmp_pos'] at *
 cases nl <;> cases nh <;> simp at * <;> (try (split <;> split <;> simp_all <;> grind)) <;> grind
theorem updHi_meet {v : IvQ} (h : IvZ v) (t : Rat) : updHi v t = v.meet ⟨0, t, true, false⟩ := by
 obtain ⟨lo, hi, nl, nh⟩ := v
 obtain ⟨h1, h2⟩ := h
 unfold updHi IvQ.meet
 simp only [rcmp_neg'] at *
 cases nl <;> cases nh <;> simp at * <;> (try (split <;> split <;> simp_all <;> grind)) <;> grind
theorem IvZ.all : IvZ IvQ.all := ⟨fun _ => rfl, fun _ => rfl⟩
theorem IvZ.lo' {v : IvQ} (h : IvZ v) (t : Rat) : IvZ (updLo v t) := by
 obtain ⟨lo, hi, nl, nh⟩ := v
 unfold updLo; split
 · exact ⟨fun h => by simp at h, h.hi⟩
 · exact h
theorem IvZ.hi' {v : IvQ} (h : IvZ v) (t : Rat) : IvZ (updHi v t) := by
 obtain ⟨lo, hi, nl, nh⟩ := v
 unfold updHi; split
 · exact ⟨h.lo, fun h => by simp at h⟩
 · exact h
theorem step_par {l m : LnQ} {v : IvQ} (h : crossI l m = 0) : l.cutV v m = v ∧ (l.cutB v m = true ↔ 0 < m.value l.base) := by
 have hk : l.cutK m = 0 := by rw [cutK_cross, h]; rfl
 exact cut_zero v hk
theorem step_lo {l m : LnQ} {v : IvQ} (hl : l.Ne) (hz : IvZ v) (h : 0 < m.dir.cross l.dir) : crossI l m ≠ 0 ∧ l.cutV v m = updLo v (paramQ l (meetP l m)) ∧ l.cutB v m = !(updLo v (paramQ l (meetP l m))).empty := by
 rw [cutK_dir] at h
 have hc : crossI l m ≠ 0 := fun e => by rw [cutK_cross, e] at h; exact absurd h (by decide)
 obtain ⟨h1, h2⟩ := cut_up v h
 refine ⟨hc, ?_, ?_⟩
 · rw [updLo_meet hz, param_meet hl hc, h1]
 · rw [updLo_meet hz, param_meet hl hc, ← h1]
   rw [← empty_iff] at h2
   cases hb : l.cutB v m <;> cases he : (l.cutV v m).empty <;> simp_all
theorem step_hi {l m : LnQ} {v : IvQ} (hl : l.Ne) (hz : IvZ v) (h0 : crossI l m ≠ 0) (h : ¬ 0 < m.dir.cross l.dir) : l.cutV v m = updHi v (paramQ l (meetP l m)) ∧ l.cutB v m = !(updHi v (paramQ l (meetP l m))).empty := by
 rw [cutK_dir] at h
 have hk : l.cutK m ≠ 0 := fun e => by
   rw [cutK_cross] at e
   have : ((crossI l m : Int) : Rat) = 0 := by grind
   exact h0 (Rat.intCast_eq_zero_iff.1 this)
 obtain ⟨h1, h2⟩ := cut_dn (l := l) (m := m) v (by grind)
 refine ⟨?_, ?_⟩
 · rw [updHi_meet hz, param_meet hl h0, h1]
 · rw [updHi_meet hz, param_meet hl h0, ← h1]
   rw [← empty_iff] at h2
   cases hb : l.cutB v m <;> cases he : (l.cutV v m).empty <;> simp_all
end Go.Sx
end

section
set_option maxRecDepth 100000
namespace Go.Sx
open Go Go.Proofs
structure LS (l : LnQ) : Prop where
 ok : l.ok
 a : l.a.natAbs ≤ 4
 b : l.b.natAbs ≤ 4
 c : l.c.natAbs ≤ 40000
theorem LS.bl {l : LnQ} (h : LS l) : BL l 32 := ⟨by have := h.a; omega, by have := h.b; omega, by have := h.c; omega⟩
theorem LS.rev {l : LnQ} (h : LS l) : LS l.rev := ⟨h.ok.rev, by rw [show l.rev.a = -l.a from rfl, Int.natAbs_neg]; exact h.a, by rw [show l.rev.b = -l.b from rfl, Int.natAbs_neg]; exact h.b, by rw [show l.rev.c = -l.c from rfl, Int.natAbs_neg]; exact h.c⟩
theorem mapL_get {xs : List LnQ} {i : Nat} (h : i < xs.length) : (xs.map eL)[(i : Int).toNat]? = some (eL xs[i]) := by simp [h]
theorem mapL_len (xs : List LnQ) : (xs.map eL).length = xs.length := List.length_map ..
theorem mapL_set (xs : List LnQ) (i : Nat) (l : LnQ) : (xs.map eL).set (i : Int).toNat (eL l) = (xs.set i l).map eL := by rw [List.map_set, Int.toNat_natCast]
theorem take_next {α : Type} {xs : List α} {i : Nat} {p : α → Prop} (h : ∀ x ∈ xs.take i, p x) (hi : i < xs.length) (hy : p xs[i]) : ∀ x ∈ xs.take (i + 1), p x := by
 intro x hx
 rw [List.take_succ_eq_append_getElem hi] at hx
 simp only [List.mem_append, List.mem_singleton] at hx
 rcases hx with hx | rfl
 · exact h x hx
 · exact hy
theorem sameI_yes {a b : Int} (h : decide (a < 0) = decide (b < 0)) : decide (a.natAbs = b.natAbs) = decide (a = b) := by
 have h' : a < 0 ↔ b < 0 := by simpa using h
 exact decide_eq_decide.2 ⟨fun e => by omega, fun e => by rw [e]⟩
theorem LnQ.ext' {l m : LnQ} (h1 : l.a = m.a) (h2 : l.b = m.b) (h3 : l.c = m.c) : l = m := by cases l; cases m; simp_all
instance : DecidableEq NQ := fun x y => decidable_of_iff (x.l = y.l ∧ x.a = y.a ∧ x.b = y.b) (by
 cases x; cases y; simp)
theorem NQ.ext' {n m : NQ} (h1 : n.l = m.l) (h2 : n.a = m.a) (h3 : n.b = m.b) : n = m := by cases n; cases m; simp_all
theorem slOkL (ls : List LnQ) : slOk 6 (ls.map eL) := fun d hd => by
 obtain ⟨n, _, rfl⟩ := List.mem_map.1 hd; exact ⟨rfl, rfl⟩
theorem same_dg {a b : Nat} (hl : (dg a).length = (dg b).length) (h : ∀ j, j < (dg a).length → (dg a).getD j 0 = (dg b).getD j 0) : a = b := by
 have e : dg a = dg b := by
  apply List.ext_getElem hl
  intro i h1 h2
  have := h i h1
  rw [List.getD_eq_getElem?_getD, List.getD_eq_getElem?_getD, List.getElem?_eq_getElem h1, List.getElem?_eq_getElem h2] at this
  exact this
 rw [← dv_dg a, e, dv_dg]
theorem q_sq {GB : Gh} {z : Int} : PF GB Tryz.prog 130 [eI z] (eQ (z : Rat)) := by
 refine fn Tryz.func130 rfl rfl Tryz.ntmps130 rfl rfl (fun C => ?_)
 exact rz rfl (by rw [eQ_int]; rfl)
theorem q_sRev {GB : Gh} {l : LnQ} : PF GB Tryz.prog 18 [eL l] (eL l.rev) := by
 refine fn Tryz.func18 rfl rfl Tryz.ntmps18 rfl rfl (fun C => ?_)
 refine cl rfl q_Minus rfl <| cl rfl q_Minus rfl <| cl rfl q_Minus rfl <| ?_
 exact rz rfl rfl
theorem q_SameN {GB : Gh} {a b i j : Nat} [ha : BN a i] [hb : BN b j] (hi : i ≤ 400000000 := by decide) : PF GB Tryz.prog 158 [dN a, dN b] (vB (decide (a = b))) := by
 have hla := mapU_len (dg a)
 have hlb := mapU_len (dg b)
 have hba := dg_len_le ha.h
 refine fn Tryz.func158 rfl rfl Tryz.ntmps158 rfl rfl (fun C => ?_)
 refine br (fu2 := ⟨7⟩) rfl rfl rfl (fun hc10 => ?_) (fun hc10 => ?_)
 ·
  exact rz rfl (by rw [decide_eq_false (fun e : a = b => hc10 (by rw [e]))]; rfl)
 ·
  refine eqF 12 (.d (vI ((dg a).length : Nat))) rfl (by rw [hla]; rfl) ?_
  refine gx rfl <| ?_
  refine lp (X := Nat) (fun i => [(13, .d (vI (i : Nat))), (12, .d (vI ((dg a).length : Nat))), (0, .d (dN a)), (1, .d (dN b))]) (fun i => []) (fun i => i ≤ (dg a).length ∧ ∀ j, j < i → (dg a).getD j 0 = (dg b).getD j 0) (fun i => (dg a).length - i) 0 rfl ⟨Nat.zero_le _, fun j hj => absurd hj (by omega)⟩ (fun _ => rfl) (fun i hk => ?_)
  obtain ⟨h1, h2⟩ := hk
  refine br rfl rfl rfl (fun hc14 => ?_) (fun hc14 => ?_)
  ·
   refine ix _ rfl (mapU_getI (by omega)) rfl <| ix _ rfl (mapU_getI (by omega)) rfl <| ?_
   refine br rfl rfl rfl (fun hc24 => ?_) (fun hc24 => ?_)
   ·
    exact rz rfl (by rw [decide_eq_false (fun e : a = b => hc24 (by rw [e]))]; rfl)
   ·
    exact at_ (i + 1) ⟨⟨by omega, fun j hj => by by_cases q : j = i; (subst q; omega); exact h2 j (by omega)⟩, (by omega)⟩
  ·
   exact rz rfl (by rw [decide_eq_true (same_dg (by omega) (fun j hj => h2 j (by omega)))]; rfl)
theorem q_SameI {GB : Gh} {a b : Int} {i j : Nat} [ha : BI a i] [hb : BI b j] (hi : i ≤ 400000000 := by decide) : PF GB Tryz.prog 110 [eI a, eI b] (vB (decide (a = b))) := by
 refine fn (fu := ⟨14⟩) Tryz.func110 rfl rfl Tryz.ntmps110 rfl rfl (fun C => ?_)
 refine eqF 9 (.d (.v (.bool (decide (decide (a < 0) = decide (b < 0)))))) rfl (by congr 2) ?_
 refine gx rfl <| ?_
 refine csd 10 rfl rfl rfl (fun hg10 => ?_) (fun hg10 => ?_)
 ·
  refine cl rfl (q_SameN (by omega)) rfl <| ?_
  exact rz rfl (by show DV.v (.bool _) = DV.v (.bool _); rw [← sameI_yes hg10])
 ·
  exact rz rfl (by rw [decide_eq_false (fun e : a = b => hg10 (by rw [e]))]; rfl)
theorem q_SameL {GB : Gh} {l m : LnQ} (hl : BL l 32) (hm : BL m 32) : PF GB Tryz.prog 52 [eL l, eL m] (vB (decide (l = m))) := by
 haveI h1 : BI l.a 32 := ⟨hl.a⟩
 haveI h2 : BI l.b 32 := ⟨hl.b⟩
 haveI h3 : BI l.c 32 := ⟨hl.c⟩
 haveI k1 : BI m.a 32 := ⟨hm.a⟩
 haveI k2 : BI m.b 32 := ⟨hm.b⟩
 haveI k3 : BI m.c 32 := ⟨hm.c⟩
 refine fn Tryz.func52 rfl rfl Tryz.ntmps52 rfl rfl (fun C => ?_)
 refine cl rfl (q_SameI (a := l.a) (b := m.a)) rfl <| ?_
 refine csd 10 rfl rfl rfl (fun hg10 => ?_) (fun hg10 => ?_)
 ·
  refine cl rfl (q_SameI (by omega)) rfl <| ?_
  refine csd 17 rfl rfl rfl (fun hg17 => ?_) (fun hg17 => ?_)
  ·
   refine cl rfl (q_SameI (by omega)) rfl <| ?_
   exact rz rfl (by show DV.v (.bool _) = DV.v (.bool _); rw [decide_eq_decide.2 ⟨fun e => LnQ.ext' hg10 hg17 e, fun e => by rw [e]⟩])
  ·
   exact rz rfl (by rw [decide_eq_false (fun e : l = m => hg17 (by rw [e]))]; rfl)
 ·
  exact rz rfl (by rw [decide_eq_false (fun e : l = m => hg10 (by rw [e]))]; rfl)
end Go.Sx
end

section
set_option maxRecDepth 100000
namespace Go.Sx
open Go Go.Proofs
class LB (l : LnQ) : Prop where bl : BL l 32
instance LB.a (l : LnQ) [h : LB l] : BI l.a 32 := ⟨h.bl.a⟩
instance LB.b (l : LnQ) [h : LB l] : BI l.b 32 := ⟨h.bl.b⟩
instance LB.c (l : LnQ) [h : LB l] : BI l.c 32 := ⟨h.bl.c⟩
class BPt (p : PtQ) (k : outParam Nat) : Prop where
 x : BQ p.x k
 y : BQ p.y k
instance BPt.ix (p : PtQ) (k : Nat) [h : BPt p k] : BQ p.x k := h.x
instance BPt.iy (p : PtQ) (k : Nat) [h : BPt p k] : BQ p.y k := h.y
instance BPt.dir (l : LnQ) [LB l] : BPt l.dir 33 := ⟨inferInstanceAs (BQ (l.b : Rat) 33), inferInstanceAs (BQ (-(l.a : Rat)) 33)⟩
instance BQ.dot (p q : PtQ) (i j : Nat) [BPt p i] [BPt q j] : BQ (p.dot q) (i + j + (i + j) + 1) := inferInstanceAs (BQ (p.x * q.x + p.y * q.y) _)
instance BQ.cross (p q : PtQ) (i j : Nat) [BPt p i] [BPt q j] : BQ (p.cross q) (i + j + (i + j) + 1) := inferInstanceAs (BQ (p.x * q.y - p.y * q.x) _)
instance BPt.mov (p q : PtQ) (c : Rat) (i j k : Nat) [BPt p i] [BPt q j] [BQ c k] : BPt (movQ p q c) (i + (k + j) + 1) := ⟨inferInstanceAs (BQ (p.x + c * q.x) _), inferInstanceAs (BQ (p.y + c * q.y) _)⟩
instance BQ.value (l : LnQ) (p : PtQ) (i : Nat) [LB l] [BPt p i] : BQ (l.value p) (32 + 1 + i + (32 + 1 + i) + 1 + (32 + 1) + 1) := inferInstanceAs (BQ ((l.a : Rat) * p.x + (l.b : Rat) * p.y + (l.c : Rat)) _)
theorem dd_ne {l : LnQ} (h : l.Ne) : l.dir.dot l.dir ≠ 0 := by have := dd_pos h; grind
theorem q_Dir {GB : Gh} {l : LnQ} : PF GB Tryz.prog 78 [eL l] (eP l.dir) := by
 refine fn Tryz.func78 rfl rfl Tryz.ntmps78 rfl rfl (fun C => ?_)
 refine cl rfl q_sq rfl <| cl rfl q_sq rfl <| cl rfl q_Opp rfl <| ?_
 exact rz rfl rfl
theorem q_Dot {GB : Gh} {p q : PtQ} {i j : Nat} [hp : BPt p i] [hq : BPt q j] (hi : i ≤ 200000 := by decide) (hj : j ≤ 200000 := by decide) : PF GB Tryz.prog 168 [eP p, eP q] (eQ (p.dot q)) := by
 refine fn Tryz.func168 rfl rfl Tryz.ntmps168 rfl rfl (fun C => ?_)
 refine cl rfl (q_Times (by omega) (by omega)) rfl <| cl rfl (q_Times (by omega) (by omega)) rfl <| cl rfl (q_Plus (by omega) (by omega)) rfl <| ?_
 exact rz rfl rfl
theorem q_Cross {GB : Gh} {p q : PtQ} {i j : Nat} [hp : BPt p i] [hq : BPt q j] (hi : i ≤ 200000 := by decide) (hj : j ≤ 200000 := by decide) : PF GB Tryz.prog 127 [eP p, eP q] (eQ (p.cross q)) := by
 refine fn Tryz.func127 rfl rfl Tryz.ntmps127 rfl rfl (fun C => ?_)
 refine cl rfl (q_Times (by omega) (by omega)) rfl <| cl rfl (q_Times (by omega) (by omega)) rfl <| cl rfl (q_Sub (by omega) (by omega)) rfl <| ?_
 exact rz rfl rfl
theorem q_PAdd {GB : Gh} {p q : PtQ} {c : Rat} {i j k : Nat} [hp : BPt p i] [hq : BPt q j] [hc : BQ c k] (hi : i ≤ 200000 := by decide) (hj : j ≤ 200000 := by decide) (hk : k ≤ 200000 := by decide) : PF GB Tryz.prog 42 [eP p, eQ c, eP q] (eP (movQ p q c)) := by
 refine fn Tryz.func42 rfl rfl Tryz.ntmps42 rfl rfl (fun C => ?_)
 refine cl rfl (q_Times (by omega) (by omega)) rfl <| cl rfl (q_Plus (by omega) (by omega)) rfl <| cl rfl (q_Times (by omega) (by omega)) rfl <| cl rfl (q_Plus (by omega) (by omega)) rfl <| ?_
 exact rz rfl rfl
theorem q_Value {GB : Gh} {l : LnQ} {p : PtQ} {i : Nat} [hl : LB l] [hp : BPt p i] (hi : i ≤ 400000 := by decide) : PF GB Tryz.prog 116 [eL l, eP p] (eQ (l.value p)) := by
 refine fn Tryz.func116 rfl rfl Tryz.ntmps116 rfl rfl (fun C => ?_)
 refine cl rfl (q_sq (z := l.a)) rfl <| cl rfl (q_Times (by omega) (by omega)) rfl <| cl rfl (q_sq (z := l.b)) rfl <| cl rfl (q_Times (by omega) (by omega)) rfl <| ?_
 refine cl rfl (q_Plus (by omega) (by omega)) rfl <| cl rfl (q_sq (z := l.c)) rfl <| cl rfl (q_Plus (by omega) (by omega)) rfl <| ?_
 exact rz rfl rfl
theorem q_Side {GB : Gh} {l : LnQ} {p : PtQ} {i : Nat} [hl : LB l] [hp : BPt p i] (hi : i ≤ 400000 := by decide) : PF GB Tryz.prog 62 [eL l, eP p] (vI (l.value p).num.sign) := by
 refine fn Tryz.func62 rfl rfl Tryz.ntmps62 rfl rfl (fun C => ?_)
 refine cl rfl (q_Value hi) rfl <| cl rfl q_S rfl <| ?_
 exact rz rfl rfl
theorem q_Base {GB : Gh} {l : LnQ} [hl : LB l] (hn : l.Ne) : PF GB Tryz.prog 125 [eL l] (eP l.base) := by
 refine fn Tryz.func125 rfl rfl Tryz.ntmps125 rfl rfl (fun C => ?_)
 refine cl rfl q_Dir rfl <| cl rfl (q_sq (z := l.c)) rfl <| cl rfl q_Dot rfl <| cl rfl (q_Over (dd_ne hn)) rfl <| cl rfl q_Opp rfl <| cl rfl (q_sq (z := l.a)) rfl <| ?_
 refine cl rfl q_Times rfl <| cl rfl (q_sq (z := l.b)) rfl <| cl rfl q_Times rfl <| ?_
 exact rz rfl (by rw [← base_ref]; rfl)
instance BPt.base (l : LnQ) [LB l] : BPt l.base 300 := by
 rw [← base_ref]
 constructor
 · exact BQ.mono (inferInstance : BQ (-((l.c : Rat) / l.dir.dot l.dir) * (l.a : Rat)) _) (by decide)
 · exact BQ.mono (inferInstance : BQ (-((l.c : Rat) / l.dir.dot l.dir) * (l.b : Rat)) _) (by decide)
theorem q_At {GB : Gh} {l : LnQ} {t : Rat} {k : Nat} [hl : LB l] [ht : BQ t k] (hn : l.Ne) (hk : k ≤ 200000 := by decide) : PF GB Tryz.prog 160 [eL l, eQ t] (eP (l.at t)) := by
 refine fn Tryz.func160 rfl rfl Tryz.ntmps160 rfl rfl (fun C => ?_)
 refine cl rfl (q_Base hn) rfl <| cl rfl q_Dir rfl <| cl rfl (q_PAdd (by decide) (by decide) hk) rfl <| ?_
 exact rz rfl (by rw [← at_ref]; rfl)
theorem q_Param {GB : Gh} {l : LnQ} {p : PtQ} {k : Nat} [hl : LB l] [hp : BPt p k] (hn : l.Ne) (hk : k ≤ 200000 := by decide) : PF GB Tryz.prog 126 [eL l, eP p] (eQ (paramQ l p)) := by
 refine fn Tryz.func126 rfl rfl Tryz.ntmps126 rfl rfl (fun C => ?_)
 refine cl rfl q_Dir rfl <| cl rfl (q_Dot (by omega) (by decide)) rfl <| cl rfl (q_Dot (by omega) (by decide)) rfl <| cl rfl (q_Over (dd_ne hn) (by omega) (by decide)) rfl <| ?_
 exact rz rfl rfl
instance BI.crossI (l m : LnQ) [LB l] [LB m] : BI (crossI l m) 129 := inferInstanceAs (BI (l.a * m.b - m.a * l.b) 129)
instance BI.meetX (l m : LnQ) [LB l] [LB m] : BI (meetX l m) 129 := inferInstanceAs (BI (l.b * m.c - m.b * l.c) 129)
instance BI.meetY (l m : LnQ) [LB l] [LB m] : BI (meetY l m) 129 := inferInstanceAs (BI (m.a * l.c - l.a * m.c) 129)
instance BPt.imeet (l m : LnQ) [LB l] [LB m] : BPt (meetP l m) 260 := by
 unfold meetP
 split
 · exact ⟨BQ.mono (k := 1) ⟨by decide, by decide⟩ (by decide), BQ.mono (k := 1) ⟨by decide, by decide⟩ (by decide)⟩
 · exact ⟨inferInstanceAs (BQ ((meetX l m : Rat) / (crossI l m : Rat)) 260), inferInstanceAs (BQ ((meetY l m : Rat) / (crossI l m : Rat)) 260)⟩
theorem cross_zero (l m : LnQ) : (((l.a : Rat) * (m.b : Rat) - (m.a : Rat) * (l.b : Rat)).num.sign = 0) ↔ crossI l m = 0 := by
 rw [sgn_zero, ← cross_cast]
 exact Rat.intCast_eq_zero_iff
theorem cross_ne {l m : LnQ} (h : crossI l m ≠ 0) : (l.a : Rat) * (m.b : Rat) - (m.a : Rat) * (l.b : Rat) ≠ 0 := by
 rw [← cross_cast]
 exact fun e => h (Rat.intCast_eq_zero_iff.1 e)
set_option maxHeartbeats 1000000 in
theorem q_Meet {GB : Gh} {l m : LnQ} [hl : LB l] [hm : LB m] : PF GB Tryz.prog 124 [eL l, eL m] (.tp [eP (meetP l m), vB (decide (crossI l m ≠ 0))]) := by
 refine fn Tryz.func124 rfl rfl Tryz.ntmps124 rfl rfl (fun C => ?_)
 refine cl rfl (q_sq (z := l.a)) rfl <| cl rfl (q_sq (z := m.b)) rfl <| cl rfl q_Times rfl <| cl rfl (q_sq (z := m.a)) rfl <| cl rfl (q_sq (z := l.b)) rfl <| ?_
 refine cl rfl q_Times rfl <| cl rfl q_Sub rfl <| cl rfl q_S rfl <| ?_
 refine br rfl rfl rfl (fun hc26 => ?_) (fun hc26 => ?_)
 ·
  have hcr := (cross_zero l m).1 hc26
  exact rz rfl (by unfold meetP; rw [if_pos hcr, decide_eq_false (fun e => e hcr)]; show DV.tp [.ag [_, .sl [], .sl [], _, .sl [], .sl []], _] = .tp [eP ⟨0, 0⟩, _]; unfold eP dD; simp only [show (0 : Rat).num = 0 from rfl, show (0 : Rat).den = 1 from rfl, Int.natAbs_zero, dN_zero]; rfl)
 ·
  have hcr : crossI l m ≠ 0 := fun e => hc26 ((cross_zero l m).2 e)
  refine cl rfl (q_sq (z := l.b)) rfl <| cl rfl (q_sq (z := m.c)) rfl <| cl rfl q_Times rfl <| cl rfl (q_sq (z := m.b)) rfl <| cl rfl (q_sq (z := l.c)) rfl <| ?_
  refine cl rfl q_Times rfl <| cl rfl q_Sub rfl <| cl rfl (q_sq (z := m.a)) rfl <| cl rfl (q_sq (z := l.c)) rfl <| cl rfl q_Times rfl <| cl rfl (q_sq (z := l.a)) rfl <| ?_
  refine cl rfl (q_sq (z := m.c)) rfl <| cl rfl q_Times rfl <| cl rfl q_Sub rfl <| cl rfl (q_Over (cross_ne hcr)) rfl <| cl rfl (q_Over (cross_ne hcr)) rfl <| ?_
  exact rz rfl (by unfold meetP; rw [if_neg hcr, decide_eq_true hcr, meetX_cast, meetY_cast, cross_cast]; rfl)
def lcmp (l m : LnQ) : Int := if (l.a - m.a).sign ≠ 0 then (l.a - m.a).sign else if (l.b - m.b).sign ≠ 0 then (l.b - m.b).sign else (l.c - m.c).sign
theorem lcmp_zero (l m : LnQ) : lcmp l m = 0 ↔ l = m := by
 unfold lcmp
 constructor
 · intro h
   split at h
   · contradiction
   · split at h
     · contradiction
     · rename_i h1 h2
       have a1 := Int.sign_eq_zero_iff_zero.1 (Decidable.not_not.1 h1)
       have a2 := Int.sign_eq_zero_iff_zero.1 (Decidable.not_not.1 h2)
       have a3 := Int.sign_eq_zero_iff_zero.1 h
       exact LnQ.ext' (by omega) (by omega) (by omega)
 · rintro rfl
   simp
theorem q_LCmp {GB : Gh} {l m : LnQ} [hl : LB l] [hm : LB m] : PF GB Tryz.prog 79 [eL l, eL m] (vI (lcmp l m)) := by
 refine fn Tryz.func79 rfl rfl Tryz.ntmps79 rfl rfl (fun C => ?_)
 refine cl rfl (q_CompareI (a := l.a) (b := m.a)) rfl <| ?_
 refine br rfl rfl rfl (fun hc13 => ?_) (fun hc13 => ?_)
 ·
  exact rz rfl (by show vI _ = _; unfold lcmp; rw [if_pos hc13])
 ·
  refine cl rfl (q_CompareI (a := l.b) (b := m.b)) rfl <| ?_
  refine br rfl rfl rfl (fun hc21 => ?_) (fun hc21 => ?_)
  ·
   exact rz rfl (by show vI _ = _; unfold lcmp; rw [if_neg hc13, if_pos hc21])
  ·
   refine cl rfl (q_CompareI (a := l.c) (b := m.c)) rfl <| ?_
   exact rz rfl (by show vI _ = _; unfold lcmp; rw [if_neg hc13, if_neg hc21])
end Go.Sx
end

section
set_option maxRecDepth 100000
namespace Go.Sx
open Go Go.Proofs
theorem q_half {GB : Gh} {v : PtQ} : PF GB Tryz.prog 129 [eP v] (vI v.half) := by
 refine fn Tryz.func129 rfl rfl Tryz.ntmps129 rfl rfl (fun C => ?_)
 refine cl rfl (q_S (q := v.x)) rfl <| cl rfl (q_S (q := v.y)) rfl <| ?_
 refine cs 13 rfl rfl rfl (fun hg13 => ?_) (fun hg13 => ?_)
 ·
  refine br rfl rfl rfl (fun hc16 => ?_) (fun hc16 => ?_)
  ·
   exact rz rfl (by show vI _ = vI _; unfold PtQ.half; generalize v.x.num.sign = sx at *; generalize v.y.num.sign = sy at *; congr 1; (repeat' split) <;> omega)
  ·
   refine cs 19 rfl rfl rfl (fun hg19 => ?_) (fun hg19 => ?_)
   ·
    exact rz rfl (by show vI _ = vI _; unfold PtQ.half; generalize v.x.num.sign = sx at *; generalize v.y.num.sign = sy at *; congr 1; (repeat' split) <;> omega)
   ·
    refine cs 22 rfl rfl rfl (fun hg22 => ?_) (fun hg22 => ?_)
    ·
     refine br rfl rfl rfl (fun hc26 => ?_) (fun hc26 => ?_)
     ·
      exact rz rfl (by show vI _ = vI _; unfold PtQ.half; generalize v.x.num.sign = sx at *; generalize v.y.num.sign = sy at *; congr 1; (repeat' split) <;> omega)
     ·
      exact rz rfl (by show vI _ = vI _; unfold PtQ.half; generalize v.x.num.sign = sx at *; generalize v.y.num.sign = sy at *; congr 1; (repeat' split) <;> omega)
    ·
     exact rz rfl (by show vI _ = vI _; unfold PtQ.half; generalize v.x.num.sign = sx at *; generalize v.y.num.sign = sy at *; congr 1; (repeat' split) <;> omega)
 ·
  refine cs 19 rfl rfl rfl (fun hg19 => ?_) (fun hg19 => ?_)
  ·
   exact rz rfl (by show vI _ = vI _; unfold PtQ.half; generalize v.x.num.sign = sx at *; generalize v.y.num.sign = sy at *; congr 1; (repeat' split) <;> omega)
  ·
   refine cs 22 rfl rfl rfl (fun hg22 => ?_) (fun hg22 => ?_)
   ·
    refine br rfl rfl rfl (fun hc26 => ?_) (fun hc26 => ?_)
    ·
     exact rz rfl (by show vI _ = vI _; unfold PtQ.half; generalize v.x.num.sign = sx at *; generalize v.y.num.sign = sy at *; congr 1; (repeat' split) <;> omega)
    ·
     exact rz rfl (by show vI _ = vI _; unfold PtQ.half; generalize v.x.num.sign = sx at *; generalize v.y.num.sign = sy at *; congr 1; (repeat' split) <;> omega)
   ·
    exact rz rfl (by show vI _ = vI _; unfold PtQ.half; generalize v.x.num.sign = sx at *; generalize v.y.num.sign = sy at *; congr 1; (repeat' split) <;> omega)
theorem sgn_bd (z : Int) : -1 ≤ z.sign ∧ z.sign ≤ 1 := by
 rcases Int.lt_trichotomy z 0 with h | h | h
 · rw [Int.sign_eq_neg_one_of_neg h]; omega
 · rw [h]; decide
 · rw [Int.sign_eq_one_of_pos h]; omega
theorem q_Angle {GB : Gh} {u v : PtQ} {i j : Nat} [hu : BPt u i] [hv : BPt v j] (hi : i ≤ 200000 := by decide) (hj : j ≤ 200000 := by decide) : PF GB Tryz.prog 77 [eP u, eP v] (vI (angleQ u v)) := by
 refine fn Tryz.func77 rfl rfl Tryz.ntmps77 rfl rfl (fun C => ?_)
 refine cl rfl (q_half (v := u)) rfl <| cl rfl (q_half (v := v)) rfl <| ?_
 refine br rfl rfl rfl (fun hc13 => ?_) (fun hc13 => ?_)
 ·
  refine br rfl rfl rfl (fun hc16 => ?_) (fun hc16 => ?_)
  ·
   exact rz rfl (by show vI _ = vI _; unfold angleQ; rw [if_pos hc16])
  ·
   exact rz rfl (by show vI _ = vI _; unfold angleQ; rw [if_neg hc16, if_pos (by omega)])
 ·
  refine cl rfl (q_Cross hi hj) rfl <| cl (hv := by simp only [allP]; exact (by have := sgn_bd (u.cross v).num; omega)) rfl q_S rfl <| ?_
  exact rz rfl (by show vI _ = vI _; unfold angleQ; rw [if_neg (by omega), if_neg (by omega)])
instance BQ.i1 : BQ (((1 : Int) : Rat)) 2 := ⟨by decide, by decide⟩
def eV (v : IvQ) : DV := .ag [.v (.bool (decide (v.lo.num < 0))), dN v.lo.num.natAbs, dD v.lo.den, .v (.bool (decide (v.hi.num < 0))), dN v.hi.num.natAbs, dD v.hi.den, .v (.bool v.nl), .v (.bool v.nh)]
theorem eV_all : eV IvQ.all = .ag [.v (.bool false), .sl [], .sl [], .v (.bool false), .sl [], .sl [], .v (.bool true), .v (.bool true)] := by
 unfold eV IvQ.all dD
 simp only [show (0 : Rat).num = 0 from rfl, show (0 : Rat).den = 1 from rfl, Int.natAbs_zero, dN_zero]; rfl
theorem eQ_zero : eQ 0 = .ag [.v (.bool false), .sl [], .sl []] := by
 unfold eQ dD
 simp only [show (0 : Rat).num = 0 from rfl, show (0 : Rat).den = 1 from rfl, Int.natAbs_zero, dN_zero]; rfl
def sampleR (v : IvQ) : Rat := if v.nl = true ∧ v.nh = true then 0 else if v.nl = true then v.hi - 1 else if v.nh = true then v.lo + 1 else (v.lo + v.hi) / 2
theorem q_Full {GB : Gh}  : PF GB Tryz.prog 123 [] (eV IvQ.all) := by
 refine fn Tryz.func123 rfl rfl Tryz.ntmps123 rfl rfl (fun C => ?_)
 exact rz rfl (by rw [eV_all]; rfl)
theorem q_Sample {GB : Gh} {v : IvQ} {i : Nat} [hl : BQ v.lo i] [hh : BQ v.hi i] (hi : i ≤ 100000 := by decide) : PF GB Tryz.prog 161 [eV v] (eQ (sampleR v)) := by
 refine fn Tryz.func161 rfl rfl Tryz.ntmps161 rfl rfl (fun C => ?_)
 refine csb 6 rfl rfl rfl (fun hg6 => ?_) (fun hg6 => ?_)
 ·
  refine bb rfl rfl rfl (fun hc3 => ?_) (fun hc3 => ?_)
  ·
   exact rz rfl (by unfold sampleR; rw [if_pos ⟨hg6, hc3⟩, eQ_zero]; rfl)
  ·
   refine bb rfl rfl rfl (fun hc11 => ?_) (fun hc11 => ?_)
   ·
    refine cl rfl (q_Of (n := 1) (by decide) (by decide)) rfl <| cl rfl (q_Sub (a := v.hi) (b := ((1 : Int) : Rat)) (by omega) (by decide)) rfl <| ?_
    exact rz rfl (by unfold sampleR; rw [if_neg (by simp [hc3]), if_pos hc11]; rfl)
   ·
    refine bb rfl rfl rfl (fun hc18 => ?_) (fun hc18 => ?_)
    ·
     refine cl rfl (q_Of (n := 1) (by decide) (by decide)) rfl <| cl rfl (q_Plus (a := v.lo) (b := ((1 : Int) : Rat)) (by omega) (by decide)) rfl <| ?_
     exact rz rfl (by simp [hg6] at hc11)
    ·
     refine cl rfl (q_Mid (a := v.lo) (b := v.hi) (by omega) (by omega)) rfl <| ?_
     exact rz rfl (by simp [hg6] at hc11)
 ·
  refine bb rfl rfl rfl (fun hc11 => ?_) (fun hc11 => ?_)
  ·
   refine cl rfl (q_Of (n := 1) (by decide) (by decide)) rfl <| cl rfl (q_Sub (a := v.hi) (b := ((1 : Int) : Rat)) (by omega) (by decide)) rfl <| ?_
   exact rz rfl (by simp [hg6] at hc11)
  ·
   refine bb rfl rfl rfl (fun hc18 => ?_) (fun hc18 => ?_)
   ·
    refine cl rfl (q_Of (n := 1) (by decide) (by decide)) rfl <| cl rfl (q_Plus (a := v.lo) (b := ((1 : Int) : Rat)) (by omega) (by decide)) rfl <| ?_
    exact rz rfl (by unfold sampleR; rw [if_neg (by simp [hg6]), if_neg (by simp [hg6]), if_pos hc18]; rfl)
   ·
    refine cl rfl (q_Mid (a := v.lo) (b := v.hi) (by omega) (by omega)) rfl <| ?_
    exact rz rfl (by unfold sampleR; rw [if_neg (by simp [hg6]), if_neg (by simp [hg6]), if_neg (by simp [hc18])]; rfl)
end Go.Sx
end

section
set_option maxRecDepth 100000
namespace Go.Sx
open Go Go.Proofs
theorem mkl_ok {p q r : Bool} {a b c : Nat} (h : Nat.gcd a b ≠ 0) : LnQ.ok ⟨zv p (a / Nat.gcd (Nat.gcd a b) c), zv q (b / Nat.gcd (Nat.gcd a b) c), zv r (c / Nat.gcd (Nat.gcd a b) c)⟩ := by
 have hg : 0 < Nat.gcd (Nat.gcd a b) c := Nat.gcd_pos_of_pos_left _ (Nat.pos_of_ne_zero h)
 have d0 : Nat.gcd (Nat.gcd a b) c ∣ Nat.gcd a b := Nat.gcd_dvd_left _ _
 have d1 : Nat.gcd (Nat.gcd a b) c ∣ a := Nat.dvd_trans d0 (Nat.gcd_dvd_left _ _)
 have d2 : Nat.gcd (Nat.gcd a b) c ∣ b := Nat.dvd_trans d0 (Nat.gcd_dvd_right _ _)
 have d3 : Nat.gcd (Nat.gcd a b) c ∣ c := Nat.gcd_dvd_right _ _
 refine ⟨?_, ?_⟩
 · rintro ⟨h1, h2⟩
   have h1' := congrArg Int.natAbs h1
   have h2' := congrArg Int.natAbs h2
   simp only [zv_abs, Int.natAbs_zero] at h1' h2'
   have e1 := Nat.div_mul_cancel d1
   have e2 := Nat.div_mul_cancel d2
   rw [h1', Nat.zero_mul] at e1
   rw [h2', Nat.zero_mul] at e2
   exact h (by rw [← e1, ← e2]; rfl)
 · simp only [zv_abs]
   rw [Nat.gcd_div d1 d2, Nat.gcd_div d0 d3, Nat.div_self hg]
theorem mkl_le (p : Bool) (a g : Nat) : (zv p (a / g)).natAbs ≤ a := by rw [zv_abs]; exact Nat.div_le_self ..
theorem PF.eq {GB : Gh} {P : Program} {f : FuncId} {vs : List DV} {r r' : DV} (h : PF GB P f vs r) (e : r = r') : PF GB P f vs r' := e ▸ h
def iP (m n : Int) : PtQ := ⟨(m : Rat), (n : Rat)⟩
theorem biOf {m : Int} {k : Nat} (h : m.natAbs < 2 ^ k) : BI m k := ⟨h⟩
theorem biC {m : Int} {k : Nat} (h : m.natAbs ≤ 1000) (hk : 10 ≤ k) : BI m k := ⟨Nat.lt_of_lt_of_le (show m.natAbs < 2 ^ 10 by omega) (Nat.pow_le_pow_right (by decide) hk)⟩
instance BPt.int (m n : Int) (i : Nat) [h : BI m i] [k : BI n i] : BPt (iP m n) (i + 1) := ⟨inferInstanceAs (BQ (m : Rat) (i + 1)), inferInstanceAs (BQ (n : Rat) (i + 1))⟩
theorem eQI {q : Rat} {k : Int} (h : q = (k : Rat)) : eQ q = eQ (k : Rat) := by rw [h]
theorem ePI {p : PtQ} {m n : Int} (h1 : p.x = (m : Rat)) (h2 : p.y = (n : Rat)) : eP p = eP (iP m n) := by
 obtain ⟨x, y⟩ := p
 simp only at h1 h2
 subst h1 h2
 rfl
def mkL (a b c : Int) : LnQ :=
 ⟨zv (decide (a < 0)) (a.natAbs / Nat.gcd (Nat.gcd a.natAbs b.natAbs) c.natAbs), zv (decide (b < 0)) (b.natAbs / Nat.gcd (Nat.gcd a.natAbs b.natAbs) c.natAbs), zv (decide (c < 0)) (c.natAbs / Nat.gcd (Nat.gcd a.natAbs b.natAbs) c.natAbs)⟩
theorem mkL_ok {a b c : Int} (h : ¬ (a = 0 ∧ b = 0)) : (mkL a b c).ok :=
 mkl_ok fun e => h ⟨Int.natAbs_eq_zero.1 (Nat.eq_zero_of_gcd_eq_zero_left e), Int.natAbs_eq_zero.1 (Nat.eq_zero_of_gcd_eq_zero_right e)⟩
theorem mkL_le (a b c : Int) : (mkL a b c).a.natAbs ≤ a.natAbs ∧ (mkL a b c).b.natAbs ≤ b.natAbs ∧ (mkL a b c).c.natAbs ≤ c.natAbs := ⟨mkl_le .., mkl_le .., mkl_le ..⟩
theorem q_Xy {GB : Gh} {m n : Int} (hm : m.natAbs ≤ 1000) (hn : n.natAbs ≤ 1000) : PF GB Tryz.prog 38 [.v (.int .i64 m), .v (.int .i64 n)] (eP (iP m n)) := by
 refine fn Tryz.func38 rfl rfl Tryz.ntmps38 rfl rfl (fun C => ?_)
 refine cl rfl (q_Of (n := m) (by omega) (by omega)) rfl <| cl rfl (q_Of (n := n) (by omega) (by omega)) rfl <| ?_
 exact rz rfl rfl
theorem q_AddI {GB : Gh} {m n m' n' k : Int} (hm : m.natAbs ≤ 1000) (hn : n.natAbs ≤ 1000) (hm' : m'.natAbs ≤ 1000) (hn' : n'.natAbs ≤ 1000) (hk : k.natAbs ≤ 1000) : PF GB Tryz.prog 42 [eP (iP m n), eQ (k : Rat), eP (iP m' n')] (eP (iP (m + k * m') (n + k * n'))) := by
 haveI := biC (k := 10) hm (by decide)
 haveI := biC (k := 10) hn (by decide)
 haveI := biC (k := 10) hm' (by decide)
 haveI := biC (k := 10) hn' (by decide)
 haveI := biC (k := 10) hk (by decide)
 exact PF.eq (q_PAdd (p := iP m n) (q := iP m' n') (c := (k : Rat))) (ePI (by show (m : Rat) + (k : Rat) * (m' : Rat) = _; push_cast; rfl) (by show (n : Rat) + (k : Rat) * (n' : Rat) = _; push_cast; rfl))
theorem q_SubI {GB : Gh} {m n m' n' : Int} (hm : m.natAbs ≤ 1000) (hn : n.natAbs ≤ 1000) (hm' : m'.natAbs ≤ 1000) (hn' : n'.natAbs ≤ 1000) : PF GB Tryz.prog 87 [eP (iP m n), eP (iP m' n')] (eP (iP (m - m') (n - n'))) := by
 refine fn Tryz.func87 rfl rfl Tryz.ntmps87 rfl rfl (fun C => ?_)
 refine cl rfl (q_Of (n := -1) (by decide) (by decide)) rfl <| cl rfl (q_AddI (m := m) (n := n) (m' := m') (n' := n') (k := -1) hm hn hm' hn' (by decide)) rfl <| ?_
 exact rz rfl (by rw [show m - m' = m + -1 * m' by omega, show n - n' = n + -1 * n' by omega]; rfl)
theorem q_SameI' {GB : Gh} {m n m' n' : Int} (hm : m.natAbs ≤ 1000) (hn : n.natAbs ≤ 1000) (hm' : m'.natAbs ≤ 1000) (hn' : n'.natAbs ≤ 1000) : PF GB Tryz.prog 96 [eP (iP m n), eP (iP m' n')] (.v (.bool (decide (m = m' ∧ n = n')))) := by
 haveI := biC (k := 10) hm (by decide)
 haveI := biC (k := 10) hn (by decide)
 haveI := biC (k := 10) hm' (by decide)
 haveI := biC (k := 10) hn' (by decide)
 refine fn Tryz.func96 rfl rfl Tryz.ntmps96 rfl rfl (fun C => ?_)
 refine cl rfl (q_C (a := (m : Rat)) (b := (m' : Rat))) rfl <| ?_
 refine cs 11 rfl rfl rfl (fun hg11 => ?_) (fun hg11 => ?_)
 ·
  refine cl rfl (q_C (a := (n : Rat)) (b := (n' : Rat))) rfl <| ?_
  exact rz rfl (by rw [rcmp_eq] at hg11; have e : m = m' := (by exact_mod_cast hg11); exact congrArg (fun z => DV.v (.bool z)) (decide_eq_decide.2 (by rw [rcmp_eq, Rat.intCast_inj]; simp [e])))
 ·
  exact rz rfl (by rw [rcmp_eq] at hg11; have e : ¬ m = m' := (fun e => hg11 (by rw [e])); show DV.v (.bool false) = DV.v (.bool _); rw [decide_eq_false (fun h => e h.1)])
theorem gcd_ltk {a b k : Nat} (ha : a < k) (hb : b < k) : Nat.gcd a b < k := by
 rcases Nat.eq_zero_or_pos a with rfl | p
 · simpa using hb
 · exact Nat.lt_of_le_of_lt (Nat.gcd_le_left b p) ha
set_option maxHeartbeats 1000000 in
theorem q_MakeL {GB : Gh} {a b c : Int} {i : Nat} (ha : BI a i) (hb : BI b i) (hc : BI c i) (hi : i ≤ 100000000) (h0 : ¬ (a = 0 ∧ b = 0)) : PF GB Tryz.prog 94 [eI a, eI b, eI c] (.tp [eL (mkL a b c), .v (.bool true)]) := by
 have hgn : Nat.gcd a.natAbs b.natAbs ≠ 0 := fun h => h0 ⟨Int.natAbs_eq_zero.1 (Nat.eq_zero_of_gcd_eq_zero_left h), Int.natAbs_eq_zero.1 (Nat.eq_zero_of_gcd_eq_zero_right h)⟩
 have hgp : 0 < Nat.gcd (Nat.gcd a.natAbs b.natAbs) c.natAbs := Nat.gcd_pos_of_pos_left _ (Nat.pos_of_ne_zero hgn)
 haveI hb1 : BN (Nat.gcd a.natAbs b.natAbs) i := ⟨gcd_ltk ha.h hb.h⟩
 haveI hb2 : BN (Nat.gcd (Nat.gcd a.natAbs b.natAbs) c.natAbs) i := ⟨gcd_ltk hb1.h hc.h⟩
 refine fn Tryz.func94 rfl rfl Tryz.ntmps94 rfl rfl (fun C => ?_)
 refine cl rfl (q_Common (a := a.natAbs) (b := b.natAbs) (by omega) (by omega)) rfl <| ?_
 refine br rfl rfl rfl (fun hc22 => ?_) (fun hc22 => ?_)
 ·
  exact absurd hc22 (by rw [List.length_map]; intro h; exact hgn (dg_len_zero.1 (by omega)))
 ·
  refine cl rfl (q_Common (a := Nat.gcd a.natAbs b.natAbs) (b := c.natAbs) (by omega) (by omega)) rfl <| cl rfl (q_Divide (a := a.natAbs) (b := Nat.gcd (Nat.gcd a.natAbs b.natAbs) c.natAbs) hgp (by omega) (by omega)) rfl <| ?_
  refine cl rfl (q_Divide (a := b.natAbs) (b := Nat.gcd (Nat.gcd a.natAbs b.natAbs) c.natAbs) hgp (by omega) (by omega)) rfl <| cl rfl (q_Divide (a := c.natAbs) (b := Nat.gcd (Nat.gcd a.natAbs b.natAbs) c.natAbs) hgp (by omega) (by omega)) rfl <| ?_
  refine cl rfl (q_Make (m := a.natAbs / (Nat.gcd (Nat.gcd a.natAbs b.natAbs) c.natAbs)) (neg := decide (a < 0))) rfl <| cl rfl (q_Make (m := b.natAbs / (Nat.gcd (Nat.gcd a.natAbs b.natAbs) c.natAbs)) (neg := decide (b < 0))) rfl <| ?_
  refine cl rfl (q_Make (m := c.natAbs / (Nat.gcd (Nat.gcd a.natAbs b.natAbs) c.natAbs)) (neg := decide (c < 0))) rfl <| ?_
  exact rz rfl rfl
def thrA (n n' : Int) : Int := -(n' - n)
def thrB (m m' : Int) : Int := m' - m
def thrC (m n m' n' : Int) : Int := -(thrA n n' * m + thrB m m' * n)
def thrL (m n m' n' : Int) : LnQ := mkL (thrA n n') (thrB m m') (thrC m n m' n')
theorem mul_le_mil {a b : Int} (ha : a.natAbs ≤ 2000) (hb : b.natAbs ≤ 1000) : (a * b).natAbs ≤ 2000000 := by
 rw [Int.natAbs_mul]; exact Nat.mul_le_mul ha hb
set_option maxHeartbeats 2000000 in
theorem q_Through {GB : Gh} {m n m' n' : Int} (hm : m.natAbs ≤ 1000) (hn : n.natAbs ≤ 1000) (hm' : m'.natAbs ≤ 1000) (hn' : n'.natAbs ≤ 1000) (h0 : ¬ (m = m' ∧ n = n')) : PF GB Tryz.prog 37 [eP (iP m n), eP (iP m' n')] (.tp [eL (thrL m n m' n'), .v (.bool true)]) := by
 obtain ⟨a, hA⟩ : ∃ a, a = thrA n n' := ⟨_, rfl⟩
 obtain ⟨b, hB⟩ : ∃ b, b = thrB m m' := ⟨_, rfl⟩
 have hA' : a = -(n' - n) := hA
 have hB' : b = m' - m := hB
 obtain ⟨c, hC⟩ : ∃ c, c = -(a * m + b * n) := ⟨_, rfl⟩
 have e1 := mul_le_mil (a := a) (b := m) (by omega) hm
 have e2 := mul_le_mil (a := b) (b := n) (by omega) hn
 haveI hm0 := biC (k := 10) hm (by decide)
 haveI hn0 := biC (k := 10) hn (by decide)
 haveI ha : BI a 30 := biOf (by omega)
 haveI hb : BI b 30 := biOf (by omega)
 haveI hc : BI c 30 := biOf (by omega)
 have hthr : thrL m n m' n' = mkL a b c := by rw [hC, hA, hB]; rfl
 have hne : ¬ (a = 0 ∧ b = 0) := fun h => h0 (by omega)
 refine fn Tryz.func37 rfl rfl Tryz.ntmps37 rfl rfl (fun C => ?_)
 refine cl rfl (q_SubI (m := m') (n := n') (m' := m) (n' := n) hm' hn' hm hn) rfl <| cl rfl (PF.eq (q_Opp (q := (((n' - n) : Int) : Rat))) (eQI (k := a) (by rw [hA']; push_cast; rfl))) rfl <| ?_
 refine cl rfl (PF.eq (q_Times (a := (a : Rat)) (b := (m : Rat))) (eQI (k := a * m) (by push_cast; rfl))) rfl <| cl rfl (PF.eq (by haveI : BI (m' - m) 30 := (by rw [← hB']; exact hb); exact q_Times (a := (((m' - m) : Int) : Rat)) (b := (n : Rat))) (eQI (k := b * n) (by rw [hB']; push_cast; rfl))) rfl <| ?_
 refine cl rfl (PF.eq (q_Plus (a := ((a * m : Int) : Rat)) (b := ((b * n : Int) : Rat))) (eQI (k := a * m + b * n) (by push_cast; rfl))) rfl <| cl rfl (PF.eq (q_Opp (q := ((a * m + b * n : Int) : Rat))) (eQI (k := c) (by rw [hC]; push_cast; rfl))) rfl <| ?_
 refine cl rfl (q_Den (q := (a : Rat))) rfl <| cl rfl (q_Den (q := (((m' - m) : Int) : Rat))) rfl <| cl rfl (PF.eq (q_Product (a := 1) (b := 1)) rfl) rfl <| ?_
 refine cl rfl (q_Den (q := (c : Rat))) rfl <| cl rfl (PF.eq (q_Product (a := 1) (b := 1)) rfl) rfl <| cl (fu := ⟨1⟩) rfl (q_Make (neg := false) (m := 1)) rfl <| ?_
 refine eqF 40 (.d (eQ ((1 : Int) : Rat))) rfl rfl ?_
 refine gx rfl <| cl rfl (PF.eq (q_Times (a := (a : Rat)) (b := ((1 : Int) : Rat))) (eQI (k := a) (by push_cast; grind))) rfl <| cl rfl (PF.eq (by haveI : BI (m' - m) 30 := (by rw [← hB']; exact hb); exact q_Times (a := (((m' - m) : Int) : Rat)) (b := ((1 : Int) : Rat))) (eQI (k := b) (by rw [hB']; push_cast; grind))) rfl <| ?_
 refine cl rfl (PF.eq (q_Times (a := (c : Rat)) (b := ((1 : Int) : Rat))) (eQI (k := c) (by push_cast; grind))) rfl <| cl rfl (q_MakeL (a := a) (b := b) (c := c) ha hb hc (by decide) hne) rfl <| ?_
 exact rz rfl (by rw [hthr]; rfl)
end Go.Sx
end

section
set_option maxRecDepth 100000
namespace Go.Sx
open Go Go.Proofs
theorem mapI_get {es : List Int} {a : Nat} (h : a < es.length) : (es.map vI)[(a : Int).toNat]? = some (vI es[a]) := by simp [h]
theorem eP_zeroI : eP (iP 0 0) = .ag [.v (.bool false), .sl [], .sl [], .v (.bool false), .sl [], .sl []] := by
 unfold eP iP
 simp [dN_zero, dD]
theorem thr_LT {m n p q : Int} (hm : m.natAbs ≤ 4) (hn : n.natAbs ≤ 4) (hp : p.natAbs ≤ 4) (hq : q.natAbs ≤ 4) (h : ¬ (p = 0 ∧ q = 0)) : LS (thrL m n (m + 1 * p) (n + 1 * q)) := by
 have e1 : thrA n (n + 1 * q) = -q := by unfold thrA; omega
 have e2 : thrB m (m + 1 * p) = p := by unfold thrB; omega
 have e3 : ((-q) * m).natAbs ≤ 4 * 4 := by rw [Int.natAbs_mul]; exact Nat.mul_le_mul (by omega) hm
 have e4 : (p * n).natAbs ≤ 4 * 4 := by rw [Int.natAbs_mul]; exact Nat.mul_le_mul hp hn
 have e5 : thrC m n (m + 1 * p) (n + 1 * q) = -((-q) * m + p * n) := by unfold thrC; rw [e1, e2]
 unfold thrL
 obtain ⟨k1, k2, k3⟩ := mkL_le (thrA n (n + 1 * q)) (thrB m (m + 1 * p)) (thrC m n (m + 1 * p) (n + 1 * q))
 exact ⟨mkL_ok (by rw [e1, e2]; omega), Nat.le_trans k1 (by rw [e1]; omega), Nat.le_trans k2 (by rw [e2]; omega), Nat.le_trans k3 (by rw [e5]; omega)⟩
def nextF (es : List Int) (n : Int) (a : Nat) : Nat × Nat :=
 if h : a < es.length then ((if Int.tmod es[a] n < 0 then Int.tmod es[a] n + n else Int.tmod es[a] n).toNat, a + 1) else (0, a)
theorem nextF_lt {es : List Int} {n : Int} {a : Nat} (hn : 1 ≤ n) : ((nextF es n a).1 : Int) < n := by
 unfold nextF
 split
 · rename_i h
   have q2 := Int.tmod_lt_of_pos es[a] (show 0 < n by omega)
   dsimp only
   split <;> omega
 · exact hn
theorem nextF_le {es : List Int} {n : Int} {a : Nat} (ha : a ≤ es.length) : (nextF es n a).2 ≤ es.length := by
 unfold nextF
 split
 · assumption
 · exact ha
def pF (es : List Int) (a : Nat) : (Int × Int) × Nat := ((((nextF es 9 a).1 : Int) - 4, ((nextF es 9 (nextF es 9 a).2).1 : Int) - 4), (nextF es 9 (nextF es 9 a).2).2)
theorem pF_ok {es : List Int} {a : Nat} (ha : a ≤ es.length) : (pF es a).1.1.natAbs ≤ 4 ∧ (pF es a).1.2.natAbs ≤ 4 ∧ (pF es a).2 ≤ es.length := by
 have h1 := nextF_lt (es := es) (n := 9) (a := a) (by decide)
 have h2 := nextF_lt (es := es) (n := 9) (a := (nextF es 9 a).2) (by decide)
 have h3 := nextF_le (n := 9) (nextF_le (es := es) (n := 9) ha)
 unfold pF
 exact ⟨by dsimp only; omega, by dsimp only; omega, h3⟩
def vF (es : List Int) (a : Nat) : (Int × Int) × Nat := if (pF es a).1.1 = 0 ∧ (pF es a).1.2 = 0 then ((1, 0), (pF es a).2) else pF es a
theorem vF_ok {es : List Int} {a : Nat} (ha : a ≤ es.length) : (vF es a).1.1.natAbs ≤ 4 ∧ (vF es a).1.2.natAbs ≤ 4 ∧ ¬ ((vF es a).1.1 = 0 ∧ (vF es a).1.2 = 0) ∧ (vF es a).2 ≤ es.length := by
 obtain ⟨h1, h2, h3⟩ := pF_ok ha
 unfold vF
 split
 · exact ⟨show (1 : Int).natAbs ≤ 4 by decide, show (0 : Int).natAbs ≤ 4 by decide, show ¬ ((1 : Int) = 0 ∧ (0 : Int) = 0) by decide, h3⟩
 · rename_i h; exact ⟨h1, h2, h, h3⟩
def lF (es : List Int) (a : Nat) : LnQ × Nat := (thrL (pF es a).1.1 (pF es a).1.2 ((pF es a).1.1 + 1 * (vF es (pF es a).2).1.1) ((pF es a).1.2 + 1 * (vF es (pF es a).2).1.2), (vF es (pF es a).2).2)
theorem lF_ok {es : List Int} {a : Nat} (ha : a ≤ es.length) : LS (lF es a).1 ∧ (lF es a).2 ≤ es.length := by
 obtain ⟨h1, h2, h3⟩ := pF_ok ha
 obtain ⟨k1, k2, k3, k4⟩ := vF_ok h3
 exact ⟨thr_LT h1 h2 k1 k2 k3, k4⟩
def treeF (es : List Int) : Nat → Nat → Tr × Nat
 | 0, a => (.leaf (decide (((nextF es 2 a).1 : Int) = 1)), (nextF es 2 a).2)
 | d + 1, a => if ((nextF es 4 a).1 : Int) = 0 then (.leaf (decide (((nextF es 2 (nextF es 4 a).2).1 : Int) = 1)), (nextF es 2 (nextF es 4 a).2).2) else
   (.node (lF es (nextF es 4 a).2).1 (treeF es d (lF es (nextF es 4 a).2).2).1 (treeF es d (treeF es d (lF es (nextF es 4 a).2).2).2).1, (treeF es d (treeF es d (lF es (nextF es 4 a).2).2).2).2)
theorem treeF_ok {es : List Int} : ∀ {d a : Nat}, a ≤ es.length → (treeF es d a).1.depth ≤ d ∧ (treeF es d a).1.all LnQ.ok ∧ (treeF es d a).1.all (fun l => BL l 32) ∧ (treeF es d a).2 ≤ es.length
 | 0, a, ha => ⟨Nat.zero_le _, trivial, trivial, nextF_le ha⟩
 | d + 1, a, ha => by
   have h4 := nextF_le (n := 4) ha
   unfold treeF
   split
   · exact ⟨Nat.zero_le _, trivial, trivial, nextF_le h4⟩
   · obtain ⟨hl, h5⟩ := lF_ok h4
     obtain ⟨d1, o1, b1, h6⟩ := treeF_ok (d := d) h5
     obtain ⟨d2, o2, b2, h7⟩ := treeF_ok (d := d) h6
     exact ⟨by show 1 + max _ _ ≤ _; omega, ⟨hl.ok, o1, o2⟩, ⟨hl.bl, b1, b2⟩, h7⟩
theorem q_NextT {GB : Gh} {b : Nat} {es : List Int} (hes : es.length ≤ 400) {a : Nat} (ha : a ≤ es.length) {n : Int} (hn : 1 ≤ n) (hn2 : n ≤ 1000) : PM GB Tryz.prog 39 (mkP [none, some (.v (.int .i64 n))] b) b 93 [.sl (es.map vI), .v (.int .i64 (a : Nat))] (.v (.int .i64 ((nextF es n a).1 : Nat))) [.sl (es.map vI), .v (.int .i64 ((nextF es n a).2 : Nat))] := by
 have hel : (es.map vI).length = es.length := by simp
 refine fnM Tryz.func39 rfl rfl Tryz.ntmps39 rfl rfl (fun C b m lo hmb => ?_)
 refine br rfl rfl rfl (fun hc15 => ?_) (fun hc15 => ?_)
 ·
  have hf : nextF es n a = (0, a) := by unfold nextF; rw [dif_neg (by omega)]
  exact rzM hmb rfl rfl (by rw [hf] <;> rfl) (by rw [hf] <;> rfl)
 ·
  have hal : a < es.length := by omega
  obtain ⟨e, he⟩ : ∃ e, e = es[a] := ⟨_, rfl⟩
  have q2 := Int.tmod_lt_of_pos e (show 0 < n by omega)
  have q3 : -n < Int.tmod e n := by have := Int.lt_tmod_of_pos e (show 0 < n by omega); omega
  refine ix (fu := ⟨1⟩) _ rfl (mapI_get hal) rfl <| ?_
  refine eqF 25 (.d (vI e)) rfl (by rw [he] <;> rfl) ?_
  refine gx (hv := by simp only [allP]; exact ⟨⟨by omega, by kernel_rfl⟩, by omega⟩) rfl <| ?_
  refine br rfl rfl rfl (fun hc36 => ?_) (fun hc36 => ?_)
  ·
   have hf : nextF es n a = ((Int.tmod e n + n).toNat, a + 1) := by unfold nextF; rw [dif_pos hal, ← he, if_pos hc36]
   exact rzM hmb rfl rfl (by rw [hf]; show DV.v (.int .i64 _) = DV.v (.int .i64 _); rw [Int.toNat_of_nonneg (by omega)]) (by rw [hf] <;> rfl)
  ·
   have hf : nextF es n a = ((Int.tmod e n).toNat, a + 1) := by unfold nextF; rw [dif_pos hal, ← he, if_neg hc36]
   exact rzM hmb rfl rfl (by rw [hf]; show DV.v (.int .i64 _) = DV.v (.int .i64 _); rw [Int.toNat_of_nonneg (by omega)]) (by rw [hf] <;> rfl)
theorem q_PT {GB : Gh} {b : Nat} {es : List Int} (hes : es.length ≤ 400) {a : Nat} (ha : a ≤ es.length) : PM GB Tryz.prog 41 (mkP [none] b) b 93 [.sl (es.map vI), .v (.int .i64 (a : Nat))] (eP (iP (pF es a).1.1 (pF es a).1.2)) [.sl (es.map vI), .v (.int .i64 ((pF es a).2 : Nat))] := by
 have h1 := nextF_lt (es := es) (n := 9) (a := a) (by decide)
 have h2 := nextF_lt (es := es) (n := 9) (a := (nextF es 9 a).2) (by decide)
 refine fnM Tryz.func41 rfl rfl Tryz.ntmps41 rfl rfl (fun C b m lo hmb => ?_)
 refine cm rfl (fun b => (q_NextT (n := 9) hes ha (by decide) (by decide))) rfl <| cm rfl (fun b => (q_NextT (n := 9) hes (nextF_le ha) (by decide) (by decide))) rfl <| ?_
 refine cl rfl (q_Xy (m := ((nextF es 9 a).1 : Int) - 4) (n := ((nextF es 9 (nextF es 9 a).2).1 : Int) - 4) (by omega) (by omega)) rfl <| ?_
 exact rzM hmb rfl rfl rfl rfl
theorem q_VT {GB : Gh} {b : Nat} {es : List Int} (hes : es.length ≤ 400) {a : Nat} (ha : a ≤ es.length) : PM GB Tryz.prog 44 (mkP [none] b) b 93 [.sl (es.map vI), .v (.int .i64 (a : Nat))] (eP (iP (vF es a).1.1 (vF es a).1.2)) [.sl (es.map vI), .v (.int .i64 ((vF es a).2 : Nat))] := by
 obtain ⟨hm, hn, ha1⟩ := pF_ok ha
 refine fnM Tryz.func44 rfl rfl Tryz.ntmps44 rfl rfl (fun C b m lo hmb => ?_)
 refine cm (fu := ⟨9⟩) rfl (fun b => (q_PT hes ha)) rfl <| ?_
 refine eqF 7 (.d (eP (iP 0 0))) rfl (by rw [eP_zeroI] <;> rfl) ?_
 refine gx rfl <| cl rfl (q_SameI' (m := (pF es a).1.1) (n := (pF es a).1.2) (m' := 0) (n' := 0) (by omega) (by omega) (by decide) (by decide)) rfl <| ?_
 refine bd rfl rfl rfl (fun hc8 => ?_) (fun hc8 => ?_)
 ·
  have hf : vF es a = ((1, 0), (pF es a).2) := by unfold vF; rw [if_pos hc8]
  refine cl rfl (q_Xy (m := 1) (n := 0) (by decide) (by decide)) rfl <| ?_
  exact rzM hmb rfl rfl (by rw [hf] <;> rfl) (by rw [hf])
 ·
  have hf : vF es a = pF es a := by unfold vF; rw [if_neg hc8]
  exact rzM hmb rfl rfl (by rw [hf] <;> rfl) (by rw [hf])
theorem q_LT {GB : Gh} {b : Nat} {es : List Int} (hes : es.length ≤ 400) {a : Nat} (ha : a ≤ es.length) : PM GB Tryz.prog 11 (mkP [none] b) b 93 [.sl (es.map vI), .v (.int .i64 (a : Nat))] (eL (lF es a).1) [.sl (es.map vI), .v (.int .i64 ((lF es a).2 : Nat))] := by
 obtain ⟨hm, hn, ha1⟩ := pF_ok ha
 obtain ⟨hp, hq, hz, ha2⟩ := vF_ok ha1
 refine fnM Tryz.func11 rfl rfl Tryz.ntmps11 rfl rfl (fun C b m lo hmb => ?_)
 refine cm rfl (fun b => (q_PT hes ha)) rfl <| cl rfl (q_Of (n := 1) (by decide) (by decide)) rfl <| cm rfl (fun b => (q_VT hes ha1)) rfl <| cl rfl (q_AddI (m := (pF es a).1.1) (n := (pF es a).1.2) (m' := (vF es (pF es a).2).1.1) (n' := (vF es (pF es a).2).1.2) (k := 1) (by omega) (by omega) (by omega) (by omega) (by decide)) rfl <| ?_
 refine cl rfl (q_Through (m := (pF es a).1.1) (n := (pF es a).1.2) (m' := (pF es a).1.1 + 1 * (vF es (pF es a).2).1.1) (n' := (pF es a).1.2 + 1 * (vF es (pF es a).2).1.2) (by omega) (by omega) (by omega) (by omega) (by omega)) rfl <| ?_
 exact rzM hmb rfl rfl rfl rfl
theorem q_CodeT {GB : Gh} {p : Bool} : PF GB Tryz.prog 40 [.v (.bool p)] (eT (.leaf p)) := by
 refine fn Tryz.func40 rfl rfl Tryz.ntmps40 rfl rfl (fun C => ?_)
 refine fzE 5 rfl ?_
 exact rz rfl rfl
theorem q_TreeT_zero {GB : Gh} {b : Nat} {es : List Int} (hes : es.length ≤ 400) {a : Nat} (ha : a ≤ es.length) {n : Int} (hn : n = 0) : PM GB Tryz.prog 10 (mkP [none, some (.v (.int .i64 n))] b) b 93 [.sl (es.map vI), .v (.int .i64 (a : Nat))] (eT (treeF es 0 a).1) [.sl (es.map vI), .v (.int .i64 ((treeF es 0 a).2 : Nat))] := by
 refine fnM (fu := ⟨10⟩) Tryz.func10 rfl rfl Tryz.ntmps10 rfl rfl (fun C b m lo hmb => ?_)
 refine kT 8 rfl (by omega) ?_
 refine gx rfl <| cm rfl (fun b => (q_NextT (n := 2) hes ha (by decide) (by decide))) rfl <| cl rfl (q_CodeT (p := decide (((nextF es 2 a).1 : Int) = 1))) rfl <| ?_
 exact rzM hmb rfl rfl rfl rfl
theorem q_TreeT_node {GB : Gh} {b : Nat} {es : List Int} (hes : es.length ≤ 400) {a : Nat} (ha : a ≤ es.length) {d : Nat} {n : Int} (hn : n = ((d + 1 : Nat) : Int)) (hd : d ≤ 100) (ih : ∀ {GB : Gh} {b a : Nat} {n : Int}, a ≤ es.length → n = (d : Int) → PM GB Tryz.prog 10 (mkP [none, some (.v (.int .i64 n))] b) b 93 [.sl (es.map vI), .v (.int .i64 (a : Nat))] (eT (treeF es d a).1) [.sl (es.map vI), .v (.int .i64 ((treeF es d a).2 : Nat))]) : PM GB Tryz.prog 10 (mkP [none, some (.v (.int .i64 n))] b) b 93 [.sl (es.map vI), .v (.int .i64 (a : Nat))] (eT (treeF es (d + 1) a).1) [.sl (es.map vI), .v (.int .i64 ((treeF es (d + 1) a).2 : Nat))] := by
 have h4 := nextF_le (n := 4) ha
 obtain ⟨hl, h5⟩ := lF_ok h4
 have h6 := (treeF_ok (d := d) h5).2.2.2
 refine fnM (fu := ⟨10⟩) Tryz.func10 rfl rfl Tryz.ntmps10 rfl rfl (fun C b m lo hmb => ?_)
 refine kF 8 rfl (by omega) ?_
 refine gx rfl <| cm rfl (fun b => (q_NextT (n := 4) hes ha (by decide) (by decide))) rfl <| ?_
 refine br rfl rfl rfl (fun hc13 => ?_) (fun hc13 => ?_)
 ·
  have hf : treeF es (d + 1) a = _ := if_pos hc13
  refine cm rfl (fun b => (q_NextT (n := 2) hes h4 (by decide) (by decide))) rfl <| cl rfl (q_CodeT (p := decide (((nextF es 2 (nextF es 4 a).2).1 : Int) = 1))) rfl <| ?_
  exact rzM hmb rfl rfl (by rw [hf] <;> rfl) (by rw [hf])
 ·
  have hf : treeF es (d + 1) a = _ := if_neg hc13
  refine cm rfl (fun b => (q_LT hes h4)) rfl <| cm rfl (fun b => (ih h5 (by omega))) rfl <| cm rfl (fun b => (ih h6 (by omega))) rfl <| ?_
  refine fzE 31 rfl ?_
  exact rzM hmb rfl rfl (by rw [hf] <;> rfl) (by rw [hf])
theorem q_TreeI {es : List Int} (hes : es.length ≤ 400) : ∀ {d : Nat} {GB : Gh} {b a : Nat} {n : Int}, d ≤ 100 → a ≤ es.length → n = (d : Int) → PM GB Tryz.prog 10 (mkP [none, some (.v (.int .i64 n))] b) b 93 [.sl (es.map vI), .v (.int .i64 (a : Nat))] (eT (treeF es d a).1) [.sl (es.map vI), .v (.int .i64 ((treeF es d a).2 : Nat))]
 | 0, _, _, _, _, _, ha, hn => q_TreeT_zero hes ha hn
 | d + 1, _, _, _, _, hd, ha, hn => q_TreeT_node hes ha hn (by omega) (fun h1 h2 => q_TreeI hes (by omega) h1 h2)
theorem q_TreeT {GB : Gh} {es : List Int} (hes : es.length ≤ 400) {a d b : Nat} (ha : a ≤ es.length) (hd : d ≤ 100) : PM GB Tryz.prog 10 (mkP [none, some (.v (.int .i64 (d : Nat)))] b) b 93 [.sl (es.map vI), .v (.int .i64 (a : Nat))] (eT (treeF es d a).1) [.sl (es.map vI), .v (.int .i64 ((treeF es d a).2 : Nat))] := q_TreeI (GB := GB) hes hd ha rfl
end Go.Sx
end
