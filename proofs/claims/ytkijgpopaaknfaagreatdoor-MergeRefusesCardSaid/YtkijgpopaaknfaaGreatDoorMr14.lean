/-
  Package bsp: Of, for any list of nodes. Reading a tree as a function; what is read is sound. Reference: trees as they come. Package bsp: trees written for package api (over deep values).
-/
import Derived.Test.YtkijgpopaaknfaaGreatDoorMr13
set_option linter.unusedSimpArgs false
set_option linter.unusedVariables false
section
set_option maxRecDepth 100000
namespace Go.Sx
open Go Go.Proofs
def seenF (n : Nat) (f : Nat → Bool) : List Value := (List.range n).map fun j => .bool (f j)
def setF (f : Nat → Bool) (i : Nat) : Nat → Bool := fun j => f j || Nat.beq j i
theorem seenF_len (n : Nat) (f : Nat → Bool) : (seenF n f).length = n := by simp [seenF]
theorem seenF_get {n i : Nat} {f : Nat → Bool} {b : Bool} (h : i < n) (hf : f i = b) : (seenF n f)[i]? = some (.bool b) := by simp [seenF, h, hf]
theorem setF_ne {f : Nat → Bool} {i j : Nat} (e : j ≠ i) : setF f i j = f j := by
 unfold setF
 cases hb : Nat.beq j i with
 | false => rw [Bool.or_false]
 | true => exact absurd (Nat.eq_of_beq_eq_true hb) e
theorem setF_eq {f : Nat → Bool} {i : Nat} : setF f i i = true := by
 unfold setF; rw [Nat.beq_refl, Bool.or_true]
theorem seenF_set (n i : Nat) (f : Nat → Bool) : (seenF n f).set i (.bool true) = seenF n (setF f i) := by
 apply List.ext_getElem?
 intro j
 rw [List.getElem?_set]
 simp only [seenF, List.length_map, List.length_range, List.getElem?_map]
 by_cases hj : j < n
 · rw [List.getElem?_range hj]
   simp only [Option.map_some]
   by_cases e : i = j
   · subst e; simp [hj, setF_eq]
   · rw [setF_ne (fun h => e h.symm)]; simp [e]
 · rw [List.getElem?_eq_none (by simpa using hj)]
   by_cases e : i = j
   · subst e; simp [hj]
   · simp [e]
theorem zeros_seenF (n : Nat) : zeros (.bool false) n = seenF n (fun _ => false) := by
 apply List.ext_getElem?
 intro j
 by_cases hj : j < n
 · rw [seenF_get hj rfl]
   unfold zeros
   rw [flat_rep_get (cellsL (.bool false)) n j (by simpa [cellsL] using hj)]
   simp [cellsL, Nat.mod_one]
 · rw [List.getElem?_eq_none (by rw [zeros_len]; simp [cellsL]; omega), List.getElem?_eq_none (by rw [seenF_len]; omega)]
structure RN where
 g : RL
 l : Int
 r : Int
def RN.d (n : RN) : DV := .ag [.v (.bool n.g.na), dLi n.g.da, .v (.bool n.g.nb), dLi n.g.db, .v (.bool n.g.nc), dLi n.g.dc, .v (.int .i64 n.l), .v (.int .i64 n.r)]
structure RS where
 f : Nat → Bool
 c : Nat
 b : Bool
inductive RR (ns : List RN) : Int → RS → Tr → RS → Prop where
 | leaf (b : Bool) (s : RS) : RR ns (leafCode b) s (.leaf b) s
 | bad (rt : Int) (s : RS) (h1 : rt ≠ -1) (h2 : rt ≠ -2) (h : rt < 0 ∨ (ns.length : Int) ≤ rt ∨ (∃ k : Nat, rt = k ∧ k < ns.length ∧ s.f k = true)) : RR ns rt s (.leaf false) ⟨s.f, s.c, true⟩
 | line (k : Nat) (n : RN) (s : RS) (h : ns[k]? = some n) (hf : s.f k = false) (hl : n.g.ln = none) : RR ns (k : Int) s (.leaf false) ⟨setF s.f k, s.c + 1, true⟩
 | node (k : Nat) (n : RN) (l : LnQ) (s s2 s3 : RS) (x y : Tr) (h : ns[k]? = some n) (hf : s.f k = false) (hl : n.g.ln = some l) (h1 : RR ns n.l ⟨setF s.f k, s.c + 1, s.b⟩ x s2) (h2 : RR ns n.r s2 y s3) : RR ns (k : Int) s (.node l x y) s3
theorem RR.mono {ns : List RN} {rt : Int} {s s' : RS} {t : Tr} (h : RR ns rt s t s') : s.c ≤ s'.c := by
 induction h with
 | leaf => exact Nat.le_refl _
 | bad => exact Nat.le_refl _
 | line => exact Nat.le_succ _
 | node k n l s s2 s3 x y h hf hl h1 h2 i1 i2 => simp only at i1; omega
theorem fp_ptr {G : Gh} {q : Rat} {v : Value} (h : Is G (fp_ q) v) : ∃ p, v = .pointer p := by
 rcases is_op.1 h with ⟨_, h⟩ | ⟨_, h⟩
 · exact ⟨_, h⟩
 · obtain ⟨b, m, h, _⟩ := is_pt.1 h; exact ⟨_, h⟩
theorem eLn_of {G : Gh} {l : LnQ} {v : Value} (h : Is G (eLn l) v) : ∃ n1 d1 p1 n2 d2 p2 n3 d3 p3, v = .agg ⟨[.int .i64 n1, .int .i64 d1, .pointer p1, .int .i64 n2, .int .i64 d2, .pointer p2, .int .i64 n3, .int .i64 d3, .pointer p3]⟩ := by
 obtain ⟨m, rfl, g⟩ := is_ag.1 h
 clear h
 obtain ⟨v1, m, rfl, h1, h⟩ := isl_cons.1 g
 obtain ⟨v2, m, rfl, h2, h⟩ := isl_cons.1 h
 obtain ⟨v3, m, rfl, h3, h⟩ := isl_cons.1 h
 obtain ⟨v4, m, rfl, h4, h⟩ := isl_cons.1 h
 obtain ⟨v5, m, rfl, h5, h⟩ := isl_cons.1 h
 obtain ⟨v6, m, rfl, h6, h⟩ := isl_cons.1 h
 obtain ⟨v7, m, rfl, h7, h⟩ := isl_cons.1 h
 obtain ⟨v8, m, rfl, h8, h⟩ := isl_cons.1 h
 obtain ⟨v9, m, rfl, h9, h⟩ := isl_cons.1 h
 rw [isl_nil] at h; subst h
 obtain ⟨_, rfl⟩ := fp_ptr h3
 obtain ⟨_, rfl⟩ := fp_ptr h6
 obtain ⟨_, rfl⟩ := fp_ptr h9
 rw [is_v.1 h1, is_v.1 h2, is_v.1 h4, is_v.1 h5, is_v.1 h7, is_v.1 h8]
 exact ⟨_, _, _, _, _, _, _, _, _, rfl⟩
theorem lnR_of {G : Gh} {o : Option LnQ} {v : Value} (h : Is G (lnR o) v) : ∃ n1 d1 p1 n2 d2 p2 n3 d3 p3, v = .tuple #[.agg ⟨[.int .i64 n1, .int .i64 d1, .pointer p1, .int .i64 n2, .int .i64 d2, .pointer p2, .int .i64 n3, .int .i64 d3, .pointer p3]⟩, .bool o.isSome] ∧
   ∀ l, o = some l → Is G (eLn l) (.agg ⟨[.int .i64 n1, .int .i64 d1, .pointer p1, .int .i64 n2, .int .i64 d2, .pointer p2, .int .i64 n3, .int .i64 d3, .pointer p3]⟩) := by
 cases o with
 | some l =>
   obtain ⟨m, rfl, g⟩ := is_tp.1 h
   obtain ⟨v1, m, rfl, h1, h⟩ := isl_cons.1 g
   obtain ⟨v2, m, rfl, h2, h⟩ := isl_cons.1 h
   rw [isl_nil] at h; subst h
   obtain ⟨n1, d1, p1, n2, d2, p2, n3, d3, p3, rfl⟩ := eLn_of h1
   rw [is_v.1 h2]
   exact ⟨n1, d1, p1, n2, d2, p2, n3, d3, p3, rfl, fun k e => by cases e; exact h1⟩
 | none =>
   obtain ⟨m, rfl, g⟩ := is_tp.1 h
   obtain ⟨v1, m, rfl, h1, h⟩ := isl_cons.1 g
   obtain ⟨v2, m, rfl, h2, h⟩ := isl_cons.1 h
   rw [isl_nil] at h; subst h
   clear g h
   obtain ⟨m, rfl, g⟩ := is_ag.1 h1
   obtain ⟨w1, m, rfl, k1, h⟩ := isl_cons.1 g
   obtain ⟨w2, m, rfl, k2, h⟩ := isl_cons.1 h
   obtain ⟨w3, m, rfl, k3, h⟩ := isl_cons.1 h
   obtain ⟨w4, m, rfl, k4, h⟩ := isl_cons.1 h
   obtain ⟨w5, m, rfl, k5, h⟩ := isl_cons.1 h
   obtain ⟨w6, m, rfl, k6, h⟩ := isl_cons.1 h
   obtain ⟨w7, m, rfl, k7, h⟩ := isl_cons.1 h
   obtain ⟨w8, m, rfl, k8, h⟩ := isl_cons.1 h
   obtain ⟨w9, m, rfl, k9, h⟩ := isl_cons.1 h
   rw [isl_nil] at h; subst h
   rw [is_v.1 k1, is_v.1 k2, is_v.1 k3, is_v.1 k4, is_v.1 k5, is_v.1 k6, is_v.1 k7, is_v.1 k8, is_v.1 k9]
   rw [is_v.1 h2]
   exact ⟨_, _, _, _, _, _, _, _, _, rfl, fun k e => by cases e⟩
theorem RN_of {G : Gh} {n : RN} {v : Value} (h : Is G n.d v) : ∃ x1 x2 x3 : SV, v = .agg ⟨[.bool n.g.na, .slice x1.a x1.n x1.c, .bool n.g.nb, .slice x2.a x2.n x2.c, .bool n.g.nc, .slice x3.a x3.n x3.c, .int .i64 n.l, .int .i64 n.r]⟩ ∧
  Is G n.g.d (.agg ⟨[.bool n.g.na, .slice x1.a x1.n x1.c, .bool n.g.nb, .slice x2.a x2.n x2.c, .bool n.g.nc, .slice x3.a x3.n x3.c]⟩) := by
 obtain ⟨m, rfl, g⟩ := is_ag.1 h
 clear h
 obtain ⟨v1, m, rfl, h1, h⟩ := isl_cons.1 g
 obtain ⟨v2, m, rfl, h2, h⟩ := isl_cons.1 h
 obtain ⟨v3, m, rfl, h3, h⟩ := isl_cons.1 h
 obtain ⟨v4, m, rfl, h4, h⟩ := isl_cons.1 h
 obtain ⟨v5, m, rfl, h5, h⟩ := isl_cons.1 h
 obtain ⟨v6, m, rfl, h6, h⟩ := isl_cons.1 h
 obtain ⟨v7, m, rfl, h7, h⟩ := isl_cons.1 h
 obtain ⟨v8, m, rfl, h8, h⟩ := isl_cons.1 h
 rw [isl_nil] at h; subst h
 obtain ⟨_, x1, _, rfl, _, _⟩ := is_sl.1 (id h2)
 obtain ⟨_, x2, _, rfl, _, _⟩ := is_sl.1 (id h4)
 obtain ⟨_, x3, _, rfl, _, _⟩ := is_sl.1 (id h6)
 cases is_v.1 h1; cases is_v.1 h3; cases is_v.1 h5; cases is_v.1 h7; cases is_v.1 h8
 exact ⟨x1, x2, x3, rfl, is_ag.2 ⟨_, rfl, .cons h1 (.cons h2 (.cons h3 (.cons h4 (.cons h5 (.cons h6 .nil)))))⟩⟩
theorem eU_ptr {G : Gh} {t : Tr} {v : Value} (h : Is G (eU t) v) : ∃ p, v = .pointer p := by
 obtain ⟨b, m, h, _⟩ := is_pt.1 h; exact ⟨_, h⟩
theorem PF.fn0 {P : Program} {f : FuncId} {ds : List DV} {r : DV} (h : ∀ {GB : Gh}, PF GB P f ds r) {G : Gh} {vs : List Value} (hv : IsLs G ds vs) : Fn P f vs G (fun v G' => Is G' r v) := h (GB := G) G vs (GLe.refl G) hv
abbrev NRow (x : SV) (ns : List RN) (A : Gh) : Prop := ∃ es, IsSl A 8 x es ∧ IsLs A (ns.map RN.d) es
set_option maxHeartbeats 2000000 in
theorem rd_part {A : Gh} {ns : List RN} {x : SV} (hx : NRow x ns A) (hs : ∀ n ∈ ns, n.g.sm) (hn : ns.length ≤ 1000000) {rt : Int} {s s' : RS} {t : Tr} (h : RR ns rt s t s') : ∀ {G : Gh} {rb sb : Nat} {lo lo2 : Bool}, [GL A G] → s'.c ≤ 1000000 →
   FnM Tryz.prog 117 [.pointer (some ⟨rb, 0, none⟩), .int .i64 rt] [⟨rb, [.slice x.a x.n x.c, .slice (some ⟨sb, 0, none⟩) ns.length ns.length, .int .i64 s.c, .bool s.b], 204, lo⟩, ⟨sb, seenF ns.length s.f, 4, lo2⟩] G
     (fun v css G' => ∃ p, v = .pointer p ∧ Is G' (eU t) (.pointer p) ∧ css = [[.slice x.a x.n x.c, .slice (some ⟨sb, 0, none⟩) ns.length ns.length, .int .i64 s'.c, .bool s'.b], seenF ns.length s'.f]) := by
 obtain ⟨es, hx, hes⟩ := hx
 have hel := hes.len
 rw [List.length_map] at hel
 have hlen := hx.len
 rw [hel] at hlen
 obtain ⟨xa, xn, xc⟩ := x
 simp only [] at hlen
 subst hlen
 induction h with
 | leaf bb s =>
   intro G rb sb lo lo2 _ hc
   refine FnM.intro Tryz.func117 rfl rfl Tryz.ntmps117 rfl ?_
   intro C _ _
   show St C _ _ [⟨rb, _, _, false⟩, ⟨sb, _, _, false⟩] _ _
   cases bb
   case true =>
     refine sR <| sa rfl rfl <| zE <| st_seq <| st_block <| sR <| sm rfl rfl <| sy (yd_eql rfl rfl) rfl <| sm rfl rfl <| ss rfl rfl rfl rfl <| ss rfl rfl rfl rfl <| ?_
     refine sy (yd_pickT rfl rfl) rfl <| sa rfl rfl <| zE <| st_condT rfl <| sR <| sm rfl rfl <| sy (yd_eql rfl rfl) rfl <| ?_
     refine sc (zC rfl rfl (PF.fn0 (p_Leaf (b := true)) (.cons (is_v.2 rfl) .nil)) rfl ?_)
     rintro _ G1 _ hp
     obtain ⟨p, rfl⟩ := eU_ptr hp
     refine sa rfl rfl <| zE <| st_ret <| ?_
     exact st_doneM (css := [_, _]) (.tmp rfl .nil) rfl _ (List.Perm.refl _) (List.Sublist.refl _) ⟨p, rfl, hp, rfl⟩
   refine sR <| sa rfl rfl <| zE <| st_seq <| st_block <| sR <| sm rfl rfl <| sy (yd_eql rfl rfl) rfl <| sm rfl rfl <| syg rfl rfl (yd_move rfl) rfl <| syg rfl rfl (yd_eql rfl rfl) rfl <| ?_
   refine sy (yd_pickF rfl rfl) rfl <| sa rfl rfl <| zE <| st_condT rfl <| sR <| sm rfl rfl <| sy (yd_eql rfl rfl) rfl <| ?_
   refine sc (zC rfl rfl (PF.fn0 (p_Leaf (b := false)) (.cons (is_v.2 rfl) .nil)) rfl ?_)
   rintro _ G1 _ hp
   obtain ⟨p, rfl⟩ := eU_ptr hp
   refine sa rfl rfl <| zE <| st_ret <| ?_
   exact st_doneM (css := [_, _]) (.tmp rfl .nil) rfl _ (List.Perm.refl _) (List.Sublist.refl _) ⟨p, rfl, hp, rfl⟩
 | bad rt s h1 h2 h =>
   intro G rb sb lo lo2 _ hc
   refine FnM.intro Tryz.func117 rfl rfl Tryz.ntmps117 rfl ?_
   intro C _ _
   show St C _ [(0, .pointer (some ⟨rb, 0, none⟩)), (1, .int .i64 rt)] [⟨rb, [.slice xa ns.length xc, .slice (some ⟨sb, 0, none⟩) ns.length ns.length, .int .i64 s.c, .bool s.b], _, false⟩, ⟨sb, seenF ns.length s.f, _, false⟩] _ _
   refine sR <| sa rfl rfl <| zE <| st_seq <| st_block <| sR <| sm rfl rfl <| sy (yd_eql rfl rfl) rfl <| sm rfl rfl <| ?_
   refine st_caseP 12 rfl (fun hg => absurd hg (by omega)) (fun hg => ?_)
   refine syg rfl rfl (yd_move rfl) rfl <| syg rfl rfl (yd_eql rfl rfl) rfl <| sy (yd_pickF rfl rfl) rfl <| sa rfl rfl <| zE <| ?_
   refine st_condP rfl (fun hc => absurd hc (by omega)) (fun _ => ?_)
   refine sR <| sm rfl rfl <| sy (yd_lss rfl rfl) rfl <| sm rfl rfl <| ?_
   refine st_caseP 22 rfl (fun hg => ?_) (fun hg => ?_)
   · refine ss rfl rfl rfl rfl <| ss rfl rfl rfl rfl <| ss rfl rfl rfl rfl <| ss rfl rfl rfl rfl <| ss rfl rfl rfl rfl <| ss rfl rfl rfl rfl <| ss rfl rfl rfl rfl <| sy (yd_pickT rfl rfl) rfl <| sm rfl rfl <| ss rfl rfl rfl rfl <| ss rfl rfl rfl rfl <| ?_
     refine ss rfl rfl rfl rfl <| ss rfl rfl rfl rfl <| ss rfl rfl rfl rfl <| ss rfl rfl rfl rfl <| ss rfl rfl rfl rfl <| sy (yd_pickT rfl rfl) rfl <| sa rfl rfl <| zE <| st_condT rfl <| st_seq <| ?_
     refine st_region <| sm rfl rfl <| sn rfl rfl <| sf rfl rfl <| ?_
     refine sc (ch_storeN1 rfl rfl rfl (.hd ..) (nb rfl) rfl rfl ?_)
     refine zE <| sR <| ?_
     refine sc (zC rfl rfl (PF.fn0 (p_Leaf (b := false)) (.cons (is_v.2 rfl) .nil)) rfl ?_)
     rintro _ G1 _ hp
     obtain ⟨p, rfl⟩ := eU_ptr hp
     refine sa rfl rfl <| zE <| st_ret <| ?_
     exact st_doneM (css := [_, _]) (.tmp rfl .nil) rfl _ (List.Perm.refl _) (List.Sublist.refl _) ⟨p, rfl, hp, rfl⟩
   refine syg rfl rfl (yd_move rfl) rfl <| syg rfl rfl (yd_move rfl) rfl <| syg rfl rfl (yd_nilCheck rfl) rfl <| syg rfl rfl (yd_fieldAddr rfl) rfl <| syg rfl rfl (yd_load_own1 rfl rfl) rfl <| syg rfl rfl (yd_len rfl) rfl <| syg rfl rfl (yd_geq rfl rfl) rfl <| sy (yd_pickF rfl rfl) rfl <| sm rfl rfl <| ?_
   refine st_caseP 31 rfl (fun hg => ?_) (fun hg => ?_)
   · refine ss rfl rfl rfl rfl <| ss rfl rfl rfl rfl <| ss rfl rfl rfl rfl <| ss rfl rfl rfl rfl <| ss rfl rfl rfl rfl <| ss rfl rfl rfl rfl <| ss rfl rfl rfl rfl <| ?_
     refine sy (yd_pickT rfl rfl) rfl <| sa rfl rfl <| zE <| st_condT rfl <| sR <| sm rfl rfl <| sn rfl rfl <| sf rfl rfl <| ?_
     refine sc (ch_storeN1 rfl rfl rfl (.hd ..) (nb rfl) rfl rfl ?_)
     refine zE <| sR <| ?_
     refine sc (zC rfl rfl (PF.fn0 (p_Leaf (b := false)) (.cons (is_v.2 rfl) .nil)) rfl ?_)
     rintro _ G1 _ hp
     obtain ⟨p, rfl⟩ := eU_ptr hp
     refine sa rfl rfl <| zE <| st_ret <| ?_
     exact st_doneM (css := [_, _]) (.tmp rfl .nil) rfl _ (List.Perm.refl _) (List.Sublist.refl _) ⟨p, rfl, hp, rfl⟩
   obtain ⟨k, rfl, hk, hf⟩ : ∃ k : Nat, rt = k ∧ k < ns.length ∧ s.f k = true := by
     rcases h with h | h | h
     · omega
     · exact absurd h hg
     · exact h
   refine syg rfl rfl (yd_move rfl) rfl <| syg rfl rfl (yd_nilCheck rfl) rfl <| syg rfl rfl (yd_fieldAddr rfl) rfl <| syg rfl rfl (yd_load_own1 rfl rfl) rfl <| syg rfl rfl (yd_move rfl) rfl <| syg rfl rfl (yd_ixO rfl rfl (by omega) (by omega)) rfl <| ?_
   refine syg rfl rfl (yd_load_own1 (v := .bool true) rfl (by rw [Int.toNat_natCast, Nat.mul_one]; exact seenF_get hk hf)) rfl <| sy (yd_pickF rfl rfl) rfl <| sa rfl rfl <| zE <| st_condT rfl <| ?_
   refine sR <| sm rfl rfl <| sn rfl rfl <| sf rfl rfl <| ?_
   refine sc (ch_storeN1 rfl rfl rfl (.hd ..) (nb rfl) rfl rfl ?_)
   refine zE <| sR <| ?_
   refine sc (zC rfl rfl (PF.fn0 (p_Leaf (b := false)) (.cons (is_v.2 rfl) .nil)) rfl ?_)
   rintro _ G1 _ hp
   obtain ⟨p, rfl⟩ := eU_ptr hp
   refine sa rfl rfl <| zE <| st_ret <| ?_
   exact st_doneM (css := [_, _]) (.tmp rfl .nil) rfl _ (List.Perm.refl _) (List.Sublist.refl _) ⟨p, rfl, hp, rfl⟩
 | line base n s h0 hfb hl =>
   intro G rb sb lo lo2 _ hc
   have hbn : base < ns.length := (List.getElem?_eq_some_iff.1 h0).1
   simp only at hc
   obtain ⟨z, hzi, hz⟩ := hes.get (i := base) (d := n.d) (by rw [List.getElem?_map, h0]; rfl)
   obtain ⟨x1, x2, x3, rfl, hzg⟩ := RN_of hz
   refine FnM.intro Tryz.func117 rfl rfl Tryz.ntmps117 rfl ?_
   intro C _ _
   show St C _ [(0, .pointer (some ⟨rb, 0, none⟩)), (1, .int .i64 (base : Int))] [⟨rb, [.slice xa ns.length xc, .slice (some ⟨sb, 0, none⟩) ns.length ns.length, .int .i64 s.c, .bool s.b], _, false⟩, ⟨sb, seenF ns.length s.f, _, false⟩] _ _
   refine sR <| sa rfl rfl <| zE <| st_seq <| st_block <| sR <| sm rfl rfl <| sy (yd_eql rfl rfl) rfl <| sm rfl rfl <| ?_
   refine st_caseP 12 rfl (fun hg => absurd hg (by omega)) (fun hg => ?_)
   refine syg rfl rfl (yd_move rfl) rfl <| syg rfl rfl (yd_eql rfl rfl) rfl <| sy (yd_pickF rfl rfl) rfl <| sa rfl rfl <| zE <| ?_
   refine st_condP rfl (fun hc => absurd hc (by omega)) (fun _ => ?_)
   refine sR <| sm rfl rfl <| sy (yd_lss rfl rfl) rfl <| sm rfl rfl <| ?_
   refine st_caseP 22 rfl (fun hg => absurd hg (by omega)) (fun hg => ?_)
   refine syg rfl rfl (yd_move rfl) rfl <| syg rfl rfl (yd_move rfl) rfl <| syg rfl rfl (yd_nilCheck rfl) rfl <| syg rfl rfl (yd_fieldAddr rfl) rfl <| syg rfl rfl (yd_load_own1 rfl rfl) rfl <| syg rfl rfl (yd_len rfl) rfl <| syg rfl rfl (yd_geq rfl rfl) rfl <| sy (yd_pickF rfl rfl) rfl <| sm rfl rfl <| ?_
   refine st_caseP 31 rfl (fun hg => absurd hg (by omega)) (fun hg => ?_)
   refine syg rfl rfl (yd_move rfl) rfl <| syg rfl rfl (yd_nilCheck rfl) rfl <| syg rfl rfl (yd_fieldAddr rfl) rfl <| syg rfl rfl (yd_load_own1 rfl rfl) rfl <| syg rfl rfl (yd_move rfl) rfl <| syg rfl rfl (yd_ixO rfl rfl (by omega) (by omega)) rfl <| ?_
   refine syg rfl rfl (yd_load_own1 (v := .bool false) rfl (by rw [Int.toNat_natCast, Nat.mul_one]; exact seenF_get hbn hfb)) rfl <| sy (yd_pickF rfl rfl) rfl <| sa rfl rfl <| zE <| st_condF rfl <| zK <| ?_
   refine sR <| sm rfl rfl <| sn rfl rfl <| sf rfl rfl <| slo1 rfl rfl rfl <| sm rfl rfl <| sy (yd_ixO rfl rfl (by omega) (by omega)) rfl <| ?_
   refine sc (ch_store1 rfl rfl (.tl _ _ _ _ _ _ _ _ (.hd ..)) (by rw [seenF_len, Int.toNat_natCast, Nat.mul_one]; exact hbn) rfl rfl ?_)
   rw [Int.toNat_natCast, Nat.mul_one, seenF_set]
   refine zE <| sR <| sm rfl rfl <| sn rfl rfl <| sf rfl rfl <| slo1 rfl rfl rfl <| sy (yd_add64 rfl rfl) rfl <| sn rfl rfl <| sf rfl rfl <| ?_
   refine sc (ch_storeN1 rfl rfl rfl (by repeat (first | exact .hd .. | apply OUpd.tl)) (nb rfl) rfl rfl ?_)
   rw [show (s.c : Int) + 1 = ((s.c + 1 : Nat) : Int) by omega]
   refine zE <| sR <| sm rfl rfl <| sn rfl rfl <| sf rfl rfl <| slo1 rfl rfl rfl <| sm rfl rfl <| sy (yd_ix (z := ⟨xa, ns.length, xc⟩) hx rfl rfl (by omega) (by show (base : Int) < (ns.length : Int); omega)) rfl <| ?_
   rw [Int.toNat_natCast]
   refine sy (yd_ldA (i := base) hx rfl (by rw [hel]; exact hbn) hzi) rfl <| ?_
   refine sc (ch_alloc rfl ?_)
   intro b5
   refine sc (ch_storeN rfl rfl rfl (by repeat (first | exact .hd .. | apply OUpd.tl)) rfl (nb rfl) rfl rfl ?_)
   refine zE <| sR <| sf rfl rfl <| slo rfl rfl rfl <| ?_
   refine sc (zC rfl rfl (PF.fn0 (p_LnOfR (hs n (List.mem_of_getElem? h0))) (.cons (hzg.up GL.le) .nil)) rfl ?_)
   rintro _ G6 _ hw
   rw [hl] at hw
   obtain ⟨n1, d1, p1, n2, d2, p2, n3, d3, p3, rfl, hw⟩ := lnR_of hw
   refine sm rfl rfl <| sx rfl rfl rfl <| sx rfl rfl rfl <| ?_
   refine sc (ch_alloc rfl ?_)
   intro b6
   refine sc (ch_storeN rfl rfl rfl (by repeat (first | exact .hd .. | apply OUpd.tl)) rfl (nb rfl) rfl rfl ?_)
   refine sa rfl rfl <| zE <| st_seq <| sR <| sm rfl rfl <| sy (yd_not rfl) rfl <| zE <| st_condT rfl <| ?_
   refine sR <| sm rfl rfl <| sn rfl rfl <| sf rfl rfl <| ?_
   refine sc (ch_storeN1 rfl rfl rfl (by repeat (first | exact .hd .. | apply OUpd.tl)) (nb rfl) rfl rfl ?_)
   refine zE <| sR <| ?_
   refine sc (zC rfl rfl (PF.fn0 (p_Leaf (b := false)) (.cons (is_v.2 rfl) .nil)) rfl ?_)
   rintro _ G7 _ hp
   obtain ⟨p, rfl⟩ := eU_ptr hp
   refine sa rfl rfl <| zE <| st_ret <| ?_
   exact st_doneM (css := [_, _]) (.tmp rfl .nil) rfl _ (List.perm_append_comm (l₁ := [_, _]) (l₂ := [_, _])) (.cons_cons _ (.cons_cons _ (List.nil_sublist _))) ⟨p, rfl, hp, rfl⟩
 | node base n l s s2 s3 tx ty h0 hfb hl h1 h2 ih1 ih2 =>
   intro G rb sb lo lo2 _ hc
   have hbn : base < ns.length := (List.getElem?_eq_some_iff.1 h0).1
   have hm1 := h1.mono
   have hm2 := h2.mono
   simp only at hm1
   obtain ⟨z, hzi, hz⟩ := hes.get (i := base) (d := n.d) (by rw [List.getElem?_map, h0]; rfl)
   obtain ⟨x1, x2, x3, rfl, hzg⟩ := RN_of hz
   refine FnM.intro Tryz.func117 rfl rfl Tryz.ntmps117 rfl ?_
   intro C _ _
   show St C _ [(0, .pointer (some ⟨rb, 0, none⟩)), (1, .int .i64 (base : Int))] [⟨rb, [.slice xa ns.length xc, .slice (some ⟨sb, 0, none⟩) ns.length ns.length, .int .i64 s.c, .bool s.b], _, false⟩, ⟨sb, seenF ns.length s.f, _, false⟩] _ _
   refine sR <| sa rfl rfl <| zE <| st_seq <| st_block <| sR <| sm rfl rfl <| sy (yd_eql rfl rfl) rfl <| sm rfl rfl <| ?_
   refine st_caseP 12 rfl (fun hg => absurd hg (by omega)) (fun hg => ?_)
   refine syg rfl rfl (yd_move rfl) rfl <| syg rfl rfl (yd_eql rfl rfl) rfl <| sy (yd_pickF rfl rfl) rfl <| sa rfl rfl <| zE <| ?_
   refine st_condP rfl (fun hc => absurd hc (by omega)) (fun _ => ?_)
   refine sR <| sm rfl rfl <| sy (yd_lss rfl rfl) rfl <| sm rfl rfl <| ?_
   refine st_caseP 22 rfl (fun hg => absurd hg (by omega)) (fun hg => ?_)
   refine syg rfl rfl (yd_move rfl) rfl <| syg rfl rfl (yd_move rfl) rfl <| syg rfl rfl (yd_nilCheck rfl) rfl <| syg rfl rfl (yd_fieldAddr rfl) rfl <| syg rfl rfl (yd_load_own1 rfl rfl) rfl <| syg rfl rfl (yd_len rfl) rfl <| syg rfl rfl (yd_geq rfl rfl) rfl <| sy (yd_pickF rfl rfl) rfl <| sm rfl rfl <| ?_
   refine st_caseP 31 rfl (fun hg => absurd hg (by omega)) (fun hg => ?_)
   refine syg rfl rfl (yd_move rfl) rfl <| syg rfl rfl (yd_nilCheck rfl) rfl <| syg rfl rfl (yd_fieldAddr rfl) rfl <| syg rfl rfl (yd_load_own1 rfl rfl) rfl <| syg rfl rfl (yd_move rfl) rfl <| syg rfl rfl (yd_ixO rfl rfl (by omega) (by omega)) rfl <| ?_
   refine syg rfl rfl (yd_load_own1 (v := .bool false) rfl (by rw [Int.toNat_natCast, Nat.mul_one]; exact seenF_get hbn hfb)) rfl <| sy (yd_pickF rfl rfl) rfl <| sa rfl rfl <| zE <| st_condF rfl <| zK <| ?_
   refine sR <| sm rfl rfl <| sn rfl rfl <| sf rfl rfl <| slo1 rfl rfl rfl <| sm rfl rfl <| sy (yd_ixO rfl rfl (by omega) (by omega)) rfl <| ?_
   refine sc (ch_store1 rfl rfl (.tl _ _ _ _ _ _ _ _ (.hd ..)) (by rw [seenF_len, Int.toNat_natCast, Nat.mul_one]; exact hbn) rfl rfl ?_)
   rw [Int.toNat_natCast, Nat.mul_one, seenF_set]
   refine zE <| sR <| sm rfl rfl <| sn rfl rfl <| sf rfl rfl <| slo1 rfl rfl rfl <| sy (yd_add64 rfl rfl) rfl <| sn rfl rfl <| sf rfl rfl <| ?_
   refine sc (ch_storeN1 rfl rfl rfl (by repeat (first | exact .hd .. | apply OUpd.tl)) (nb rfl) rfl rfl ?_)
   rw [show (s.c : Int) + 1 = ((s.c + 1 : Nat) : Int) by omega]
   refine zE <| sR <| sm rfl rfl <| sn rfl rfl <| sf rfl rfl <| slo1 rfl rfl rfl <| sm rfl rfl <| sy (yd_ix (z := ⟨xa, ns.length, xc⟩) hx rfl rfl (by omega) (by show (base : Int) < (ns.length : Int); omega)) rfl <| ?_
   rw [Int.toNat_natCast]
   refine sy (yd_ldA (i := base) hx rfl (by rw [hel]; exact hbn) hzi) rfl <| ?_
   refine sc (ch_alloc rfl ?_)
   intro b5
   refine sc (ch_storeN rfl rfl rfl (by repeat (first | exact .hd .. | apply OUpd.tl)) rfl (nb rfl) rfl rfl ?_)
   refine zE <| sR <| sf rfl rfl <| slo rfl rfl rfl <| ?_
   refine sc (zC rfl rfl (PF.fn0 (p_LnOfR (hs n (List.mem_of_getElem? h0))) (.cons (hzg.up GL.le) .nil)) rfl ?_)
   rintro _ G6 _ hw
   rw [hl] at hw
   obtain ⟨n1, d1, p1, n2, d2, p2, n3, d3, p3, rfl, hw'⟩ := lnR_of hw
   replace hw := hw' l rfl
   refine sm rfl rfl <| sx rfl rfl rfl <| sx rfl rfl rfl <| ?_
   refine sc (ch_alloc rfl ?_)
   intro b6
   refine sc (ch_storeN rfl rfl rfl (by repeat (first | exact .hd .. | apply OUpd.tl)) rfl (nb rfl) rfl rfl ?_)
   refine sa rfl rfl <| zE <| st_seq <| sR <| sm rfl rfl <| sy (yd_not rfl) rfl <| zE <| st_condF rfl <| zK <| ?_
   refine sR <| sm rfl rfl <| sf rfl rfl <| slo1 rfl rfl rfl <| ?_
   have hrp := ih1 (G := G6) (rb := rb) (sb := sb) (lo := false) (lo2 := false) (by omega)
   refine sc (ch_callM rfl rfl (List.perm_append_comm (l₁ := [_, _]) (l₂ := [_, _])) hrp rfl ?_)
   rintro _ css G7 _ _ ⟨q1, rfl, hp1, rfl⟩
   show St C _ _ [⟨rb, [.slice xa ns.length xc, .slice (some ⟨sb, 0, none⟩) ns.length ns.length, .int .i64 s2.c, .bool s2.b], 204, false⟩, ⟨sb, seenF ns.length s2.f, 4, false⟩, ⟨b6, [.int .i64 n1, .int .i64 d1, .pointer p1, .int .i64 n2, .int .i64 d2, .pointer p2, .int .i64 n3, .int .i64 d3, .pointer p3], 105, true⟩, ⟨b5, [.bool n.g.na, .slice x1.a x1.n x1.c, .bool n.g.nb, .slice x2.a x2.n x2.c, .bool n.g.nc, .slice x3.a x3.n x3.c, .int .i64 n.l, .int .i64 n.r], 60, true⟩] _ _
   refine sa rfl rfl <| zE <| st_seq <| ?_
   refine drS [⟨b6, [.int .i64 n1, .int .i64 d1, .pointer p1, .int .i64 n2, .int .i64 d2, .pointer p2, .int .i64 n3, .int .i64 d3, .pointer p3], 105, true⟩, ⟨b5, [.bool n.g.na, .slice x1.a x1.n x1.c, .bool n.g.nb, .slice x2.a x2.n x2.c, .bool n.g.nc, .slice x3.a x3.n x3.c, .int .i64 n.l, .int .i64 n.r], 60, true⟩] (fun _ => false) [(0, true), (1, true), (2, true), (3, true), (4, true), (5, false), (6, false), (7, true)] follows (by kernel_rfl) <| ?_
   refine dL rfl rfl rfl rfl <| dM rfl rfl rfl <| dM rfl rfl rfl <| dF rfl rfl rfl <| dL1 rfl rfl rfl rfl <| ?_
   have hrp := ih2 (G := G7) (rb := rb) (sb := sb) (lo := false) (lo2 := false) hc
   refine dc rfl rfl (ch_callM rfl rfl (M := [_, _]) (rest := [_, _]) (List.Perm.refl _) hrp rfl ?_)
   rintro _ css G8 _ _ ⟨q2, rfl, hp2, rfl⟩
   show St C _ _ [⟨rb, [.slice xa ns.length xc, .slice (some ⟨sb, 0, none⟩) ns.length ns.length, .int .i64 s3.c, .bool s3.b], 204, false⟩, ⟨sb, seenF ns.length s3.f, 4, false⟩, ⟨b6, [.int .i64 n1, .int .i64 d1, .pointer p1, .int .i64 n2, .int .i64 d2, .pointer p2, .int .i64 n3, .int .i64 d3, .pointer p3], 105, true⟩, ⟨b5, [.bool n.g.na, .slice x1.a x1.n x1.c, .bool n.g.nb, .slice x2.a x2.n x2.c, .bool n.g.nc, .slice x3.a x3.n x3.c, .int .i64 n.l, .int .i64 n.r], 60, true⟩] _ _
   refine dr_s <| ?_
   refine dc rfl rfl (zC rfl rfl (PF.fn0 (p_New (l := l) (x := tx) (y := ty)) (.cons (hw.up GL.le) (.cons (hp1.up GL.le) (.cons hp2 .nil)))) rfl ?_)
   rintro _ G9 _ hp
   obtain ⟨p, rfl⟩ := eU_ptr hp
   refine dr_s <| dA rfl rfl rfl <| dn <| st_ret <| ?_
   exact st_doneM (css := [_, _]) (.tmp rfl .nil) rfl _ (List.Perm.refl _) (.cons_cons _ (.cons_cons _ (List.nil_sublist _))) ⟨p, rfl, hp, rfl⟩
def rs0 : RS := ⟨fun _ => false, 0, false⟩
def ofD (ns : List RN) (t : Tr) (s : RS) : DV := if s.b = false ∧ s.c = ns.length then .tp [eU t, vB true] else .tp [.v (.pointer none), vB false]
def eRT (rt : Int) (ns : List RN) : DV := .ag [vI rt, .sl (ns.map RN.d)]
set_option maxHeartbeats 1000000 in
theorem p_Of {GB : Gh} {ns : List RN} {rt : Int} {t : Tr} {s : RS} (hs : ∀ n ∈ ns, n.g.sm) (hn : ns.length ≤ 65536) (h : RR ns rt rs0 t s) (hc : s.c ≤ 1000000) : PF GB Tryz.prog 63 [eRT rt ns] (ofD ns t s) := by
 intro G vs _ hv
 obtain ⟨v0, m, rfl, h0, hm⟩ := isl_cons.1 hv
 rw [isl_nil] at hm; subst hm
 obtain ⟨m, rfl, g⟩ := is_ag.1 h0
 obtain ⟨v1, m, rfl, h1, hm⟩ := isl_cons.1 g
 obtain ⟨v2, m, rfl, h2, hm⟩ := isl_cons.1 hm
 rw [isl_nil] at hm; subst hm
 obtain ⟨s0, x, es, rfl, hsl, hes⟩ := is_sl.1 h2
 rw [is_v.1 h1]
 have hel := hes.len
 rw [List.length_map] at hel
 have hlen := hsl.len
 rw [hel] at hlen
 have hx : NRow x ns G := by
   refine ⟨es, ?_, hes⟩
   rcases sl_stride (s := 8) hsl hes (fun d hd => by obtain ⟨n, _, rfl⟩ := List.mem_map.1 hd; exact ⟨rfl, rfl⟩) with e | e
   · exact ⟨hsl.len, hsl.cap, .inl e⟩
   · rw [e] at hsl; exact hsl
 obtain ⟨xa, xn, xc⟩ := x
 simp only [] at hlen
 subst hlen
 show Fn _ _ [.agg ⟨[.int .i64 rt, .slice xa ns.length xc]⟩] _ _
 refine Fn.intro Tryz.func63 rfl rfl Tryz.ntmps63 rfl ?_
 intro C _ _
 refine sR <| ?_
 refine sc (ch_box rfl rfl ?_)
 intro b1
 refine sa rfl rfl <| sa rfl rfl <| zE <| st_seq <| sR <| sf rfl rfl <| slo1 rfl rfl rfl <| slen rfl rfl <| sy (yd_gtr rfl rfl) rfl <| zE <| ?_
 refine st_condP rfl (fun hc => absurd hc (by omega)) (fun _ => ?_)
 refine zK <| st_seq <| dr (fun _ => false) [(0, true), (1, true), (2, true), (3, true), (4, true), (5, false), (6, true), (7, false), (8, true)] follows (by kernel_rfl) <| dF rfl rfl rfl <| ?_
 refine dL1 rfl rfl rfl rfl <| dF rfl rfl rfl <| dL1 rfl rfl rfl rfl <| dy rfl (fun _ => yd_len rfl) rfl rfl <| ?_
 refine dc rfl rfl (ch_make rfl rfl (by omega) (by omega) (by omega) (by rfl) rfl ?_)
 intro b2
 rw [Int.toNat_natCast, zeros_seenF]
 refine dr_s <| dy rfl (fun _ => yd_build rfl) rfl rfl <| ?_
 refine dc rfl rfl (ch_box rfl rfl ?_)
 intro b3
 refine dr_s <| dA rfl rfl rfl <| dn <| sR <| sm rfl rfl <| sf rfl rfl <| slo1 rfl rfl rfl <| ?_
 have hrp := rd_part hx hs (by omega) h (G := G) (rb := b3) (sb := b2) (lo := true) (lo2 := true) hc
 refine sc (ch_callM rfl rfl (M := [_, _]) (rest := [_]) (List.Perm.refl _) hrp rfl ?_)
 rintro _ css G4 _ _ ⟨p, rfl, hp, rfl⟩
 show St C _ _ [⟨b3, [.slice xa ns.length xc, .slice (some ⟨b2, 0, none⟩) ns.length ns.length, .int .i64 s.c, .bool s.b], 204, true⟩, ⟨b2, seenF ns.length s.f, 4, true⟩, ⟨b1, [.int .i64 rt, .slice xa ns.length xc], 36, true⟩] _ _
 refine sa rfl rfl <| zE <| st_seq <| st_seq <| dr (fun _ => false) [(0, true), (1, true), (2, true), (3, true), (4, true), (5, true), (6, true), (7, true), (8, true), (9, true), (10, true), (11, true), (12, true), (13, true)] follows (by kernel_rfl) <| ?_
 obtain ⟨sf_, sc_, sb_⟩ := s
 cases sb_
 case true =>
   refine dM rfl rfl rfl <| dy rfl (fun _ => yd_nilCheck rfl) rfl rfl <| dF rfl rfl rfl <| dL1 rfl rfl rfl rfl <| dM rfl rfl rfl <| ?_
   refine dys rfl rfl rfl rfl rfl rfl <| dys rfl rfl rfl rfl rfl rfl <| dys rfl rfl rfl rfl rfl rfl <| dys rfl rfl rfl rfl rfl rfl <| dys rfl rfl rfl rfl rfl rfl <| dys rfl rfl rfl rfl rfl rfl <| ?_
   refine dys rfl rfl rfl rfl rfl rfl <| dys rfl rfl rfl rfl rfl rfl <| dy rfl (fun _ => yd_pickT rfl rfl) rfl rfl <| dn <| st_condT rfl <| ?_
   refine sR <| sa rfl rfl <| sa rfl rfl <| zE <| st_ret <| ?_
   refine zD (.tmp rfl (.tmp rfl .nil)) ?_
   rw [ofD, if_neg (fun e => by cases e.1)]
   exact is_tp.2 ⟨_, rfl, .cons (is_v.2 rfl) (.cons (is_v.2 rfl) .nil)⟩
 refine dM rfl rfl rfl <| dy rfl (fun _ => yd_nilCheck rfl) rfl rfl <| dF rfl rfl rfl <| dL1 rfl rfl rfl rfl <| dM rfl rfl rfl <| ?_
 refine dyg rfl rfl rfl rfl (fun _ => yd_move rfl) rfl <| dyg rfl rfl rfl rfl (fun _ => yd_nilCheck rfl) rfl <| dyg rfl rfl rfl rfl (fun _ => yd_fieldAddr rfl) rfl <| dyg rfl rfl rfl rfl (fun _ => yd_load_own1 rfl rfl) rfl <| ?_
 refine dyg rfl rfl rfl rfl (fun _ => yd_fieldAddr rfl) rfl <| dyg rfl rfl rfl rfl (fun _ => yd_load_own1 rfl rfl) rfl <| dyg rfl rfl rfl rfl (fun _ => yd_len rfl) rfl <| dyg rfl rfl rfl rfl (fun _ => yd_neq rfl rfl) rfl <| ?_
 refine dy rfl (fun _ => yd_pickF rfl rfl) rfl rfl <| dn <| ?_
 refine st_condP rfl (fun hc => ?_) (fun hc => ?_) -- slot 35
 · refine sR <| sa rfl rfl <| sa rfl rfl <| zE <| st_ret <| ?_
   refine zD (.tmp rfl (.tmp rfl .nil)) ?_
   rw [ofD, if_neg (fun e => hc (by have := e.2; simp only at this; omega))]
   exact is_tp.2 ⟨_, rfl, .cons (is_v.2 rfl) (.cons (is_v.2 rfl) .nil)⟩
 refine zK <| sR <| sm rfl rfl <| sa rfl rfl <| sa rfl rfl <| zE <| st_ret <| ?_
 refine zD (.tmp rfl (.tmp rfl .nil)) ?_
 rw [ofD, if_pos ⟨rfl, by have h9 := hc; simp at h9; show sc_ = _; omega⟩]
 exact is_tp.2 ⟨_, rfl, .cons hp (.cons (is_v.2 rfl) .nil)⟩
end Go.Sx
end

section
set_option maxRecDepth 100000
namespace Go.Sx
open Go Go.Proofs
def unseen (n : Nat) (f : Nat → Bool) : Nat := ((List.range n).filter fun j => !f j).length
theorem unseen_set {n k : Nat} {f : Nat → Bool} (hk : k < n) (hf : f k = false) : unseen n (setF f k) + 1 = unseen n f := by
 unfold unseen
 have key : ∀ l : List Nat, l.Nodup → ((l.filter fun j => !setF f k j).length + (if k ∈ l then 1 else 0) = (l.filter fun j => !f j).length) := fun l => by
   induction l with
   | nil => intro _; rfl
   | cons a l ih =>
     intro hn
     obtain ⟨h1, h2⟩ := List.nodup_cons.1 hn
     have := ih h2
     by_cases e : a = k
     · subst e
       simp only [List.filter_cons, setF_eq, hf, List.mem_cons, true_or, if_true] at this ⊢
       rw [if_neg h1] at this
       simp at this ⊢
       omega
     · have e' : ¬ k = a := fun h => e h.symm
       simp only [List.filter_cons, setF_ne e, List.mem_cons, e', false_or] at this ⊢
       cases f a <;> simp at this ⊢ <;> omega
 have := key (List.range n) List.nodup_range
 rwa [if_pos (List.mem_range.2 hk)] at this
def rdF (ns : List RN) : Nat → Int → RS → Tr × RS
 | 0, _, s => (.leaf false, s)
 | m + 1, rt, s =>
   if rt = -1 then (.leaf false, s) else if rt = -2 then (.leaf true, s) else
   match ns[rt.toNat]? with
   | none => (.leaf false, ⟨s.f, s.c, true⟩)
   | some n => if rt < 0 ∨ s.f rt.toNat = true then (.leaf false, ⟨s.f, s.c, true⟩) else
     match n.g.ln with
     | none => (.leaf false, ⟨setF s.f rt.toNat, s.c + 1, true⟩)
     | some l => let a := rdF ns m n.l ⟨setF s.f rt.toNat, s.c + 1, s.b⟩; let b := rdF ns m n.r a.2; (.node l a.1 b.1, b.2)
theorem rdF_ok {ns : List RN} : ∀ {m : Nat} {rt : Int} {s : RS}, unseen ns.length s.f < m → RR ns rt s (rdF ns m rt s).1 (rdF ns m rt s).2 ∧ (rdF ns m rt s).2.c + unseen ns.length (rdF ns m rt s).2.f = s.c + unseen ns.length s.f
 | 0, _, _, h => absurd h (Nat.not_lt_zero _)
 | m + 1, rt, s, h => by
   rw [rdF]
   split
   · rename_i e; subst e; exact ⟨.leaf false s, rfl⟩
   rename_i e1
   split
   · rename_i e; subst e; exact ⟨.leaf true s, rfl⟩
   rename_i e2
   split
   · rename_i hn
     have := List.getElem?_eq_none_iff.1 hn
     exact ⟨.bad rt s e1 e2 (by omega), rfl⟩
   rename_i n hn
   have hlt := (List.getElem?_eq_some_iff.1 hn).1
   split
   · rename_i hb
     refine ⟨.bad rt s e1 e2 ?_, rfl⟩
     rcases hb with hb | hb
     · exact .inl hb
     · by_cases h0 : rt < 0
       · exact .inl h0
       · exact .inr (.inr ⟨rt.toNat, by omega, hlt, hb⟩)
   rename_i hb
   obtain ⟨k, rfl⟩ : ∃ k : Nat, rt = k := ⟨rt.toNat, by omega⟩
   rw [Int.toNat_natCast] at hn hlt hb ⊢
   have hf : s.f k = false := by
     cases hh : s.f k with
     | false => rfl
     | true => exact absurd (Or.inr hh) hb
   have hu := unseen_set hlt hf
   split
   · rename_i hl; exact ⟨.line k n s hn hf hl, by simp only; omega⟩
   rename_i l hl
   have h1 := rdF_ok (ns := ns) (m := m) (rt := n.l) (s := ⟨setF s.f k, s.c + 1, s.b⟩) (by simp only; omega)
   have hc := h1.1.mono
   simp only at h1 hc
   have h2 := rdF_ok (ns := ns) (m := m) (rt := n.r) (s := (rdF ns m n.l ⟨setF s.f k, s.c + 1, s.b⟩).2) (by omega)
   exact ⟨.node k n l s _ _ _ _ hn hf hl h1.1 h2.1, by have := h1.2; have := h2.2; dsimp only; omega⟩
def ofQ (ns : List RN) (rt : Int) : Option Tr :=
 let r := rdF ns (ns.length + 1) rt rs0
 if r.2.b = false ∧ r.2.c = ns.length then some r.1 else none
def ofR : Option Tr → DV
 | some t => .tp [eU t, vB true]
 | none => .tp [.v (.pointer none), vB false]
theorem unseen_le (n : Nat) (f : Nat → Bool) : unseen n f ≤ n := by
 unfold unseen
 refine Nat.le_trans (List.length_filter_le _ _) ?_
 rw [List.length_range]; exact Nat.le_refl _
theorem p_OfQ {GB : Gh} {ns : List RN} {rt : Int} (hs : ∀ n ∈ ns, n.g.sm) (hn : ns.length ≤ 65536) : PF GB Tryz.prog 63 [eRT rt ns] (ofR (ofQ ns rt)) := by
 have h := rdF_ok (ns := ns) (m := ns.length + 1) (rt := rt) (s := rs0) (by have := unseen_le ns.length rs0.f; omega)
 have hu := unseen_le ns.length rs0.f
 have h0 : rs0.c = 0 := rfl
 have h2 := p_Of (GB := GB) hs hn h.1 (by have := h.2; omega)
 unfold ofD at h2
 unfold ofQ
 simp only
 split
 · rename_i e; rw [if_pos e] at h2; exact h2
 · rename_i e; rw [if_neg e] at h2; exact h2
theorem RL.ln_some {r : RL} {l : LnQ} (h : r.ln = some l) : r.nm ∧ l.ok ∧ r.l = l := by
 unfold RL.ln at h
 split at h
 · rename_i e; cases h; exact ⟨e.1, e.2, rfl⟩
 · cases h
theorem RR.good {ns : List RN} (hs : ∀ n ∈ ns, n.g.sm) {rt : Int} {s s' : RS} {t : Tr} (h : RR ns rt s t s') : t.all LB ∧ t.all LnQ.ok ∧ (s'.b = false → s.b = false ∧ s'.c = s.c + t.size) := by
 induction h with
 | leaf => exact ⟨trivial, trivial, fun h => ⟨h, rfl⟩⟩
 | bad => exact ⟨trivial, trivial, fun h => by cases h⟩
 | line => exact ⟨trivial, trivial, fun h => by cases h⟩
 | node k n l s s2 s3 x y h hf hl h1 h2 i1 i2 =>
   obtain ⟨_, h3, rfl⟩ := RL.ln_some hl
   refine ⟨⟨RL.lb (hs n (List.mem_of_getElem? h)), i1.1, i2.1⟩, ⟨h3, i1.2.1, i2.2.1⟩, fun hb => ?_⟩
   obtain ⟨e1, e2⟩ := i2.2.2 hb
   obtain ⟨e3, e4⟩ := i1.2.2 e1
   simp only [Tr.size] at e3 e4 ⊢
   exact ⟨e3, by omega⟩
theorem ofQ_good {ns : List RN} {rt : Int} {t : Tr} (hs : ∀ n ∈ ns, n.g.sm) (h : ofQ ns rt = some t) : t.all LB ∧ t.all LnQ.ok ∧ t.size = ns.length := by
 have hr := rdF_ok (ns := ns) (m := ns.length + 1) (rt := rt) (s := rs0) (by have := unseen_le ns.length rs0.f; omega)
 have hg := hr.1.good hs
 unfold ofQ at h
 simp only at h
 split at h
 · rename_i e
   cases h
   refine ⟨hg.1, hg.2.1, ?_⟩
   have := (hg.2.2 e.1).2
   have h0 : rs0.c = 0 := rfl
   omega
 · cases h
end Go.Sx
end

section
set_option maxRecDepth 100000
namespace Go.Sx
open Go Go.Proofs
def nilP : DV := .v (.pointer none)
def cTd (l : LnQ) (p q : DV) : List DV := [.v (.bool false), .v (.bool false), .v (.bool (decide (l.a < 0))), dN l.a.natAbs, .v (.bool (decide (l.b < 0))), dN l.b.natAbs, .v (.bool (decide (l.c < 0))), dN l.c.natAbs, p, q]
inductive RF (ns : List RN) : Int → (Nat → Bool) → DV → Bool → (Nat → Bool) → Prop where
 | leaf (b : Bool) (f : Nat → Bool) : RF ns (leafCode b) f (eT (.leaf b)) true f
 | bad (rt : Int) (f : Nat → Bool) (h1 : rt ≠ -1) (h2 : rt ≠ -2) (h : rt < 0 ∨ (ns.length : Int) ≤ rt ∨ (∃ k : Nat, rt = k ∧ k < ns.length ∧ f k = true)) : RF ns rt f nilP false f
 | line (k : Nat) (n : RN) (f : Nat → Bool) (h : ns[k]? = some n) (hf : f k = false) (hl : n.g.ln = none) : RF ns (k : Int) f nilP false (setF f k)
 | left (k : Nat) (n : RN) (l : LnQ) (f f2 : Nat → Bool) (p : DV) (h : ns[k]? = some n) (hf : f k = false) (hl : n.g.ln = some l) (h1 : RF ns n.l (setF f k) p false f2) : RF ns (k : Int) f nilP false f2
 | node (k : Nat) (n : RN) (l : LnQ) (f f2 f3 : Nat → Bool) (p q : DV) (ok : Bool) (h : ns[k]? = some n) (hf : f k = false) (hl : n.g.ln = some l) (h1 : RF ns n.l (setF f k) p true f2) (h2 : RF ns n.r f2 q ok f3) : RF ns (k : Int) f (.pt (cTd l p q)) ok f3
theorem RF.ptr {ns : List RN} {rt : Int} {f f' : Nat → Bool} {p : DV} {ok : Bool} (h : RF ns rt f p ok f') {G : Gh} {v : Value} (hv : Is G p v) : ∃ a, v = .pointer a := by
 cases h with
 | leaf => obtain ⟨b, m, e, _⟩ := is_pt.1 hv; exact ⟨_, e⟩
 | bad => exact ⟨_, is_v.1 hv⟩
 | line => exact ⟨_, is_v.1 hv⟩
 | left => exact ⟨_, is_v.1 hv⟩
 | node => obtain ⟨b, m, e, _⟩ := is_pt.1 hv; exact ⟨_, e⟩
theorem eL_of {G : Gh} {b1 b2 b3 : Bool} {l1 l2 l3 : List DV} {v : Value} (h : Is G (.ag [.v (.bool b1), .sl l1, .v (.bool b2), .sl l2, .v (.bool b3), .sl l3]) v) : ∃ x1 x2 x3 : SV, v = .agg ⟨[.bool b1, .slice x1.a x1.n x1.c, .bool b2, .slice x2.a x2.n x2.c, .bool b3, .slice x3.a x3.n x3.c]⟩ := by
 obtain ⟨m, rfl, g⟩ := is_ag.1 h
 clear h
 obtain ⟨v1, m, rfl, h1, h⟩ := isl_cons.1 g
 obtain ⟨v2, m, rfl, h2, h⟩ := isl_cons.1 h
 obtain ⟨v3, m, rfl, h3, h⟩ := isl_cons.1 h
 obtain ⟨v4, m, rfl, h4, h⟩ := isl_cons.1 h
 obtain ⟨v5, m, rfl, h5, h⟩ := isl_cons.1 h
 obtain ⟨v6, m, rfl, h6, h⟩ := isl_cons.1 h
 rw [isl_nil] at h; subst h
 obtain ⟨_, x1, _, rfl, _, _⟩ := is_sl.1 h2
 obtain ⟨_, x2, _, rfl, _, _⟩ := is_sl.1 h4
 obtain ⟨_, x3, _, rfl, _, _⟩ := is_sl.1 h6
 rw [is_v.1 h1, is_v.1 h3, is_v.1 h5]
 exact ⟨x1, x2, x3, rfl⟩
theorem rlD_of {G : Gh} {r : RL} {v : Value} (h : Is G (rlD r) v) : ∃ (b1 b2 b3 : Bool) (x1 x2 x3 : SV), v = .tuple #[.agg ⟨[.bool b1, .slice x1.a x1.n x1.c, .bool b2, .slice x2.a x2.n x2.c, .bool b3, .slice x3.a x3.n x3.c]⟩, .bool r.ln.isSome] ∧
   ∀ l, r.ln = some l → Is G (eL l) (.agg ⟨[.bool b1, .slice x1.a x1.n x1.c, .bool b2, .slice x2.a x2.n x2.c, .bool b3, .slice x3.a x3.n x3.c]⟩) := by
 obtain ⟨m, rfl, g⟩ := is_tp.1 h
 obtain ⟨v1, m, rfl, h1, h⟩ := isl_cons.1 g
 obtain ⟨v2, m, rfl, h2, h⟩ := isl_cons.1 h
 rw [isl_nil] at h; subst h
 have e : decide (r.nm ∧ r.l.ok) = r.ln.isSome := by
   unfold RL.ln
   split
   · rename_i h; rw [decide_eq_true h]; rfl
   · rename_i h; rw [decide_eq_false h]; rfl
 rw [is_v.1 h2, e]
 by_cases hn : r.nm
 · rw [if_pos hn] at h1
   obtain ⟨x1, x2, x3, rfl⟩ := eL_of h1
   refine ⟨_, _, _, x1, x2, x3, rfl, fun l hl => ?_⟩
   obtain ⟨_, _, rfl⟩ := RL.ln_some hl
   exact h1
 · rw [if_neg hn] at h1
   obtain ⟨x1, x2, x3, rfl⟩ := eL_of h1
   refine ⟨_, _, _, x1, x2, x3, rfl, fun l hl => ?_⟩
   exact absurd (RL.ln_some hl).1 hn
theorem rfLeaf {G : Gh} {b : Bool} : IsLs G (cT (.leaf b)) [.bool true, .bool b, .bool false, .slice none 0 0, .bool false, .slice none 0 0, .bool false, .slice none 0 0, .pointer none, .pointer none] := by
 have hs : Is G (.sl []) (.slice none 0 0) := is_sl.2 ⟨0, ⟨none, 0, 0⟩, [], rfl, .nil G 0, .nil⟩
 exact .cons (is_v.2 rfl) (.cons (is_v.2 rfl) (.cons (is_v.2 rfl) (.cons hs (.cons (is_v.2 rfl) (.cons hs (.cons (is_v.2 rfl) (.cons hs (.cons (is_v.2 rfl) (.cons (is_v.2 rfl) .nil)))))))))
theorem node_cells {acs : List Value} {o : Nat} {a b c d e f l r : Value} (h : takeL acs o 8 = some [a, b, c, d, e, f, l, r]) : takeL acs (o + 0) 6 = some [a, b, c, d, e, f] ∧ acs[o + 6]? = some l ∧ acs[o + 7]? = some r := by
 obtain ⟨_, hg⟩ := takeL_spec _ _ _ _ h
 have h7 := hg 7 (by decide)
 have hlen := (List.getElem?_eq_some_iff.1 h7).1
 refine ⟨?_, hg 6 (by decide), h7⟩
 rw [takeL_of _ _ _ (by omega)]
 congr 1
 apply List.ext_getElem?
 intro i
 rw [List.getElem?_take]
 split
 · rename_i hi
   rw [List.getElem?_drop]
   have := hg i (by omega)
   rw [Nat.add_zero, this]
   match i, hi with
   | 0, _ => rfl
   | 1, _ => rfl
   | 2, _ => rfl
   | 3, _ => rfl
   | 4, _ => rfl
   | 5, _ => rfl
 · rename_i hi
   rw [List.getElem?_eq_none (by simp only [List.length_cons, List.length_nil]; omega)]
theorem cTd_is {G : Gh} {l : LnQ} {p q : DV} {a b c d e f v w : Value} (h : Is G (eL l) (.agg ⟨[a, b, c, d, e, f]⟩)) (hp : Is G p v) (hq : Is G q w) : IsLs G (cTd l p q) [.bool false, .bool false, a, b, c, d, e, f, v, w] := by
 obtain ⟨m, e', g⟩ := is_ag.1 h
 cases e'
 obtain ⟨h1, g⟩ := g.uncons
 obtain ⟨h2, g⟩ := g.uncons
 obtain ⟨h3, g⟩ := g.uncons
 obtain ⟨h4, g⟩ := g.uncons
 obtain ⟨h5, g⟩ := g.uncons
 obtain ⟨h6, g⟩ := g.uncons
 exact .cons (is_v.2 rfl) (.cons (is_v.2 rfl) (.cons h1 (.cons h2 (.cons h3 (.cons h4 (.cons h5 (.cons h6 (.cons hp (.cons hq .nil)))))))))
set_option maxHeartbeats 2000000 in
theorem rf_read {A : Gh} {ns : List RN} {x : SV} {r0 : Int} (hx : NRow x ns A) (hs : ∀ n ∈ ns, n.g.sm) (hn : ns.length ≤ 1000000) {rt : Int} {f f' : Nat → Bool} {p : DV} {ok : Bool} (h : RF ns rt f p ok f') : ∀ {G : Gh} {sb : Nat} {lo2 : Bool}, [GL A G] →
   FnM Tryz.prog 82 [.agg ⟨[.int .i64 r0, .slice x.a x.n x.c]⟩, .int .i64 rt, .slice (some ⟨sb, 0, none⟩) ns.length ns.length] [⟨sb, seenF ns.length f, 4, lo2⟩] G
     (fun v css G' => ∃ q, v = .tuple #[q, .bool ok] ∧ Is G' p q ∧ css = [seenF ns.length f']) := by
 obtain ⟨es, hx, hes⟩ := hx
 have hel := hes.len
 rw [List.length_map] at hel
 have hlen := hx.len
 rw [hel] at hlen
 obtain ⟨xa, xn, xc⟩ := x
 simp only [] at hlen
 subst hlen
 induction h with
 | leaf bb f =>
   intro G sb lo2 _
   refine FnM.intro Tryz.func82 rfl rfl Tryz.ntmps82 rfl ?_
   intro C _ _
   show St C _ [(0, .agg ⟨[.int .i64 r0, .slice xa ns.length xc]⟩), (1, .int .i64 (leafCode bb)), (2, .slice (some ⟨sb, 0, none⟩) ns.length ns.length)] [⟨sb, seenF ns.length f, _, false⟩] _ _
   refine sR <| ?_
   refine sc (ch_box rfl rfl ?_)
   intro b1
   refine sa rfl rfl <| sa rfl rfl <| zE <| st_seq <| sR <| sm rfl rfl <| sy (yd_eql rfl rfl) rfl <| sm rfl rfl <| ?_
   cases bb
   case true =>
     refine ss rfl rfl rfl rfl <| ss rfl rfl rfl rfl <| sy (yd_pickT rfl rfl) rfl <| ?_
     refine zE <| st_condT rfl <| sR <| sm rfl rfl <| sy (yd_eql rfl rfl) rfl <| sy (yd_build rfl) rfl <| ?_
     refine sc (ch_box rfl rfl ?_)
     intro b2
     refine sa rfl rfl <| sa rfl rfl <| zE <| st_ret <| ?_
     refine st_freeze b2 (.hd ..) ?_
     intro G9 _ hfz
     exact st_doneM (css := [_]) (.tmp rfl (.tmp rfl .nil)) rfl (_ :: [_]) (List.perm_append_comm (l₁ := [_]) (l₂ := [_])) (.cons_cons _ (List.nil_sublist _)) ⟨_, rfl, is_pt.2 ⟨b2, _, rfl, hfz.h, rfLeaf⟩, rfl⟩
   refine syg rfl rfl (yd_move rfl) rfl <| syg rfl rfl (yd_eql rfl rfl) rfl <| sy (yd_pickF rfl rfl) rfl <| ?_
   refine zE <| st_condT rfl <| sR <| sm rfl rfl <| sy (yd_eql rfl rfl) rfl <| sy (yd_build rfl) rfl <| ?_
   refine sc (ch_box rfl rfl ?_)
   intro b2
   refine sa rfl rfl <| sa rfl rfl <| zE <| st_ret <| ?_
   refine st_freeze b2 (.hd ..) ?_
   intro G9 _ hfz
   exact st_doneM (css := [_]) (.tmp rfl (.tmp rfl .nil)) rfl (_ :: [_]) (List.perm_append_comm (l₁ := [_]) (l₂ := [_])) (.cons_cons _ (List.nil_sublist _)) ⟨_, rfl, is_pt.2 ⟨b2, _, rfl, hfz.h, rfLeaf⟩, rfl⟩
 | bad rt f h1 h2 h =>
   intro G sb lo2 _
   refine FnM.intro Tryz.func82 rfl rfl Tryz.ntmps82 rfl ?_
   intro C _ _
   show St C _ [(0, .agg ⟨[.int .i64 r0, .slice xa ns.length xc]⟩), (1, .int .i64 rt), (2, .slice (some ⟨sb, 0, none⟩) ns.length ns.length)] [⟨sb, seenF ns.length f, _, false⟩] _ _
   refine sR <| ?_
   refine sc (ch_box rfl rfl ?_)
   intro b1
   refine sa rfl rfl <| sa rfl rfl <| zE <| st_seq <| sR <| sm rfl rfl <| sy (yd_eql rfl rfl) rfl <| sm rfl rfl <| ?_
   refine st_caseP 14 rfl (fun hg => absurd hg (by omega)) (fun hg => ?_)
   refine syg rfl rfl (yd_move rfl) rfl <| syg rfl rfl (yd_eql rfl rfl) rfl <| sy (yd_pickF rfl rfl) rfl <| zE <| ?_
   refine st_condP rfl (fun hc => absurd hc (by omega)) (fun _ => ?_)
   refine zK <| st_seq <| sR <| sm rfl rfl <| sy (yd_lss rfl rfl) rfl <| sm rfl rfl <| ?_
   refine st_caseP 24 rfl (fun hg => ?_) (fun hg => ?_)
   · refine ss rfl rfl rfl rfl <| ss rfl rfl rfl rfl <| ss rfl rfl rfl rfl <| ss rfl rfl rfl rfl <| ss rfl rfl rfl rfl <| sy (yd_pickT rfl rfl) rfl <| sm rfl rfl <| ss rfl rfl rfl rfl <| ss rfl rfl rfl rfl <| ss rfl rfl rfl rfl <| ss rfl rfl rfl rfl <| ?_
     refine sy (yd_pickT rfl rfl) rfl <| zE <| st_condT rfl <| ?_
     refine sR <| sa rfl rfl <| sa rfl rfl <| zE <| st_ret <| ?_
     exact st_doneM (css := [_]) (.tmp rfl (.tmp rfl .nil)) rfl (_ :: [_]) (List.perm_append_comm (l₁ := [_]) (l₂ := [_])) (.cons_cons _ (List.nil_sublist _)) ⟨_, rfl, is_v.2 rfl, rfl⟩
   refine syg rfl rfl (yd_move rfl) rfl <| syg rfl rfl (yd_fieldAddr rfl) rfl <| syg rfl rfl (yd_load_own1 rfl rfl) rfl <| syg rfl rfl (yd_len rfl) rfl <| syg rfl rfl (yd_geq rfl rfl) rfl <| sy (yd_pickF rfl rfl) rfl <| sm rfl rfl <| ?_
   refine st_caseP 31 rfl (fun hg => ?_) (fun hg => ?_)
   · refine ss rfl rfl rfl rfl <| ss rfl rfl rfl rfl <| ss rfl rfl rfl rfl <| ss rfl rfl rfl rfl <| sy (yd_pickT rfl rfl) rfl <| zE <| st_condT rfl <| ?_
     refine sR <| sa rfl rfl <| sa rfl rfl <| zE <| st_ret <| ?_
     exact st_doneM (css := [_]) (.tmp rfl (.tmp rfl .nil)) rfl (_ :: [_]) (List.perm_append_comm (l₁ := [_]) (l₂ := [_])) (.cons_cons _ (List.nil_sublist _)) ⟨_, rfl, is_v.2 rfl, rfl⟩
   obtain ⟨k, rfl, hk, hf⟩ : ∃ k : Nat, rt = k ∧ k < ns.length ∧ f k = true := by
     rcases h with h | h | h
     · omega
     · exact absurd h hg
     · exact h
   refine syg rfl rfl (yd_move rfl) rfl <| syg rfl rfl (yd_move rfl) rfl <| syg rfl rfl (yd_ixO rfl rfl (by omega) (by omega)) rfl <| ?_
   refine syg rfl rfl (yd_load_own1 (v := .bool true) rfl (by rw [Int.toNat_natCast, Nat.mul_one]; exact seenF_get hk hf)) rfl <| sy (yd_pickF rfl rfl) rfl <| zE <| st_condT rfl <| ?_
   refine sR <| sa rfl rfl <| sa rfl rfl <| zE <| st_ret <| ?_
   exact st_doneM (css := [_]) (.tmp rfl (.tmp rfl .nil)) rfl (_ :: [_]) (List.perm_append_comm (l₁ := [_]) (l₂ := [_])) (.cons_cons _ (List.nil_sublist _)) ⟨_, rfl, is_v.2 rfl, rfl⟩
 | line base n f h0 hfb hl =>
   intro G sb lo2 _
   have hbn : base < ns.length := (List.getElem?_eq_some_iff.1 h0).1
   obtain ⟨z, hzi, hz⟩ := hes.get (i := base) (d := n.d) (by rw [List.getElem?_map, h0]; rfl)
   obtain ⟨x1, x2, x3, rfl, hzg⟩ := RN_of hz
   obtain ⟨ab, aoff, acs, ha, hga, hca⟩ := hx.mem.resolve_left (fun e => by rw [e] at hel; simp at hel; omega)
   simp only at ha
   subst ha
   haveI : GHas A ab acs := ⟨hga⟩
   obtain ⟨hk0, hk6, hk7⟩ := node_cells (by
     have h9 := hca base (by rw [hel]; exact hbn)
     rw [show es[base]'(by rw [hel]; exact hbn) = _ from Option.some.inj ((List.getElem?_eq_getElem (by rw [hel]; exact hbn)).symm.trans hzi)] at h9
     exact h9)
   refine FnM.intro Tryz.func82 rfl rfl Tryz.ntmps82 rfl ?_
   intro C _ _
   show St C _ [(0, .agg ⟨[.int .i64 r0, .slice (some ⟨ab, aoff, none⟩) ns.length xc]⟩), (1, .int .i64 (base : Int)), (2, .slice (some ⟨sb, 0, none⟩) ns.length ns.length)] [⟨sb, seenF ns.length f, _, false⟩] _ _
   refine sR <| ?_
   refine sc (ch_box rfl rfl ?_)
   intro b1
   refine sa rfl rfl <| sa rfl rfl <| zE <| st_seq <| sR <| sm rfl rfl <| sy (yd_eql rfl rfl) rfl <| sm rfl rfl <| ?_
   refine st_caseP 14 rfl (fun hg => absurd hg (by omega)) (fun hg => ?_)
   refine syg rfl rfl (yd_move rfl) rfl <| syg rfl rfl (yd_eql rfl rfl) rfl <| sy (yd_pickF rfl rfl) rfl <| zE <| ?_
   refine st_condP rfl (fun hc => absurd hc (by omega)) (fun _ => ?_)
   refine zK <| st_seq <| sR <| sm rfl rfl <| sy (yd_lss rfl rfl) rfl <| sm rfl rfl <| ?_
   refine st_caseP 24 rfl (fun hg => absurd hg (by omega)) (fun hg => ?_)
   refine syg rfl rfl (yd_move rfl) rfl <| syg rfl rfl (yd_fieldAddr rfl) rfl <| syg rfl rfl (yd_load_own1 rfl rfl) rfl <| syg rfl rfl (yd_len rfl) rfl <| syg rfl rfl (yd_geq rfl rfl) rfl <| sy (yd_pickF rfl rfl) rfl <| sm rfl rfl <| ?_
   refine st_caseP 31 rfl (fun hg => absurd hg (by omega)) (fun hg => ?_)
   refine syg rfl rfl (yd_move rfl) rfl <| syg rfl rfl (yd_move rfl) rfl <| syg rfl rfl (yd_ixO rfl rfl (by omega) (by omega)) rfl <| ?_
   refine syg rfl rfl (yd_load_own1 (v := .bool false) rfl (by rw [Int.toNat_natCast, Nat.mul_one]; exact seenF_get hbn hfb)) rfl <| sy (yd_pickF rfl rfl) rfl <| zE <| st_condF rfl <| ?_
   refine zK <| sR <| sm rfl rfl <| sm rfl rfl <| sy (yd_ixO rfl rfl (by omega) (by omega)) rfl <| ?_
   refine sc (ch_store1 rfl rfl (.tl _ _ _ _ _ _ _ _ (.hd ..)) (by rw [seenF_len, Int.toNat_natCast, Nat.mul_one]; exact hbn) rfl rfl ?_)
   rw [Int.toNat_natCast, Nat.mul_one, seenF_set]
   refine zE <| sR <| sf rfl rfl <| slo1 rfl rfl rfl <| sm rfl rfl <| sy (yd_index rfl rfl (by omega) (by omega)) rfl <| ?_
   rw [Int.toNat_natCast]
   refine sf rfl rfl <| slg rfl hk0 rfl <| ?_
   refine sc (zC rfl rfl (PF.fn0 (q_Ln (hs n (List.mem_of_getElem? h0))) (.cons (hzg.up GL.le) .nil)) rfl ?_)
   rintro _ G6 _ hw
   obtain ⟨c1, c2, c3, y1, y2, y3, rfl, hw'⟩ := rlD_of hw
   rw [hl]
   refine sm rfl rfl <| sx rfl rfl rfl <| sx rfl rfl rfl <| ?_
   refine sc (ch_alloc rfl ?_)
   intro b3
   refine sc (ch_storeN rfl rfl rfl (by repeat (first | exact .hd .. | apply OUpd.tl)) rfl (nb rfl) rfl rfl ?_)
   refine sa rfl rfl <| zE <| st_seq <| sR <| sm rfl rfl <| sy (yd_not rfl) rfl <| zE <| ?_
   refine st_condT rfl <| ?_
   refine sR <| sa rfl rfl <| sa rfl rfl <| zE <| st_ret <| ?_
   exact st_doneM (css := [_]) (.tmp rfl (.tmp rfl .nil)) rfl (_ :: [_, _]) (List.perm_append_comm (l₁ := [_, _]) (l₂ := [_])) (.cons_cons _ (List.nil_sublist _)) ⟨_, rfl, is_v.2 rfl, rfl⟩
 | left base n l f f2 p h0 hfb hl h1 ih1 =>
   intro G sb lo2 _
   have hbn : base < ns.length := (List.getElem?_eq_some_iff.1 h0).1
   obtain ⟨z, hzi, hz⟩ := hes.get (i := base) (d := n.d) (by rw [List.getElem?_map, h0]; rfl)
   obtain ⟨x1, x2, x3, rfl, hzg⟩ := RN_of hz
   obtain ⟨ab, aoff, acs, ha, hga, hca⟩ := hx.mem.resolve_left (fun e => by rw [e] at hel; simp at hel; omega)
   simp only at ha
   subst ha
   haveI : GHas A ab acs := ⟨hga⟩
   obtain ⟨hk0, hk6, hk7⟩ := node_cells (by
     have h9 := hca base (by rw [hel]; exact hbn)
     rw [show es[base]'(by rw [hel]; exact hbn) = _ from Option.some.inj ((List.getElem?_eq_getElem (by rw [hel]; exact hbn)).symm.trans hzi)] at h9
     exact h9)
   refine FnM.intro Tryz.func82 rfl rfl Tryz.ntmps82 rfl ?_
   intro C _ _
   show St C _ [(0, .agg ⟨[.int .i64 r0, .slice (some ⟨ab, aoff, none⟩) ns.length xc]⟩), (1, .int .i64 (base : Int)), (2, .slice (some ⟨sb, 0, none⟩) ns.length ns.length)] [⟨sb, seenF ns.length f, _, false⟩] _ _
   refine sR <| ?_
   refine sc (ch_box rfl rfl ?_)
   intro b1
   refine sa rfl rfl <| sa rfl rfl <| zE <| st_seq <| sR <| sm rfl rfl <| sy (yd_eql rfl rfl) rfl <| sm rfl rfl <| ?_
   refine st_caseP 14 rfl (fun hg => absurd hg (by omega)) (fun hg => ?_)
   refine syg rfl rfl (yd_move rfl) rfl <| syg rfl rfl (yd_eql rfl rfl) rfl <| sy (yd_pickF rfl rfl) rfl <| zE <| ?_
   refine st_condP rfl (fun hc => absurd hc (by omega)) (fun _ => ?_)
   refine zK <| st_seq <| sR <| sm rfl rfl <| sy (yd_lss rfl rfl) rfl <| sm rfl rfl <| ?_
   refine st_caseP 24 rfl (fun hg => absurd hg (by omega)) (fun hg => ?_)
   refine syg rfl rfl (yd_move rfl) rfl <| syg rfl rfl (yd_fieldAddr rfl) rfl <| syg rfl rfl (yd_load_own1 rfl rfl) rfl <| syg rfl rfl (yd_len rfl) rfl <| syg rfl rfl (yd_geq rfl rfl) rfl <| sy (yd_pickF rfl rfl) rfl <| sm rfl rfl <| ?_
   refine st_caseP 31 rfl (fun hg => absurd hg (by omega)) (fun hg => ?_)
   refine syg rfl rfl (yd_move rfl) rfl <| syg rfl rfl (yd_move rfl) rfl <| syg rfl rfl (yd_ixO rfl rfl (by omega) (by omega)) rfl <| ?_
   refine syg rfl rfl (yd_load_own1 (v := .bool false) rfl (by rw [Int.toNat_natCast, Nat.mul_one]; exact seenF_get hbn hfb)) rfl <| sy (yd_pickF rfl rfl) rfl <| zE <| st_condF rfl <| ?_
   refine zK <| sR <| sm rfl rfl <| sm rfl rfl <| sy (yd_ixO rfl rfl (by omega) (by omega)) rfl <| ?_
   refine sc (ch_store1 rfl rfl (.tl _ _ _ _ _ _ _ _ (.hd ..)) (by rw [seenF_len, Int.toNat_natCast, Nat.mul_one]; exact hbn) rfl rfl ?_)
   rw [Int.toNat_natCast, Nat.mul_one, seenF_set]
   refine zE <| sR <| sf rfl rfl <| slo1 rfl rfl rfl <| sm rfl rfl <| sy (yd_index rfl rfl (by omega) (by omega)) rfl <| ?_
   rw [Int.toNat_natCast]
   refine sf rfl rfl <| slg rfl hk0 rfl <| ?_
   refine sc (zC rfl rfl (PF.fn0 (q_Ln (hs n (List.mem_of_getElem? h0))) (.cons (hzg.up GL.le) .nil)) rfl ?_)
   rintro _ G6 _ hw
   obtain ⟨c1, c2, c3, y1, y2, y3, rfl, hw'⟩ := rlD_of hw
   rw [hl]
   refine sm rfl rfl <| sx rfl rfl rfl <| sx rfl rfl rfl <| ?_
   refine sc (ch_alloc rfl ?_)
   intro b3
   refine sc (ch_storeN rfl rfl rfl (by repeat (first | exact .hd .. | apply OUpd.tl)) rfl (nb rfl) rfl rfl ?_)
   refine sa rfl rfl <| zE <| st_seq <| sR <| sm rfl rfl <| sy (yd_not rfl) rfl <| zE <| ?_
   replace hw' := hw' l hl
   refine st_condF rfl <| zK <| ?_
   show St C _ _ [⟨b3, [.bool c1, .slice y1.a y1.n y1.c, .bool c2, .slice y2.a y2.n y2.c, .bool c3, .slice y3.a y3.n y3.c], 32, true⟩, ⟨b1, [.int .i64 r0, .slice (some ⟨ab, aoff, none⟩) ns.length xc], 36, true⟩, ⟨sb, seenF ns.length (setF f base), 4, false⟩] _ _
   refine st_seq <| drS [⟨b1, [.int .i64 r0, .slice (some ⟨ab, aoff, none⟩) ns.length xc], 36, true⟩] (fun _ => false) [(0, true), (1, true), (2, true), (3, true), (4, true), (5, true), (6, true), (7, true), (8, false), (9, true), (10, true), (11, true), (12, true), (13, true)] follows (by kernel_rfl) <| ?_
   refine dL rfl rfl rfl rfl <| dF rfl rfl rfl <| dL1 rfl rfl rfl rfl <| dM rfl rfl rfl <| ?_
   refine dy rfl (fun _ => yd_index rfl rfl (by omega) (by omega)) rfl rfl <| dF rfl rfl rfl <| ?_
   refine dy rfl (fun _ => yd_load_gh1 rfl ghi (by rw [Int.toNat_natCast]; exact hk6)) rfl rfl <| dM rfl rfl rfl <| ?_
   have hrp := ih1 (G := G6) (sb := sb) (lo2 := false)
   refine dc rfl rfl (ch_callM rfl rfl (M := [_]) (rest := [_, _]) (List.perm_append_comm (l₁ := [_, _]) (l₂ := [_])) hrp rfl ?_)
   rintro _ css G7 _ _ ⟨q1, rfl, hq1, rfl⟩
   show St C _ _ [⟨sb, seenF ns.length f2, 4, false⟩, ⟨b3, [.bool c1, .slice y1.a y1.n y1.c, .bool c2, .slice y2.a y2.n y2.c, .bool c3, .slice y3.a y3.n y3.c], 32, true⟩, ⟨b1, [.int .i64 r0, .slice (some ⟨ab, aoff, none⟩) ns.length xc], 36, true⟩] _ _
   refine dr_s <| dM rfl rfl rfl <| dy rfl (fun _ => yd_extract rfl rfl) rfl rfl <| dy rfl (fun _ => yd_extract rfl rfl) rfl rfl <| dA rfl rfl rfl <| ?_
   refine dA rfl rfl rfl <| dn <| ?_
   refine st_seq <| sR <| sm rfl rfl <| sy (yd_not rfl) rfl <| zE <| st_condT rfl <| ?_
   refine sR <| sa rfl rfl <| sa rfl rfl <| zE <| st_ret <| ?_
   exact st_doneM (css := [_]) (.tmp rfl (.tmp rfl .nil)) rfl (_ :: [_, _]) (List.Perm.refl _) (.cons_cons _ (List.nil_sublist _)) ⟨_, rfl, is_v.2 rfl, rfl⟩
 | node base n l f f2 f3 p q ok h0 hfb hl h1 h2 ih1 ih2 =>
   intro G sb lo2 _
   have hbn : base < ns.length := (List.getElem?_eq_some_iff.1 h0).1
   obtain ⟨z, hzi, hz⟩ := hes.get (i := base) (d := n.d) (by rw [List.getElem?_map, h0]; rfl)
   obtain ⟨x1, x2, x3, rfl, hzg⟩ := RN_of hz
   obtain ⟨ab, aoff, acs, ha, hga, hca⟩ := hx.mem.resolve_left (fun e => by rw [e] at hel; simp at hel; omega)
   simp only at ha
   subst ha
   haveI : GHas A ab acs := ⟨hga⟩
   obtain ⟨hk0, hk6, hk7⟩ := node_cells (by
     have h9 := hca base (by rw [hel]; exact hbn)
     rw [show es[base]'(by rw [hel]; exact hbn) = _ from Option.some.inj ((List.getElem?_eq_getElem (by rw [hel]; exact hbn)).symm.trans hzi)] at h9
     exact h9)
   refine FnM.intro Tryz.func82 rfl rfl Tryz.ntmps82 rfl ?_
   intro C _ _
   show St C _ [(0, .agg ⟨[.int .i64 r0, .slice (some ⟨ab, aoff, none⟩) ns.length xc]⟩), (1, .int .i64 (base : Int)), (2, .slice (some ⟨sb, 0, none⟩) ns.length ns.length)] [⟨sb, seenF ns.length f, _, false⟩] _ _
   refine sR <| ?_
   refine sc (ch_box rfl rfl ?_)
   intro b1
   refine sa rfl rfl <| sa rfl rfl <| zE <| st_seq <| sR <| sm rfl rfl <| sy (yd_eql rfl rfl) rfl <| sm rfl rfl <| ?_
   refine st_caseP 14 rfl (fun hg => absurd hg (by omega)) (fun hg => ?_)
   refine syg rfl rfl (yd_move rfl) rfl <| syg rfl rfl (yd_eql rfl rfl) rfl <| sy (yd_pickF rfl rfl) rfl <| zE <| ?_
   refine st_condP rfl (fun hc => absurd hc (by omega)) (fun _ => ?_)
   refine zK <| st_seq <| sR <| sm rfl rfl <| sy (yd_lss rfl rfl) rfl <| sm rfl rfl <| ?_
   refine st_caseP 24 rfl (fun hg => absurd hg (by omega)) (fun hg => ?_)
   refine syg rfl rfl (yd_move rfl) rfl <| syg rfl rfl (yd_fieldAddr rfl) rfl <| syg rfl rfl (yd_load_own1 rfl rfl) rfl <| syg rfl rfl (yd_len rfl) rfl <| syg rfl rfl (yd_geq rfl rfl) rfl <| sy (yd_pickF rfl rfl) rfl <| sm rfl rfl <| ?_
   refine st_caseP 31 rfl (fun hg => absurd hg (by omega)) (fun hg => ?_)
   refine syg rfl rfl (yd_move rfl) rfl <| syg rfl rfl (yd_move rfl) rfl <| syg rfl rfl (yd_ixO rfl rfl (by omega) (by omega)) rfl <| ?_
   refine syg rfl rfl (yd_load_own1 (v := .bool false) rfl (by rw [Int.toNat_natCast, Nat.mul_one]; exact seenF_get hbn hfb)) rfl <| sy (yd_pickF rfl rfl) rfl <| zE <| st_condF rfl <| ?_
   refine zK <| sR <| sm rfl rfl <| sm rfl rfl <| sy (yd_ixO rfl rfl (by omega) (by omega)) rfl <| ?_
   refine sc (ch_store1 rfl rfl (.tl _ _ _ _ _ _ _ _ (.hd ..)) (by rw [seenF_len, Int.toNat_natCast, Nat.mul_one]; exact hbn) rfl rfl ?_)
   rw [Int.toNat_natCast, Nat.mul_one, seenF_set]
   refine zE <| sR <| sf rfl rfl <| slo1 rfl rfl rfl <| sm rfl rfl <| sy (yd_index rfl rfl (by omega) (by omega)) rfl <| ?_
   rw [Int.toNat_natCast]
   refine sf rfl rfl <| slg rfl hk0 rfl <| ?_
   refine sc (zC rfl rfl (PF.fn0 (q_Ln (hs n (List.mem_of_getElem? h0))) (.cons (hzg.up GL.le) .nil)) rfl ?_)
   rintro _ G6 _ hw
   obtain ⟨c1, c2, c3, y1, y2, y3, rfl, hw'⟩ := rlD_of hw
   rw [hl]
   refine sm rfl rfl <| sx rfl rfl rfl <| sx rfl rfl rfl <| ?_
   refine sc (ch_alloc rfl ?_)
   intro b3
   refine sc (ch_storeN rfl rfl rfl (by repeat (first | exact .hd .. | apply OUpd.tl)) rfl (nb rfl) rfl rfl ?_)
   refine sa rfl rfl <| zE <| st_seq <| sR <| sm rfl rfl <| sy (yd_not rfl) rfl <| zE <| ?_
   replace hw' := hw' l hl
   refine st_condF rfl <| zK <| ?_
   show St C _ _ [⟨b3, [.bool c1, .slice y1.a y1.n y1.c, .bool c2, .slice y2.a y2.n y2.c, .bool c3, .slice y3.a y3.n y3.c], 32, true⟩, ⟨b1, [.int .i64 r0, .slice (some ⟨ab, aoff, none⟩) ns.length xc], 36, true⟩, ⟨sb, seenF ns.length (setF f base), 4, false⟩] _ _
   refine st_seq <| drS [⟨b1, [.int .i64 r0, .slice (some ⟨ab, aoff, none⟩) ns.length xc], 36, true⟩] (fun _ => false) [(0, true), (1, true), (2, true), (3, true), (4, true), (5, true), (6, true), (7, true), (8, false), (9, true), (10, true), (11, true), (12, true), (13, true)] follows (by kernel_rfl) <| ?_
   refine dL rfl rfl rfl rfl <| dF rfl rfl rfl <| dL1 rfl rfl rfl rfl <| dM rfl rfl rfl <| ?_
   refine dy rfl (fun _ => yd_index rfl rfl (by omega) (by omega)) rfl rfl <| dF rfl rfl rfl <| ?_
   refine dy rfl (fun _ => yd_load_gh1 rfl ghi (by rw [Int.toNat_natCast]; exact hk6)) rfl rfl <| dM rfl rfl rfl <| ?_
   have hrp := ih1 (G := G6) (sb := sb) (lo2 := false)
   refine dc rfl rfl (ch_callM rfl rfl (M := [_]) (rest := [_, _]) (List.perm_append_comm (l₁ := [_, _]) (l₂ := [_])) hrp rfl ?_)
   rintro _ css G7 _ _ ⟨q1, rfl, hq1, rfl⟩
   show St C _ _ [⟨sb, seenF ns.length f2, 4, false⟩, ⟨b3, [.bool c1, .slice y1.a y1.n y1.c, .bool c2, .slice y2.a y2.n y2.c, .bool c3, .slice y3.a y3.n y3.c], 32, true⟩, ⟨b1, [.int .i64 r0, .slice (some ⟨ab, aoff, none⟩) ns.length xc], 36, true⟩] _ _
   refine dr_s <| dM rfl rfl rfl <| dy rfl (fun _ => yd_extract rfl rfl) rfl rfl <| dy rfl (fun _ => yd_extract rfl rfl) rfl rfl <| dA rfl rfl rfl <| ?_
   refine dA rfl rfl rfl <| dn <| ?_
   refine st_seq <| sR <| sm rfl rfl <| sy (yd_not rfl) rfl <| zE <| st_condF rfl <| zK <| ?_
   refine st_seq <| drS [⟨b1, [.int .i64 r0, .slice (some ⟨ab, aoff, none⟩) ns.length xc], 36, true⟩] (fun _ => false) [(0, true), (1, true), (2, true), (3, true), (4, true), (5, true), (6, true), (7, true), (8, false), (9, true), (10, true), (11, true), (12, true), (13, true)] follows (by kernel_rfl) <| ?_
   refine dL rfl rfl rfl rfl <| dF rfl rfl rfl <| dL1 rfl rfl rfl rfl <| dM rfl rfl rfl <| ?_
   refine dy rfl (fun _ => yd_index rfl rfl (by omega) (by omega)) rfl rfl <| dF rfl rfl rfl <| ?_
   refine dy rfl (fun _ => yd_load_gh1 rfl ghi (by rw [Int.toNat_natCast]; exact hk7)) rfl rfl <| dM rfl rfl rfl <| ?_
   have hrp := ih2 (G := G7) (sb := sb) (lo2 := false)
   refine dc rfl rfl (ch_callM rfl rfl (M := [_]) (rest := [_, _]) (List.Perm.refl _) hrp rfl ?_)
   rintro _ css G8 _ _ ⟨q2, rfl, hq2, rfl⟩
   show St C _ _ [⟨sb, seenF ns.length f3, 4, false⟩, ⟨b3, [.bool c1, .slice y1.a y1.n y1.c, .bool c2, .slice y2.a y2.n y2.c, .bool c3, .slice y3.a y3.n y3.c], 32, true⟩, ⟨b1, [.int .i64 r0, .slice (some ⟨ab, aoff, none⟩) ns.length xc], 36, true⟩] _ _
   refine dr_s <| dM rfl rfl rfl <| dy rfl (fun _ => yd_extract rfl rfl) rfl rfl <| dy rfl (fun _ => yd_extract rfl rfl) rfl rfl <| dA rfl rfl rfl <| ?_
   refine dA rfl rfl rfl <| dn <| ?_
   obtain ⟨a1, rfl⟩ := h1.ptr hq1
   obtain ⟨a2, rfl⟩ := h2.ptr hq2
   refine sR <| slo rfl rfl rfl <| sm rfl rfl <| sm rfl rfl <| sy (yd_build rfl) rfl <| ?_
   refine sc (ch_box rfl rfl ?_)
   intro b6
   refine sm rfl rfl <| sa rfl rfl <| sa rfl rfl <| zE <| st_ret <| ?_
   refine st_freeze b6 (.hd ..) ?_
   intro G9 _ hfz
   exact st_doneM (css := [_]) (.tmp rfl (.tmp rfl .nil)) rfl (_ :: [_, _]) (List.Perm.refl _) (.cons_cons _ (List.nil_sublist _)) ⟨_, rfl, is_pt.2 ⟨b6, _, rfl, hfz.h, cTd_is (hw'.up GL.le) (hq1.up GL.le) (hq2.up GL.le)⟩, rfl⟩
def allK (n : Nat) (f : Nat → Bool) : Bool := (List.range n).all f
theorem allK_succ {n : Nat} {f : Nat → Bool} : allK (n + 1) f = (allK n f && f n) := by
 unfold allK; rw [List.range_succ, List.all_append]; simp
set_option maxHeartbeats 1000000 in
theorem q_Read {GB : Gh} {ns : List RN} {rt : Int} {p : DV} {ok : Bool} {f : Nat → Bool} (hs : ∀ n ∈ ns, n.g.sm) (hn : ns.length ≤ 65536) (h : RF ns rt (fun _ => false) p ok f) : PF GB Tryz.prog 33 [eRT rt ns] (.tp [p, vB (ok && allK ns.length f)]) := by
 intro G vs _ hv
 obtain ⟨v0, m, rfl, h0, hm⟩ := isl_cons.1 hv
 rw [isl_nil] at hm; subst hm
 obtain ⟨m, rfl, g⟩ := is_ag.1 h0
 obtain ⟨v1, m, rfl, h1, hm⟩ := isl_cons.1 g
 obtain ⟨v2, m, rfl, h2, hm⟩ := isl_cons.1 hm
 rw [isl_nil] at hm; subst hm
 obtain ⟨s0, x, es, rfl, hsl, hes⟩ := is_sl.1 h2
 rw [is_v.1 h1]
 have hel := hes.len
 rw [List.length_map] at hel
 have hlen := hsl.len
 rw [hel] at hlen
 have hx : NRow x ns G := by
   refine ⟨es, ?_, hes⟩
   rcases sl_stride (s := 8) hsl hes (fun d hd => by obtain ⟨n, _, rfl⟩ := List.mem_map.1 hd; exact ⟨rfl, rfl⟩) with e | e
   · exact ⟨hsl.len, hsl.cap, .inl e⟩
   · rw [e] at hsl; exact hsl
 obtain ⟨xa, xn, xc⟩ := x
 simp only [] at hlen
 subst hlen
 show Fn _ _ [.agg ⟨[.int .i64 rt, .slice xa ns.length xc]⟩] _ _
 refine Fn.intro Tryz.func33 rfl rfl Tryz.ntmps33 rfl ?_
 intro C _ _
 refine sR <| ?_
 refine sc (ch_box rfl rfl ?_)
 intro b1
 refine sa rfl rfl <| sa rfl rfl <| zE <| st_seq <| sR <| sf rfl rfl <| slo1 rfl rfl rfl <| slen rfl rfl <| sy (yd_gtr rfl rfl) rfl <| zE <| ?_
 refine st_condP rfl (fun hc => absurd hc (by omega)) (fun _ => ?_)
 refine zK <| sR <| sf rfl rfl <| slo1 rfl rfl rfl <| slen rfl rfl <| ?_
 refine sc (ch_make rfl rfl (by omega) (by omega) (by omega) (by rfl) rfl ?_)
 intro b2
 rw [Int.toNat_natCast, zeros_seenF]
 refine sa rfl rfl <| zE <| sR <| slo rfl rfl rfl <| sf rfl rfl <| slo1 rfl rfl rfl <| sm rfl rfl <| ?_
 have hrp := rf_read (r0 := rt) hx hs (by omega) h (G := G) (sb := b2) (lo2 := true)
 refine sc (ch_callM rfl rfl (M := [_]) (rest := [_]) (List.Perm.refl _) hrp rfl ?_)
 rintro _ css G3 _ _ ⟨q, rfl, hq, rfl⟩
 show St C _ _ [⟨b2, seenF ns.length f, 4, true⟩, ⟨b1, [.int .i64 rt, .slice xa ns.length xc], 36, true⟩] _ _
 refine sm rfl rfl <| sx rfl rfl rfl <| sx rfl rfl rfl <| sa rfl rfl <| sa rfl rfl <| zE <| st_seq <| sR <| sm rfl rfl <| slen rfl rfl <| sm rfl rfl <| zE <| st_block <| ?_
 refine st_loop (X := Nat) (fun i => [(27, .int .i64 (i : Nat)), (26, .int .i64 ns.length), (25, .slice (some ⟨b2, 0, none⟩) ns.length ns.length), (6, .bool (ok && allK i f)), (5, q)]) (fun _ => [⟨b2, seenF ns.length f, 4, true⟩, ⟨b1, [.int .i64 rt, .slice xa ns.length xc], 36, true⟩]) (fun i _ => i ≤ ns.length) (fun i => ns.length - i) 0 (Nat.zero_le _) (.cons rfl (.cons rfl (.cons rfl (.cons (by show some (Value.bool ok) = some (.bool (ok && true)); rw [Bool.and_true]) (.cons rfl .nil))))) rfl ?_
 rintro i Gx _ hi
 refine sR <| sy (yd_lss rfl rfl) rfl <| zE <| st_seq <| ?_
 refine st_condE rfl (fun hc => ?_) (fun hc => ?_)
 · obtain rfl : i = ns.length := by omega
   refine st_exit <| st_te <| st_te <| st_inBlock_eq <| sR <| sm rfl rfl <| sm rfl rfl <| sa rfl rfl <| sa rfl rfl <| zE <| st_ret <| ?_
   exact zD (.tmp rfl (.tmp rfl .nil)) (is_tp.2 ⟨_, rfl, .cons (hq.up GL.le) (.cons (is_v.2 rfl) .nil)⟩)
 have hi' : i < ns.length := by omega
 refine zK <| st_seq <| st_block <| sR <| sy (yd_ixO rfl rfl (by omega) (by omega)) rfl <| ?_
 refine sy (yd_load_own1 (v := .bool (f i)) rfl (by rw [Int.toNat_natCast, Nat.mul_one]; exact seenF_get hi' rfl)) rfl <| sa rfl rfl <| zE <| st_region <| sm rfl rfl <| sm rfl rfl <| ?_
 refine st_case 32 rfl (fun hg => ?_) (fun hg => ?_)
 · refine syg rfl rfl (yd_move rfl) rfl <| sy (yd_pickT rfl rfl) rfl <| sa rfl rfl <| zE <| st_region <| sy (yd_add64 rfl rfl) rfl <| sm rfl rfl <| zE <| ?_
   exact st_again (i + 1) hi' (by omega) (.cons (by show some (Value.int _ _) = some (.int _ _); congr 2) (.cons rfl (.cons rfl (.cons (by show some (Value.bool (f i)) = some (.bool _); rw [allK_succ, ← Bool.and_assoc, hg, Bool.true_and]) (.cons rfl .nil))))) rfl
 refine ss rfl rfl rfl rfl <| sy (yd_pickF rfl rfl) rfl <| sa rfl rfl <| zE <| st_region <| sy (yd_add64 rfl rfl) rfl <| sm rfl rfl <| zE <| ?_
 exact st_again (i + 1) hi' (by omega) (.cons (by show some (Value.int _ _) = some (.int _ _); congr 2) (.cons rfl (.cons rfl (.cons (by show some (Value.bool false) = some (.bool _); rw [allK_succ, ← Bool.and_assoc, hg, Bool.false_and]) (.cons rfl .nil))))) rfl
theorem RR.bm {ns : List RN} {rt : Int} {s s' : RS} {t : Tr} (h : RR ns rt s t s') : s.b = true → s'.b = true := by
 induction h with
 | leaf => exact id
 | bad => exact fun _ => rfl
 | line => exact fun _ => rfl
 | node k n l s s2 s3 x y h hf hl h1 h2 i1 i2 => exact fun e => i2 (i1 e)
theorem RR.rf {ns : List RN} {rt : Int} {s s' : RS} {t : Tr} (h : RR ns rt s t s') : s.b = false → ∃ p ok f', RF ns rt s.f p ok f' ∧ (ok = true ↔ s'.b = false) ∧ (ok = true → f' = s'.f ∧ p = eT t) := by
 induction h with
 | leaf b s => exact fun e => ⟨_, true, _, .leaf b s.f, ⟨fun _ => e, fun _ => rfl⟩, fun _ => ⟨rfl, rfl⟩⟩
 | bad rt s h1 h2 h => exact fun e => ⟨_, false, _, .bad rt s.f h1 h2 h, ⟨fun e => (by cases e), fun e => (by cases e)⟩, fun e => (by cases e)⟩
 | line k n s h hf hl => exact fun e => ⟨_, false, _, .line k n s.f h hf hl, ⟨fun e => (by cases e), fun e => (by cases e)⟩, fun e => (by cases e)⟩
 | node k n l s s2 s3 x y h hf hl h1 h2 i1 i2 =>
   intro e
   obtain ⟨p, ok, f2, g1, g2, g3⟩ := i1 e
   cases ok with
   | false =>
     have hb : s2.b = true := by
       cases hh : s2.b with
       | true => rfl
       | false => exact absurd (g2.2 hh) (by decide)
     have hb3 := h2.bm hb
     exact ⟨_, false, _, .left k n l s.f f2 p h hf hl g1, ⟨fun e => (by cases e), fun e => (by rw [hb3] at e; cases e)⟩, fun e => (by cases e)⟩
   | true =>
     obtain ⟨rfl, rfl⟩ := g3 rfl
     obtain ⟨q, ok2, f3, k1, k2, k3⟩ := i2 (g2.1 rfl)
     exact ⟨_, ok2, f3, .node k n l s.f s2.f f3 _ q ok2 h hf hl g1 k1, k2, fun e => ⟨(k3 e).1, by rw [(k3 e).2]; rfl⟩⟩
theorem unseen_zero {n : Nat} {f : Nat → Bool} : unseen n f = 0 ↔ allK n f = true := by
 unfold unseen allK
 rw [List.length_eq_zero_iff, List.filter_eq_nil_iff, List.all_eq_true]
 simp
theorem q_ReadQ {ns : List RN} {rt : Int} (hs : ∀ n ∈ ns, n.g.sm) (hn : ns.length ≤ 65536) : ∃ p, (∀ GB, PF GB Tryz.prog 33 [eRT rt ns] (.tp [p, vB (ofQ ns rt).isSome])) ∧ ∀ t, ofQ ns rt = some t → p = eT t := by
 have h := rdF_ok (ns := ns) (m := ns.length + 1) (rt := rt) (s := rs0) (by have := unseen_le ns.length rs0.f; omega)
 obtain ⟨p, ok, f, h1, h2, h3⟩ := h.1.rf rfl
 have hq := fun GB => q_Read (GB := GB) hs hn h1
 have hu : unseen ns.length rs0.f = ns.length := by
   unfold unseen
   have e : ((List.range ns.length).filter fun j => !rs0.f j) = List.range ns.length := List.filter_eq_self.2 fun _ _ => rfl
   rw [e, List.length_range]
 have hc := h.2
 have h0 : rs0.c = 0 := rfl
 rw [hu, h0, Nat.zero_add] at hc
 unfold ofQ
 simp only
 cases ok with
 | false =>
   have hb : (rdF ns (ns.length + 1) rt rs0).2.b = true := by
     cases hh : (rdF ns (ns.length + 1) rt rs0).2.b with
     | true => rfl
     | false => exact absurd (h2.2 hh) (by decide)
   rw [if_neg (fun e => by rw [hb] at e; cases e.1)]
   exact ⟨p, fun GB => hq GB, fun t e => by cases e⟩
 | true =>
   obtain ⟨rfl, rfl⟩ := h3 rfl
   have hb := h2.1 rfl
   by_cases hk : allK ns.length (rdF ns (ns.length + 1) rt rs0).2.f = true
   · have := unseen_zero.2 hk
     rw [if_pos ⟨hb, by omega⟩]
     refine ⟨_, fun GB => ?_, fun t e => by cases e; rfl⟩
     have := hq GB; rw [hk] at this; exact this
   · have hk' : allK ns.length (rdF ns (ns.length + 1) rt rs0).2.f = false := by simpa using hk
     have := fun e => hk (unseen_zero.1 e)
     rw [if_neg (fun e => this (by omega))]
     refine ⟨eT (rdF ns (ns.length + 1) rt rs0).1, fun GB => ?_, fun t e => (by cases e)⟩
     have := hq GB; rw [hk'] at this; exact this
end Go.Sx
end

section
set_option maxRecDepth 100000
namespace Go.Sx
open Go Go.Proofs
theorem cU_node {G : Gh} {l : LnQ} {x y : Tr} {m : List Value} (h : IsLs G (cU (.node l x y)) m) : ∃ n1 d1 p1 n2 d2 p2 n3 d3 p3 q r, m = [.int .i64 n1, .int .i64 d1, .pointer p1, .int .i64 n2, .int .i64 d2, .pointer p2, .int .i64 n3, .int .i64 d3, .pointer p3, .pointer q, .pointer r, .bool false] ∧
  Is G (eLn l) (.agg ⟨[.int .i64 n1, .int .i64 d1, .pointer p1, .int .i64 n2, .int .i64 d2, .pointer p2, .int .i64 n3, .int .i64 d3, .pointer p3]⟩) ∧ Is G (eU x) (.pointer q) ∧ Is G (eU y) (.pointer r) := by
 obtain ⟨v1, m, rfl, h1, h⟩ := isl_cons.1 h
 obtain ⟨v2, m, rfl, h2, h⟩ := isl_cons.1 h
 obtain ⟨v3, m, rfl, h3, h⟩ := isl_cons.1 h
 obtain ⟨v4, m, rfl, h4, h⟩ := isl_cons.1 h
 obtain ⟨v5, m, rfl, h5, h⟩ := isl_cons.1 h
 obtain ⟨v6, m, rfl, h6, h⟩ := isl_cons.1 h
 obtain ⟨v7, m, rfl, h7, h⟩ := isl_cons.1 h
 obtain ⟨v8, m, rfl, h8, h⟩ := isl_cons.1 h
 obtain ⟨v9, m, rfl, h9, h⟩ := isl_cons.1 h
 obtain ⟨va, m, rfl, ha, h⟩ := isl_cons.1 h
 obtain ⟨vb, m, rfl, hb, h⟩ := isl_cons.1 h
 obtain ⟨vc, m, rfl, hc, h⟩ := isl_cons.1 h
 rw [isl_nil] at h; subst h
 obtain ⟨_, rfl⟩ := fp_ptr h3
 obtain ⟨_, rfl⟩ := fp_ptr h6
 obtain ⟨_, rfl⟩ := fp_ptr h9
 obtain ⟨_, rfl⟩ := eU_ptr ha
 obtain ⟨_, rfl⟩ := eU_ptr hb
 cases is_v.1 h1; cases is_v.1 h2; cases is_v.1 h4; cases is_v.1 h5; cases is_v.1 h7; cases is_v.1 h8; cases is_v.1 hc
 exact ⟨_, _, _, _, _, _, _, _, _, _, _, rfl, is_ag.2 ⟨_, rfl, .cons h1 (.cons h2 (.cons h3 (.cons h4 (.cons h5 (.cons h6 (.cons h7 (.cons h8 (.cons h9 .nil))))))))⟩, ha, hb⟩
theorem cU_leaf {G : Gh} {b : Bool} {m : List Value} (h : IsLs G (cU (.leaf b)) m) : m = [.int .i64 0, .int .i64 0, .pointer none, .int .i64 0, .int .i64 0, .pointer none, .int .i64 0, .int .i64 0, .pointer none, .pointer none, .pointer none, .bool b] := by
 obtain ⟨v1, m, rfl, h1, h⟩ := isl_cons.1 h
 obtain ⟨v2, m, rfl, h2, h⟩ := isl_cons.1 h
 obtain ⟨v3, m, rfl, h3, h⟩ := isl_cons.1 h
 obtain ⟨v4, m, rfl, h4, h⟩ := isl_cons.1 h
 obtain ⟨v5, m, rfl, h5, h⟩ := isl_cons.1 h
 obtain ⟨v6, m, rfl, h6, h⟩ := isl_cons.1 h
 obtain ⟨v7, m, rfl, h7, h⟩ := isl_cons.1 h
 obtain ⟨v8, m, rfl, h8, h⟩ := isl_cons.1 h
 obtain ⟨v9, m, rfl, h9, h⟩ := isl_cons.1 h
 obtain ⟨va, m, rfl, ha, h⟩ := isl_cons.1 h
 obtain ⟨vb, m, rfl, hb, h⟩ := isl_cons.1 h
 obtain ⟨vc, m, rfl, hc, h⟩ := isl_cons.1 h
 rw [isl_nil] at h; subst h
 cases is_v.1 h1; cases is_v.1 h2; cases is_v.1 h3; cases is_v.1 h4; cases is_v.1 h5; cases is_v.1 h6; cases is_v.1 h7; cases is_v.1 h8; cases is_v.1 h9; cases is_v.1 ha; cases is_v.1 hb; cases is_v.1 hc
 rfl
set_option maxHeartbeats 2000000 in
theorem w_write : ∀ {t : Tr} {A A2 G : Gh} {p : Option Addr} {ob wb : Nat} {lo lo2 : Bool} {x : SV} {zs : List ND} {ns : List NQ} {B : List Own}, Is A (eU t) (.pointer p) → t.all LB → [GL A G] → [GL A2 G] → Buf 8 60 x (zs.map ND.val) B → All2 (IsND 96 A2) zs ns → zs.length + t.size ≤ 1000000 →
   FnO Tryz.prog 107 [.pointer p, .pointer (some ⟨ob, 0, none⟩), .pointer (some ⟨wb, 0, none⟩)] (⟨ob, [.int .i64 0, .slice x.a x.n x.c], 36, lo⟩ :: ⟨wb, [apiClo ob wb], 186, lo2⟩ :: B) G
     (fun v own' G' => ∃ x' zs' B', v = .int .i64 (t.num zs.length) ∧ own' = ⟨ob, [.int .i64 0, .slice x'.a x'.n x'.c], 36, false⟩ :: ⟨wb, [apiClo ob wb], 186, false⟩ :: B' ∧ Buf 8 60 x' (zs'.map ND.val) B' ∧ All2 (IsND 96 G') zs' (ns ++ t.wr zs.length))
 | .leaf bb, A, A2, G, p, ob, wb, lo, lo2, x, zs, ns, B, h, _, _, _, hB, hz, hle => by
   obtain ⟨n, m, e, hg, hm⟩ := is_pt.1 (id h)
   cases e
   cases cU_leaf hm
   have hG : GHas A n _ := ⟨hg⟩
   have hz' : All2 (IsND 96 G) zs (ns ++ []) := by rw [List.append_nil]; exact hz.imp fun _ _ h => h.up
   refine FnO.intro Tryz.func107 rfl rfl Tryz.ntmps107 rfl ?_
   intro C _ _
   show St C _ _ (⟨ob, [.int .i64 0, .slice x.a x.n x.c], 36, false⟩ :: ⟨wb, [apiClo ob wb], 186, false⟩ :: asB B) _ _
   refine sR <| sa rfl rfl <| zE <| st_seq <| sR <| sm rfl rfl <| ?_
   refine sc (zC rfl rfl (PF.fn0 p_IsLeafL (.cons (h.up GL.le) .nil)) rfl ?_)
   rintro _ G1 _ hv
   cases is_v.1 hv
   refine zE <| st_condT rfl <| ?_
   refine st_seq <| sR <| sm rfl rfl <| sn rfl rfl <| sf rfl rfl <| slg1 rfl rfl rfl <| zE <| ?_
   cases bb
   case true =>
     refine st_condT rfl <| sR <| sa rfl rfl <| zE <| st_ret <| ?_
     exact st_doneO (.tmp rfl .nil) _ _ (List.Perm.refl _) (List.Sublist.refl _) ⟨x, zs, _, rfl, rfl, hB.asB, hz'.imp fun _ _ h => h.up⟩
   refine st_condF rfl <| zK <| sR <| sa rfl rfl <| zE <| st_ret <| ?_
   exact st_doneO (.tmp rfl .nil) _ _ (List.Perm.refl _) (List.Sublist.refl _) ⟨x, zs, _, rfl, rfl, hB.asB, hz'.imp fun _ _ h => h.up⟩
 | .node l s u, A, A2, G, p, ob, wb, lo, lo2, x, zs, ns, B, h, hall, _, _, hB, hz, hle => by
   obtain ⟨hlb, hall1, hall2⟩ := id hall
   haveI : LB l := hlb
   obtain ⟨n, m, e, hg, hm⟩ := is_pt.1 (id h)
   cases e
   obtain ⟨n1, d1, p1, n2, d2, p2, n3, d3, p3, q, r, rfl, hzl, hs, hu⟩ := cU_node hm
   have hG : GHas A n _ := ⟨hg⟩
   have hxn := hB.len
   have hzn := hz.len
   simp only [Tr.size] at hle
   obtain ⟨xa, xn, xc⟩ := x
   rw [List.length_map] at hxn
   simp only [] at hxn
   subst hxn
   refine FnO.intro Tryz.func107 rfl rfl Tryz.ntmps107 rfl ?_
   intro C _ _
   show St C _ _ (⟨ob, [.int .i64 0, .slice xa zs.length xc], 36, false⟩ :: ⟨wb, [apiClo ob wb], 186, false⟩ :: asB B) _ _
   replace hB := hB.asB
   generalize asB B = B at hB
   refine sR <| sa rfl rfl <| zE <| st_seq <| sR <| sm rfl rfl <| ?_
   refine sc (zC rfl rfl (PF.fn0 p_IsLeafN (.cons (h.up GL.le) .nil)) rfl ?_)
   rintro _ G1 _ hv
   cases is_v.1 hv
   refine zE <| st_condF rfl <| ?_
   refine zK <| sR <| sf rfl rfl <| slo1 rfl rfl rfl <| slen rfl rfl <| sa rfl rfl <| zE <| st_seq <| ?_
   refine drS [⟨ob, [.int .i64 0, .slice xa zs.length xc], 36, false⟩] (fun i => Nat.beq i 11) [(0, true), (1, true), (2, true), (3, true), (4, true), (5, true), (6, false), (7, true), (8, false), (9, false), (10, true), (11, false)] follows (by kernel_rfl) <| ?_
   refine dF rfl rfl rfl <| dL1 rfl rfl rfl rfl <| dM rfl rfl rfl <| dy rfl (fun _ => yd_nilCheck rfl) rfl rfl <| ?_
   refine dF rfl rfl rfl <| dy rfl (fun _ => yd_load_gh rfl ghi rfl) rfl rfl <| ?_
   refine dc rfl rfl (zC rfl rfl (PF.fn0 (p_LAPI (l := l)) (.cons (hzl.up GL.le) .nil)) rfl ?_)
   rintro _ G2 _ hv
   obtain ⟨ia, ib, ic, rfl, hia, hib, hic⟩ := isL_of hlb.bl hv
   refine dr_s <| dy rfl (fun _ => yd_build rfl) rfl rfl <| ?_
   refine dc rfl rfl (ch_slice1 rfl (by rfl) (by rfl) (by decide) (by decide) rfl ?_)
   intro b3
   refine dr_s <| ?_
   refine dc rfl rfl (ch_append_buf (v := ND.val ⟨ia, ib, ic, 0, 0⟩) (vs := zs.map ND.val) [_, _, _] rfl hB rfl rfl (src_own inferInstance rfl) rfl (ND.flat [⟨ia, ib, ic, 0, 0⟩] _ List.mem_cons_self) (by decide) (by rw [List.length_map]; omega) rfl rfl ?_)
   intro x1 B1 hB1
   rw [show zs.map ND.val ++ [ND.val ⟨ia, ib, ic, 0, 0⟩] = (zs ++ [(⟨ia, ib, ic, 0, 0⟩ : ND)]).map ND.val by simp] at hB1
   show St C _ _ (⟨b3, _, _, true⟩ :: ⟨ob, [.int .i64 0, .slice xa zs.length xc], 36, false⟩ :: ⟨wb, [apiClo ob wb], 186, false⟩ :: B1) _ _
   refine dr_s <| dF rfl rfl rfl <| ?_
   refine dc rfl rfl (ch_storeN1 (cs' := [.int .i64 0, .slice x1.a x1.n x1.c]) rfl rfl rfl (.tl _ _ _ _ _ _ _ _ (.hd ..)) (nb rfl) rfl rfl ?_)
   refine dr_f rfl <| dn <| ?_
   refine st_drop _ (List.sublist_cons_self _ _) ?_
   have hz1 : All2 (IsND 96 G2) (zs ++ [(⟨ia, ib, ic, 0, 0⟩ : ND)]) (ns ++ [⟨l, 0, 0⟩]) := (hz.imp fun _ _ h => h.up).app (.cons ⟨hia, hib, hic, rfl, rfl⟩ .nil)
   refine st_seq <| drS [⟨wb, [apiClo ob wb], 186, false⟩] (fun _ => false) [(0, true), (1, true), (2, true), (3, true), (4, true), (5, false), (6, true)] follows (by kernel_rfl) <| ?_
   refine dL1 rfl rfl rfl rfl <| dM rfl rfl rfl <| dy rfl (fun _ => yd_nilCheck rfl) rfl rfl <| dF rfl rfl rfl <| dy rfl (fun _ => yd_load_gh1 rfl ghi rfl) rfl rfl <| ?_
   refine dc rfl rfl (ch_callcO' (c1 := []) (M := _ :: _ :: B1) (rest := []) rfl rfl (by rw [List.append_nil]) (w_write (lo := false) (lo2 := false) hs hall1 hB1 hz1 (by simp; omega)) rfl ?_)
   rintro _ _ G3 fl _ hf _ ⟨x2, zs2, B2, rfl, rfl, hB2, hz2⟩
   have e1 : fl ob = false := hf _ List.mem_cons_self rfl
   have e2 : fl wb = false := hf _ (List.mem_cons_of_mem _ List.mem_cons_self) rfl
   replace hB2 := hB2.relo fl
   refine st_ownE (own' := ⟨ob, [.int .i64 0, .slice x2.a x2.n x2.c], 36, false⟩ :: ⟨wb, [apiClo ob wb], 186, false⟩ :: B2.map (relo fl)) (by simp only [List.map_cons, relo, e1, e2, List.append_nil]) ?_
   generalize B2.map (relo fl) = B2 at hB2
   have hl2 := hz2.len
   simp only [List.length_append, Tr.wr_len, List.length_singleton] at hl2
   refine dr_s <| dA rfl rfl rfl <| dn <| st_seq <| drS [⟨wb, [apiClo ob wb], 186, false⟩] (fun _ => false) [(0, true), (1, true), (2, true), (3, true), (4, true), (5, false), (6, true)] follows (by kernel_rfl) <| ?_
   refine dL1 rfl rfl rfl rfl <| dM rfl rfl rfl <| dy rfl (fun _ => yd_nilCheck rfl) rfl rfl <| dF rfl rfl rfl <| dy rfl (fun _ => yd_load_gh1 rfl ghi rfl) rfl rfl <| ?_
   refine dc rfl rfl (ch_callcO' (c1 := []) (M := _ :: _ :: B2) (rest := []) rfl rfl (by rw [List.append_nil]) (w_write (lo := false) (lo2 := false) hu hall2 hB2 hz2 (by omega)) rfl ?_)
   rintro _ _ G4 fl _ hf _ ⟨x3, zs3, B3, rfl, rfl, hB3, hz3⟩
   have e3 : fl ob = false := hf _ List.mem_cons_self rfl
   have e4 : fl wb = false := hf _ (List.mem_cons_of_mem _ List.mem_cons_self) rfl
   replace hB3 := hB3.relo fl
   refine st_ownE (own' := ⟨ob, [.int .i64 0, .slice x3.a x3.n x3.c], 36, false⟩ :: ⟨wb, [apiClo ob wb], 186, false⟩ :: B3.map (relo fl)) (by simp only [List.map_cons, relo, e3, e4, List.append_nil]) ?_
   generalize B3.map (relo fl) = B3 at hB3
   have hl3 := hz3.len
   simp only [List.length_append, Tr.wr_len, List.length_singleton] at hl3
   have hn3 : zs.length < zs3.length := by omega
   rcases hB3 with ⟨h1, _, _⟩ | ⟨nb, rest, lo3, hx3, rfl, hf1, hf2, hf3⟩
   · have := congrArg List.length h1; rw [List.length_map, List.length_nil] at this; omega
   obtain ⟨x3a, x3n, x3c⟩ := x3
   simp only [SV.mk.injEq] at hx3
   obtain ⟨rfl, rfl, _⟩ := hx3
   rw [List.length_map] at hf3
   have hzz : ns.length = zs.length := hzn.symm
   obtain ⟨zn, hzn1, hzn2⟩ := hz3.get (i := zs.length) (b := ⟨l, 0, 0⟩) (by rw [List.append_assoc, List.append_assoc, ← hzz, List.getElem?_append_right (Nat.le_refl _), Nat.sub_self]; rfl)
   obtain ⟨_, hzn3⟩ := List.getElem?_eq_some_iff.1 hzn1
   have hL1 : (zs ++ [(⟨ia, ib, ic, 0, 0⟩ : ND)]).length = zs.length + 1 := by simp
   have hL2 : zs2.length = zs.length + 1 + s.size := by omega
   rw [hL1] at hz3
   rw [hL1, hL2]
   rw [hL2] at hz3
   refine dr_s <| dA rfl rfl rfl <| dn <| ?_
   refine st_seq <| drS [⟨ob, [.int .i64 0, .slice (some ⟨nb, 0, none⟩) (zs3.map ND.val).length x3c], 36, false⟩] (fun _ => false) [(0, true), (1, true), (2, true), (3, true), (4, true), (5, true), (6, true), (7, true), (8, true), (9, true), (10, false), (11, true), (12, true), (13, false)] follows (by kernel_rfl) <| ?_
   refine dF rfl rfl rfl <| dL1 rfl rfl rfl rfl <| dM rfl rfl rfl <| dF rfl rfl rfl <| ?_
   refine dL1 rfl rfl rfl rfl <| dM rfl rfl rfl <| dM rfl rfl rfl <| dM rfl rfl rfl <| dy rfl (fun _ => yd_ixO rfl rfl (by omega) (by rw [List.length_map]; omega)) rfl rfl <| ?_
   refine dF rfl rfl rfl <| ?_
   refine dc rfl rfl (ch_store1 rfl rfl (.tl _ _ _ _ _ _ _ _ (.tl _ _ _ _ _ _ _ _ (.hd ..))) (by rw [List.length_append, hf1, List.length_map, Int.toNat_natCast]; omega) rfl rfl ?_)
   rw [Int.toNat_natCast, nodes_set zs3 rest zs.length 6 _ { zn with l := s.num (zs.length + 1) } hn3 (by decide) (by rw [hzn3]; rfl)]
   refine dr_s <| dy rfl (fun _ => yd_ixO rfl rfl (by omega) (by rw [List.length_map]; omega)) rfl rfl <| dF rfl rfl rfl <| ?_
   refine dc rfl rfl (ch_store1 rfl rfl (.tl _ _ _ _ _ _ _ _ (.tl _ _ _ _ _ _ _ _ (.hd ..))) (by rw [List.length_append, flatL_len (s := 8) _ (ND.len8 _), List.length_map, List.length_set, Int.toNat_natCast]; omega) rfl rfl ?_)
   rw [Int.toNat_natCast, nodes_set (zs3.set zs.length _) rest zs.length 7 _ { zn with l := s.num (zs.length + 1), r := u.num (zs.length + 1 + s.size) } (by rw [List.length_set]; exact hn3) (by decide) (by rw [List.getElem_set_self]; rfl)]
   refine dr_s <| dn <| sR <| sm rfl rfl <| sa rfl rfl <| zE <| st_ret <| ?_
   have hfin := hz3.set (a := { zn with l := s.num (zs.length + 1), r := u.num (zs.length + 1 + s.size) }) (b := ⟨l, s.num (zs.length + 1), u.num (zs.length + 1 + s.size)⟩) ⟨hzn2.a, hzn2.b, hzn2.c, rfl, rfl⟩ zs.length
   have hns : (ns ++ [(⟨l, 0, 0⟩ : NQ)] ++ s.wr (zs.length + 1) ++ u.wr (zs.length + 1 + s.size)).set zs.length ⟨l, s.num (zs.length + 1), u.num (zs.length + 1 + s.size)⟩ = ns ++ (Tr.node l s u).wr zs.length := by
     rw [List.append_assoc, List.append_assoc, List.set_append_right _ _ (by omega), hzz, Nat.sub_self]
     simp [Tr.wr]
   rw [hns] at hfin
   refine st_doneO (.tmp rfl .nil) _ _ (List.Perm.refl _) (List.Sublist.refl _) ⟨⟨some ⟨nb, 0, none⟩, (zs3.map ND.val).length, x3c⟩, _, _, rfl, rfl, ?_, hfin⟩
   refine .inr ⟨nb, rest, lo3, by simp, by rw [List.set_set], ?_, ?_, ?_⟩
   · rw [flatL_len (s := 8) _ (ND.len8 _)]
   · rw [flatL_len (s := 8) _ (ND.len8 _), List.length_map, List.length_set]; rw [hf1, List.length_map] at hf2; exact hf2
   · rw [List.length_map, List.length_set]; exact hf3
theorem p_API {GB : Gh} {t : Tr} (hb : t.all LB) (hs : t.size ≤ 1000000) : PF GB Tryz.prog 49 [eU t] (eA t) := by
 intro G vs _ hv
 obtain ⟨v0, m, rfl, h, hm⟩ := isl_cons.1 hv
 rw [isl_nil] at hm; subst hm
 obtain ⟨p, rfl⟩ := eU_ptr h
 refine Fn.intro Tryz.func49 rfl rfl Tryz.ntmps49 rfl ?_
 intro C _ hC
 refine sR <| ?_
 refine sc (ch_alloc rfl ?_)
 intro b1
 refine zE <| sR <| ?_
 refine sc (ch_alloc rfl ?_)
 intro b2
 refine zE <| sR <| ?_
 refine sc (ch_alloc rfl ?_)
 intro b3
 refine zE <| sR <| sy (yd_makeFunc rfl rfl) rfl <| ?_
 refine sc (ch_storeN1 (cs' := [apiClo b2 b3]) rfl rfl rfl (.hd ..) (nb rfl) rfl rfl ?_)
 refine zE <| sR <| slo1 rfl rfl rfl <| sm rfl rfl <| ?_
 refine sc (ch_callcO' (c1 := []) (M := [⟨b2, [.int .i64 0, .slice none 0 0], 36, true⟩, ⟨b3, [apiClo b2 b3], 186, true⟩]) (rest := [⟨b1, [.int .i64 0, .slice none 0 0], 36, true⟩]) rfl rfl (List.Perm.swap ..) (w_write (A := G) (A2 := G) (x := ⟨none, 0, 0⟩) (zs := []) (ns := []) (B := []) h hb (Buf.nil ..) .nil (by simpa using hs)) rfl ?_)
 rintro _ _ G4 fl _ _ hf ⟨x, zs, B, rfl, rfl, hB, hz⟩
 have e1 := hf (by simp) b2
 have e2 := hf (by simp) b3
 replace hB := hB.relo fl
 refine st_ownE (own' := ⟨b2, [.int .i64 0, .slice x.a x.n x.c], 36, true⟩ :: ⟨b3, [apiClo b2 b3], 186, true⟩ :: (B.map (relo fl) ++ [⟨b1, [.int .i64 0, .slice none 0 0], 36, true⟩])) (by simp only [List.map_cons, relo, e1, e2, List.cons_append]) ?_
 generalize B.map (relo fl) = B at hB
 refine st_perm (⟨b2, [.int .i64 0, .slice x.a x.n x.c], 36, true⟩ :: ⟨b3, [apiClo b2 b3], 186, true⟩ :: ⟨b1, [.int .i64 0, .slice none 0 0], 36, true⟩ :: B) ((List.perm_append_comm (l₁ := B) (l₂ := [_])).cons _ |>.cons _) ?_
 refine sf rfl rfl <| ?_
 refine sc (ch_storeN1 (cs' := [.int .i64 (t.num 0), .slice x.a x.n x.c]) rfl rfl rfl (.hd ..) (nb rfl) rfl rfl ?_)
 refine zE <| sR <| slo rfl rfl rfl <| ?_
 refine sc (ch_storeN (cs' := [.int .i64 (t.num 0), .slice x.a x.n x.c]) rfl rfl rfl (.tl _ _ _ _ _ _ _ _ (.tl _ _ _ _ _ _ _ _ (.hd ..))) rfl (nb rfl) rfl rfl ?_)
 refine zE <| ?_
 refine st_bufFreeze (L := [_, _, _]) hC hB (ND.len8 _) ?_
 intro G5 _ hsl
 show St C _ _ [⟨b2, _, _, true⟩, ⟨b3, _, _, true⟩, ⟨b1, [.int .i64 (t.num 0), .slice x.a x.n x.c], 36, true⟩] _ _
 refine st_ret <| ?_
 exact zD (.agg rfl ii ii rfl .nil) (isA_to (k := 96) ⟨zs, hsl, by rw [List.nil_append] at hz; exact hz.imp fun _ _ h => h.up⟩)
end Go.Sx
end
