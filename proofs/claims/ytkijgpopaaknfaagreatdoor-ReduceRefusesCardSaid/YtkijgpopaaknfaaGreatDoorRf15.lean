/-
  Package bsp: Of, for any list of nodes. Package bsp: trees written for package api (over deep values). Package bsp: Each with any visitor; Size. Reading a tree as a function; what is read is sound. errors.Is, for what the laws hand it: an error and itself, no error. (After the worked contracts of the kit's example Sentry.) The abstract machine: what a named variable holds. Operations on regions. Trees of package api read back. Reference: numbers and lines written for package api. Reference: lines as they come.
-/
import Derived.Test.YtkijgpopaaknfaaGreatDoorRf14
import Derived.WalkKit
import Derived.LaidEql
import Derived.Stop.Asserts
import Derived.RowKitTokens
set_option linter.unusedSimpArgs false
set_option linter.unusedVariables false
section
set_option maxRecDepth 100000
namespace Go.Sx
open Go Go.Proofs
def seenF (n : Nat) (f : Nat → Bool) : List Value := (List.range n).map fun j => .bool (f j)
def setF (f : Nat → Bool) (i : Nat) : Nat → Bool := fun j => f j || Nat.beq j i
theorem seenF_len (n : Nat) (f : Nat → Bool) : (seenF n f).length = n := by simp [seenF]
theorem seenF_get {n i : Nat} {f : Nat → Bool} {b : Bool} (h : i < n) (hf : f i = b) : (seenF n f)[i]? = some (.bool b) := by simp [seenF, h, hf]
theorem setF_ne {f : Nat → Bool} {i j : Nat} (e : j ≠ i) : setF f i j = f j := by
 unfold setF
 cases hb : Nat.beq j i with
 | false => rw [Bool.or_false]
 | true => exact absurd (Nat.eq_of_beq_eq_true hb) e
theorem setF_eq {f : Nat → Bool} {i : Nat} : setF f i i = true := by
 unfold setF; rw [Nat.beq_refl, Bool.or_true]
theorem seenF_set (n i : Nat) (f : Nat → Bool) : (seenF n f).set i (.bool true) = seenF n (setF f i) := by
 apply List.ext_getElem?
 intro j
 rw [List.getElem?_set]
 simp only [seenF, List.length_map, List.length_range, List.getElem?_map]
 by_cases hj : j < n
 · rw [List.getElem?_range hj]
   simp only [Option.map_some]
   by_cases e : i = j
   · subst e; simp [hj, setF_eq]
   · rw [setF_ne (fun h => e h.symm)]; simp [e]
 · rw [List.getElem?_eq_none (by simpa using hj)]
   by_cases e : i = j
   · subst e; simp [hj]
   · simp [e]
theorem zeros_seenF (n : Nat) : zeros (.bool false) n = seenF n (fun _ => false) := by
 apply List.ext_getElem?
 intro j
 by_cases hj : j < n
 · rw [seenF_get hj rfl]
   unfold zeros
   rw [flat_rep_get (cellsL (.bool false)) n j (by simpa [cellsL] using hj)]
   simp [cellsL, Nat.mod_one]
 · rw [List.getElem?_eq_none (by rw [zeros_len]; simp [cellsL]; omega), List.getElem?_eq_none (by rw [seenF_len]; omega)]
structure RN where
 g : RL
 l : Int
 r : Int
def RN.d (n : RN) : DV := .ag [.v (.bool n.g.na), dLi n.g.da, .v (.bool n.g.nb), dLi n.g.db, .v (.bool n.g.nc), dLi n.g.dc, .v (.int .i64 n.l), .v (.int .i64 n.r)]
structure RS where
 f : Nat → Bool
 c : Nat
 b : Bool
inductive RR (ns : List RN) : Int → RS → Tr → RS → Prop where
 | leaf (b : Bool) (s : RS) : RR ns (leafCode b) s (.leaf b) s
 | bad (rt : Int) (s : RS) (h1 : rt ≠ -1) (h2 : rt ≠ -2) (h : rt < 0 ∨ (ns.length : Int) ≤ rt ∨ (∃ k : Nat, rt = k ∧ k < ns.length ∧ s.f k = true)) : RR ns rt s (.leaf false) ⟨s.f, s.c, true⟩
 | line (k : Nat) (n : RN) (s : RS) (h : ns[k]? = some n) (hf : s.f k = false) (hl : n.g.ln = none) : RR ns (k : Int) s (.leaf false) ⟨setF s.f k, s.c + 1, true⟩
 | node (k : Nat) (n : RN) (l : LnQ) (s s2 s3 : RS) (x y : Tr) (h : ns[k]? = some n) (hf : s.f k = false) (hl : n.g.ln = some l) (h1 : RR ns n.l ⟨setF s.f k, s.c + 1, s.b⟩ x s2) (h2 : RR ns n.r s2 y s3) : RR ns (k : Int) s (.node l x y) s3
theorem RR.mono {ns : List RN} {rt : Int} {s s' : RS} {t : Tr} (h : RR ns rt s t s') : s.c ≤ s'.c := by
 induction h with
 | leaf => exact Nat.le_refl _
 | bad => exact Nat.le_refl _
 | line => exact Nat.le_succ _
 | node k n l s s2 s3 x y h hf hl h1 h2 i1 i2 => simp only at i1; omega
theorem fp_ptr {G : Gh} {q : Rat} {v : Value} (h : Is G (fp_ q) v) : ∃ p, v = .pointer p := by
 rcases is_op.1 h with ⟨_, h⟩ | ⟨_, h⟩
 · exact ⟨_, h⟩
 · obtain ⟨b, m, h, _⟩ := is_pt.1 h; exact ⟨_, h⟩
theorem eLn_of {G : Gh} {l : LnQ} {v : Value} (h : Is G (eLn l) v) : ∃ n1 d1 p1 n2 d2 p2 n3 d3 p3, v = .agg ⟨[.int .i64 n1, .int .i64 d1, .pointer p1, .int .i64 n2, .int .i64 d2, .pointer p2, .int .i64 n3, .int .i64 d3, .pointer p3]⟩ := by
 obtain ⟨m, rfl, g⟩ := is_ag.1 h
 clear h
 obtain ⟨v1, m, rfl, h1, h⟩ := isl_cons.1 g
 obtain ⟨v2, m, rfl, h2, h⟩ := isl_cons.1 h
 obtain ⟨v3, m, rfl, h3, h⟩ := isl_cons.1 h
 obtain ⟨v4, m, rfl, h4, h⟩ := isl_cons.1 h
 obtain ⟨v5, m, rfl, h5, h⟩ := isl_cons.1 h
 obtain ⟨v6, m, rfl, h6, h⟩ := isl_cons.1 h
 obtain ⟨v7, m, rfl, h7, h⟩ := isl_cons.1 h
 obtain ⟨v8, m, rfl, h8, h⟩ := isl_cons.1 h
 obtain ⟨v9, m, rfl, h9, h⟩ := isl_cons.1 h
 rw [isl_nil] at h; subst h
 obtain ⟨_, rfl⟩ := fp_ptr h3
 obtain ⟨_, rfl⟩ := fp_ptr h6
 obtain ⟨_, rfl⟩ := fp_ptr h9
 rw [is_v.1 h1, is_v.1 h2, is_v.1 h4, is_v.1 h5, is_v.1 h7, is_v.1 h8]
 exact ⟨_, _, _, _, _, _, _, _, _, rfl⟩
theorem lnR_of {G : Gh} {o : Option LnQ} {v : Value} (h : Is G (lnR o) v) : ∃ n1 d1 p1 n2 d2 p2 n3 d3 p3, v = .tuple #[.agg ⟨[.int .i64 n1, .int .i64 d1, .pointer p1, .int .i64 n2, .int .i64 d2, .pointer p2, .int .i64 n3, .int .i64 d3, .pointer p3]⟩, .bool o.isSome] ∧
   ∀ l, o = some l → Is G (eLn l) (.agg ⟨[.int .i64 n1, .int .i64 d1, .pointer p1, .int .i64 n2, .int .i64 d2, .pointer p2, .int .i64 n3, .int .i64 d3, .pointer p3]⟩) := by
 cases o with
 | some l =>
   obtain ⟨m, rfl, g⟩ := is_tp.1 h
   obtain ⟨v1, m, rfl, h1, h⟩ := isl_cons.1 g
   obtain ⟨v2, m, rfl, h2, h⟩ := isl_cons.1 h
   rw [isl_nil] at h; subst h
   obtain ⟨n1, d1, p1, n2, d2, p2, n3, d3, p3, rfl⟩ := eLn_of h1
   rw [is_v.1 h2]
   exact ⟨n1, d1, p1, n2, d2, p2, n3, d3, p3, rfl, fun k e => by cases e; exact h1⟩
 | none =>
   obtain ⟨m, rfl, g⟩ := is_tp.1 h
   obtain ⟨v1, m, rfl, h1, h⟩ := isl_cons.1 g
   obtain ⟨v2, m, rfl, h2, h⟩ := isl_cons.1 h
   rw [isl_nil] at h; subst h
   clear g h
   obtain ⟨m, rfl, g⟩ := is_ag.1 h1
   obtain ⟨w1, m, rfl, k1, h⟩ := isl_cons.1 g
   obtain ⟨w2, m, rfl, k2, h⟩ := isl_cons.1 h
   obtain ⟨w3, m, rfl, k3, h⟩ := isl_cons.1 h
   obtain ⟨w4, m, rfl, k4, h⟩ := isl_cons.1 h
   obtain ⟨w5, m, rfl, k5, h⟩ := isl_cons.1 h
   obtain ⟨w6, m, rfl, k6, h⟩ := isl_cons.1 h
   obtain ⟨w7, m, rfl, k7, h⟩ := isl_cons.1 h
   obtain ⟨w8, m, rfl, k8, h⟩ := isl_cons.1 h
   obtain ⟨w9, m, rfl, k9, h⟩ := isl_cons.1 h
   rw [isl_nil] at h; subst h
   rw [is_v.1 k1, is_v.1 k2, is_v.1 k3, is_v.1 k4, is_v.1 k5, is_v.1 k6, is_v.1 k7, is_v.1 k8, is_v.1 k9]
   rw [is_v.1 h2]
   exact ⟨_, _, _, _, _, _, _, _, _, rfl, fun k e => by cases e⟩
theorem RN_of {G : Gh} {n : RN} {v : Value} (h : Is G n.d v) : ∃ x1 x2 x3 : SV, v = .agg ⟨[.bool n.g.na, .slice x1.a x1.n x1.c, .bool n.g.nb, .slice x2.a x2.n x2.c, .bool n.g.nc, .slice x3.a x3.n x3.c, .int .i64 n.l, .int .i64 n.r]⟩ ∧
  Is G n.g.d (.agg ⟨[.bool n.g.na, .slice x1.a x1.n x1.c, .bool n.g.nb, .slice x2.a x2.n x2.c, .bool n.g.nc, .slice x3.a x3.n x3.c]⟩) := by
 obtain ⟨m, rfl, g⟩ := is_ag.1 h
 clear h
 obtain ⟨v1, m, rfl, h1, h⟩ := isl_cons.1 g
 obtain ⟨v2, m, rfl, h2, h⟩ := isl_cons.1 h
 obtain ⟨v3, m, rfl, h3, h⟩ := isl_cons.1 h
 obtain ⟨v4, m, rfl, h4, h⟩ := isl_cons.1 h
 obtain ⟨v5, m, rfl, h5, h⟩ := isl_cons.1 h
 obtain ⟨v6, m, rfl, h6, h⟩ := isl_cons.1 h
 obtain ⟨v7, m, rfl, h7, h⟩ := isl_cons.1 h
 obtain ⟨v8, m, rfl, h8, h⟩ := isl_cons.1 h
 rw [isl_nil] at h; subst h
 obtain ⟨_, x1, _, rfl, _, _⟩ := is_sl.1 (id h2)
 obtain ⟨_, x2, _, rfl, _, _⟩ := is_sl.1 (id h4)
 obtain ⟨_, x3, _, rfl, _, _⟩ := is_sl.1 (id h6)
 cases is_v.1 h1; cases is_v.1 h3; cases is_v.1 h5; cases is_v.1 h7; cases is_v.1 h8
 exact ⟨x1, x2, x3, rfl, is_ag.2 ⟨_, rfl, .cons h1 (.cons h2 (.cons h3 (.cons h4 (.cons h5 (.cons h6 .nil)))))⟩⟩
theorem eU_ptr {G : Gh} {t : Tr} {v : Value} (h : Is G (eU t) v) : ∃ p, v = .pointer p := by
 obtain ⟨b, m, h, _⟩ := is_pt.1 h; exact ⟨_, h⟩
theorem PF.fn0 {P : Program} {f : FuncId} {ds : List DV} {r : DV} (h : ∀ {GB : Gh}, PF GB P f ds r) {G : Gh} {vs : List Value} (hv : IsLs G ds vs) : Fn P f vs G (fun v G' => Is G' r v) := h (GB := G) G vs (GLe.refl G) hv
abbrev NRow (x : SV) (ns : List RN) (A : Gh) : Prop := ∃ es, IsSl A 8 x es ∧ IsLs A (ns.map RN.d) es
set_option maxHeartbeats 2000000 in
theorem rd_part {A : Gh} {ns : List RN} {x : SV} (hx : NRow x ns A) (hs : ∀ n ∈ ns, n.g.sm) (hn : ns.length ≤ 1000000) {rt : Int} {s s' : RS} {t : Tr} (h : RR ns rt s t s') : ∀ {G : Gh} {rb sb : Nat} {lo lo2 : Bool}, [GL A G] → s'.c ≤ 1000000 →
   FnM Tryz.prog 117 [.pointer (some ⟨rb, 0, none⟩), .int .i64 rt] [⟨rb, [.slice x.a x.n x.c, .slice (some ⟨sb, 0, none⟩) ns.length ns.length, .int .i64 s.c, .bool s.b], 204, lo⟩, ⟨sb, seenF ns.length s.f, 4, lo2⟩] G
     (fun v css G' => ∃ p, v = .pointer p ∧ Is G' (eU t) (.pointer p) ∧ css = [[.slice x.a x.n x.c, .slice (some ⟨sb, 0, none⟩) ns.length ns.length, .int .i64 s'.c, .bool s'.b], seenF ns.length s'.f]) := by
 obtain ⟨es, hx, hes⟩ := hx
 have hel := hes.len
 rw [List.length_map] at hel
 have hlen := hx.len
 rw [hel] at hlen
 obtain ⟨xa, xn, xc⟩ := x
 simp only [] at hlen
 subst hlen
 induction h with
 | leaf bb s =>
   intro G rb sb lo lo2 _ hc
   refine FnM.intro Tryz.func117 rfl rfl Tryz.ntmps117 rfl ?_
   intro C _ _
   show St C _ _ [⟨rb, _, _, false⟩, ⟨sb, _, _, false⟩] _ _
   cases bb
   case true =>
     refine sR <| sa rfl rfl <| zE <| st_seq <| st_block <| sR <| sm rfl rfl <| sy (yd_eql rfl rfl) rfl <| sm rfl rfl <| ss rfl rfl rfl rfl <| ss rfl rfl rfl rfl <| ?_
     refine sy (yd_pickT rfl rfl) rfl <| sa rfl rfl <| zE <| st_condT rfl <| sR <| sm rfl rfl <| sy (yd_eql rfl rfl) rfl <| ?_
     refine sc (zC rfl rfl (PF.fn0 (p_Leaf (b := true)) (.cons (is_v.2 rfl) .nil)) rfl ?_)
     rintro _ G1 _ hp
     obtain ⟨p, rfl⟩ := eU_ptr hp
     refine sa rfl rfl <| zE <| st_ret <| ?_
     exact st_doneM (css := [_, _]) (.tmp rfl .nil) rfl _ (List.Perm.refl _) (List.Sublist.refl _) ⟨p, rfl, hp, rfl⟩
   refine sR <| sa rfl rfl <| zE <| st_seq <| st_block <| sR <| sm rfl rfl <| sy (yd_eql rfl rfl) rfl <| sm rfl rfl <| syg rfl rfl (yd_move rfl) rfl <| syg rfl rfl (yd_eql rfl rfl) rfl <| ?_
   refine sy (yd_pickF rfl rfl) rfl <| sa rfl rfl <| zE <| st_condT rfl <| sR <| sm rfl rfl <| sy (yd_eql rfl rfl) rfl <| ?_
   refine sc (zC rfl rfl (PF.fn0 (p_Leaf (b := false)) (.cons (is_v.2 rfl) .nil)) rfl ?_)
   rintro _ G1 _ hp
   obtain ⟨p, rfl⟩ := eU_ptr hp
   refine sa rfl rfl <| zE <| st_ret <| ?_
   exact st_doneM (css := [_, _]) (.tmp rfl .nil) rfl _ (List.Perm.refl _) (List.Sublist.refl _) ⟨p, rfl, hp, rfl⟩
 | bad rt s h1 h2 h =>
   intro G rb sb lo lo2 _ hc
   refine FnM.intro Tryz.func117 rfl rfl Tryz.ntmps117 rfl ?_
   intro C _ _
   show St C _ [(0, .pointer (some ⟨rb, 0, none⟩)), (1, .int .i64 rt)] [⟨rb, [.slice xa ns.length xc, .slice (some ⟨sb, 0, none⟩) ns.length ns.length, .int .i64 s.c, .bool s.b], _, false⟩, ⟨sb, seenF ns.length s.f, _, false⟩] _ _
   refine sR <| sa rfl rfl <| zE <| st_seq <| st_block <| sR <| sm rfl rfl <| sy (yd_eql rfl rfl) rfl <| sm rfl rfl <| ?_
   refine st_caseP 12 rfl (fun hg => absurd hg (by omega)) (fun hg => ?_)
   refine syg rfl rfl (yd_move rfl) rfl <| syg rfl rfl (yd_eql rfl rfl) rfl <| sy (yd_pickF rfl rfl) rfl <| sa rfl rfl <| zE <| ?_
   refine st_condP rfl (fun hc => absurd hc (by omega)) (fun _ => ?_)
   refine sR <| sm rfl rfl <| sy (yd_lss rfl rfl) rfl <| sm rfl rfl <| ?_
   refine st_caseP 22 rfl (fun hg => ?_) (fun hg => ?_)
   · refine ss rfl rfl rfl rfl <| ss rfl rfl rfl rfl <| ss rfl rfl rfl rfl <| ss rfl rfl rfl rfl <| ss rfl rfl rfl rfl <| ss rfl rfl rfl rfl <| ss rfl rfl rfl rfl <| sy (yd_pickT rfl rfl) rfl <| sm rfl rfl <| ss rfl rfl rfl rfl <| ss rfl rfl rfl rfl <| ?_
     refine ss rfl rfl rfl rfl <| ss rfl rfl rfl rfl <| ss rfl rfl rfl rfl <| ss rfl rfl rfl rfl <| ss rfl rfl rfl rfl <| sy (yd_pickT rfl rfl) rfl <| sa rfl rfl <| zE <| st_condT rfl <| st_seq <| ?_
     refine st_region <| sm rfl rfl <| sn rfl rfl <| sf rfl rfl <| ?_
     refine sc (ch_storeN1 rfl rfl rfl (.hd ..) (nb rfl) rfl rfl ?_)
     refine zE <| sR <| ?_
     refine sc (zC rfl rfl (PF.fn0 (p_Leaf (b := false)) (.cons (is_v.2 rfl) .nil)) rfl ?_)
     rintro _ G1 _ hp
     obtain ⟨p, rfl⟩ := eU_ptr hp
     refine sa rfl rfl <| zE <| st_ret <| ?_
     exact st_doneM (css := [_, _]) (.tmp rfl .nil) rfl _ (List.Perm.refl _) (List.Sublist.refl _) ⟨p, rfl, hp, rfl⟩
   refine syg rfl rfl (yd_move rfl) rfl <| syg rfl rfl (yd_move rfl) rfl <| syg rfl rfl (yd_nilCheck rfl) rfl <| syg rfl rfl (yd_fieldAddr rfl) rfl <| syg rfl rfl (yd_load_own1 rfl rfl) rfl <| syg rfl rfl (yd_len rfl) rfl <| syg rfl rfl (yd_geq rfl rfl) rfl <| sy (yd_pickF rfl rfl) rfl <| sm rfl rfl <| ?_
   refine st_caseP 31 rfl (fun hg => ?_) (fun hg => ?_)
   · refine ss rfl rfl rfl rfl <| ss rfl rfl rfl rfl <| ss rfl rfl rfl rfl <| ss rfl rfl rfl rfl <| ss rfl rfl rfl rfl <| ss rfl rfl rfl rfl <| ss rfl rfl rfl rfl <| ?_
     refine sy (yd_pickT rfl rfl) rfl <| sa rfl rfl <| zE <| st_condT rfl <| sR <| sm rfl rfl <| sn rfl rfl <| sf rfl rfl <| ?_
     refine sc (ch_storeN1 rfl rfl rfl (.hd ..) (nb rfl) rfl rfl ?_)
     refine zE <| sR <| ?_
     refine sc (zC rfl rfl (PF.fn0 (p_Leaf (b := false)) (.cons (is_v.2 rfl) .nil)) rfl ?_)
     rintro _ G1 _ hp
     obtain ⟨p, rfl⟩ := eU_ptr hp
     refine sa rfl rfl <| zE <| st_ret <| ?_
     exact st_doneM (css := [_, _]) (.tmp rfl .nil) rfl _ (List.Perm.refl _) (List.Sublist.refl _) ⟨p, rfl, hp, rfl⟩
   obtain ⟨k, rfl, hk, hf⟩ : ∃ k : Nat, rt = k ∧ k < ns.length ∧ s.f k = true := by
     rcases h with h | h | h
     · omega
     · exact absurd h hg
     · exact h
   refine syg rfl rfl (yd_move rfl) rfl <| syg rfl rfl (yd_nilCheck rfl) rfl <| syg rfl rfl (yd_fieldAddr rfl) rfl <| syg rfl rfl (yd_load_own1 rfl rfl) rfl <| syg rfl rfl (yd_move rfl) rfl <| syg rfl rfl (yd_ixO rfl rfl (by omega) (by omega)) rfl <| ?_
   refine syg rfl rfl (yd_load_own1 (v := .bool true) rfl (by rw [Int.toNat_natCast, Nat.mul_one]; exact seenF_get hk hf)) rfl <| sy (yd_pickF rfl rfl) rfl <| sa rfl rfl <| zE <| st_condT rfl <| ?_
   refine sR <| sm rfl rfl <| sn rfl rfl <| sf rfl rfl <| ?_
   refine sc (ch_storeN1 rfl rfl rfl (.hd ..) (nb rfl) rfl rfl ?_)
   refine zE <| sR <| ?_
   refine sc (zC rfl rfl (PF.fn0 (p_Leaf (b := false)) (.cons (is_v.2 rfl) .nil)) rfl ?_)
   rintro _ G1 _ hp
   obtain ⟨p, rfl⟩ := eU_ptr hp
   refine sa rfl rfl <| zE <| st_ret <| ?_
   exact st_doneM (css := [_, _]) (.tmp rfl .nil) rfl _ (List.Perm.refl _) (List.Sublist.refl _) ⟨p, rfl, hp, rfl⟩
 | line base n s h0 hfb hl =>
   intro G rb sb lo lo2 _ hc
   have hbn : base < ns.length := (List.getElem?_eq_some_iff.1 h0).1
   simp only at hc
   obtain ⟨z, hzi, hz⟩ := hes.get (i := base) (d := n.d) (by rw [List.getElem?_map, h0]; rfl)
   obtain ⟨x1, x2, x3, rfl, hzg⟩ := RN_of hz
   refine FnM.intro Tryz.func117 rfl rfl Tryz.ntmps117 rfl ?_
   intro C _ _
   show St C _ [(0, .pointer (some ⟨rb, 0, none⟩)), (1, .int .i64 (base : Int))] [⟨rb, [.slice xa ns.length xc, .slice (some ⟨sb, 0, none⟩) ns.length ns.length, .int .i64 s.c, .bool s.b], _, false⟩, ⟨sb, seenF ns.length s.f, _, false⟩] _ _
   refine sR <| sa rfl rfl <| zE <| st_seq <| st_block <| sR <| sm rfl rfl <| sy (yd_eql rfl rfl) rfl <| sm rfl rfl <| ?_
   refine st_caseP 12 rfl (fun hg => absurd hg (by omega)) (fun hg => ?_)
   refine syg rfl rfl (yd_move rfl) rfl <| syg rfl rfl (yd_eql rfl rfl) rfl <| sy (yd_pickF rfl rfl) rfl <| sa rfl rfl <| zE <| ?_
   refine st_condP rfl (fun hc => absurd hc (by omega)) (fun _ => ?_)
   refine sR <| sm rfl rfl <| sy (yd_lss rfl rfl) rfl <| sm rfl rfl <| ?_
   refine st_caseP 22 rfl (fun hg => absurd hg (by omega)) (fun hg => ?_)
   refine syg rfl rfl (yd_move rfl) rfl <| syg rfl rfl (yd_move rfl) rfl <| syg rfl rfl (yd_nilCheck rfl) rfl <| syg rfl rfl (yd_fieldAddr rfl) rfl <| syg rfl rfl (yd_load_own1 rfl rfl) rfl <| syg rfl rfl (yd_len rfl) rfl <| syg rfl rfl (yd_geq rfl rfl) rfl <| sy (yd_pickF rfl rfl) rfl <| sm rfl rfl <| ?_
   refine st_caseP 31 rfl (fun hg => absurd hg (by omega)) (fun hg => ?_)
   refine syg rfl rfl (yd_move rfl) rfl <| syg rfl rfl (yd_nilCheck rfl) rfl <| syg rfl rfl (yd_fieldAddr rfl) rfl <| syg rfl rfl (yd_load_own1 rfl rfl) rfl <| syg rfl rfl (yd_move rfl) rfl <| syg rfl rfl (yd_ixO rfl rfl (by omega) (by omega)) rfl <| ?_
   refine syg rfl rfl (yd_load_own1 (v := .bool false) rfl (by rw [Int.toNat_natCast, Nat.mul_one]; exact seenF_get hbn hfb)) rfl <| sy (yd_pickF rfl rfl) rfl <| sa rfl rfl <| zE <| st_condF rfl <| zK <| ?_
   refine sR <| sm rfl rfl <| sn rfl rfl <| sf rfl rfl <| slo1 rfl rfl rfl <| sm rfl rfl <| sy (yd_ixO rfl rfl (by omega) (by omega)) rfl <| ?_
   refine sc (ch_store1 rfl rfl (.tl _ _ _ _ _ _ _ _ (.hd ..)) (by rw [seenF_len, Int.toNat_natCast, Nat.mul_one]; exact hbn) rfl rfl ?_)
   rw [Int.toNat_natCast, Nat.mul_one, seenF_set]
   refine zE <| sR <| sm rfl rfl <| sn rfl rfl <| sf rfl rfl <| slo1 rfl rfl rfl <| sy (yd_add64 rfl rfl) rfl <| sn rfl rfl <| sf rfl rfl <| ?_
   refine sc (ch_storeN1 rfl rfl rfl (by repeat (first | exact .hd .. | apply OUpd.tl)) (nb rfl) rfl rfl ?_)
   rw [show (s.c : Int) + 1 = ((s.c + 1 : Nat) : Int) by omega]
   refine zE <| sR <| sm rfl rfl <| sn rfl rfl <| sf rfl rfl <| slo1 rfl rfl rfl <| sm rfl rfl <| sy (yd_ix (z := ⟨xa, ns.length, xc⟩) hx rfl rfl (by omega) (by show (base : Int) < (ns.length : Int); omega)) rfl <| ?_
   rw [Int.toNat_natCast]
   refine sy (yd_ldA (i := base) hx rfl (by rw [hel]; exact hbn) hzi) rfl <| ?_
   refine sc (ch_alloc rfl ?_)
   intro b5
   refine sc (ch_storeN rfl rfl rfl (by repeat (first | exact .hd .. | apply OUpd.tl)) rfl (nb rfl) rfl rfl ?_)
   refine zE <| sR <| sf rfl rfl <| slo rfl rfl rfl <| ?_
   refine sc (zC rfl rfl (PF.fn0 (p_LnOfR (hs n (List.mem_of_getElem? h0))) (.cons (hzg.up GL.le) .nil)) rfl ?_)
   rintro _ G6 _ hw
   rw [hl] at hw
   obtain ⟨n1, d1, p1, n2, d2, p2, n3, d3, p3, rfl, hw⟩ := lnR_of hw
   refine sm rfl rfl <| sx rfl rfl rfl <| sx rfl rfl rfl <| ?_
   refine sc (ch_alloc rfl ?_)
   intro b6
   refine sc (ch_storeN rfl rfl rfl (by repeat (first | exact .hd .. | apply OUpd.tl)) rfl (nb rfl) rfl rfl ?_)
   refine sa rfl rfl <| zE <| st_seq <| sR <| sm rfl rfl <| sy (yd_not rfl) rfl <| zE <| st_condT rfl <| ?_
   refine sR <| sm rfl rfl <| sn rfl rfl <| sf rfl rfl <| ?_
   refine sc (ch_storeN1 rfl rfl rfl (by repeat (first | exact .hd .. | apply OUpd.tl)) (nb rfl) rfl rfl ?_)
   refine zE <| sR <| ?_
   refine sc (zC rfl rfl (PF.fn0 (p_Leaf (b := false)) (.cons (is_v.2 rfl) .nil)) rfl ?_)
   rintro _ G7 _ hp
   obtain ⟨p, rfl⟩ := eU_ptr hp
   refine sa rfl rfl <| zE <| st_ret <| ?_
   exact st_doneM (css := [_, _]) (.tmp rfl .nil) rfl _ (List.perm_append_comm (l₁ := [_, _]) (l₂ := [_, _])) (.cons_cons _ (.cons_cons _ (List.nil_sublist _))) ⟨p, rfl, hp, rfl⟩
 | node base n l s s2 s3 tx ty h0 hfb hl h1 h2 ih1 ih2 =>
   intro G rb sb lo lo2 _ hc
   have hbn : base < ns.length := (List.getElem?_eq_some_iff.1 h0).1
   have hm1 := h1.mono
   have hm2 := h2.mono
   simp only at hm1
   obtain ⟨z, hzi, hz⟩ := hes.get (i := base) (d := n.d) (by rw [List.getElem?_map, h0]; rfl)
   obtain ⟨x1, x2, x3, rfl, hzg⟩ := RN_of hz
   refine FnM.intro Tryz.func117 rfl rfl Tryz.ntmps117 rfl ?_
   intro C _ _
   show St C _ [(0, .pointer (some ⟨rb, 0, none⟩)), (1, .int .i64 (base : Int))] [⟨rb, [.slice xa ns.length xc, .slice (some ⟨sb, 0, none⟩) ns.length ns.length, .int .i64 s.c, .bool s.b], _, false⟩, ⟨sb, seenF ns.length s.f, _, false⟩] _ _
   refine sR <| sa rfl rfl <| zE <| st_seq <| st_block <| sR <| sm rfl rfl <| sy (yd_eql rfl rfl) rfl <| sm rfl rfl <| ?_
   refine st_caseP 12 rfl (fun hg => absurd hg (by omega)) (fun hg => ?_)
   refine syg rfl rfl (yd_move rfl) rfl <| syg rfl rfl (yd_eql rfl rfl) rfl <| sy (yd_pickF rfl rfl) rfl <| sa rfl rfl <| zE <| ?_
   refine st_condP rfl (fun hc => absurd hc (by omega)) (fun _ => ?_)
   refine sR <| sm rfl rfl <| sy (yd_lss rfl rfl) rfl <| sm rfl rfl <| ?_
   refine st_caseP 22 rfl (fun hg => absurd hg (by omega)) (fun hg => ?_)
   refine syg rfl rfl (yd_move rfl) rfl <| syg rfl rfl (yd_move rfl) rfl <| syg rfl rfl (yd_nilCheck rfl) rfl <| syg rfl rfl (yd_fieldAddr rfl) rfl <| syg rfl rfl (yd_load_own1 rfl rfl) rfl <| syg rfl rfl (yd_len rfl) rfl <| syg rfl rfl (yd_geq rfl rfl) rfl <| sy (yd_pickF rfl rfl) rfl <| sm rfl rfl <| ?_
   refine st_caseP 31 rfl (fun hg => absurd hg (by omega)) (fun hg => ?_)
   refine syg rfl rfl (yd_move rfl) rfl <| syg rfl rfl (yd_nilCheck rfl) rfl <| syg rfl rfl (yd_fieldAddr rfl) rfl <| syg rfl rfl (yd_load_own1 rfl rfl) rfl <| syg rfl rfl (yd_move rfl) rfl <| syg rfl rfl (yd_ixO rfl rfl (by omega) (by omega)) rfl <| ?_
   refine syg rfl rfl (yd_load_own1 (v := .bool false) rfl (by rw [Int.toNat_natCast, Nat.mul_one]; exact seenF_get hbn hfb)) rfl <| sy (yd_pickF rfl rfl) rfl <| sa rfl rfl <| zE <| st_condF rfl <| zK <| ?_
   refine sR <| sm rfl rfl <| sn rfl rfl <| sf rfl rfl <| slo1 rfl rfl rfl <| sm rfl rfl <| sy (yd_ixO rfl rfl (by omega) (by omega)) rfl <| ?_
   refine sc (ch_store1 rfl rfl (.tl _ _ _ _ _ _ _ _ (.hd ..)) (by rw [seenF_len, Int.toNat_natCast, Nat.mul_one]; exact hbn) rfl rfl ?_)
   rw [Int.toNat_natCast, Nat.mul_one, seenF_set]
   refine zE <| sR <| sm rfl rfl <| sn rfl rfl <| sf rfl rfl <| slo1 rfl rfl rfl <| sy (yd_add64 rfl rfl) rfl <| sn rfl rfl <| sf rfl rfl <| ?_
   refine sc (ch_storeN1 rfl rfl rfl (by repeat (first | exact .hd .. | apply OUpd.tl)) (nb rfl) rfl rfl ?_)
   rw [show (s.c : Int) + 1 = ((s.c + 1 : Nat) : Int) by omega]
   refine zE <| sR <| sm rfl rfl <| sn rfl rfl <| sf rfl rfl <| slo1 rfl rfl rfl <| sm rfl rfl <| sy (yd_ix (z := ⟨xa, ns.length, xc⟩) hx rfl rfl (by omega) (by show (base : Int) < (ns.length : Int); omega)) rfl <| ?_
   rw [Int.toNat_natCast]
   refine sy (yd_ldA (i := base) hx rfl (by rw [hel]; exact hbn) hzi) rfl <| ?_
   refine sc (ch_alloc rfl ?_)
   intro b5
   refine sc (ch_storeN rfl rfl rfl (by repeat (first | exact .hd .. | apply OUpd.tl)) rfl (nb rfl) rfl rfl ?_)
   refine zE <| sR <| sf rfl rfl <| slo rfl rfl rfl <| ?_
   refine sc (zC rfl rfl (PF.fn0 (p_LnOfR (hs n (List.mem_of_getElem? h0))) (.cons (hzg.up GL.le) .nil)) rfl ?_)
   rintro _ G6 _ hw
   rw [hl] at hw
   obtain ⟨n1, d1, p1, n2, d2, p2, n3, d3, p3, rfl, hw'⟩ := lnR_of hw
   replace hw := hw' l rfl
   refine sm rfl rfl <| sx rfl rfl rfl <| sx rfl rfl rfl <| ?_
   refine sc (ch_alloc rfl ?_)
   intro b6
   refine sc (ch_storeN rfl rfl rfl (by repeat (first | exact .hd .. | apply OUpd.tl)) rfl (nb rfl) rfl rfl ?_)
   refine sa rfl rfl <| zE <| st_seq <| sR <| sm rfl rfl <| sy (yd_not rfl) rfl <| zE <| st_condF rfl <| zK <| ?_
   refine sR <| sm rfl rfl <| sf rfl rfl <| slo1 rfl rfl rfl <| ?_
   have hrp := ih1 (G := G6) (rb := rb) (sb := sb) (lo := false) (lo2 := false) (by omega)
   refine sc (ch_callM rfl rfl (List.perm_append_comm (l₁ := [_, _]) (l₂ := [_, _])) hrp rfl ?_)
   rintro _ css G7 _ _ ⟨q1, rfl, hp1, rfl⟩
   show St C _ _ [⟨rb, [.slice xa ns.length xc, .slice (some ⟨sb, 0, none⟩) ns.length ns.length, .int .i64 s2.c, .bool s2.b], 204, false⟩, ⟨sb, seenF ns.length s2.f, 4, false⟩, ⟨b6, [.int .i64 n1, .int .i64 d1, .pointer p1, .int .i64 n2, .int .i64 d2, .pointer p2, .int .i64 n3, .int .i64 d3, .pointer p3], 105, true⟩, ⟨b5, [.bool n.g.na, .slice x1.a x1.n x1.c, .bool n.g.nb, .slice x2.a x2.n x2.c, .bool n.g.nc, .slice x3.a x3.n x3.c, .int .i64 n.l, .int .i64 n.r], 60, true⟩] _ _
   refine sa rfl rfl <| zE <| st_seq <| ?_
   refine drS [⟨b6, [.int .i64 n1, .int .i64 d1, .pointer p1, .int .i64 n2, .int .i64 d2, .pointer p2, .int .i64 n3, .int .i64 d3, .pointer p3], 105, true⟩, ⟨b5, [.bool n.g.na, .slice x1.a x1.n x1.c, .bool n.g.nb, .slice x2.a x2.n x2.c, .bool n.g.nc, .slice x3.a x3.n x3.c, .int .i64 n.l, .int .i64 n.r], 60, true⟩] (fun _ => false) [(0, true), (1, true), (2, true), (3, true), (4, true), (5, false), (6, false), (7, true)] follows (by kernel_rfl) <| ?_
   refine dL rfl rfl rfl rfl <| dM rfl rfl rfl <| dM rfl rfl rfl <| dF rfl rfl rfl <| dL1 rfl rfl rfl rfl <| ?_
   have hrp := ih2 (G := G7) (rb := rb) (sb := sb) (lo := false) (lo2 := false) hc
   refine dc rfl rfl (ch_callM rfl rfl (M := [_, _]) (rest := [_, _]) (List.Perm.refl _) hrp rfl ?_)
   rintro _ css G8 _ _ ⟨q2, rfl, hp2, rfl⟩
   show St C _ _ [⟨rb, [.slice xa ns.length xc, .slice (some ⟨sb, 0, none⟩) ns.length ns.length, .int .i64 s3.c, .bool s3.b], 204, false⟩, ⟨sb, seenF ns.length s3.f, 4, false⟩, ⟨b6, [.int .i64 n1, .int .i64 d1, .pointer p1, .int .i64 n2, .int .i64 d2, .pointer p2, .int .i64 n3, .int .i64 d3, .pointer p3], 105, true⟩, ⟨b5, [.bool n.g.na, .slice x1.a x1.n x1.c, .bool n.g.nb, .slice x2.a x2.n x2.c, .bool n.g.nc, .slice x3.a x3.n x3.c, .int .i64 n.l, .int .i64 n.r], 60, true⟩] _ _
   refine dr_s <| ?_
   refine dc rfl rfl (zC rfl rfl (PF.fn0 (p_New (l := l) (x := tx) (y := ty)) (.cons (hw.up GL.le) (.cons (hp1.up GL.le) (.cons hp2 .nil)))) rfl ?_)
   rintro _ G9 _ hp
   obtain ⟨p, rfl⟩ := eU_ptr hp
   refine dr_s <| dA rfl rfl rfl <| dn <| st_ret <| ?_
   exact st_doneM (css := [_, _]) (.tmp rfl .nil) rfl _ (List.Perm.refl _) (.cons_cons _ (.cons_cons _ (List.nil_sublist _))) ⟨p, rfl, hp, rfl⟩
def rs0 : RS := ⟨fun _ => false, 0, false⟩
def ofD (ns : List RN) (t : Tr) (s : RS) : DV := if s.b = false ∧ s.c = ns.length then .tp [eU t, vB true] else .tp [.v (.pointer none), vB false]
def eRT (rt : Int) (ns : List RN) : DV := .ag [vI rt, .sl (ns.map RN.d)]
set_option maxHeartbeats 1000000 in
theorem p_Of {GB : Gh} {ns : List RN} {rt : Int} {t : Tr} {s : RS} (hs : ∀ n ∈ ns, n.g.sm) (hn : ns.length ≤ 65536) (h : RR ns rt rs0 t s) (hc : s.c ≤ 1000000) : PF GB Tryz.prog 63 [eRT rt ns] (ofD ns t s) := by
 intro G vs _ hv
 obtain ⟨v0, m, rfl, h0, hm⟩ := isl_cons.1 hv
 rw [isl_nil] at hm; subst hm
 obtain ⟨m, rfl, g⟩ := is_ag.1 h0
 obtain ⟨v1, m, rfl, h1, hm⟩ := isl_cons.1 g
 obtain ⟨v2, m, rfl, h2, hm⟩ := isl_cons.1 hm
 rw [isl_nil] at hm; subst hm
 obtain ⟨s0, x, es, rfl, hsl, hes⟩ := is_sl.1 h2
 rw [is_v.1 h1]
 have hel := hes.len
 rw [List.length_map] at hel
 have hlen := hsl.len
 rw [hel] at hlen
 have hx : NRow x ns G := by
   refine ⟨es, ?_, hes⟩
   rcases sl_stride (s := 8) hsl hes (fun d hd => by obtain ⟨n, _, rfl⟩ := List.mem_map.1 hd; exact ⟨rfl, rfl⟩) with e | e
   · exact ⟨hsl.len, hsl.cap, .inl e⟩
   · rw [e] at hsl; exact hsl
 obtain ⟨xa, xn, xc⟩ := x
 simp only [] at hlen
 subst hlen
 show Fn _ _ [.agg ⟨[.int .i64 rt, .slice xa ns.length xc]⟩] _ _
 refine Fn.intro Tryz.func63 rfl rfl Tryz.ntmps63 rfl ?_
 intro C _ _
 refine sR <| ?_
 refine sc (ch_box rfl rfl ?_)
 intro b1
 refine sa rfl rfl <| sa rfl rfl <| zE <| st_seq <| sR <| sf rfl rfl <| slo1 rfl rfl rfl <| slen rfl rfl <| sy (yd_gtr rfl rfl) rfl <| zE <| ?_
 refine st_condP rfl (fun hc => absurd hc (by omega)) (fun _ => ?_)
 refine zK <| st_seq <| dr (fun _ => false) [(0, true), (1, true), (2, true), (3, true), (4, true), (5, false), (6, true), (7, false), (8, true)] follows (by kernel_rfl) <| dF rfl rfl rfl <| ?_
 refine dL1 rfl rfl rfl rfl <| dF rfl rfl rfl <| dL1 rfl rfl rfl rfl <| dy rfl (fun _ => yd_len rfl) rfl rfl <| ?_
 refine dc rfl rfl (ch_make rfl rfl (by omega) (by omega) (by omega) (by rfl) rfl ?_)
 intro b2
 rw [Int.toNat_natCast, zeros_seenF]
 refine dr_s <| dy rfl (fun _ => yd_build rfl) rfl rfl <| ?_
 refine dc rfl rfl (ch_box rfl rfl ?_)
 intro b3
 refine dr_s <| dA rfl rfl rfl <| dn <| sR <| sm rfl rfl <| sf rfl rfl <| slo1 rfl rfl rfl <| ?_
 have hrp := rd_part hx hs (by omega) h (G := G) (rb := b3) (sb := b2) (lo := true) (lo2 := true) hc
 refine sc (ch_callM rfl rfl (M := [_, _]) (rest := [_]) (List.Perm.refl _) hrp rfl ?_)
 rintro _ css G4 _ _ ⟨p, rfl, hp, rfl⟩
 show St C _ _ [⟨b3, [.slice xa ns.length xc, .slice (some ⟨b2, 0, none⟩) ns.length ns.length, .int .i64 s.c, .bool s.b], 204, true⟩, ⟨b2, seenF ns.length s.f, 4, true⟩, ⟨b1, [.int .i64 rt, .slice xa ns.length xc], 36, true⟩] _ _
 refine sa rfl rfl <| zE <| st_seq <| st_seq <| dr (fun _ => false) [(0, true), (1, true), (2, true), (3, true), (4, true), (5, true), (6, true), (7, true), (8, true), (9, true), (10, true), (11, true), (12, true), (13, true)] follows (by kernel_rfl) <| ?_
 obtain ⟨sf_, sc_, sb_⟩ := s
 cases sb_
 case true =>
   refine dM rfl rfl rfl <| dy rfl (fun _ => yd_nilCheck rfl) rfl rfl <| dF rfl rfl rfl <| dL1 rfl rfl rfl rfl <| dM rfl rfl rfl <| ?_
   refine dys rfl rfl rfl rfl rfl rfl <| dys rfl rfl rfl rfl rfl rfl <| dys rfl rfl rfl rfl rfl rfl <| dys rfl rfl rfl rfl rfl rfl <| dys rfl rfl rfl rfl rfl rfl <| dys rfl rfl rfl rfl rfl rfl <| ?_
   refine dys rfl rfl rfl rfl rfl rfl <| dys rfl rfl rfl rfl rfl rfl <| dy rfl (fun _ => yd_pickT rfl rfl) rfl rfl <| dn <| st_condT rfl <| ?_
   refine sR <| sa rfl rfl <| sa rfl rfl <| zE <| st_ret <| ?_
   refine zD (.tmp rfl (.tmp rfl .nil)) ?_
   rw [ofD, if_neg (fun e => by cases e.1)]
   exact is_tp.2 ⟨_, rfl, .cons (is_v.2 rfl) (.cons (is_v.2 rfl) .nil)⟩
 refine dM rfl rfl rfl <| dy rfl (fun _ => yd_nilCheck rfl) rfl rfl <| dF rfl rfl rfl <| dL1 rfl rfl rfl rfl <| dM rfl rfl rfl <| ?_
 refine dyg rfl rfl rfl rfl (fun _ => yd_move rfl) rfl <| dyg rfl rfl rfl rfl (fun _ => yd_nilCheck rfl) rfl <| dyg rfl rfl rfl rfl (fun _ => yd_fieldAddr rfl) rfl <| dyg rfl rfl rfl rfl (fun _ => yd_load_own1 rfl rfl) rfl <| ?_
 refine dyg rfl rfl rfl rfl (fun _ => yd_fieldAddr rfl) rfl <| dyg rfl rfl rfl rfl (fun _ => yd_load_own1 rfl rfl) rfl <| dyg rfl rfl rfl rfl (fun _ => yd_len rfl) rfl <| dyg rfl rfl rfl rfl (fun _ => yd_neq rfl rfl) rfl <| ?_
 refine dy rfl (fun _ => yd_pickF rfl rfl) rfl rfl <| dn <| ?_
 refine st_condP rfl (fun hc => ?_) (fun hc => ?_) -- slot 35
 · refine sR <| sa rfl rfl <| sa rfl rfl <| zE <| st_ret <| ?_
   refine zD (.tmp rfl (.tmp rfl .nil)) ?_
   rw [ofD, if_neg (fun e => hc (by have := e.2; simp only at this; omega))]
   exact is_tp.2 ⟨_, rfl, .cons (is_v.2 rfl) (.cons (is_v.2 rfl) .nil)⟩
 refine zK <| sR <| sm rfl rfl <| sa rfl rfl <| sa rfl rfl <| zE <| st_ret <| ?_
 refine zD (.tmp rfl (.tmp rfl .nil)) ?_
 rw [ofD, if_pos ⟨rfl, by have h9 := hc; simp at h9; show sc_ = _; omega⟩]
 exact is_tp.2 ⟨_, rfl, .cons hp (.cons (is_v.2 rfl) .nil)⟩
end Go.Sx
end

section
set_option maxRecDepth 100000
namespace Go.Sx
open Go Go.Proofs
theorem cU_node {G : Gh} {l : LnQ} {x y : Tr} {m : List Value} (h : IsLs G (cU (.node l x y)) m) : ∃ n1 d1 p1 n2 d2 p2 n3 d3 p3 q r, m = [.int .i64 n1, .int .i64 d1, .pointer p1, .int .i64 n2, .int .i64 d2, .pointer p2, .int .i64 n3, .int .i64 d3, .pointer p3, .pointer q, .pointer r, .bool false] ∧
  Is G (eLn l) (.agg ⟨[.int .i64 n1, .int .i64 d1, .pointer p1, .int .i64 n2, .int .i64 d2, .pointer p2, .int .i64 n3, .int .i64 d3, .pointer p3]⟩) ∧ Is G (eU x) (.pointer q) ∧ Is G (eU y) (.pointer r) := by
 obtain ⟨v1, m, rfl, h1, h⟩ := isl_cons.1 h
 obtain ⟨v2, m, rfl, h2, h⟩ := isl_cons.1 h
 obtain ⟨v3, m, rfl, h3, h⟩ := isl_cons.1 h
 obtain ⟨v4, m, rfl, h4, h⟩ := isl_cons.1 h
 obtain ⟨v5, m, rfl, h5, h⟩ := isl_cons.1 h
 obtain ⟨v6, m, rfl, h6, h⟩ := isl_cons.1 h
 obtain ⟨v7, m, rfl, h7, h⟩ := isl_cons.1 h
 obtain ⟨v8, m, rfl, h8, h⟩ := isl_cons.1 h
 obtain ⟨v9, m, rfl, h9, h⟩ := isl_cons.1 h
 obtain ⟨va, m, rfl, ha, h⟩ := isl_cons.1 h
 obtain ⟨vb, m, rfl, hb, h⟩ := isl_cons.1 h
 obtain ⟨vc, m, rfl, hc, h⟩ := isl_cons.1 h
 rw [isl_nil] at h; subst h
 obtain ⟨_, rfl⟩ := fp_ptr h3
 obtain ⟨_, rfl⟩ := fp_ptr h6
 obtain ⟨_, rfl⟩ := fp_ptr h9
 obtain ⟨_, rfl⟩ := eU_ptr ha
 obtain ⟨_, rfl⟩ := eU_ptr hb
 cases is_v.1 h1; cases is_v.1 h2; cases is_v.1 h4; cases is_v.1 h5; cases is_v.1 h7; cases is_v.1 h8; cases is_v.1 hc
 exact ⟨_, _, _, _, _, _, _, _, _, _, _, rfl, is_ag.2 ⟨_, rfl, .cons h1 (.cons h2 (.cons h3 (.cons h4 (.cons h5 (.cons h6 (.cons h7 (.cons h8 (.cons h9 .nil))))))))⟩, ha, hb⟩
theorem cU_leaf {G : Gh} {b : Bool} {m : List Value} (h : IsLs G (cU (.leaf b)) m) : m = [.int .i64 0, .int .i64 0, .pointer none, .int .i64 0, .int .i64 0, .pointer none, .int .i64 0, .int .i64 0, .pointer none, .pointer none, .pointer none, .bool b] := by
 obtain ⟨v1, m, rfl, h1, h⟩ := isl_cons.1 h
 obtain ⟨v2, m, rfl, h2, h⟩ := isl_cons.1 h
 obtain ⟨v3, m, rfl, h3, h⟩ := isl_cons.1 h
 obtain ⟨v4, m, rfl, h4, h⟩ := isl_cons.1 h
 obtain ⟨v5, m, rfl, h5, h⟩ := isl_cons.1 h
 obtain ⟨v6, m, rfl, h6, h⟩ := isl_cons.1 h
 obtain ⟨v7, m, rfl, h7, h⟩ := isl_cons.1 h
 obtain ⟨v8, m, rfl, h8, h⟩ := isl_cons.1 h
 obtain ⟨v9, m, rfl, h9, h⟩ := isl_cons.1 h
 obtain ⟨va, m, rfl, ha, h⟩ := isl_cons.1 h
 obtain ⟨vb, m, rfl, hb, h⟩ := isl_cons.1 h
 obtain ⟨vc, m, rfl, hc, h⟩ := isl_cons.1 h
 rw [isl_nil] at h; subst h
 cases is_v.1 h1; cases is_v.1 h2; cases is_v.1 h3; cases is_v.1 h4; cases is_v.1 h5; cases is_v.1 h6; cases is_v.1 h7; cases is_v.1 h8; cases is_v.1 h9; cases is_v.1 ha; cases is_v.1 hb; cases is_v.1 hc
 rfl
set_option maxHeartbeats 2000000 in
theorem w_write : ∀ {t : Tr} {A A2 G : Gh} {p : Option Addr} {ob wb : Nat} {lo lo2 : Bool} {x : SV} {zs : List ND} {ns : List NQ} {B : List Own}, Is A (eU t) (.pointer p) → t.all LB → [GL A G] → [GL A2 G] → Buf 8 60 x (zs.map ND.val) B → All2 (IsND 96 A2) zs ns → zs.length + t.size ≤ 1000000 →
   FnO Tryz.prog 107 [.pointer p, .pointer (some ⟨ob, 0, none⟩), .pointer (some ⟨wb, 0, none⟩)] (⟨ob, [.int .i64 0, .slice x.a x.n x.c], 36, lo⟩ :: ⟨wb, [apiClo ob wb], 186, lo2⟩ :: B) G
     (fun v own' G' => ∃ x' zs' B', v = .int .i64 (t.num zs.length) ∧ own' = ⟨ob, [.int .i64 0, .slice x'.a x'.n x'.c], 36, false⟩ :: ⟨wb, [apiClo ob wb], 186, false⟩ :: B' ∧ Buf 8 60 x' (zs'.map ND.val) B' ∧ All2 (IsND 96 G') zs' (ns ++ t.wr zs.length))
 | .leaf bb, A, A2, G, p, ob, wb, lo, lo2, x, zs, ns, B, h, _, _, _, hB, hz, hle => by
   obtain ⟨n, m, e, hg, hm⟩ := is_pt.1 (id h)
   cases e
   cases cU_leaf hm
   have hG : GHas A n _ := ⟨hg⟩
   have hz' : All2 (IsND 96 G) zs (ns ++ []) := by rw [List.append_nil]; exact hz.imp fun _ _ h => h.up
   refine FnO.intro Tryz.func107 rfl rfl Tryz.ntmps107 rfl ?_
   intro C _ _
   show St C _ _ (⟨ob, [.int .i64 0, .slice x.a x.n x.c], 36, false⟩ :: ⟨wb, [apiClo ob wb], 186, false⟩ :: asB B) _ _
   refine sR <| sa rfl rfl <| zE <| st_seq <| sR <| sm rfl rfl <| ?_
   refine sc (zC rfl rfl (PF.fn0 p_IsLeafL (.cons (h.up GL.le) .nil)) rfl ?_)
   rintro _ G1 _ hv
   cases is_v.1 hv
   refine zE <| st_condT rfl <| ?_
   refine st_seq <| sR <| sm rfl rfl <| sn rfl rfl <| sf rfl rfl <| slg1 rfl rfl rfl <| zE <| ?_
   cases bb
   case true =>
     refine st_condT rfl <| sR <| sa rfl rfl <| zE <| st_ret <| ?_
     exact st_doneO (.tmp rfl .nil) _ _ (List.Perm.refl _) (List.Sublist.refl _) ⟨x, zs, _, rfl, rfl, hB.asB, hz'.imp fun _ _ h => h.up⟩
   refine st_condF rfl <| zK <| sR <| sa rfl rfl <| zE <| st_ret <| ?_
   exact st_doneO (.tmp rfl .nil) _ _ (List.Perm.refl _) (List.Sublist.refl _) ⟨x, zs, _, rfl, rfl, hB.asB, hz'.imp fun _ _ h => h.up⟩
 | .node l s u, A, A2, G, p, ob, wb, lo, lo2, x, zs, ns, B, h, hall, _, _, hB, hz, hle => by
   obtain ⟨hlb, hall1, hall2⟩ := id hall
   haveI : LB l := hlb
   obtain ⟨n, m, e, hg, hm⟩ := is_pt.1 (id h)
   cases e
   obtain ⟨n1, d1, p1, n2, d2, p2, n3, d3, p3, q, r, rfl, hzl, hs, hu⟩ := cU_node hm
   have hG : GHas A n _ := ⟨hg⟩
   have hxn := hB.len
   have hzn := hz.len
   simp only [Tr.size] at hle
   obtain ⟨xa, xn, xc⟩ := x
   rw [List.length_map] at hxn
   simp only [] at hxn
   subst hxn
   refine FnO.intro Tryz.func107 rfl rfl Tryz.ntmps107 rfl ?_
   intro C _ _
   show St C _ _ (⟨ob, [.int .i64 0, .slice xa zs.length xc], 36, false⟩ :: ⟨wb, [apiClo ob wb], 186, false⟩ :: asB B) _ _
   replace hB := hB.asB
   generalize asB B = B at hB
   refine sR <| sa rfl rfl <| zE <| st_seq <| sR <| sm rfl rfl <| ?_
   refine sc (zC rfl rfl (PF.fn0 p_IsLeafN (.cons (h.up GL.le) .nil)) rfl ?_)
   rintro _ G1 _ hv
   cases is_v.1 hv
   refine zE <| st_condF rfl <| ?_
   refine zK <| sR <| sf rfl rfl <| slo1 rfl rfl rfl <| slen rfl rfl <| sa rfl rfl <| zE <| st_seq <| ?_
   refine drS [⟨ob, [.int .i64 0, .slice xa zs.length xc], 36, false⟩] (fun i => Nat.beq i 11) [(0, true), (1, true), (2, true), (3, true), (4, true), (5, true), (6, false), (7, true), (8, false), (9, false), (10, true), (11, false)] follows (by kernel_rfl) <| ?_
   refine dF rfl rfl rfl <| dL1 rfl rfl rfl rfl <| dM rfl rfl rfl <| dy rfl (fun _ => yd_nilCheck rfl) rfl rfl <| ?_
   refine dF rfl rfl rfl <| dy rfl (fun _ => yd_load_gh rfl ghi rfl) rfl rfl <| ?_
   refine dc rfl rfl (zC rfl rfl (PF.fn0 (p_LAPI (l := l)) (.cons (hzl.up GL.le) .nil)) rfl ?_)
   rintro _ G2 _ hv
   obtain ⟨ia, ib, ic, rfl, hia, hib, hic⟩ := isL_of hlb.bl hv
   refine dr_s <| dy rfl (fun _ => yd_build rfl) rfl rfl <| ?_
   refine dc rfl rfl (ch_slice1 rfl (by rfl) (by rfl) (by decide) (by decide) rfl ?_)
   intro b3
   refine dr_s <| ?_
   refine dc rfl rfl (ch_append_buf (v := ND.val ⟨ia, ib, ic, 0, 0⟩) (vs := zs.map ND.val) [_, _, _] rfl hB rfl rfl (src_own inferInstance rfl) rfl (ND.flat [⟨ia, ib, ic, 0, 0⟩] _ List.mem_cons_self) (by decide) (by rw [List.length_map]; omega) rfl rfl ?_)
   intro x1 B1 hB1
   rw [show zs.map ND.val ++ [ND.val ⟨ia, ib, ic, 0, 0⟩] = (zs ++ [(⟨ia, ib, ic, 0, 0⟩ : ND)]).map ND.val by simp] at hB1
   show St C _ _ (⟨b3, _, _, true⟩ :: ⟨ob, [.int .i64 0, .slice xa zs.length xc], 36, false⟩ :: ⟨wb, [apiClo ob wb], 186, false⟩ :: B1) _ _
   refine dr_s <| dF rfl rfl rfl <| ?_
   refine dc rfl rfl (ch_storeN1 (cs' := [.int .i64 0, .slice x1.a x1.n x1.c]) rfl rfl rfl (.tl _ _ _ _ _ _ _ _ (.hd ..)) (nb rfl) rfl rfl ?_)
   refine dr_f rfl <| dn <| ?_
   refine st_drop _ (List.sublist_cons_self _ _) ?_
   have hz1 : All2 (IsND 96 G2) (zs ++ [(⟨ia, ib, ic, 0, 0⟩ : ND)]) (ns ++ [⟨l, 0, 0⟩]) := (hz.imp fun _ _ h => h.up).app (.cons ⟨hia, hib, hic, rfl, rfl⟩ .nil)
   refine st_seq <| drS [⟨wb, [apiClo ob wb], 186, false⟩] (fun _ => false) [(0, true), (1, true), (2, true), (3, true), (4, true), (5, false), (6, true)] follows (by kernel_rfl) <| ?_
   refine dL1 rfl rfl rfl rfl <| dM rfl rfl rfl <| dy rfl (fun _ => yd_nilCheck rfl) rfl rfl <| dF rfl rfl rfl <| dy rfl (fun _ => yd_load_gh1 rfl ghi rfl) rfl rfl <| ?_
   refine dc rfl rfl (ch_callcO' (c1 := []) (M := _ :: _ :: B1) (rest := []) rfl rfl (by rw [List.append_nil]) (w_write (lo := false) (lo2 := false) hs hall1 hB1 hz1 (by simp; omega)) rfl ?_)
   rintro _ _ G3 fl _ hf _ ⟨x2, zs2, B2, rfl, rfl, hB2, hz2⟩
   have e1 : fl ob = false := hf _ List.mem_cons_self rfl
   have e2 : fl wb = false := hf _ (List.mem_cons_of_mem _ List.mem_cons_self) rfl
   replace hB2 := hB2.relo fl
   refine st_ownE (own' := ⟨ob, [.int .i64 0, .slice x2.a x2.n x2.c], 36, false⟩ :: ⟨wb, [apiClo ob wb], 186, false⟩ :: B2.map (relo fl)) (by simp only [List.map_cons, relo, e1, e2, List.append_nil]) ?_
   generalize B2.map (relo fl) = B2 at hB2
   have hl2 := hz2.len
   simp only [List.length_append, Tr.wr_len, List.length_singleton] at hl2
   refine dr_s <| dA rfl rfl rfl <| dn <| st_seq <| drS [⟨wb, [apiClo ob wb], 186, false⟩] (fun _ => false) [(0, true), (1, true), (2, true), (3, true), (4, true), (5, false), (6, true)] follows (by kernel_rfl) <| ?_
   refine dL1 rfl rfl rfl rfl <| dM rfl rfl rfl <| dy rfl (fun _ => yd_nilCheck rfl) rfl rfl <| dF rfl rfl rfl <| dy rfl (fun _ => yd_load_gh1 rfl ghi rfl) rfl rfl <| ?_
   refine dc rfl rfl (ch_callcO' (c1 := []) (M := _ :: _ :: B2) (rest := []) rfl rfl (by rw [List.append_nil]) (w_write (lo := false) (lo2 := false) hu hall2 hB2 hz2 (by omega)) rfl ?_)
   rintro _ _ G4 fl _ hf _ ⟨x3, zs3, B3, rfl, rfl, hB3, hz3⟩
   have e3 : fl ob = false := hf _ List.mem_cons_self rfl
   have e4 : fl wb = false := hf _ (List.mem_cons_of_mem _ List.mem_cons_self) rfl
   replace hB3 := hB3.relo fl
   refine st_ownE (own' := ⟨ob, [.int .i64 0, .slice x3.a x3.n x3.c], 36, false⟩ :: ⟨wb, [apiClo ob wb], 186, false⟩ :: B3.map (relo fl)) (by simp only [List.map_cons, relo, e3, e4, List.append_nil]) ?_
   generalize B3.map (relo fl) = B3 at hB3
   have hl3 := hz3.len
   simp only [List.length_append, Tr.wr_len, List.length_singleton] at hl3
   have hn3 : zs.length < zs3.length := by omega
   rcases hB3 with ⟨h1, _, _⟩ | ⟨nb, rest, lo3, hx3, rfl, hf1, hf2, hf3⟩
   · have := congrArg List.length h1; rw [List.length_map, List.length_nil] at this; omega
   obtain ⟨x3a, x3n, x3c⟩ := x3
   simp only [SV.mk.injEq] at hx3
   obtain ⟨rfl, rfl, _⟩ := hx3
   rw [List.length_map] at hf3
   have hzz : ns.length = zs.length := hzn.symm
   obtain ⟨zn, hzn1, hzn2⟩ := hz3.get (i := zs.length) (b := ⟨l, 0, 0⟩) (by rw [List.append_assoc, List.append_assoc, ← hzz, List.getElem?_append_right (Nat.le_refl _), Nat.sub_self]; rfl)
   obtain ⟨_, hzn3⟩ := List.getElem?_eq_some_iff.1 hzn1
   have hL1 : (zs ++ [(⟨ia, ib, ic, 0, 0⟩ : ND)]).length = zs.length + 1 := by simp
   have hL2 : zs2.length = zs.length + 1 + s.size := by omega
   rw [hL1] at hz3
   rw [hL1, hL2]
   rw [hL2] at hz3
   refine dr_s <| dA rfl rfl rfl <| dn <| ?_
   refine st_seq <| drS [⟨ob, [.int .i64 0, .slice (some ⟨nb, 0, none⟩) (zs3.map ND.val).length x3c], 36, false⟩] (fun _ => false) [(0, true), (1, true), (2, true), (3, true), (4, true), (5, true), (6, true), (7, true), (8, true), (9, true), (10, false), (11, true), (12, true), (13, false)] follows (by kernel_rfl) <| ?_
   refine dF rfl rfl rfl <| dL1 rfl rfl rfl rfl <| dM rfl rfl rfl <| dF rfl rfl rfl <| ?_
   refine dL1 rfl rfl rfl rfl <| dM rfl rfl rfl <| dM rfl rfl rfl <| dM rfl rfl rfl <| dy rfl (fun _ => yd_ixO rfl rfl (by omega) (by rw [List.length_map]; omega)) rfl rfl <| ?_
   refine dF rfl rfl rfl <| ?_
   refine dc rfl rfl (ch_store1 rfl rfl (.tl _ _ _ _ _ _ _ _ (.tl _ _ _ _ _ _ _ _ (.hd ..))) (by rw [List.length_append, hf1, List.length_map, Int.toNat_natCast]; omega) rfl rfl ?_)
   rw [Int.toNat_natCast, nodes_set zs3 rest zs.length 6 _ { zn with l := s.num (zs.length + 1) } hn3 (by decide) (by rw [hzn3]; rfl)]
   refine dr_s <| dy rfl (fun _ => yd_ixO rfl rfl (by omega) (by rw [List.length_map]; omega)) rfl rfl <| dF rfl rfl rfl <| ?_
   refine dc rfl rfl (ch_store1 rfl rfl (.tl _ _ _ _ _ _ _ _ (.tl _ _ _ _ _ _ _ _ (.hd ..))) (by rw [List.length_append, flatL_len (s := 8) _ (ND.len8 _), List.length_map, List.length_set, Int.toNat_natCast]; omega) rfl rfl ?_)
   rw [Int.toNat_natCast, nodes_set (zs3.set zs.length _) rest zs.length 7 _ { zn with l := s.num (zs.length + 1), r := u.num (zs.length + 1 + s.size) } (by rw [List.length_set]; exact hn3) (by decide) (by rw [List.getElem_set_self]; rfl)]
   refine dr_s <| dn <| sR <| sm rfl rfl <| sa rfl rfl <| zE <| st_ret <| ?_
   have hfin := hz3.set (a := { zn with l := s.num (zs.length + 1), r := u.num (zs.length + 1 + s.size) }) (b := ⟨l, s.num (zs.length + 1), u.num (zs.length + 1 + s.size)⟩) ⟨hzn2.a, hzn2.b, hzn2.c, rfl, rfl⟩ zs.length
   have hns : (ns ++ [(⟨l, 0, 0⟩ : NQ)] ++ s.wr (zs.length + 1) ++ u.wr (zs.length + 1 + s.size)).set zs.length ⟨l, s.num (zs.length + 1), u.num (zs.length + 1 + s.size)⟩ = ns ++ (Tr.node l s u).wr zs.length := by
     rw [List.append_assoc, List.append_assoc, List.set_append_right _ _ (by omega), hzz, Nat.sub_self]
     simp [Tr.wr]
   rw [hns] at hfin
   refine st_doneO (.tmp rfl .nil) _ _ (List.Perm.refl _) (List.Sublist.refl _) ⟨⟨some ⟨nb, 0, none⟩, (zs3.map ND.val).length, x3c⟩, _, _, rfl, rfl, ?_, hfin⟩
   refine .inr ⟨nb, rest, lo3, by simp, by rw [List.set_set], ?_, ?_, ?_⟩
   · rw [flatL_len (s := 8) _ (ND.len8 _)]
   · rw [flatL_len (s := 8) _ (ND.len8 _), List.length_map, List.length_set]; rw [hf1, List.length_map] at hf2; exact hf2
   · rw [List.length_map, List.length_set]; exact hf3
theorem p_API {GB : Gh} {t : Tr} (hb : t.all LB) (hs : t.size ≤ 1000000) : PF GB Tryz.prog 49 [eU t] (eA t) := by
 intro G vs _ hv
 obtain ⟨v0, m, rfl, h, hm⟩ := isl_cons.1 hv
 rw [isl_nil] at hm; subst hm
 obtain ⟨p, rfl⟩ := eU_ptr h
 refine Fn.intro Tryz.func49 rfl rfl Tryz.ntmps49 rfl ?_
 intro C _ hC
 refine sR <| ?_
 refine sc (ch_alloc rfl ?_)
 intro b1
 refine zE <| sR <| ?_
 refine sc (ch_alloc rfl ?_)
 intro b2
 refine zE <| sR <| ?_
 refine sc (ch_alloc rfl ?_)
 intro b3
 refine zE <| sR <| sy (yd_makeFunc rfl rfl) rfl <| ?_
 refine sc (ch_storeN1 (cs' := [apiClo b2 b3]) rfl rfl rfl (.hd ..) (nb rfl) rfl rfl ?_)
 refine zE <| sR <| slo1 rfl rfl rfl <| sm rfl rfl <| ?_
 refine sc (ch_callcO' (c1 := []) (M := [⟨b2, [.int .i64 0, .slice none 0 0], 36, true⟩, ⟨b3, [apiClo b2 b3], 186, true⟩]) (rest := [⟨b1, [.int .i64 0, .slice none 0 0], 36, true⟩]) rfl rfl (List.Perm.swap ..) (w_write (A := G) (A2 := G) (x := ⟨none, 0, 0⟩) (zs := []) (ns := []) (B := []) h hb (Buf.nil ..) .nil (by simpa using hs)) rfl ?_)
 rintro _ _ G4 fl _ _ hf ⟨x, zs, B, rfl, rfl, hB, hz⟩
 have e1 := hf (by simp) b2
 have e2 := hf (by simp) b3
 replace hB := hB.relo fl
 refine st_ownE (own' := ⟨b2, [.int .i64 0, .slice x.a x.n x.c], 36, true⟩ :: ⟨b3, [apiClo b2 b3], 186, true⟩ :: (B.map (relo fl) ++ [⟨b1, [.int .i64 0, .slice none 0 0], 36, true⟩])) (by simp only [List.map_cons, relo, e1, e2, List.cons_append]) ?_
 generalize B.map (relo fl) = B at hB
 refine st_perm (⟨b2, [.int .i64 0, .slice x.a x.n x.c], 36, true⟩ :: ⟨b3, [apiClo b2 b3], 186, true⟩ :: ⟨b1, [.int .i64 0, .slice none 0 0], 36, true⟩ :: B) ((List.perm_append_comm (l₁ := B) (l₂ := [_])).cons _ |>.cons _) ?_
 refine sf rfl rfl <| ?_
 refine sc (ch_storeN1 (cs' := [.int .i64 (t.num 0), .slice x.a x.n x.c]) rfl rfl rfl (.hd ..) (nb rfl) rfl rfl ?_)
 refine zE <| sR <| slo rfl rfl rfl <| ?_
 refine sc (ch_storeN (cs' := [.int .i64 (t.num 0), .slice x.a x.n x.c]) rfl rfl rfl (.tl _ _ _ _ _ _ _ _ (.tl _ _ _ _ _ _ _ _ (.hd ..))) rfl (nb rfl) rfl rfl ?_)
 refine zE <| ?_
 refine st_bufFreeze (L := [_, _, _]) hC hB (ND.len8 _) ?_
 intro G5 _ hsl
 show St C _ _ [⟨b2, _, _, true⟩, ⟨b3, _, _, true⟩, ⟨b1, [.int .i64 (t.num 0), .slice x.a x.n x.c], 36, true⟩] _ _
 refine st_ret <| ?_
 exact zD (.agg rfl ii ii rfl .nil) (isA_to (k := 96) ⟨zs, hsl, by rw [List.nil_append] at hz; exact hz.imp fun _ _ h => h.up⟩)
end Go.Sx
end

section
set_option maxRecDepth 100000
namespace Go.Sx
open Go Go.Proofs
def Tr.pre : Tr → List Tr
 | .leaf b => [.leaf b]
 | .node l x y => .node l x y :: (x.pre ++ y.pre)
structure Vis (f : FuncId) (c2 : List Value) (σ : Type) (step : σ → Tr → σ) (ok : σ → Tr → Prop) (Inv : σ → List Own → Gh → Prop) : Prop where
 up : ∀ {s B G G'}, GLe G G' → Inv s B G → Inv s B G'
 re : ∀ {s B G} (fl : Nat → Bool), Inv s B G → Inv s (B.map (relo fl)) G
 go : ∀ {s t p B G}, ok s t → Inv s B G → Is G (eU t) (.pointer p) → FnO Tryz.prog f (.pointer p :: c2) B G (fun _ B' G' => Inv (step s t) B' G')
section
variable {P : Program} {C : Ctx} {n : Nat} {fr : Fr} {own : List Own} {G : Gh}
end
def okFold {σ : Type} (step : σ → Tr → σ) (ok : σ → Tr → Prop) : σ → List Tr → Prop
 | _, [] => True
 | s, t :: ts => ok s t ∧ okFold step ok (step s t) ts
structure EX (σ : Type) where
 ts : List Tr
 vs : List Value
 rest : List Value
 b : Nat
 cap : Nat
 lo : Bool
 s : σ
 B : List Own
def tsz (t : Tr) : Nat := 2 * t.size + 1
def stk (ts : List Tr) : List Tr := ts.reverse.flatMap Tr.pre
structure EI (A : Gh) {σ : Type} (step : σ → Tr → σ) (ok : σ → Tr → Prop) (Inv : σ → List Own → Gh → Prop) (N : Nat) (fin : σ) (x : EX σ) (G : Gh) : Prop where
 rel : All2 (fun v t => ∃ p, v = .pointer p ∧ Is A (eU t) (.pointer p)) x.vs x.ts
 cap : x.vs.length + x.rest.length = x.cap
 inv : Inv x.s x.B G
 mu : (x.ts.map tsz).sum ≤ N
 okf : okFold step ok x.s (stk x.ts)
 fin : (stk x.ts).foldl step x.s = fin
/-! ### Size -/
def szI (nbk : Nat) (s : Nat) (B : List Own) (_ : Gh) : Prop := ∃ lo, B = [⟨nbk, [.int .i64 s], 3, lo⟩]
def szS (s : Nat) : Tr → Nat
 | .leaf _ => s
 | .node .. => s + 1
end Go.Sx
end

section
set_option maxRecDepth 100000
namespace Go.Sx
open Go Go.Proofs
def unseen (n : Nat) (f : Nat → Bool) : Nat := ((List.range n).filter fun j => !f j).length
theorem unseen_set {n k : Nat} {f : Nat → Bool} (hk : k < n) (hf : f k = false) : unseen n (setF f k) + 1 = unseen n f := by
 unfold unseen
 have key : ∀ l : List Nat, l.Nodup → ((l.filter fun j => !setF f k j).length + (if k ∈ l then 1 else 0) = (l.filter fun j => !f j).length) := fun l => by
   induction l with
   | nil => intro _; rfl
   | cons a l ih =>
     intro hn
     obtain ⟨h1, h2⟩ := List.nodup_cons.1 hn
     have := ih h2
     by_cases e : a = k
     · subst e
       simp only [List.filter_cons, setF_eq, hf, List.mem_cons, true_or, if_true] at this ⊢
       rw [if_neg h1] at this
       simp at this ⊢
       omega
     · have e' : ¬ k = a := fun h => e h.symm
       simp only [List.filter_cons, setF_ne e, List.mem_cons, e', false_or] at this ⊢
       cases f a <;> simp at this ⊢ <;> omega
 have := key (List.range n) List.nodup_range
 rwa [if_pos (List.mem_range.2 hk)] at this
def rdF (ns : List RN) : Nat → Int → RS → Tr × RS
 | 0, _, s => (.leaf false, s)
 | m + 1, rt, s =>
   if rt = -1 then (.leaf false, s) else if rt = -2 then (.leaf true, s) else
   match ns[rt.toNat]? with
   | none => (.leaf false, ⟨s.f, s.c, true⟩)
   | some n => if rt < 0 ∨ s.f rt.toNat = true then (.leaf false, ⟨s.f, s.c, true⟩) else
     match n.g.ln with
     | none => (.leaf false, ⟨setF s.f rt.toNat, s.c + 1, true⟩)
     | some l => let a := rdF ns m n.l ⟨setF s.f rt.toNat, s.c + 1, s.b⟩; let b := rdF ns m n.r a.2; (.node l a.1 b.1, b.2)
theorem rdF_ok {ns : List RN} : ∀ {m : Nat} {rt : Int} {s : RS}, unseen ns.length s.f < m → RR ns rt s (rdF ns m rt s).1 (rdF ns m rt s).2 ∧ (rdF ns m rt s).2.c + unseen ns.length (rdF ns m rt s).2.f = s.c + unseen ns.length s.f
 | 0, _, _, h => absurd h (Nat.not_lt_zero _)
 | m + 1, rt, s, h => by
   rw [rdF]
   split
   · rename_i e; subst e; exact ⟨.leaf false s, rfl⟩
   rename_i e1
   split
   · rename_i e; subst e; exact ⟨.leaf true s, rfl⟩
   rename_i e2
   split
   · rename_i hn
     have := List.getElem?_eq_none_iff.1 hn
     exact ⟨.bad rt s e1 e2 (by omega), rfl⟩
   rename_i n hn
   have hlt := (List.getElem?_eq_some_iff.1 hn).1
   split
   · rename_i hb
     refine ⟨.bad rt s e1 e2 ?_, rfl⟩
     rcases hb with hb | hb
     · exact .inl hb
     · by_cases h0 : rt < 0
       · exact .inl h0
       · exact .inr (.inr ⟨rt.toNat, by omega, hlt, hb⟩)
   rename_i hb
   obtain ⟨k, rfl⟩ : ∃ k : Nat, rt = k := ⟨rt.toNat, by omega⟩
   rw [Int.toNat_natCast] at hn hlt hb ⊢
   have hf : s.f k = false := by
     cases hh : s.f k with
     | false => rfl
     | true => exact absurd (Or.inr hh) hb
   have hu := unseen_set hlt hf
   split
   · rename_i hl; exact ⟨.line k n s hn hf hl, by simp only; omega⟩
   rename_i l hl
   have h1 := rdF_ok (ns := ns) (m := m) (rt := n.l) (s := ⟨setF s.f k, s.c + 1, s.b⟩) (by simp only; omega)
   have hc := h1.1.mono
   simp only at h1 hc
   have h2 := rdF_ok (ns := ns) (m := m) (rt := n.r) (s := (rdF ns m n.l ⟨setF s.f k, s.c + 1, s.b⟩).2) (by omega)
   exact ⟨.node k n l s _ _ _ _ hn hf hl h1.1 h2.1, by have := h1.2; have := h2.2; dsimp only; omega⟩
def ofQ (ns : List RN) (rt : Int) : Option Tr :=
 let r := rdF ns (ns.length + 1) rt rs0
 if r.2.b = false ∧ r.2.c = ns.length then some r.1 else none
def ofR : Option Tr → DV
 | some t => .tp [eU t, vB true]
 | none => .tp [.v (.pointer none), vB false]
theorem unseen_le (n : Nat) (f : Nat → Bool) : unseen n f ≤ n := by
 unfold unseen
 refine Nat.le_trans (List.length_filter_le _ _) ?_
 rw [List.length_range]; exact Nat.le_refl _
theorem p_OfQ {GB : Gh} {ns : List RN} {rt : Int} (hs : ∀ n ∈ ns, n.g.sm) (hn : ns.length ≤ 65536) : PF GB Tryz.prog 63 [eRT rt ns] (ofR (ofQ ns rt)) := by
 have h := rdF_ok (ns := ns) (m := ns.length + 1) (rt := rt) (s := rs0) (by have := unseen_le ns.length rs0.f; omega)
 have hu := unseen_le ns.length rs0.f
 have h0 : rs0.c = 0 := rfl
 have h2 := p_Of (GB := GB) hs hn h.1 (by have := h.2; omega)
 unfold ofD at h2
 unfold ofQ
 simp only
 split
 · rename_i e; rw [if_pos e] at h2; exact h2
 · rename_i e; rw [if_neg e] at h2; exact h2
theorem RL.ln_some {r : RL} {l : LnQ} (h : r.ln = some l) : r.nm ∧ l.ok ∧ r.l = l := by
 unfold RL.ln at h
 split at h
 · rename_i e; cases h; exact ⟨e.1, e.2, rfl⟩
 · cases h
theorem RR.good {ns : List RN} (hs : ∀ n ∈ ns, n.g.sm) {rt : Int} {s s' : RS} {t : Tr} (h : RR ns rt s t s') : t.all LB ∧ t.all LnQ.ok ∧ (s'.b = false → s.b = false ∧ s'.c = s.c + t.size) := by
 induction h with
 | leaf => exact ⟨trivial, trivial, fun h => ⟨h, rfl⟩⟩
 | bad => exact ⟨trivial, trivial, fun h => by cases h⟩
 | line => exact ⟨trivial, trivial, fun h => by cases h⟩
 | node k n l s s2 s3 x y h hf hl h1 h2 i1 i2 =>
   obtain ⟨_, h3, rfl⟩ := RL.ln_some hl
   refine ⟨⟨RL.lb (hs n (List.mem_of_getElem? h)), i1.1, i2.1⟩, ⟨h3, i1.2.1, i2.2.1⟩, fun hb => ?_⟩
   obtain ⟨e1, e2⟩ := i2.2.2 hb
   obtain ⟨e3, e4⟩ := i1.2.2 e1
   simp only [Tr.size] at e3 e4 ⊢
   exact ⟨e3, by omega⟩
theorem ofQ_good {ns : List RN} {rt : Int} {t : Tr} (hs : ∀ n ∈ ns, n.g.sm) (h : ofQ ns rt = some t) : t.all LB ∧ t.all LnQ.ok ∧ t.size = ns.length := by
 have hr := rdF_ok (ns := ns) (m := ns.length + 1) (rt := rt) (s := rs0) (by have := unseen_le ns.length rs0.f; omega)
 have hg := hr.1.good hs
 unfold ofQ at h
 simp only at h
 split at h
 · rename_i e
   cases h
   refine ⟨hg.1, hg.2.1, ?_⟩
   have := (hg.2.2 e.1).2
   have h0 : rs0.c = 0 := rfl
   omega
 · cases h
end Go.Sx
end

section
set_option maxRecDepth 100000
namespace Go.Sx
open Go Go.Proofs Go.RowKit Go.Extern.Stop Go.Stop Go.Extern
theorem isTypeOf (v : Value) (w : World) : (Extern.ReflectliteType.typeOf #[.iface 309 v]).run Tryz.prog w = .ok (.iface 207 (.agg #[.pointer (some ⟨Tryz.prog.globals.size, 309, none⟩)])) w := by kernel_rfl
def cmpF : TypeId → Sem Value := fun t => do Go.Extern.Rtype.noPackHeld "Comparable" t; pure (.bool (← typeInfo t).comparable)
theorem isComparable (w : World) : ((Extern.ReflectliteType.method cmpF) #[.agg #[.pointer (some ⟨Tryz.prog.globals.size, 309, none⟩)]]).run Tryz.prog w = .ok (.bool true) w := by kernel_rfl
theorem isComp : (Tryz.prog.info? 309).map (·.comparable) = some true := by kernel_rfl
theorem isSize : (Tryz.prog.info? 334).map (·.size) = some 1 := by kernel_rfl
theorem isMethodComparable (n : Nat) (v : Value) (w : World) : (Go.method (n + 1) 207 v "Comparable").run Tryz.prog w = .ok (260, v) w := by
 kernel_rfl
theorem is_same (a : Addr) (w : World) : Calls Tryz.prog 24 #[.iface 309 (.pointer (some a)), .iface 309 (.pointer (some a))] w fun e w' => e = .returned (.bool true) ∧ w' = w := by
 obtain ⟨i, hi, hcmp⟩ := Option.map_eq_some_iff.1 isComp
 obtain ⟨j, hj, hjs⟩ := Option.map_eq_some_iff.1 isSize
 have h8 := @run_callFunc_extern Tryz.prog 68 _ Extern.ReflectliteType.typeOf Tryz.func68 (by kernel_rfl) (by kernel_rfl) (by kernel_rfl) (by kernel_rfl)
 have h32 := @run_callFunc_extern Tryz.prog 260 _ (Extern.ReflectliteType.method cmpF) Tryz.func260 (by kernel_rfl) (by kernel_rfl) (by kernel_rfl) (by kernel_rfl)
 have tT := isTypeOf
 have cT := isComparable
 obtain ⟨g, hg⟩ : ∃ g, g = Tryz.prog.globals.size := ⟨_, rfl⟩
 simp only [← hg] at tT cT
 clear hg
 have mR := isMethodComparable
 have heq := run_eql_iface_ptr_same (P := Tryz.prog) w a Tryz.underlying38 Tryz.underlying309 hi hcmp hj
 go_enter Tryz.func24, Tryz.ntmps24
 go_wp2
 refine wp_loop_rounds 1 ?_
 rw [rounds_succ]
 go_wp2
 go_ret
 exact ⟨rfl, rfl⟩
theorem call_Is : Callable Tryz.prog 24 := ⟨_, Tryz.func24, by kernel_rfl, by kernel_rfl⟩
def eErr (a : Addr) : DV := .v (.iface 309 (.pointer (some a)))
theorem p_IsS {GB : Gh} {a : Addr} : PF GB Tryz.prog 24 [eErr a, eErr a] (.v (.bool true)) := by
 intro G vs _ hv
 obtain ⟨v1, m, rfl, h1, hm⟩ := isl_cons.1 hv
 obtain ⟨v2, m, rfl, h2, hm⟩ := isl_cons.1 hm
 rw [isl_nil] at hm; subst hm
 cases is_v.1 h1; cases is_v.1 h2
 exact (Fn.of_calls call_Is (is_same a)).mono fun v G' _ h => is_v.2 h
end Go.Sx
end

section
set_option maxRecDepth 100000
namespace Go.Sx
open Go Go.Proofs
section
variable {GB : Gh} {C : Ctx} {n : Nat} {Q0 : Exit → Act → World → Prop} {fr fr' : FrX} {own own' : OwX} {cf cf' : Cf} {vc : List Prop}
def glA (fr : FrX) (cf : Cf) : Option Nat := match opC fr cf with
 | some ⟨_, .load t (.global g), _, _, _, _⟩ => (match lookT tt t with
   | some i => match i.ag with
     | some none => some g
     | _ => none
   | none => none)
 | _ => none
theorem gl [fu : Fu] {g : Nat} {v : Value} (h : glA fr cf = some g) (hg : GB g = some [v]) (hgo : goA tt n fu.n fr own cf (.d (.v v)) [] [] = ⟨vc, fr', own', cf'⟩) (k : CfS Tryz.prog GB C n Q0 fr' own' cf')
  (hv : allP vc := by first | exact trivial | (simp only [allP]; kernel_rfl) | (simp only [allP]; omega)) : CfS Tryz.prog GB C n Q0 fr own cf := by
 unfold glA at h
 split at h <;> try (cases h; done)
 rename_i hh
 split at h <;> try (cases h; done)
 rename_i i hT
 split at h <;> cases h
 rename_i ha
 haveI := ti_agS (tt_ok _ _ hT) ha
 refine us (f := .d (.v v)) hh (OpR.yd fun ρ G ov a w r => ⟨v, (is_v (G := G)).2 rfl, ?_⟩) hgo hv k
 haveI : GHas G g [v] := ⟨r.gb _ _ hg⟩
 exact yd_load_gh1 (b := g) (off := 0) rfl ghi rfl
theorem toDX_look {d : Nat} {f : FX} {x : DV} (hl : lookX fr d = some f) (e : toDX f = some x) {Φ : Act → World → Prop} (h : SX GB C n (lookX ((d, .d x) :: fr)) (lookO own) Φ) : SX GB C n (lookX fr) (lookO own) Φ := lookX_same (g := .d x) hl (fun _ _ _ k => toDX_is k e) h
theorem dvC (d : Nat) {f : FX} (x : DV) {c : Code} {K : List Kt} (hl : lookX fr d = some f) (e1 : toDX f = some x) (k : CfS Tryz.prog GB C n Q0 ((d, .d x) :: fr) own (.code c K)) : CfS Tryz.prog GB C n Q0 fr own (.code c K) := toDX_look hl e1 k
def bzA (fr : FrX) (cf : Cf) : Option (Nat × List FX) := match opC fr cf with
 | some ⟨some d, .build t ⟨[]⟩, _, _, _, _⟩ => match lookT tt t with
   | some ⟨.st _, _, some zx, _⟩ => some (d, zx)
   | _ => none
 | _ => none
end
end Go.Sx
end

section
set_option maxRecDepth 100000
namespace Go.Sx
open Go Go.Proofs
structure EG (GB : Gh) (ai al ae : Addr) : Prop where
 ErrInvalid : GB 1 = some [.iface 309 (.pointer (some ai))]
 ErrLimit : GB 2 = some [.iface 309 (.pointer (some al))]
 ErrEmpty : GB 0 = some [.iface 309 (.pointer (some ae))]
structure Tr.gd (t : Tr) : Prop where
 lb : t.all LB
 ok : t.all LnQ.ok
theorem Tr.restrict_size : ∀ (t : Tr) (c : CellQ), (t.restrict c).size ≤ t.size
 | .leaf _, _ => Nat.le_refl _
 | .node l x y, c => by
   rw [Tr.restrict]
   have hx := fun c => x.restrict_size c
   have hy := fun c => y.restrict_size c
   split
   · have := hx c; simp only [Tr.size]; omega
   · split
     · have := hy c; simp only [Tr.size]; omega
     · have h1 := hx (clipC c l)
       have h2 := hy (clipC c l.rev)
       rcases Tr.joinQ_cases l (x.restrict (clipC c l)) (y.restrict (clipC c l.rev)) with ⟨h, _⟩ | ⟨h, _⟩ <;> rw [h] <;> (try simp only [Tr.size]) <;> omega
theorem Tr.depth_size : ∀ t : Tr, t.depth ≤ t.size
 | .leaf _ => Nat.le_refl _
 | .node l x y => by
   have h1 := x.depth_size
   have h2 := y.depth_size
   simp only [Tr.depth, Tr.size]
   omega
def limQ (op : Int) (a b : Tr) : Option Tr := if 1024 < a.depth + b.depth then none else if 65536 < (a.mergeQ op b []).size then none else some (a.mergeQ op b [])
def limD (al : Addr) : Option Tr → DV
 | some t => .tp [eU t, .v .nilIface]
 | none => .tp [.v (.pointer none), eErr al]
def allQ (op : Int) : Tr → List Tr → Option Tr
 | t, [] => some t
 | t, u :: us => match limQ op t u with
   | none => none
   | some r => allQ op r us
theorem restrict_gd {t : Tr} (h : t.gd) (c : CellQ) : (t.restrict c).gd := ⟨t.restrict_all LB c h.lb, t.restrict_all LnQ.ok c h.ok⟩
theorem p_OfS {GB : Gh} {ns : List RN} {rt : Int} {t : Tr} (hs : ∀ n ∈ ns, n.g.sm) (hn : ns.length ≤ 65536) (h : ofQ ns rt = some t) : PF GB Tryz.prog 63 [eRT rt ns] (.tp [eU t, vB true]) := by
 have := p_OfQ (GB := GB) (rt := rt) hs hn; rw [h] at this; exact this
theorem p_OfN {GB : Gh} {ns : List RN} {rt : Int} (hs : ∀ n ∈ ns, n.g.sm) (hn : ns.length ≤ 65536) (h : ofQ ns rt = none) : PF GB Tryz.prog 63 [eRT rt ns] (.tp [.v (.pointer none), vB false]) := by
 have := p_OfQ (GB := GB) (rt := rt) hs hn; rw [h] at this; exact this
def trZ : DV := .ag [vI 0, .sl []]
def resD : Tr ⊕ Addr → DV
 | .inl t => .tp [eA t, .v .nilIface]
 | .inr e => .tp [trZ, eErr e]
def compX (ai : Addr) : Option Tr → Tr ⊕ Addr
 | some t => .inl t.compl
 | none => .inr ai
def limX (al : Addr) : Option Tr → Tr ⊕ Addr
 | some t => .inl t
 | none => .inr al
def mergeX (ai al : Addr) (op : Int) : Option Tr → Option Tr → Tr ⊕ Addr
 | some a, some b => if 1 ≤ op ∧ op ≤ 4 then limX al (limQ op a b) else .inr ai
 | _, _ => .inr ai
theorem ofQ_gd {ns : List RN} {rt : Int} {t : Tr} (hs : ∀ n ∈ ns, n.g.sm) (hn : ns.length ≤ 65536) (h : ofQ ns rt = some t) : t.gd ∧ t.size ≤ 65536 := by
 obtain ⟨h1, h2, h3⟩ := ofQ_good hs h
 exact ⟨⟨h1, h2⟩, by omega⟩
abbrev TIn := Int × List RN
def TIn.d (x : TIn) : DV := eRT x.1 x.2
def TIn.q (x : TIn) : Option Tr := ofQ x.2 x.1
def ofP : Option Tr → DV
 | some t => eU t
 | none => .v (.pointer none)
def goodK (op : Int) (ts : List TIn) : Bool := decide (1 ≤ op ∧ op ≤ 4) && ts.all fun x => x.q.isSome
def allX (ai al ae : Addr) (op : Int) (ts : List TIn) : Tr ⊕ Addr :=
 if goodK op ts then (match ts.filterMap TIn.q with
   | [] => .inr ae
   | a :: us => if 1024 < a.depth then .inr al else limX al (allQ op (a.restrict []) us)) else .inr ai
def ofPs (ts : List TIn) : List DV := ts.map fun x => ofP x.q
structure TIn.ok (x : TIn) : Prop where
 s : ∀ n ∈ x.2, n.g.sm
 n : x.2.length ≤ 65536
end Go.Sx
end

section
set_option maxRecDepth 100000
namespace Go.Sx
open Go Go.Proofs
def RN.of (n : NQ) : RN := ⟨⟨decide (n.l.a < 0), dg n.l.a.natAbs, decide (n.l.b < 0), dg n.l.b.natAbs, decide (n.l.c < 0), dg n.l.c.natAbs⟩, n.a, n.b⟩
theorem eN_of (ns : List NQ) : ns.map eN = (ns.map RN.of).map RN.d := by
 rw [List.map_map]; rfl
theorem eA_RT (t : Tr) : eA t = eRT (t.num 0) ((t.wr 0).map RN.of) := by
 unfold eA eRT
 rw [eN_of]; rfl
theorem ivalR_of (a : Int) : ivalR (decide (a < 0)) (dg a.natAbs) = a := by
 unfold ivalR
 rw [(dg_spec _).1]
 split
 · rename_i h; have := of_decide_eq_true h; omega
 · rename_i h; have : ¬ a < 0 := fun e => h (decide_eq_true e); omega
theorem NrmI_of (a : Int) : NrmI (decide (a < 0)) (dg a.natAbs) := ⟨(dg_spec _).2.2, fun h => dg_len0.2 (by have := of_decide_eq_true h; omega)⟩
theorem RN.of_l (n : NQ) : (RN.of n).g.l = n.l := by
 unfold RN.of RL.l
 simp only [ivalR_of]
theorem RN.of_ln {n : NQ} (h : n.l.ok) : (RN.of n).g.ln = some n.l := by
 unfold RL.ln
 rw [if_pos ⟨⟨NrmI_of _, NrmI_of _, NrmI_of _⟩, by rw [RN.of_l]; exact h⟩, RN.of_l]
theorem RN.of_sm {n : NQ} (h : LB n.l) : (RN.of n).g.sm := by
 have key : ∀ a : Int, a.natAbs < 2 ^ 96 → DOk (dg a.natAbs) ∧ (dg a.natAbs).length ≤ 3 := fun a ha => ⟨(dg_spec _).2.1, by have := dg_len_le ha; omega⟩
 exact ⟨key _ h.bl.a, key _ h.bl.b, key _ h.bl.c⟩
theorem leafCode_ne (b : Bool) (k : Nat) : leafCode b ≠ (k : Int) := by cases b <;> (unfold leafCode; simp)
theorem RR.det {ns : List RN} {rt : Int} {s s1 : RS} {t1 : Tr} (h : RR ns rt s t1 s1) : ∀ {s2 : RS} {t2 : Tr}, RR ns rt s t2 s2 → t1 = t2 ∧ s1 = s2 := by
 induction h with
 | leaf b s =>
   intro s2 t2 h
   generalize hr : leafCode b = r at h
   cases h with
   | leaf b' s =>
     have : b = b' := by cases b <;> cases b' <;> first | rfl | (simp [leafCode] at hr)
     subst this; exact ⟨rfl, rfl⟩
   | bad rt s h1 h2 h => cases b <;> simp [leafCode] at hr <;> omega
   | line k => exact absurd hr (leafCode_ne _ _)
   | node k => exact absurd hr (leafCode_ne _ _)
 | bad rt s h1 h2 h =>
   intro s2 t2 h'
   cases h' with
   | leaf b s => cases b <;> simp [leafCode] at h1 h2
   | bad => exact ⟨rfl, rfl⟩
   | line k n s hn hf => 
     have := (List.getElem?_eq_some_iff.1 hn).1
     rcases h with h | h | ⟨j, e, _, hj⟩
     · omega
     · omega
     · have : j = k := by omega
       subst this; rw [hf] at hj; cases hj
   | node k n l s s2 s3 x y hn hf =>
     have := (List.getElem?_eq_some_iff.1 hn).1
     rcases h with h | h | ⟨j, e, _, hj⟩
     · omega
     · omega
     · have : j = k := by omega
       subst this; rw [hf] at hj; cases hj
 | line k n s hn hf hl =>
   intro s2 t2 h'
   generalize hr : (k : Int) = r at h'
   cases h' with
   | leaf b s => exact absurd hr.symm (leafCode_ne _ _)
   | bad rt s h1 h2 h =>
     have := (List.getElem?_eq_some_iff.1 hn).1
     rcases h with h | h | ⟨j, e, _, hj⟩
     · omega
     · omega
     · have : j = k := by omega
       subst this; rw [hf] at hj; cases hj
   | line k' n' s hn' hf' hl' =>
     have : k = k' := by omega
     subst this; exact ⟨rfl, rfl⟩
   | node k' n' l s s2 s3 x y hn' hf' hl' =>
     have : k = k' := by omega
     subst this; rw [hn] at hn'; cases hn'; rw [hl] at hl'; cases hl'
 | node k n l s s2 s3 x y hn hf hl h1 h2 i1 i2 =>
   intro s4 t4 h'
   generalize hr : (k : Int) = r at h'
   cases h' with
   | leaf b s => exact absurd hr.symm (leafCode_ne _ _)
   | bad rt s h1 h2 h =>
     have := (List.getElem?_eq_some_iff.1 hn).1
     rcases h with h | h | ⟨j, e, _, hj⟩
     · omega
     · omega
     · have : j = k := by omega
       subst this; rw [hf] at hj; cases hj
   | line k' n' s hn' hf' hl' =>
     have : k = k' := by omega
     subst this; rw [hn] at hn'; cases hn'; rw [hl] at hl'; cases hl'
   | node k' n' l' s s2' s3' x' y' hn' hf' hl' h1' h2' =>
     have : k = k' := by omega
     subst this; rw [hn] at hn'; cases hn'; rw [hl] at hl'; cases hl'
     obtain ⟨rfl, rfl⟩ := i1 h1'
     obtain ⟨rfl, rfl⟩ := i2 h2'
     exact ⟨rfl, rfl⟩
def RT' (ns : List NQ) : Tr → Int → List Nat → Prop
 | .leaf b, rt, L => rt = leafCode b ∧ L = []
 | .node l x y, rt, L => ∃ (k : Nat) (a b : Int) (L1 L2 : List Nat), rt = (k : Int) ∧ ns[k]? = some ⟨l, a, b⟩ ∧ RT' ns x a L1 ∧ RT' ns y b L2 ∧ L = k :: (L1 ++ L2)
theorem RT'.rr {ns : List NQ} : ∀ {t : Tr} {rt : Int} {L : List Nat} {s : RS}, RT' ns t rt L → t.all LnQ.ok → L.Nodup → (∀ j ∈ L, s.f j = false) → ∃ f, RR (ns.map RN.of) rt s t ⟨f, s.c + t.size, s.b⟩ ∧ ∀ j, j ∉ L → f j = s.f j
 | .leaf b, rt, L, s, ⟨e, e2⟩, _, _, _ => by
   subst e e2
   exact ⟨s.f, .leaf b s, fun _ _ => rfl⟩
 | .node l x y, rt, L, s, ⟨k, a, b, L1, L2, e, hk, hx, hy, e2⟩, ⟨h0, h1, h2⟩, hnd, hf => by
   subst e e2
   obtain ⟨hkn, hnd⟩ := List.nodup_cons.1 hnd
   obtain ⟨hd1, hd2, hdis⟩ := List.nodup_append.1 hnd
   have hfk := hf k List.mem_cons_self
   have hn1 : ∀ j ∈ L1, j ≠ k := fun j hj e => hkn (e ▸ List.mem_append_left _ hj)
   have hn2 : ∀ j ∈ L2, j ≠ k := fun j hj e => hkn (e ▸ List.mem_append_right _ hj)
   obtain ⟨f1, r1, g1⟩ := RT'.rr (s := ⟨setF s.f k, s.c + 1, s.b⟩) hx h1 hd1 (fun j hj => by simp only; rw [setF_ne (hn1 j hj)]; exact hf j (List.mem_cons_of_mem _ (List.mem_append_left _ hj)))
   simp only at r1 g1
   obtain ⟨f2, r2, g2⟩ := RT'.rr (s := ⟨f1, s.c + 1 + x.size, s.b⟩) hy h2 hd2 (fun j hj => by
     simp only
     rw [g1 j (fun h => hdis _ h _ hj rfl), setF_ne (hn2 j hj)]
     exact hf j (List.mem_cons_of_mem _ (List.mem_append_right _ hj)))
   simp only at r2 g2
   have hc : s.c + (Tr.node l x y).size = s.c + 1 + x.size + y.size := by simp only [Tr.size]; omega
   rw [hc]
   refine ⟨f2, .node k (RN.of ⟨l, a, b⟩) l s _ _ x y (by rw [List.getElem?_map, hk]; rfl) hfk (RN.of_ln h0) r1 r2, fun j hj => ?_⟩
   simp only [List.mem_cons, List.mem_append, not_or] at hj
   rw [g2 j hj.2.2, g1 j hj.2.1, setF_ne hj.1]
theorem RT'.len {ns : List NQ} : ∀ {t : Tr} {rt : Int} {L : List Nat}, RT' ns t rt L → L.length = t.size
 | .leaf _, _, _, ⟨_, h⟩ => by rw [h]; rfl
 | .node l x y, _, _, ⟨k, a, b, L1, L2, _, _, h1, h2, h⟩ => by
   rw [h, List.length_cons, List.length_append, RT'.len h1, RT'.len h2]
   simp only [Tr.size]
   omega
def RD' (ns : List NQ) (t : Tr) (rt : Int) : Prop := ∃ L, RT' ns t rt L ∧ L.Nodup ∧ L.length = ns.length
theorem ofQ_RD {ns : List NQ} {t : Tr} {rt : Int} (h : RD' ns t rt) (ho : t.all LnQ.ok) : ofQ (ns.map RN.of) rt = some t := by
 obtain ⟨L, h1, h2, h3⟩ := h
 obtain ⟨f, r, _⟩ := h1.rr (s := rs0) ho h2 (fun _ _ => rfl)
 have hr := rdF_ok (ns := ns.map RN.of) (m := (ns.map RN.of).length + 1) (rt := rt) (s := rs0) (by have := unseen_le (ns.map RN.of).length rs0.f; omega)
 obtain ⟨e1, e2⟩ := hr.1.det r
 unfold ofQ
 simp only
 rw [e2, e1, if_pos ⟨rfl, by show rs0.c + t.size = _; rw [List.length_map, ← h3, h1.len]; show 0 + _ = _; omega⟩]
theorem wr_RT {ns : List NQ} : ∀ {t : Tr} {n : Nat}, (∀ i, i < t.size → ns[n + i]? = (t.wr n)[i]?) → RT' ns t (t.num n) (List.range' n t.size)
 | .leaf b, n, _ => ⟨rfl, rfl⟩
 | .node l x y, n, h => by
   have hsz : (Tr.node l x y).size = 1 + x.size + y.size := rfl
   have hw : (Tr.node l x y).wr n = ⟨l, x.num (n + 1), y.num (n + 1 + x.size)⟩ :: (x.wr (n + 1) ++ y.wr (n + 1 + x.size)) := by simp [Tr.wr]
   have hx := x.wr_len (n + 1)
   have hy := y.wr_len (n + 1 + x.size)
   refine ⟨n, x.num (n + 1), y.num (n + 1 + x.size), List.range' (n + 1) x.size, List.range' (n + 1 + x.size) y.size, rfl, ?_, wr_RT fun i hi => ?_, wr_RT fun i hi => ?_, ?_⟩
   · have := h 0 (by omega)
     rw [hw, Nat.add_zero] at this
     rw [this]; rfl
   · have := h (1 + i) (by omega)
     rw [hw, Nat.add_comm 1 i, List.getElem?_cons_succ, List.getElem?_append_left (by omega)] at this
     rw [show n + 1 + i = n + (i + 1) by omega]; exact this
   · have := h (1 + x.size + i) (by omega)
     rw [hw, show 1 + x.size + i = (x.size + i) + 1 by omega, List.getElem?_cons_succ, List.getElem?_append_right (by omega), hx, Nat.add_sub_cancel_left] at this
     rw [show n + 1 + x.size + i = n + (x.size + i + 1) by omega]; exact this
   · rw [hsz, show 1 + x.size + y.size = (x.size + y.size) + 1 by omega, List.range'_succ, List.range'_append_1]
theorem ofQ_wr {t : Tr} (ho : t.all LnQ.ok) : ofQ ((t.wr 0).map RN.of) (t.num 0) = some t :=
 ofQ_RD ⟨_, wr_RT (n := 0) (fun i _ => by rw [Nat.zero_add]), List.nodup_range', by rw [List.length_range', t.wr_len]⟩ ho
theorem wr_sm {t : Tr} (hb : t.all LB) : ∀ n ∈ (t.wr 0).map RN.of, n.g.sm := fun n hn => by
 obtain ⟨m, hm, rfl⟩ := List.mem_map.1 hn
 exact RN.of_sm (Tr.all_wr 0 hb m hm)
end Go.Sx
end

section
set_option maxRecDepth 100000
namespace Go.Sx
open Go Go.Proofs
theorem q_ToN {GB : Gh} {a i : Nat} [ha : BN a i] (hi : i ≤ 400000000 := by decide) : PF GB Tryz.prog 109 [dN a] (dN a) := by
 have hl := mapU_len (dg a)
 have hb := dg_len_le ha.h
 refine fn Tryz.func109 rfl rfl Tryz.ntmps109 rfl rfl (fun C => ?_)
 refine ro0 rfl rfl <| ap ((dg a).map dU) rfl rfl (slOkU _) rfl <| ?_
 refine fzE 5 rfl ?_
 exact rz rfl rfl
theorem q_ToI {GB : Gh} {z : Int} {i : Nat} [hz : BI z i] (hi : i ≤ 400000000 := by decide) : PF GB Tryz.prog 51 [eI z] (eI z) := by
 refine fn Tryz.func51 rfl rfl Tryz.ntmps51 rfl rfl (fun C => ?_)
 refine cl rfl (q_ToN (a := z.natAbs) (i := i) (ha := ⟨hz.h⟩) hi) rfl <| ?_
 exact rz rfl rfl
theorem q_ToL {GB : Gh} {l : LnQ} (hl : BL l 96) : PF GB Tryz.prog 14 [eL l] (eL l) := by
 haveI h1 : BI l.a 96 := ⟨hl.a⟩
 haveI h2 : BI l.b 96 := ⟨hl.b⟩
 haveI h3 : BI l.c 96 := ⟨hl.c⟩
 refine fn Tryz.func14 rfl rfl Tryz.ntmps14 rfl rfl (fun C => ?_)
 refine cl rfl (q_ToI (z := l.a)) rfl <| cl rfl (q_ToI (z := l.b)) rfl <| cl rfl (q_ToI (z := l.c)) rfl <| ?_
 exact rz rfl rfl
end Go.Sx
end

section
set_option maxRecDepth 100000
namespace Go.Sx
open Go Go.Proofs
theorem nrm_last {ds : List Nat} {d : Nat} (h : ds[ds.length - 1]? = some d) : Nrm ds ↔ ¬ ((d : Int) = 0) := by
 unfold Nrm
 rw [List.getLast?_eq_getElem?, h]
 simp
theorem q_NormalN {GB : Gh} {ds : List Nat} (hn : ds.length ≤ 1000000) : PF GB Tryz.prog 118 [dLi ds] (vB (decide (Nrm ds))) := by
 have hm := mapU_len ds
 refine fn (fu := ⟨9⟩) Tryz.func118 rfl rfl Tryz.ntmps118 rfl rfl (fun C => ?_)
 refine eqF 4 (.d (vI (ds.length : Nat))) rfl (by rw [hm] <;> rfl) ?_
 refine gx (fu := ⟨0⟩) rfl <| ?_
 refine csS (fu2 := ⟨4⟩) rfl rfl rfl rfl (fun hg5 => ?_) (fun hg5 => ?_)
 ·
  exact rz rfl (by obtain rfl : ds = [] := List.eq_nil_of_length_eq_zero (by omega); show DV.v (.bool _) = .v (.bool _); congr 2 <;> exact (decide_eq_true (by intro h; cases h)).symm)
 ·
  obtain ⟨d, hd⟩ : ∃ d, ds[ds.length - 1]? = some d := ⟨_, List.getElem?_eq_getElem (by omega)⟩
  refine eqF 9 (.d (vI (ds.length : Nat))) rfl (by rw [hm] <;> rfl) ?_
  refine gx rfl <| ix _ rfl (by rw [show (((ds.length : Nat) : Int) - 1).toNat = ds.length - 1 by omega, List.getElem?_map, hd]; rfl) rfl <| ?_
  exact rz rfl (by show DV.v (.bool _) = .v (.bool _); congr 2; exact decide_eq_decide.2 (nrm_last hd).symm)
theorem q_NormalI {GB : Gh} {neg : Bool} {ds : List Nat} (hn : ds.length ≤ 1000000) : PF GB Tryz.prog 71 [.ag [.v (.bool neg), dLi ds]] (vB (decide (NrmI neg ds))) := by
 have hm := mapU_len ds
 refine fn Tryz.func71 rfl rfl Tryz.ntmps71 rfl rfl (fun C => ?_)
 by_cases hN : Nrm ds
 ·
  refine cl (fu := ⟨0⟩) rfl (q_NormalN hn) rfl <| ?_
  refine eqF 5 (.d (vB true)) rfl (by rw [decide_eq_true hN]) ?_
  refine kbT 5 rfl ?_
  refine gx rfl <| ?_
  refine csb (fu2 := ⟨3⟩) 10 rfl rfl rfl (fun hg10 => ?_) (fun hg10 => ?_)
  ·
   exact rz rfl (by show DV.v (.bool _) = .v (.bool _); congr 2; unfold NrmI; simp_all)
  ·
   refine eqF 13 (.d (vI (ds.length : Nat))) rfl (by rw [hm] <;> rfl) ?_
   refine gx rfl <| ?_
   exact rz rfl (by show DV.v (.bool _) = .v (.bool _); congr 2; unfold NrmI; simp_all)
 ·
  refine cl (fu := ⟨0⟩) rfl (q_NormalN hn) rfl <| ?_
  refine eqF 5 (.d (vB false)) rfl (by rw [decide_eq_false hN]) ?_
  refine kbF 5 rfl ?_
  refine gx rfl <| ?_
  exact rz rfl (by show DV.v (.bool _) = .v (.bool _); congr 2; unfold NrmI; simp_all)
theorem q_RN {GB : Gh} {ds : List Nat} (hd : DOk ds) (hn : ds.length ≤ 1000000) : PF GB Tryz.prog 119 [dLi ds] (dN (dv ds)) := by
 have hm := mapU_len ds
 refine fn Tryz.func119 rfl rfl Tryz.ntmps119 rfl rfl (fun C => ?_)
 refine ro0 rfl rfl <| ap (ds.map dU) rfl rfl (slOkU _) rfl <| fz 5 rfl rfl <| cl rfl (q_Trim (ds := ds) (by omega)) rfl <| ?_
 exact rz rfl (by unfold dN; rw [dg_trim hd]; rfl)
theorem q_RI {GB : Gh} {neg : Bool} {ds : List Nat} (hd : DOk ds) (hn : ds.length ≤ 1000000) : PF GB Tryz.prog 72 [.ag [.v (.bool neg), dLi ds]] (eI (ivalR neg ds)) := by
 refine fn Tryz.func72 rfl rfl Tryz.ntmps72 rfl rfl (fun C => ?_)
 refine cl rfl (q_RN hd hn) rfl <| cl rfl q_Make rfl <| ?_
 exact rz rfl rfl
def rlD (r : RL) : DV := .tp [if r.nm then eL r.l else .ag [.v (.bool false), .sl [], .v (.bool false), .sl [], .v (.bool false), .sl []], vB (decide (r.nm ∧ r.l.ok))]
theorem cmpN_z {a b : Nat} (h : cmpN a b = 0) : a = b := by
 unfold cmpN at h
 split at h
 · cases h
 · split at h
   · assumption
   · cases h
theorem okB {l : LnQ} : l.ok ↔ 0 < Nat.gcd l.a.natAbs l.b.natAbs ∧ Nat.gcd (Nat.gcd l.a.natAbs l.b.natAbs) l.c.natAbs = 1 := by
 unfold LnQ.ok
 refine and_congr ?_ Iff.rfl
 rw [Nat.pos_iff_ne_zero, ne_eq, Nat.gcd_eq_zero_iff]
 simp only [Int.natAbs_eq_zero]
theorem q_LnR1 {GB : Gh} {r : RL} (s : r.sm) (h : ¬ NrmI r.na r.da) : PF GB Tryz.prog 27 [r.d] (rlD r) := by
 refine fn Tryz.func27 rfl rfl Tryz.ntmps27 rfl rfl (fun C => ?_)
 refine cl (fu := ⟨0⟩) rfl (q_NormalI (neg := r.na) (ds := r.da) (by have := s.a.2; omega)) rfl <| knT rfl (by show some (!decide _) = some true; rw [decide_eq_false h]; rfl) rfl <| ?_
 exact rz rfl (by unfold rlD; rw [if_neg (fun e => h e.1), show decide (r.nm ∧ r.l.ok) = false from decide_eq_false (fun e => (fun e => h e.1) e.1)]; rfl)
theorem q_LnR2 {GB : Gh} {r : RL} (s : r.sm) (h1 : NrmI r.na r.da) (h : ¬ NrmI r.nb r.db) : PF GB Tryz.prog 27 [r.d] (rlD r) := by
 refine fn Tryz.func27 rfl rfl Tryz.ntmps27 rfl rfl (fun C => ?_)
 refine cl (fu := ⟨0⟩) rfl (q_NormalI (neg := r.na) (ds := r.da) (by have := s.a.2; omega)) rfl <| knF rfl (by show some (!decide _) = some false; rw [decide_eq_true h1]; rfl) rfl <| ?_
 refine cl (fu := ⟨0⟩) rfl (q_NormalI (neg := r.nb) (ds := r.db) (by have := s.b.2; omega)) rfl <| knT rfl (by show some (!decide _) = some true; rw [decide_eq_false h]; rfl) rfl <| ?_
 exact rz rfl (by unfold rlD; rw [if_neg (fun e => h e.2.1), show decide (r.nm ∧ r.l.ok) = false from decide_eq_false (fun e => (fun e => h e.2.1) e.1)]; rfl)
theorem q_LnR3 {GB : Gh} {r : RL} (s : r.sm) (h1 : NrmI r.na r.da) (h2 : NrmI r.nb r.db) (h : ¬ NrmI r.nc r.dc) : PF GB Tryz.prog 27 [r.d] (rlD r) := by
 refine fn Tryz.func27 rfl rfl Tryz.ntmps27 rfl rfl (fun C => ?_)
 refine cl (fu := ⟨0⟩) rfl (q_NormalI (neg := r.na) (ds := r.da) (by have := s.a.2; omega)) rfl <| knF rfl (by show some (!decide _) = some false; rw [decide_eq_true h1]; rfl) rfl <| ?_
 refine cl (fu := ⟨0⟩) rfl (q_NormalI (neg := r.nb) (ds := r.db) (by have := s.b.2; omega)) rfl <| knF rfl (by show some (!decide _) = some false; rw [decide_eq_true h2]; rfl) rfl <| ?_
 refine cl (fu := ⟨0⟩) rfl (q_NormalI (neg := r.nc) (ds := r.dc) (by have := s.c.2; omega)) rfl <| knT rfl (by show some (!decide _) = some true; rw [decide_eq_false h]; rfl) rfl <| ?_
 exact rz rfl (by unfold rlD; rw [if_neg (fun e => h e.2.2), show decide (r.nm ∧ r.l.ok) = false from decide_eq_false (fun e => (fun e => h e.2.2) e.1)]; rfl)
set_option maxHeartbeats 1000000 in
theorem q_LnR4 {GB : Gh} {r : RL} (s : r.sm) (h : r.nm) : PF GB Tryz.prog 27 [r.d] (rlD r) := by
 haveI := RL.lb s
 haveI ba : BN r.l.a.natAbs 96 := ⟨(LB.a r.l).h⟩
 haveI bb' : BN r.l.b.natAbs 96 := ⟨(LB.b r.l).h⟩
 haveI bc : BN r.l.c.natAbs 96 := ⟨(LB.c r.l).h⟩
 obtain ⟨g, hg⟩ : ∃ g, g = Nat.gcd r.l.a.natAbs r.l.b.natAbs := ⟨_, rfl⟩
 haveI bg : BN g 96 := hg ▸ ⟨gcd_lt ba.h bb'.h⟩
 have bgc := gcd_lt bg.h bc.h
 have hgl := dg_len_le bg.h
 refine fn Tryz.func27 rfl rfl Tryz.ntmps27 rfl rfl (fun C => ?_)
 refine cl (fu := ⟨0⟩) rfl (q_NormalI (neg := r.na) (ds := r.da) (by have := s.a.2; omega)) rfl <| knF rfl (by show some (!decide _) = some false; rw [decide_eq_true h.1]; rfl) rfl <| ?_
 refine cl (fu := ⟨0⟩) rfl (q_NormalI (neg := r.nb) (ds := r.db) (by have := s.b.2; omega)) rfl <| knF rfl (by show some (!decide _) = some false; rw [decide_eq_true h.2.1]; rfl) rfl <| ?_
 refine cl (fu := ⟨0⟩) rfl (q_NormalI (neg := r.nc) (ds := r.dc) (by have := s.c.2; omega)) rfl <| knF rfl (by show some (!decide _) = some false; rw [decide_eq_true h.2.2]; rfl) rfl <| ?_
 refine cl rfl (q_RI (neg := r.na) (ds := r.da) s.a.1 (by have := s.a.2; omega)) rfl <| cl rfl (q_RI (neg := r.nb) (ds := r.db) s.b.1 (by have := s.b.2; omega)) rfl <| ?_
 refine cl rfl (q_RI (neg := r.nc) (ds := r.dc) s.c.1 (by have := s.c.2; omega)) rfl <| cl (fu := ⟨0⟩) rfl (q_Common (a := r.l.a.natAbs) (b := r.l.b.natAbs)) rfl <| ?_
 refine eqF 39 (.d (dN g)) rfl (by rw [hg]) ?_
 refine gx (fu := ⟨8⟩) rfl <| ?_
 refine eqF 42 (.d (vI ((dg g).length : Nat))) rfl (by rw [mapU_len] <;> rfl) ?_
 refine gx (fu := ⟨0⟩) rfl <| ?_
 refine csS (v2 := fun hg43 => by simp only [allP]; kernel_rfl) rfl rfl rfl rfl (fun hg43 => ?_) (fun hg43 => ?_)
 ·
  refine cl rfl (q_Common (a := g) (b := r.l.c.natAbs)) rfl <| cl rfl q_One rfl <| cl rfl (q_Cmp (a := Nat.gcd g r.l.c.natAbs) (b := 1) (by have := dg_len_le bgc; omega) (by have := dg_len_le (show 1 < 2 ^ 32 by decide); omega)) rfl <| ?_
  exact rz rfl (by unfold rlD; rw [if_pos h, show decide (r.nm ∧ r.l.ok) = decide (cmpN (Nat.gcd g r.l.c.natAbs) 1 = 0) from decide_eq_decide.2 ⟨fun e => cmpN_eq (by rw [hg]; exact (okB.1 e.2).2), fun e => ⟨h, okB.2 ⟨by rw [← hg]; exact dg_len0.1 (by omega), by rw [← hg]; exact cmpN_z e⟩⟩⟩]; rfl)
 ·
  exact rz rfl (by unfold rlD; rw [if_pos h, show decide (r.nm ∧ r.l.ok) = false from decide_eq_false fun e => by (have h1 := (okB.1 e.2).1; rw [← hg] at h1; have := dg_len0.2 h1; omega)]; rfl)
theorem q_Ln {GB : Gh} {r : RL} (s : r.sm) : PF GB Tryz.prog 27 [r.d] (rlD r) := by
 by_cases h1 : NrmI r.na r.da
 · by_cases h2 : NrmI r.nb r.db
   · by_cases h3 : NrmI r.nc r.dc
     · exact q_LnR4 s ⟨h1, h2, h3⟩
     · exact q_LnR3 s h1 h2 h3
   · exact q_LnR2 s h1 h2
 · exact q_LnR1 s h1
def smB (n : Int) (ls : List (List Nat)) : Bool := ls.all fun d => decide ((d.length : Int) ≤ n)
theorem smB_dr {n : Int} {ls : List (List Nat)} {k : Nat} {d : List Nat} (h : ls[k]? = some d) : smB n (ls.drop k) = (decide ((d.length : Int) ≤ n) && smB n (ls.drop (k + 1))) := by
 rw [drop_getS h]; rfl
def RL.smB (n : Int) (r : RL) : Bool := Sx.smB n [r.da, r.db, r.dc]
def rlB (n : Int) (ls : List RL) : Bool := ls.all fun r => r.smB n
theorem rlB_dr {n : Int} {ls : List RL} {k : Nat} {r : RL} (h : ls[k]? = some r) : rlB n (ls.drop k) = (r.smB n && rlB n (ls.drop (k + 1))) := by
 rw [drop_getS h]; rfl
theorem q_Small {GB : Gh} {n : Int} {ls : List (List Nat)} (hn : ls.length ≤ 1000000) : PF GB Tryz.prog 70 [vI n, .sl (ls.map dLi)] (vB (smB n ls)) := by
 have hm := map_len dLi ls
 refine fn (fu := ⟨10⟩) Tryz.func70 rfl rfl Tryz.ntmps70 rfl rfl (fun C => ?_)
 refine eqF 8 (.d (vI (ls.length : Nat))) rfl (by rw [hm] <;> rfl) ?_
 refine gx rfl <| ?_
 refine lp (X := Nat) (fun k => [(9, .d (vI (k : Nat)))]) (fun k => []) (fun k => k ≤ ls.length ∧ smB n (ls.drop k) = smB n ls) (fun k => ls.length - k) 0 rfl ⟨Nat.zero_le _, rfl⟩ (fun _ => rfl) (fun k hk => ?_)
 obtain ⟨h1, h2⟩ := hk
 refine br rfl rfl rfl (fun hc10 => ?_) (fun hc10 => ?_)
 ·
  obtain ⟨d, hd0⟩ : ∃ s, ls[k]? = some s := ⟨_, List.getElem?_eq_getElem (by omega)⟩
  refine ix (fu := ⟨8⟩) _ rfl (map_getS hd0) rfl <| ?_
  refine eqF 14 (.d (vI (d.length : Nat))) rfl (by rw [mapU_len] <;> rfl) ?_
  refine gx rfl <| ?_
  refine br rfl rfl rfl (fun hc16 => ?_) (fun hc16 => ?_)
  ·
   exact rz rfl (by rw [← h2, smB_dr hd0, decide_eq_false (by omega), Bool.false_and]; rfl)
  ·
   exact at_ (k + 1) ⟨⟨by omega, by rw [← h2, smB_dr hd0, decide_eq_true (by omega), Bool.true_and]⟩, (by omega)⟩
 ·
  exact rz rfl (by rw [← h2, List.drop_of_length_le (by omega)]; rfl)
theorem q_SmallL {GB : Gh} {n : Int} {ls : List RL} (hn : ls.length ≤ 1000000) : PF GB Tryz.prog 25 [vI n, .sl (ls.map RL.d)] (vB (rlB n ls)) := by
 have hm := map_len RL.d ls
 refine fn (fu := ⟨10⟩) Tryz.func25 rfl rfl Tryz.ntmps25 rfl rfl (fun C => ?_)
 refine eqF 8 (.d (vI (ls.length : Nat))) rfl (by rw [hm] <;> rfl) ?_
 refine gx rfl <| ?_
 refine lp (X := Nat) (fun k => [(9, .d (vI (k : Nat)))]) (fun k => []) (fun k => k ≤ ls.length ∧ rlB n (ls.drop k) = rlB n ls) (fun k => ls.length - k) 0 rfl ⟨Nat.zero_le _, rfl⟩ (fun _ => rfl) (fun k hk => ?_)
 obtain ⟨h1, h2⟩ := hk
 refine br rfl rfl rfl (fun hc10 => ?_) (fun hc10 => ?_)
 ·
  obtain ⟨r, hr0⟩ : ∃ s, ls[k]? = some s := ⟨_, List.getElem?_eq_getElem (by omega)⟩
  refine ix _ rfl (map_getS hr0) rfl <| rf rfl rfl <| cl rfl (q_Small (n := n) (ls := [r.da, r.db, r.dc]) (by simp)) rfl <| ?_
  refine bb rfl rfl rfl (fun hc25 => ?_) (fun hc25 => ?_)
  ·
   exact rz rfl (by rw [← h2, rlB_dr hr0, show r.smB n = false by unfold RL.smB; simpa using hc25, Bool.false_and]; rfl)
  ·
   exact at_ (k + 1) ⟨⟨by omega, by rw [← h2, rlB_dr hr0, show r.smB n = true by unfold RL.smB; simpa using hc25, Bool.true_and]⟩, (by omega)⟩
 ·
  exact rz rfl (by rw [← h2, List.drop_of_length_le (by omega)]; rfl)
end Go.Sx
end
