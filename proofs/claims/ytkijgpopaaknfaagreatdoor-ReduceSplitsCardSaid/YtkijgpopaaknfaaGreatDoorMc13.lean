/-
  Reference: products; rational numbers that are integers; points. Reference: lines through points; points and lines from the tape. Reference: points, vectors, lines and trees from the tape. Reference: trees from the tape; trees written for package api. Trees, nodes and lines as deep values; bridges to what was shown before. Reference: trees written for package api.
-/
import Derived.Test.YtkijgpopaaknfaaGreatDoorMc12
set_option linter.unusedSimpArgs false
set_option linter.unusedVariables false
section
set_option maxRecDepth 100000
namespace Go.Sx
open Go Go.Proofs
set_option maxHeartbeats 2000000 in
theorem num_Product {A B G : Gh} {x y : SV} {u w : Nat} (hx : IsN 32 A x u) (hy : IsN 32 B y w) [GL A G] [GL B G] (hs : u * w < 4294967296) : Fn Tryz.prog 91 [.slice x.a x.n x.c, .slice y.a y.n y.c] G (fun v G' => ∃ z : SV, v = .slice z.a z.n z.c ∧ IsN 32 G' z (u * w)) := by
 have hxl := hx.lt
 have hyl := hy.lt
 obtain ⟨xa, xn, xc⟩ := x
 obtain ⟨ya, yn, yc⟩ := y
 by_cases hu : u = 0 <;> by_cases hw : w = 0
 · subst hu
   subst hw
   have hx1 := hx.zero
   have hy1 := hy.zero
   have hl1 : xn = 0 := hx1.len
   have hl2 : yn = 0 := hy1.len
   subst hl1 hl2
   show Fn _ _ [.slice xa 0 xc, .slice ya 0 yc] _ _
   refine Fn.intro Tryz.func91 rfl rfl Tryz.ntmps91 rfl ?_
   intro C _ _
   refine sR <| sa rfl rfl <| st_end <| st_seq <| sR <| sm rfl rfl <| slen rfl rfl <| sy (yd_eql rfl rfl) rfl <| sm rfl rfl <| ss rfl rfl rfl rfl <| ss rfl rfl rfl rfl <| ?_
   refine ss rfl rfl rfl rfl <| sy (yd_pickF rfl rfl) rfl <| st_end <| st_condF rfl <| st_skipc <| sR <| sm rfl rfl <| slen rfl rfl <| sm rfl rfl <| slen rfl rfl <| sy (yd_add64 rfl rfl) rfl <| ?_
   refine sc (ch_make rfl rfl (by omega) (by omega) (by omega) (by rfl) rfl ?_)
   intro b1
   refine sa rfl rfl <| st_end <| st_seq <| sR <| sm rfl rfl <| slen rfl rfl <| sm rfl rfl <| st_end <| st_block <| ?_
   refine st_loop (X := Unit) (fun _ => [(38, .int .i64 0), (37, .int .i64 0), (36, .slice xa 0 xc), (1, .slice ya 0 yc), (5, .slice (some ⟨b1, 0, none⟩) 0 0)]) (fun _ => [⟨b1, [], 224, true⟩]) (fun _ _ => True) (fun _ => 0) () trivial (.cons rfl (.cons rfl (.cons rfl (.cons rfl (.cons rfl (.nil)))))) rfl ?_
   rintro _ Gx _ _
   refine sR <| sy (yd_lss rfl rfl) rfl <| st_end <| st_seq <| st_condF rfl <| st_exit <| st_te <| st_te <| st_inBlock_eq <| sR <| sm rfl rfl <| ?_
   refine st_freeze b1 (.hd ..) (fun G1 _ hgb => ?_)
   have hd : IsD G1 ⟨some ⟨b1, 0, none⟩, ([] : List Nat).length, 0⟩ [] := .of_block (by intro d hd; first | (simp at hd; done) | (simp at hd; omega)) hgb.h rfl (Nat.le_refl _) rfl
   refine sc (ch_call rfl rfl (num_Trim hd (by simp)) rfl ?_)
   rintro _ G2 _ rfl
   refine sa rfl rfl <| st_end <| st_ret <| ?_
   have h9 := IsN.of_trim (k := 32) (hd.up (G := G2)) (by first | (simp [dv]; done) | (simp [dv]; omega))
   have e9 : dv [] = (0) := by simp [dv]
   rw [e9] at h9
   have e0 : 0 * 0 = 0 := by simp
   rw [e0]
   exact st_done (.tmp rfl .nil) ⟨⟨some ⟨b1, 0, none⟩, (trimD []).length, 0⟩, rfl, h9⟩
 · subst hu
   have hy1 := hy.small hw
   have hx1 := hx.zero
   have hl1 : xn = 0 := hx1.len
   have hl2 : yn = 1 := hy1.len
   subst hl1 hl2
   show Fn _ _ [.slice xa 0 xc, .slice ya 1 yc] _ _
   refine Fn.intro Tryz.func91 rfl rfl Tryz.ntmps91 rfl ?_
   intro C _ _
   refine sR <| sa rfl rfl <| st_end <| st_seq <| sR <| sm rfl rfl <| slen rfl rfl <| sy (yd_eql rfl rfl) rfl <| sm rfl rfl <| ss rfl rfl rfl rfl <| ss rfl rfl rfl rfl <| ?_
   refine ss rfl rfl rfl rfl <| sy (yd_pickF rfl rfl) rfl <| st_end <| st_condF rfl <| st_skipc <| sR <| sm rfl rfl <| slen rfl rfl <| sm rfl rfl <| slen rfl rfl <| sy (yd_add64 rfl rfl) rfl <| ?_
   refine sc (ch_make rfl rfl (by omega) (by omega) (by omega) (by rfl) rfl ?_)
   intro b1
   refine sa rfl rfl <| st_end <| st_seq <| sR <| sm rfl rfl <| slen rfl rfl <| sm rfl rfl <| st_end <| st_block <| ?_
   refine st_loop (X := Unit) (fun _ => [(38, .int .i64 0), (37, .int .i64 0), (36, .slice xa 0 xc), (1, .slice ya 1 yc), (5, .slice (some ⟨b1, 0, none⟩) 1 1)]) (fun _ => [⟨b1, [.int .u32 0], 224, true⟩]) (fun _ _ => True) (fun _ => 0) () trivial (.cons rfl (.cons rfl (.cons rfl (.cons rfl (.cons rfl (.nil)))))) rfl ?_
   rintro _ Gx _ _
   refine sR <| sy (yd_lss rfl rfl) rfl <| st_end <| st_seq <| st_condF rfl <| st_exit <| st_te <| st_te <| st_inBlock_eq <| sR <| sm rfl rfl <| ?_
   refine st_freeze b1 (.hd ..) (fun G1 _ hgb => ?_)
   have hd : IsD G1 ⟨some ⟨b1, 0, none⟩, ([0] : List Nat).length, 1⟩ [0] := .of_block (by intro d hd; first | (simp at hd; done) | (simp at hd; omega)) hgb.h rfl (Nat.le_refl _) rfl
   refine sc (ch_call rfl rfl (num_Trim hd (by simp)) rfl ?_)
   rintro _ G2 _ rfl
   refine sa rfl rfl <| st_end <| st_ret <| ?_
   have h9 := IsN.of_trim (k := 32) (hd.up (G := G2)) (by first | (simp [dv]; done) | (simp [dv]; omega))
   have e9 : dv [0] = (0) := by simp [dv]
   rw [e9] at h9
   have e0 : 0 * w = 0 := by simp
   rw [e0]
   exact st_done (.tmp rfl .nil) ⟨⟨some ⟨b1, 0, none⟩, (trimD [0]).length, 1⟩, rfl, h9⟩
 · have hx1 := hx.small hu
   subst hw
   have hy1 := hy.zero
   have hl1 : xn = 1 := hx1.len
   have hl2 : yn = 0 := hy1.len
   subst hl1 hl2
   show Fn _ _ [.slice xa 1 xc, .slice ya 0 yc] _ _
   refine Fn.intro Tryz.func91 rfl rfl Tryz.ntmps91 rfl ?_
   intro C _ _
   refine sR <| sa rfl rfl <| st_end <| st_seq <| sR <| sm rfl rfl <| slen rfl rfl <| sy (yd_eql rfl rfl) rfl <| sm rfl rfl <| syg rfl rfl (yd_move rfl) rfl <| syg rfl rfl (yd_len rfl) rfl <| ?_
   refine syg rfl rfl (yd_eql rfl rfl) rfl <| sy (yd_pickT rfl rfl) rfl <| st_end <| st_condF rfl <| st_skipc <| sR <| sm rfl rfl <| slen rfl rfl <| sm rfl rfl <| slen rfl rfl <| ?_
   refine sy (yd_add64 rfl rfl) rfl <| ?_
   refine sc (ch_make rfl rfl (by omega) (by omega) (by omega) (by rfl) rfl ?_)
   intro b1
   refine sa rfl rfl <| st_end <| st_seq <| sR <| sm rfl rfl <| slen rfl rfl <| sm rfl rfl <| st_end <| st_block <| ?_
   refine st_loop (X := Bool) (fun | true => [(38, .int .i64 1), (37, .int .i64 1), (36, .slice xa 1 xc), (1, .slice ya 0 yc), (5, .slice (some ⟨b1, 0, none⟩) 1 1)] | false => [(38, .int .i64 0), (37, .int .i64 1), (36, .slice xa 1 xc), (1, .slice ya 0 yc), (5, .slice (some ⟨b1, 0, none⟩) 1 1)]) (fun _ => [⟨b1, [.int .u32 0], 224, true⟩]) (fun _ _ => True) (fun | true => 0 | false => 1) false trivial (.cons rfl (.cons rfl (.cons rfl (.cons rfl (.cons rfl (.nil)))))) rfl ?_
   rintro (_ | _) Gx _ _
   · refine sR <| sy (yd_lss rfl rfl) rfl <| st_end <| st_seq <| st_condT rfl <| st_skipc <| st_seq <| st_block <| sR <| sm rfl rfl <| sy (yd_ixD (z := ⟨xa, 1, xc⟩) hx1 rfl rfl (by decide) (show (0 : Int) < ((1 : Nat) : Int) by decide)) rfl <| ?_
     refine sy (yd_ldD (i := 0) hx1 rfl Nat.zero_lt_one) rfl <| sa rfl rfl <| sa rfl rfl <| st_end <| sR <| sa rfl rfl <| st_end <| st_seq <| sR <| sm rfl rfl <| slen rfl rfl <| sm rfl rfl <| st_end <| ?_
     refine st_block <| ?_
     refine st_loop (X := Unit) (fun _ => [(45, .int .i64 0), (44, .int .i64 0), (43, .slice ya 0 yc), (7, .int .u32 (u : Int)), (5, .slice (some ⟨b1, 0, none⟩) 1 1), (6, .int .i64 0), (8, .int .u64 0), (38, .int .i64 0), (37, .int .i64 1), (36, .slice xa 1 xc), (1, .slice ya 0 yc)]) (fun _ => [⟨b1, [.int .u32 0], 224, true⟩]) (fun _ _ => True) (fun _ => 0) () trivial (.cons rfl (.cons rfl (.cons rfl (.cons rfl (.cons rfl (.cons rfl (.cons rfl (.cons rfl (.cons rfl (.cons rfl (.cons rfl (.nil)))))))))))) rfl ?_
     rintro _ Gy _ _
     refine sR <| sy (yd_lss rfl rfl) rfl <| st_end <| st_seq <| st_condF rfl <| st_exit <| st_te <| st_te <| st_inBlock_eq <| st_region <| sm rfl rfl <| sm rfl rfl <| sm rfl rfl <| ?_
     refine slen rfl rfl <| sy (yd_add64 rfl rfl) rfl <| sm rfl rfl <| sy (yd_toU32 rfl) rfl <| sy (yd_ixO rfl rfl (by decide) (by decide)) rfl <| ?_
     refine sc (ch_storeN1 (cs' := [.int .u32 0]) rfl rfl rfl (.hd ..) (nb rfl) rfl rfl ?_)
     refine st_end <| st_region <| sy (yd_add64 rfl rfl) rfl <| sm rfl rfl <| st_end <| ?_
     exact st_again true trivial (by decide) (.cons rfl (.cons rfl (.cons rfl (.cons rfl (.cons rfl (.nil)))))) rfl
   refine sR <| sy (yd_lss rfl rfl) rfl <| st_end <| st_seq <| st_condF rfl <| st_exit <| st_te <| st_te <| st_inBlock_eq <| sR <| sm rfl rfl <| ?_
   refine st_freeze b1 (.hd ..) (fun G1 _ hgb => ?_)
   have hd : IsD G1 ⟨some ⟨b1, 0, none⟩, ([0] : List Nat).length, 1⟩ [0] := .of_block (by intro d hd; first | (simp at hd; done) | (simp at hd; omega)) hgb.h rfl (Nat.le_refl _) rfl
   refine sc (ch_call rfl rfl (num_Trim hd (by simp)) rfl ?_)
   rintro _ G2 _ rfl
   refine sa rfl rfl <| st_end <| st_ret <| ?_
   have h9 := IsN.of_trim (k := 32) (hd.up (G := G2)) (by first | (simp [dv]; done) | (simp [dv]; omega))
   have e9 : dv [0] = (0) := by simp [dv]
   rw [e9] at h9
   have e0 : u * 0 = 0 := by simp
   rw [e0]
   exact st_done (.tmp rfl .nil) ⟨⟨some ⟨b1, 0, none⟩, (trimD [0]).length, 1⟩, rfl, h9⟩
 · have hx1 := hx.small hu
   have hy1 := hy.small hw
   have hl1 : xn = 1 := hx1.len
   have hl2 : yn = 1 := hy1.len
   subst hl1 hl2
   show Fn _ _ [.slice xa 1 xc, .slice ya 1 yc] _ _
   refine Fn.intro Tryz.func91 rfl rfl Tryz.ntmps91 rfl ?_
   intro C _ _
   have hm : ((u : Int) * (w : Int)) = ((u * w : Nat) : Int) := rfl
   refine sR <| sa rfl rfl <| st_end <| st_seq <| sR <| sm rfl rfl <| slen rfl rfl <| sy (yd_eql rfl rfl) rfl <| sm rfl rfl <| syg rfl rfl (yd_move rfl) rfl <| syg rfl rfl (yd_len rfl) rfl <| ?_
   refine syg rfl rfl (yd_eql rfl rfl) rfl <| sy (yd_pickT rfl rfl) rfl <| st_end <| st_condT rfl <| st_seq <| dr (fun _ => false) [(0, true), (1, true), (2, true), (3, true), (4, true), (5, true), (6, true), (7, true), (8, true), (9, false), (10, true)] follows (by kernel_rfl) <| ?_
   refine dM rfl rfl rfl <| dy rfl (fun _ => yd_ixD (z := ⟨xa, 1, xc⟩) hx1 rfl rfl (by decide) (show (0 : Int) < ((1 : Nat) : Int) by decide)) rfl rfl <| dy rfl (fun _ => yd_ldD (i := 0) hx1 rfl Nat.zero_lt_one) rfl rfl <| dy rfl (fun _ => yd_toU64 (p := (u : Int)) rfl (by omega) (by omega)) rfl rfl <| ?_
   refine dM rfl rfl rfl <| dy rfl (fun _ => yd_ixD (z := ⟨ya, 1, yc⟩) hy1 rfl rfl (by decide) (show (0 : Int) < ((1 : Nat) : Int) by decide)) rfl rfl <| dy rfl (fun _ => yd_ldD (i := 0) hy1 rfl Nat.zero_lt_one) rfl rfl <| dy rfl (fun _ => yd_toU64 (p := (w : Int)) rfl (by omega) (by omega)) rfl rfl <| ?_
   refine dy rfl (fun _ => yd_mulU rfl rfl (by rw [hm]; exact Int.natCast_nonneg _) (by rw [hm]; show ((u * w : Nat) : Int) ≤ 18446744073709551615; omega)) rfl rfl <| ?_
   refine dc rfl rfl (ch_call rfl rfl (num_Word (u := u * w) (by omega)) rfl ?_)
   rintro _ G1 _ ⟨z, rfl, hz⟩
   refine dr_s <| dA rfl rfl rfl <| dn <| st_ret <| ?_
   exact st_done (.tmp rfl .nil) ⟨z, rfl, hz.mono (k' := 32) hs⟩
theorem num_Mul {A B G : Gh} {z w : IV} {m n : Int} (hz1 : IsI 32 A z m) (hw1 : IsI 32 B w n) [GL A G] [GL B G] (hs : m.natAbs * n.natAbs < 4294967296) : Fn Tryz.prog 137 [.agg ⟨[.bool z.neg, .slice z.a.a z.a.n z.a.c]⟩, .agg ⟨[.bool w.neg, .slice w.a.a w.a.n w.a.c]⟩] G (fun v G' => ∃ y : IV, v = .agg ⟨[.bool y.neg, .slice y.a.a y.a.n y.a.c]⟩ ∧ IsI 32 G' y (m * n)) := by
 have e : zv (!(z.neg == w.neg)) (m.natAbs * n.natAbs) = m * n := by
  have := zv_mul z.neg w.neg m.natAbs n.natAbs
  rw [hz1.zv, hw1.zv] at this
  exact this
 refine Fn.intro Tryz.func137 rfl rfl Tryz.ntmps137 rfl ?_
 intro C _ _
 refine sR <| ?_
 refine sc (ch_box rfl rfl ?_)
 intro b1
 refine sc (ch_box rfl rfl ?_)
 intro b2
 refine sc (ch_alloc rfl ?_)
 intro b3
 refine st_end <| st_seq <| dr (fun i => Nat.beq i 11) [(0, true), (1, true), (2, true), (3, true), (4, true), (5, true), (6, true), (7, true), (8, true), (9, false), (10, false), (11, false)] follows (by kernel_rfl) <| ?_
 refine dF rfl rfl rfl <| dL1 rfl rfl rfl rfl <| dF rfl rfl rfl <| dL1 rfl rfl rfl rfl <| ?_
 refine dy rfl (fun _ => yd_neB rfl rfl) rfl rfl <| dF rfl rfl rfl <| dL1 rfl rfl rfl rfl <| dF rfl rfl rfl <| ?_
 refine dL1 rfl rfl rfl rfl <| ?_
 refine dc rfl rfl (ch_call rfl rfl (num_Product hz1.abs hw1.abs hs) rfl ?_)
 rintro _ G4 _ ⟨y, rfl, hy⟩
 refine dr_s <| ?_
 refine dc rfl rfl (ch_call rfl rfl (num_Make hy) rfl ?_)
 rintro _ G5 _ ⟨q, rfl, hq⟩
 refine dr_s <| ?_
 refine dc rfl rfl (chS rfl rfl rfl (nb rfl) rfl rfl ?_)
 refine dr_f rfl <| dn <| st_ret <| ?_
 exact st_done (.agg rfl ii ii rfl .nil) ⟨q, rfl, by rw [← e]; exact hq.up⟩
theorem num_Add {A B G : Gh} {z w : IV} {m n : Int} (hz1 : IsI 32 A z m) (hw1 : IsI 32 B w n) [GL A G] [GL B G] (hm : m.natAbs < 1000000000) (hn : n.natAbs < 1000000000) : Fn Tryz.prog 136 [.agg ⟨[.bool z.neg, .slice z.a.a z.a.n z.a.c]⟩, .agg ⟨[.bool w.neg, .slice w.a.a w.a.n w.a.c]⟩] G (fun v G' => ∃ y : IV, v = .agg ⟨[.bool y.neg, .slice y.a.a y.a.n y.a.c]⟩ ∧ IsI 32 G' y (m + n)) := by
 have hz2 := hz1.zv
 have hw2 := hw1.zv
 by_cases hc : z.neg = w.neg
 · have e : zv z.neg (m.natAbs + n.natAbs) = m + n := by
     rw [zv_add_same, hz2, hc, hw2]
   refine Fn.intro Tryz.func136 rfl rfl Tryz.ntmps136 rfl ?_
   intro C _ _
   refine sR <| ?_
   refine sc (ch_box rfl rfl ?_)
   intro b1
   refine sc (ch_box rfl rfl ?_)
   intro b2
   refine sc (ch_alloc rfl ?_)
   intro b3
   refine st_end <| st_seq <| sR <| sf rfl rfl <| slo1 rfl rfl rfl <| sf rfl rfl <| slo1 rfl rfl rfl <| sy (yd_eqB rfl rfl) rfl <| st_end <| st_condT (congrArg some (congrArg Value.bool (show (z.neg == w.neg) = true by simp [hc]))) <| st_seq <| dr (fun i => Nat.beq i 8) [(0, true), (1, true), (2, true), (3, true), (4, true), (5, true), (6, false), (7, false), (8, false)] follows (by kernel_rfl) <| ?_
   refine dF rfl rfl rfl <| dL1 rfl rfl rfl rfl <| dF rfl rfl rfl <| dL1 rfl rfl rfl rfl <| ?_
   refine dF rfl rfl rfl <| dL1 rfl rfl rfl rfl <| ?_
   refine dc rfl rfl (ch_call rfl rfl (num_Sum hz1.abs hw1.abs (by omega)) rfl ?_)
   rintro _ G4 _ ⟨y, rfl, hy⟩
   refine dr_s <| ?_
   refine dc rfl rfl (ch_call rfl rfl (num_Make hy) rfl ?_)
   rintro _ G5 _ ⟨q, rfl, hq⟩
   refine dr_s <| ?_
   refine dc rfl rfl (chS rfl rfl rfl (nb rfl) rfl rfl ?_)
   refine dr_f rfl <| dn <| st_ret <| ?_
   exact st_done (.agg rfl ii ii rfl .nil) ⟨q, rfl, by rw [← e]; exact hq.up⟩
 by_cases hlt : m.natAbs < n.natAbs
 · have e : zv w.neg (n.natAbs - m.natAbs) = m + n := by
     clear hz1 hw1
     cases hzn : z.neg <;> cases hwn : w.neg <;> simp [zv, hzn, hwn] at hc hz2 hw2 ⊢ <;> omega
   refine Fn.intro Tryz.func136 rfl rfl Tryz.ntmps136 rfl ?_
   intro C _ _
   refine sR <| ?_
   refine sc (ch_box rfl rfl ?_)
   intro b1
   refine sc (ch_box rfl rfl ?_)
   intro b2
   refine sc (ch_alloc rfl ?_)
   intro b3
   refine st_end <| st_seq <| sR <| sf rfl rfl <| slo1 rfl rfl rfl <| sf rfl rfl <| slo1 rfl rfl rfl <| sy (yd_eqB rfl rfl) rfl <| st_end <| st_condF (congrArg some (congrArg Value.bool (show (z.neg == w.neg) = false by simp [hc]))) <| st_skipc <| st_seq <| ?_
   refine sR <| sf rfl rfl <| slo1 rfl rfl rfl <| sf rfl rfl <| slo1 rfl rfl rfl <| ?_
   refine sc (ch_call rfl rfl (num_Cmp hz1.abs hw1.abs) rfl ?_)
   rintro _ G4 _ ⟨r, rfl, hr⟩
   refine sy (yd_lss rfl rfl) rfl <| st_end <| st_condT (congrArg some (congrArg Value.bool (decide_eq_true (hr.2 hlt)))) <| st_seq <| dr (fun i => Nat.beq i 8) [(0, true), (1, true), (2, true), (3, true), (4, true), (5, true), (6, false), (7, false), (8, false)] follows (by kernel_rfl) <| ?_
   refine dF rfl rfl rfl <| dL1 rfl rfl rfl rfl <| dF rfl rfl rfl <| dL1 rfl rfl rfl rfl <| ?_
   refine dF rfl rfl rfl <| dL1 rfl rfl rfl rfl <| ?_
   refine dc rfl rfl (ch_call rfl rfl (num_Less hw1.abs hz1.abs (by omega) (by omega)) rfl ?_)
   rintro _ G5 _ ⟨y, rfl, hy⟩
   refine dr_s <| ?_
   refine dc rfl rfl (ch_call rfl rfl (num_Make hy) rfl ?_)
   rintro _ G6 _ ⟨q, rfl, hq⟩
   refine dr_s <| ?_
   refine dc rfl rfl (chS rfl rfl rfl (nb rfl) rfl rfl ?_)
   refine dr_f rfl <| dn <| st_ret <| ?_
   exact st_done (.agg rfl ii ii rfl .nil) ⟨q, rfl, by rw [← e]; exact hq.up⟩
 have e : zv z.neg (m.natAbs - n.natAbs) = m + n := by
   clear hz1 hw1
   cases hzn : z.neg <;> cases hwn : w.neg <;> simp [zv, hzn, hwn] at hc hz2 hw2 ⊢ <;> omega
 refine Fn.intro Tryz.func136 rfl rfl Tryz.ntmps136 rfl ?_
 intro C _ _
 refine sR <| ?_
 refine sc (ch_box rfl rfl ?_)
 intro b1
 refine sc (ch_box rfl rfl ?_)
 intro b2
 refine sc (ch_alloc rfl ?_)
 intro b3
 refine st_end <| st_seq <| sR <| sf rfl rfl <| slo1 rfl rfl rfl <| sf rfl rfl <| slo1 rfl rfl rfl <| sy (yd_eqB rfl rfl) rfl <| st_end <| st_condF (congrArg some (congrArg Value.bool (show (z.neg == w.neg) = false by simp [hc]))) <| st_skipc <| st_seq <| ?_
 refine sR <| sf rfl rfl <| slo1 rfl rfl rfl <| sf rfl rfl <| slo1 rfl rfl rfl <| ?_
 refine sc (ch_call rfl rfl (num_Cmp hz1.abs hw1.abs) rfl ?_)
 rintro _ G4 _ ⟨r, rfl, hr⟩
 refine sy (yd_lss rfl rfl) rfl <| st_end <| st_condF (congrArg some (congrArg Value.bool (decide_eq_false (fun h => hlt (hr.1 h))))) <| st_skipc <| st_seq <| dr (fun i => Nat.beq i 8) [(0, true), (1, true), (2, true), (3, true), (4, true), (5, true), (6, false), (7, false), (8, false)] follows (by kernel_rfl) <| ?_
 refine dF rfl rfl rfl <| dL1 rfl rfl rfl rfl <| dF rfl rfl rfl <| dL1 rfl rfl rfl rfl <| ?_
 refine dF rfl rfl rfl <| dL1 rfl rfl rfl rfl <| ?_
 refine dc rfl rfl (ch_call rfl rfl (num_Less hz1.abs hw1.abs (by omega) (by omega)) rfl ?_)
 rintro _ G5 _ ⟨y, rfl, hy⟩
 refine dr_s <| ?_
 refine dc rfl rfl (ch_call rfl rfl (num_Make hy) rfl ?_)
 rintro _ G6 _ ⟨q, rfl, hq⟩
 refine dr_s <| ?_
 refine dc rfl rfl (chS rfl rfl rfl (nb rfl) rfl rfl ?_)
 refine dr_f rfl <| dn <| st_ret <| ?_
 exact st_done (.agg rfl ii ii rfl .nil) ⟨q, rfl, by rw [← e]; exact hq.up⟩
theorem num_One {G : Gh} : Fn Tryz.prog 75 [] G (fun v G' => ∃ y : SV, v = .slice y.a y.n y.c ∧ IsN 32 G' y 1) := by
 refine Fn.intro Tryz.func75 rfl rfl Tryz.ntmps75 rfl ?_
 intro C _ _
 refine sR <| sa rfl rfl <| st_end <| sR <| ?_
 refine sc (ch_slice1 rfl (by rfl) (by rfl) (by decide) (by decide) rfl ?_)
 intro b1
 refine sa rfl rfl <| st_end <| st_ret <| ?_
 refine st_freeze b1 (.hd ..) ?_
 intro G9 _ hfz
 exact st_done (.tmp rfl .nil) ⟨⟨some ⟨b1, 0, none⟩, 1, 1⟩, rfl, IsN.of (k := 32) (ds := [1]) (.of_block (.cons (by decide) .nil) hfz.h rfl (Nat.le_refl _) rfl) (by decide) (by decide)⟩
theorem num_Den {z : IV} {G : Gh} : Fn Tryz.prog 92 [.agg ⟨[.bool z.neg, .slice z.a.a z.a.n z.a.c, .slice none 0 0]⟩] G (fun v G' => ∃ y : SV, v = .slice y.a y.n y.c ∧ IsN 32 G' y 1) := by
 refine Fn.intro Tryz.func92 rfl rfl Tryz.ntmps92 rfl ?_
 intro C _ _
 refine sR <| ?_
 refine sc (ch_box rfl rfl ?_)
 intro b1
 refine sa rfl rfl <| st_end <| st_seq <| sR <| sf rfl rfl <| slo1 rfl rfl rfl <| slen rfl rfl <| sy (yd_eql rfl rfl) rfl <| st_end <| st_condT rfl <| sR <| ?_
 refine sc (ch_call rfl rfl num_One rfl ?_)
 rintro _ G2 _ ⟨y, rfl, hy⟩
 refine sa rfl rfl <| st_end <| st_ret <| ?_
 exact st_done (.tmp rfl .nil) ⟨y, rfl, hy⟩
theorem num_Plus {A B G : Gh} {z w : IV} {m n : Int} (hz1 : IsI 32 A z m) (hw1 : IsI 32 B w n) [GL A G] [GL B G] (hm : m.natAbs < 1000000000) (hn : n.natAbs < 1000000000) : Fn Tryz.prog 89 [.agg ⟨[.bool z.neg, .slice z.a.a z.a.n z.a.c, .slice none 0 0]⟩, .agg ⟨[.bool w.neg, .slice w.a.a w.a.n w.a.c, .slice none 0 0]⟩] G (fun v G' => ∃ y : IV, v = .agg ⟨[.bool y.neg, .slice y.a.a y.a.n y.a.c, .slice none 0 0]⟩ ∧ IsI 32 G' y (m + n)) := by
 refine Fn.intro Tryz.func89 rfl rfl Tryz.ntmps89 rfl ?_
 intro C _ _
 refine sR <| ?_
 refine sc (ch_box rfl rfl ?_)
 intro b1
 refine sc (ch_box rfl rfl ?_)
 intro b2
 refine sc (ch_alloc rfl ?_)
 intro b3
 refine st_end <| st_seq <| sR <| sf rfl rfl <| slo1 rfl rfl rfl <| slen rfl rfl <| sy (yd_eql rfl rfl) rfl <| sm rfl rfl <| syg rfl rfl (yd_fieldAddr rfl) rfl <| syg rfl rfl (yd_load_own1 rfl rfl) rfl <| ?_
 refine syg rfl rfl (yd_len rfl) rfl <| syg rfl rfl (yd_eql rfl rfl) rfl <| sy (yd_pickT rfl rfl) rfl <| st_end <| st_condT rfl <| sR <| sf rfl rfl <| slo rfl rfl rfl <| sf rfl rfl <| ?_
 refine slo rfl rfl rfl <| ?_
 refine sc (ch_call rfl rfl (num_Add hz1 hw1 hm hn) rfl ?_)
 rintro _ G4 _ ⟨y, rfl, hy⟩
 refine sy (yd_build rfl) rfl <| ?_
 refine sc (chS rfl rfl rfl (nb rfl) rfl rfl ?_)
 refine st_end <| st_ret <| ?_
 exact st_done (.agg rfl ii ii rfl .nil) ⟨y, rfl, hy.up⟩
theorem num_Sub {A B G : Gh} {z w : IV} {m n : Int} (hz1 : IsI 32 A z m) (hw1 : IsI 32 B w n) [GL A G] [GL B G] (hm : m.natAbs < 1000000000) (hn : n.natAbs < 1000000000) : Fn Tryz.prog 166 [.agg ⟨[.bool z.neg, .slice z.a.a z.a.n z.a.c, .slice none 0 0]⟩, .agg ⟨[.bool w.neg, .slice w.a.a w.a.n w.a.c, .slice none 0 0]⟩] G (fun v G' => ∃ y : IV, v = .agg ⟨[.bool y.neg, .slice y.a.a y.a.n y.a.c, .slice none 0 0]⟩ ∧ IsI 32 G' y (m - n)) := by
 refine Fn.intro Tryz.func166 rfl rfl Tryz.ntmps166 rfl ?_
 intro C _ _
 refine sR <| ?_
 refine sc (ch_box rfl rfl ?_)
 intro b1
 refine sc (ch_box rfl rfl ?_)
 intro b2
 refine sc (ch_alloc rfl ?_)
 intro b3
 refine st_end <| st_seq <| dr (fun i => Nat.beq i 4) [(0, true), (1, true), (2, false), (3, false), (4, false)] follows (by kernel_rfl) <| dL rfl rfl rfl rfl <| dL rfl rfl rfl rfl <| ?_
 refine dc rfl rfl (ch_call rfl rfl (num_Opp hw1) rfl ?_)
 rintro _ G4 _ ⟨q, rfl, hq⟩
 refine dr_s <| ?_
 refine dc rfl rfl (ch_call rfl rfl (num_Plus hz1 hq hm (by omega)) rfl ?_)
 rintro _ G5 _ ⟨y, rfl, hy⟩
 refine dr_s <| ?_
 refine dc rfl rfl (chS rfl rfl rfl (nb rfl) rfl rfl ?_)
 refine dr_f rfl <| dn <| st_ret <| ?_
 exact st_done (.agg rfl ii ii rfl .nil) ⟨y, rfl, hy.up⟩
theorem num_Times {A B G : Gh} {z w : IV} {m n : Int} (hz1 : IsI 32 A z m) (hw1 : IsI 32 B w n) [GL A G] [GL B G] (hs : m.natAbs * n.natAbs < 4294967296) : Fn Tryz.prog 90 [.agg ⟨[.bool z.neg, .slice z.a.a z.a.n z.a.c, .slice none 0 0]⟩, .agg ⟨[.bool w.neg, .slice w.a.a w.a.n w.a.c, .slice none 0 0]⟩] G (fun v G' => ∃ y : IV, v = .agg ⟨[.bool y.neg, .slice y.a.a y.a.n y.a.c, .slice none 0 0]⟩ ∧ IsI 32 G' y (m * n)) := by
 refine Fn.intro Tryz.func90 rfl rfl Tryz.ntmps90 rfl ?_
 intro C _ _
 refine sR <| ?_
 refine sc (ch_box rfl rfl ?_)
 intro b1
 refine sc (ch_box rfl rfl ?_)
 intro b2
 refine sc (ch_alloc rfl ?_)
 intro b3
 refine st_end <| st_seq <| sR <| sf rfl rfl <| slo1 rfl rfl rfl <| slen rfl rfl <| sy (yd_eql rfl rfl) rfl <| sm rfl rfl <| syg rfl rfl (yd_fieldAddr rfl) rfl <| syg rfl rfl (yd_load_own1 rfl rfl) rfl <| ?_
 refine syg rfl rfl (yd_len rfl) rfl <| syg rfl rfl (yd_eql rfl rfl) rfl <| sy (yd_pickT rfl rfl) rfl <| st_end <| st_condT rfl <| sR <| sf rfl rfl <| slo rfl rfl rfl <| sf rfl rfl <| ?_
 refine slo rfl rfl rfl <| ?_
 refine sc (ch_call rfl rfl (num_Mul hz1 hw1 hs) rfl ?_)
 rintro _ G4 _ ⟨y, rfl, hy⟩
 refine sy (yd_build rfl) rfl <| ?_
 refine sc (chS rfl rfl rfl (nb rfl) rfl rfl ?_)
 refine st_end <| st_ret <| ?_
 exact st_done (.agg rfl ii ii rfl .nil) ⟨y, rfl, hy.up⟩
theorem num_C {A B G : Gh} {z w : IV} {m n : Int} (hz1 : IsI 32 A z m) (hw1 : IsI 32 B w n) [GL A G] [GL B G] (hm : m.natAbs < 1000000000) (hn : n.natAbs < 1000000000) : Fn Tryz.prog 128 [.agg ⟨[.bool z.neg, .slice z.a.a z.a.n z.a.c, .slice none 0 0]⟩, .agg ⟨[.bool w.neg, .slice w.a.a w.a.n w.a.c, .slice none 0 0]⟩] G (fun v _ => v = .int .i64 (Int.sign (m - n))) := by
 refine Fn.intro Tryz.func128 rfl rfl Tryz.ntmps128 rfl ?_
 intro C _ _
 refine sR <| ?_
 refine sc (ch_box rfl rfl ?_)
 intro b1
 refine sc (ch_box rfl rfl ?_)
 intro b2
 refine sa rfl rfl <| st_end <| sR <| slo rfl rfl rfl <| slo rfl rfl rfl <| ?_
 refine sc (ch_call rfl rfl (num_Sub hz1 hw1 hm hn) rfl ?_)
 rintro _ G3 _ ⟨y, rfl, hy⟩
 refine sc (ch_call rfl rfl (num_S hy) rfl ?_)
 rintro _ G4 _ rfl
 refine sa rfl rfl <| st_end <| st_ret <| ?_
 exact st_done (.tmp rfl .nil) rfl
theorem sign_sub0 {m n : Int} : Int.sign (m - n) = 0 ↔ m = n := by
 rw [Int.sign_eq_zero_iff_zero]; omega
theorem same_yes {m n m' n' : Int} (h : Int.sign (m - m') = 0) : Value.bool (decide (Int.sign (n - n') = 0)) = .bool (decide (m = m' ∧ n = n')) := by
 congr 1
 exact decide_eq_decide.2 ⟨fun k => ⟨sign_sub0.1 h, sign_sub0.1 k⟩, fun k => sign_sub0.2 k.2⟩
theorem same_no {m n m' n' : Int} (h : ¬ Int.sign (m - m') = 0) : Value.bool false = .bool (decide (m = m' ∧ n = n')) := by
 congr 1
 exact (decide_eq_false fun k => h (sign_sub0.2 k.1)).symm
theorem ref_Same {A1 A2 B1 B2 G : Gh} {z w z' w' : IV} {m n m' n' : Int} (h1 : IsI 32 A1 z m) (h2 : IsI 32 A2 w n) (h3 : IsI 32 B1 z' m') (h4 : IsI 32 B2 w' n') [GL A1 G] [GL A2 G] [GL B1 G] [GL B2 G]
   (l1 : m.natAbs < 1000000000) (l2 : n.natAbs < 1000000000) (l3 : m'.natAbs < 1000000000) (l4 : n'.natAbs < 1000000000) : Fn Tryz.prog 96 [.agg ⟨[.bool z.neg, .slice z.a.a z.a.n z.a.c, .slice none 0 0, .bool w.neg, .slice w.a.a w.a.n w.a.c, .slice none 0 0]⟩, .agg ⟨[.bool z'.neg, .slice z'.a.a z'.a.n z'.a.c, .slice none 0 0, .bool w'.neg, .slice w'.a.a w'.a.n w'.a.c, .slice none 0 0]⟩] G (fun v _ => v = .bool (decide (m = m' ∧ n = n'))) := by
 refine Fn.intro Tryz.func96 rfl rfl Tryz.ntmps96 rfl ?_
 intro C _ _
 refine sR <| ?_
 refine sc (ch_box rfl rfl ?_)
 intro b1
 refine sc (ch_box rfl rfl ?_)
 intro b2
 refine sa rfl rfl <| st_end <| sR <| sf rfl rfl <| slo rfl rfl rfl <| sf rfl rfl <| slo rfl rfl rfl <| ?_
 refine sc (ch_call rfl rfl (num_C h1 h3 l1 l3) rfl ?_)
 rintro _ G3 _ rfl
 refine sy (yd_eql rfl rfl) rfl <| sm rfl rfl <| ?_
 refine st_caseP 11 rfl (fun hg => ?_) (fun hg => ?_)
 · -- slot 11 yes
   refine syg rfl rfl (yd_fieldAddr rfl) rfl <| syg rfl rfl (yd_load_own rfl rfl) rfl <| syg rfl rfl (yd_fieldAddr rfl) rfl <| syg rfl rfl (yd_load_own rfl rfl) rfl <| ?_
   refine st_chg rfl rfl rfl (ch_call rfl rfl (num_C h2 h4 l2 l4) rfl ?_)
   rintro _ G4 _ rfl
   refine syg rfl rfl (yd_eql rfl rfl) rfl <| sy (yd_pickT rfl rfl) rfl <| sa rfl rfl <| st_end <| st_ret <| ?_
   exact st_done (.tmp rfl .nil) (same_yes hg)
 refine ss rfl rfl rfl rfl <| ss rfl rfl rfl rfl <| ss rfl rfl rfl rfl <| ss rfl rfl rfl rfl <| ss rfl rfl rfl rfl <| ss rfl rfl rfl rfl <| sy (yd_pickF rfl rfl) rfl <| sa rfl rfl <| st_end <| ?_
 refine st_ret <| ?_
 exact st_done (.tmp rfl .nil) (same_no hg)
theorem ref_Add {A1 A2 A3 B1 B2 G : Gh} {z w y z' w' : IV} {m n c m' n' : Int} (h1 : IsI 32 A1 z m) (h2 : IsI 32 A2 w n) (h0 : IsI 32 A3 y c) (h3 : IsI 32 B1 z' m') (h4 : IsI 32 B2 w' n') [GL A1 G] [GL A2 G] [GL A3 G] [GL B1 G] [GL B2 G]
  (l1 : m.natAbs ≤ 1000) (l2 : n.natAbs ≤ 1000) (l0 : c.natAbs ≤ 1) (l3 : m'.natAbs ≤ 1000) (l4 : n'.natAbs ≤ 1000) : Fn Tryz.prog 42 [.agg ⟨[.bool z.neg, .slice z.a.a z.a.n z.a.c, .slice none 0 0, .bool w.neg, .slice w.a.a w.a.n w.a.c, .slice none 0 0]⟩, .agg ⟨[.bool y.neg, .slice y.a.a y.a.n y.a.c, .slice none 0 0]⟩, .agg ⟨[.bool z'.neg, .slice z'.a.a z'.a.n z'.a.c, .slice none 0 0, .bool w'.neg, .slice w'.a.a w'.a.n w'.a.c, .slice none 0 0]⟩] G (fun v G' => ∃ a b : IV, v = .agg ⟨[.bool a.neg, .slice a.a.a a.a.n a.a.c, .slice none 0 0, .bool b.neg, .slice b.a.a b.a.n b.a.c, .slice none 0 0]⟩ ∧ IsI 32 G' a (m + c * m') ∧ IsI 32 G' b (n + c * n')) := by
 have e1 : (c * m').natAbs = c.natAbs * m'.natAbs := Int.natAbs_mul _ _
 have e2 : (c * n').natAbs = c.natAbs * n'.natAbs := Int.natAbs_mul _ _
 have e3 : c.natAbs * m'.natAbs ≤ 1 * 1000 := Nat.mul_le_mul l0 l3
 have e4 : c.natAbs * n'.natAbs ≤ 1 * 1000 := Nat.mul_le_mul l0 l4
 refine Fn.intro Tryz.func42 rfl rfl Tryz.ntmps42 rfl ?_
 intro C _ _
 refine sR <| ?_
 refine sc (ch_box rfl rfl ?_)
 intro b1
 refine sc (ch_box rfl rfl ?_)
 intro b2
 refine sc (ch_box rfl rfl ?_)
 intro b3
 refine sc (ch_alloc rfl ?_)
 intro b4
 refine st_end <| st_seq <| dr (fun i => Nat.beq i 15) [(0, true), (1, true), (2, true), (3, true), (4, true), (7, true), (8, true), (9, true), (10, true), (11, true), (5, false), (6, false), (12, false), (13, false), (14, true), (15, false)] follows (by kernel_rfl) <| ?_
 refine dF rfl rfl rfl <| dL rfl rfl rfl rfl <| dL rfl rfl rfl rfl <| dF rfl rfl rfl <| ?_
 refine dL rfl rfl rfl rfl <| dF rfl rfl rfl <| dL rfl rfl rfl rfl <| dL rfl rfl rfl rfl <| ?_
 refine dF rfl rfl rfl <| dL rfl rfl rfl rfl <| ?_
 refine dc rfl rfl (ch_call rfl rfl (num_Times h0 h3 (by omega)) rfl ?_)
 rintro _ G5 _ ⟨q, rfl, hq⟩
 refine dr_s <| ?_
 refine dc rfl rfl (ch_call rfl rfl (num_Plus h1 hq (by omega) (by omega)) rfl ?_)
 rintro _ G6 _ ⟨a, rfl, ha⟩
 refine dr_s <| ?_
 refine dc rfl rfl (ch_call rfl rfl (num_Times h0 h4 (by omega)) rfl ?_)
 rintro _ G7 _ ⟨q2, rfl, hq2⟩
 refine dr_s <| ?_
 refine dc rfl rfl (ch_call rfl rfl (num_Plus h2 hq2 (by omega) (by omega)) rfl ?_)
 rintro _ G8 _ ⟨b, rfl, hb⟩
 refine dr_s <| dy rfl (fun _ => yd_build rfl) rfl rfl <| ?_
 refine dc rfl rfl (chS rfl rfl rfl (nb rfl) rfl rfl ?_)
 refine dr_f rfl <| dn <| st_ret <| ?_
 exact st_done (.agg rfl ii ii rfl .nil) ⟨a, b, rfl, ha.up, hb.up⟩
theorem ref_Sub {A1 A2 B1 B2 G : Gh} {z w z' w' : IV} {m n m' n' : Int} (h1 : IsI 32 A1 z m) (h2 : IsI 32 A2 w n) (h3 : IsI 32 B1 z' m') (h4 : IsI 32 B2 w' n') [GL A1 G] [GL A2 G] [GL B1 G] [GL B2 G]
  (l1 : m.natAbs ≤ 1000) (l2 : n.natAbs ≤ 1000) (l3 : m'.natAbs ≤ 1000) (l4 : n'.natAbs ≤ 1000) : Fn Tryz.prog 87 [.agg ⟨[.bool z.neg, .slice z.a.a z.a.n z.a.c, .slice none 0 0, .bool w.neg, .slice w.a.a w.a.n w.a.c, .slice none 0 0]⟩, .agg ⟨[.bool z'.neg, .slice z'.a.a z'.a.n z'.a.c, .slice none 0 0, .bool w'.neg, .slice w'.a.a w'.a.n w'.a.c, .slice none 0 0]⟩] G (fun v G' => ∃ a b : IV, v = .agg ⟨[.bool a.neg, .slice a.a.a a.a.n a.a.c, .slice none 0 0, .bool b.neg, .slice b.a.a b.a.n b.a.c, .slice none 0 0]⟩ ∧ IsI 32 G' a (m - m') ∧ IsI 32 G' b (n - n')) := by
 refine Fn.intro Tryz.func87 rfl rfl Tryz.ntmps87 rfl ?_
 intro C _ _
 refine sR <| ?_
 refine sc (ch_box rfl rfl ?_)
 intro b1
 refine sc (ch_box rfl rfl ?_)
 intro b2
 refine sc (ch_alloc rfl ?_)
 intro b3
 refine st_end <| st_seq <| dr (fun i => Nat.beq i 4) [(0, true), (2, true), (1, false), (3, false), (4, false)] follows (by kernel_rfl) <| dL rfl rfl rfl rfl <| dL rfl rfl rfl rfl <| ?_
 refine dc rfl rfl (ch_call rfl rfl (num_Of (n := -1) (by decide) (by decide)) rfl ?_)
 rintro _ G4 _ ⟨q, rfl, hq⟩
 refine dr_s <| ?_
 refine dc rfl rfl (ch_call rfl rfl (ref_Add h1 h2 hq h3 h4 l1 l2 (by decide) l3 l4) rfl ?_)
 rintro _ G5 _ ⟨a, b, rfl, ha, hb⟩
 refine dr_s <| ?_
 refine dc rfl rfl (chS rfl rfl rfl (nb rfl) rfl rfl ?_)
 refine dr_f rfl <| dn <| st_ret <| ?_
 exact st_done (.agg rfl ii ii rfl .nil) ⟨a, b, rfl, (show m + -1 * m' = m - m' by omega) ▸ ha.up, (show n + -1 * n' = n - n' by omega) ▸ hb.up⟩
end Go.Sx
end

section
set_option maxRecDepth 100000
namespace Go.Sx
open Go Go.Proofs
theorem mkl_ok {p q r : Bool} {a b c : Nat} (h : Nat.gcd a b ≠ 0) : LnQ.ok ⟨zv p (a / Nat.gcd (Nat.gcd a b) c), zv q (b / Nat.gcd (Nat.gcd a b) c), zv r (c / Nat.gcd (Nat.gcd a b) c)⟩ := by
 have hg : 0 < Nat.gcd (Nat.gcd a b) c := Nat.gcd_pos_of_pos_left _ (Nat.pos_of_ne_zero h)
 have d0 : Nat.gcd (Nat.gcd a b) c ∣ Nat.gcd a b := Nat.gcd_dvd_left _ _
 have d1 : Nat.gcd (Nat.gcd a b) c ∣ a := Nat.dvd_trans d0 (Nat.gcd_dvd_left _ _)
 have d2 : Nat.gcd (Nat.gcd a b) c ∣ b := Nat.dvd_trans d0 (Nat.gcd_dvd_right _ _)
 have d3 : Nat.gcd (Nat.gcd a b) c ∣ c := Nat.gcd_dvd_right _ _
 refine ⟨?_, ?_⟩
 · rintro ⟨h1, h2⟩
   have h1' := congrArg Int.natAbs h1
   have h2' := congrArg Int.natAbs h2
   simp only [zv_abs, Int.natAbs_zero] at h1' h2'
   have e1 := Nat.div_mul_cancel d1
   have e2 := Nat.div_mul_cancel d2
   rw [h1', Nat.zero_mul] at e1
   rw [h2', Nat.zero_mul] at e2
   exact h (by rw [← e1, ← e2]; rfl)
 · simp only [zv_abs]
   rw [Nat.gcd_div d1 d2, Nat.gcd_div d0 d3, Nat.div_self hg]
theorem mkl_le (p : Bool) (a g : Nat) : (zv p (a / g)).natAbs ≤ a := by rw [zv_abs]; exact Nat.div_le_self ..
set_option maxHeartbeats 1000000 in
theorem ref_MakeL {A B D G : Gh} {x y w : IV} {a b c : Int} (ha : IsI 32 A x a) (hb : IsI 32 B y b) (hc : IsI 32 D w c) [GL A G] [GL B G] [GL D G] (h0 : ¬ (a = 0 ∧ b = 0)) :
  Fn Tryz.prog 94 [.agg ⟨[.bool x.neg, .slice x.a.a x.a.n x.a.c]⟩, .agg ⟨[.bool y.neg, .slice y.a.a y.a.n y.a.c]⟩, .agg ⟨[.bool w.neg, .slice w.a.a w.a.n w.a.c]⟩] G (fun v G' => ∃ (l : LnQ) (p q r : IV), v = .tuple #[.agg ⟨[.bool p.neg, .slice p.a.a p.a.n p.a.c, .bool q.neg, .slice q.a.a q.a.n q.a.c, .bool r.neg, .slice r.a.a r.a.n r.a.c]⟩, .bool true] ∧ (l.ok ∧ l.a.natAbs ≤ a.natAbs ∧ l.b.natAbs ≤ b.natAbs ∧ l.c.natAbs ≤ c.natAbs) ∧ IsI 32 G' p l.a ∧ IsI 32 G' q l.b ∧ IsI 32 G' r l.c) := by
 have hgn : Nat.gcd a.natAbs b.natAbs ≠ 0 := fun h => h0 ⟨Int.natAbs_eq_zero.1 (Nat.eq_zero_of_gcd_eq_zero_left h), Int.natAbs_eq_zero.1 (Nat.eq_zero_of_gcd_eq_zero_right h)⟩
 have hgp : 0 < Nat.gcd (Nat.gcd a.natAbs b.natAbs) c.natAbs := Nat.gcd_pos_of_pos_left _ (Nat.pos_of_ne_zero hgn)
 refine Fn.intro Tryz.func94 rfl rfl Tryz.ntmps94 rfl ?_
 intro C _ _
 refine sR <| ?_
 refine sc (ch_box rfl rfl ?_)
 intro b1
 refine sc (ch_box rfl rfl ?_)
 intro b2
 refine sc (ch_box rfl rfl ?_)
 intro b3
 refine sc (ch_alloc rfl ?_)
 intro b4
 refine sa rfl rfl <| st_end <| sR <| sf rfl rfl <| slo1 rfl rfl rfl <| sf rfl rfl <| slo1 rfl rfl rfl <| ?_
 refine sc (ch_call rfl rfl (num_Common ha.abs hb.abs) rfl ?_)
 rintro _ G5 _ ⟨g, rfl, hg⟩
 have hgl : ¬ (g.n : Int) = 0 := by
  have := decide_eq_decide.1 hg.pos
  omega
 refine sa rfl rfl <| st_end <| st_seq <| sR <| sm rfl rfl <| slen rfl rfl <| sy (yd_eql rfl rfl) rfl <| st_end <| st_condF (congrArg some (congrArg Value.bool (decide_eq_false hgl))) <| st_skipc <| sR <| sm rfl rfl <| ?_
 refine sf rfl rfl <| slo1 rfl rfl rfl <| ?_
 refine sc (ch_call rfl rfl (num_Common hg hc.abs) rfl ?_)
 rintro _ G6 _ ⟨g2, rfl, hg2⟩
 refine sa rfl rfl <| st_end <| sR <| sf rfl rfl <| slo1 rfl rfl rfl <| sm rfl rfl <| ?_
 refine sc (ch_call rfl rfl (num_Divide ha.abs hg2 (by omega)) rfl ?_)
 rintro _ G7 _ ⟨d1, d2, rfl, hd1⟩
 refine sm rfl rfl <| sx rfl rfl rfl <| sx rfl rfl rfl <| sa rfl rfl <| sa rfl rfl <| st_end <| sR <| sf rfl rfl <| slo1 rfl rfl rfl <| sm rfl rfl <| ?_
 refine sc (ch_call rfl rfl (num_Divide hb.abs hg2 (by omega)) rfl ?_)
 rintro _ G8 _ ⟨e1, e2, rfl, he1⟩
 refine sm rfl rfl <| sx rfl rfl rfl <| sx rfl rfl rfl <| sa rfl rfl <| sa rfl rfl <| st_end <| sR <| sf rfl rfl <| slo1 rfl rfl rfl <| sm rfl rfl <| ?_
 refine sc (ch_call rfl rfl (num_Divide hc.abs hg2 (by omega)) rfl ?_)
 rintro _ G9 _ ⟨f1, f2, rfl, hf1⟩
 refine sm rfl rfl <| sx rfl rfl rfl <| sx rfl rfl rfl <| sa rfl rfl <| sa rfl rfl <| st_end <| st_seq <| dr0 (b := b4) (fun _ => false) [(0, true), (1, true), (2, true), (4, true), (5, true), (6, true), (8, true), (9, true), (10, true), (3, false), (7, false), (11, false), (12, true), (13, false), (14, true)] follows (by repeat (first | exact .hd .. | apply ORem.tl)) (by kernel_rfl) <| ?_
 refine dF rfl rfl rfl <| dL1 rfl rfl rfl rfl <| dM rfl rfl rfl <| dF rfl rfl rfl <| dL1 rfl rfl rfl rfl <| ?_
 refine dM rfl rfl rfl <| dF rfl rfl rfl <| dL1 rfl rfl rfl rfl <| dM rfl rfl rfl <| ?_
 refine dc rfl rfl (ch_call rfl rfl (num_Make hd1) rfl ?_)
 rintro _ G10 _ ⟨p, rfl, hp⟩
 refine dr_s <| ?_
 refine dc rfl rfl (ch_call rfl rfl (num_Make he1) rfl ?_)
 rintro _ G11 _ ⟨q, rfl, hq⟩
 refine dr_s <| ?_
 refine dc rfl rfl (ch_call rfl rfl (num_Make hf1) rfl ?_)
 rintro _ G12 _ ⟨r, rfl, hr⟩
 refine dr_s <| dy rfl (fun _ => yd_build rfl) rfl rfl <| ?_
 refine dc rfl rfl (chS rfl rfl rfl (nb rfl) rfl rfl ?_)
 refine dr_s <| dA rfl rfl rfl <| dn <| st_ret <| ?_
 exact st_done (.agg rfl ii ii rfl (.tmp rfl .nil)) ⟨⟨_, _, _⟩, p, q, r, rfl, ⟨mkl_ok hgn, mkl_le .., mkl_le .., mkl_le ..⟩, hp.up, hq.up, hr.up⟩
set_option maxHeartbeats 2000000 in
theorem ref_Through {A1 A2 B1 B2 G : Gh} {z w z' w' : IV} {m n m' n' : Int} (h1 : IsI 32 A1 z m) (h2 : IsI 32 A2 w n) (h3 : IsI 32 B1 z' m') (h4 : IsI 32 B2 w' n') [GL A1 G] [GL A2 G] [GL B1 G] [GL B2 G]
  (l1 : m.natAbs ≤ 100) (l2 : n.natAbs ≤ 100) (l3 : m'.natAbs ≤ 100) (l4 : n'.natAbs ≤ 100) (h0 : ¬ (m' = m ∧ n' = n)) : Fn Tryz.prog 37 [.agg ⟨[.bool z.neg, .slice z.a.a z.a.n z.a.c, .slice none 0 0, .bool w.neg, .slice w.a.a w.a.n w.a.c, .slice none 0 0]⟩, .agg ⟨[.bool z'.neg, .slice z'.a.a z'.a.n z'.a.c, .slice none 0 0, .bool w'.neg, .slice w'.a.a w'.a.n w'.a.c, .slice none 0 0]⟩] G (fun v G' => ∃ (l : LnQ) (p q r : IV), v = .tuple #[.agg ⟨[.bool p.neg, .slice p.a.a p.a.n p.a.c, .bool q.neg, .slice q.a.a q.a.n q.a.c, .bool r.neg, .slice r.a.a r.a.n r.a.c]⟩, .bool true] ∧ (l.ok ∧ l.a.natAbs ≤ (n' - n).natAbs ∧ l.b.natAbs ≤ (m' - m).natAbs ∧ l.c.natAbs ≤ 40000) ∧ IsI 32 G' p l.a ∧ IsI 32 G' q l.b ∧ IsI 32 G' r l.c) := by
 have e1 : (-(n' - n) * m).natAbs = (-(n' - n)).natAbs * m.natAbs := Int.natAbs_mul _ _
 have e2 : ((m' - m) * n).natAbs = (m' - m).natAbs * n.natAbs := Int.natAbs_mul _ _
 have e3 : (-(n' - n)).natAbs * m.natAbs ≤ 200 * 100 := Nat.mul_le_mul (by omega) l1
 have e4 : (m' - m).natAbs * n.natAbs ≤ 200 * 100 := Nat.mul_le_mul (by omega) l2
 have e5 : (zv false (1 * 1 * 1)) = 1 := by decide
 have e6 : (zv false (1 * 1 * 1)).natAbs = 1 := by decide
 refine Fn.intro Tryz.func37 rfl rfl Tryz.ntmps37 rfl ?_
 intro C _ _
 refine sR <| ?_
 refine sc (ch_box rfl rfl ?_)
 intro b1
 refine sc (ch_box rfl rfl ?_)
 intro b2
 refine sc (ch_alloc rfl ?_)
 intro b3
 refine sa rfl rfl <| st_end <| sR <| slo rfl rfl rfl <| slo rfl rfl rfl <| ?_
 refine sc (ch_call rfl rfl (ref_Sub h3 h4 h1 h2 (by omega) (by omega) (by omega) (by omega)) rfl ?_)
 rintro _ G4 _ ⟨dx, dy_, rfl, hdx, hdy⟩
 refine sc (ch_alloc rfl ?_)
 intro b5
 refine sc (chS rfl rfl rfl (nb rfl) rfl rfl ?_)
 refine st_end <| st_seq <| ?_
 refine drG [⟨5, 7, 87, .agg ⟨[.bool false, .slice none 0 0, .slice none 0 0]⟩⟩, ⟨6, 8, 87, .agg ⟨[.bool false, .slice none 0 0, .slice none 0 0]⟩⟩] (fun _ => false) [(0, true), (1, true), (3, true), (4, true), (2, false)] [(7, false), (8, false)] follows (by kernel_rfl) (fun fs => ?_)
 refine dyG rfl (fun _ => yd_fieldAddr rfl) rfl rfl (List.Sublist.refl _) <| dyG rfl (fun _ => yd_load_own rfl rfl) rfl rfl (List.Sublist.refl _) <| dyG rfl (fun _ => yd_fieldAddr rfl) rfl rfl (List.Sublist.refl _) <| ?_
 refine dyG rfl (fun _ => yd_load_own rfl rfl) rfl rfl (List.Sublist.refl _) <| ?_
 refine dcG' (by exact ⟨List.forall_mem_cons.2 ⟨⟨_, _, _, rfl, rfl⟩, List.forall_mem_cons.2 ⟨⟨_, _, _, rfl, rfl⟩, List.forall_mem_nil _⟩⟩, List.forall_mem_cons.2 ⟨inferInstance, List.forall_mem_cons.2 ⟨inferInstance, List.forall_mem_nil _⟩⟩, by decide, by decide⟩) rfl rfl rfl (List.Sublist.refl _) _ (fun fs => ?_)
 refine ch_call rfl rfl (num_Opp hdy) rfl ?_
 rintro _ G6 _ ⟨a, rfl, ha⟩
 refine dr_g (List.Sublist.refl _) ?_
 refine dG_out2 (by exact ⟨List.forall_mem_cons.2 ⟨⟨_, _, _, rfl, rfl⟩, List.forall_mem_cons.2 ⟨⟨_, _, _, rfl, rfl⟩, List.forall_mem_nil _⟩⟩, List.forall_mem_cons.2 ⟨inferInstance, List.forall_mem_cons.2 ⟨inferInstance, List.forall_mem_nil _⟩⟩, by decide, by decide⟩) rfl (List.Sublist.refl _) _ (fun b7 b8 => ?_)
 refine dc rfl rfl (chS rfl rfl rfl (nb rfl) rfl rfl ?_)
 refine dr_s <| ?_
 refine dc rfl rfl (chS rfl rfl rfl (nb rfl) rfl rfl ?_)
 refine dr_s <| dn <| st_seq <| ?_
 refine drF 9 87 (.agg ⟨[.bool false, .slice none 0 0, .slice none 0 0]⟩) (fun i => Nat.beq i 11) 10 [(0, true), (1, true), (2, true), (4, true), (5, true), (6, true), (3, false), (7, false), (8, false), (9, false)] [(11, false)] follows (by kernel_rfl) (fun fl => ?_)
 refine dyF rfl (fun _ => yd_load_own rfl rfl) rfl rfl (List.sublist_append_left _ _) <| dyF rfl (fun _ => yd_fieldAddr rfl) rfl rfl (List.sublist_append_left _ _) <| dyF rfl (fun _ => yd_load_own rfl rfl) rfl rfl (List.sublist_append_left _ _) <| ?_
 refine dyF rfl (fun _ => yd_load_own rfl rfl) rfl rfl (List.sublist_append_left _ _) <| dyF rfl (fun _ => yd_fieldAddr rfl) rfl rfl (List.sublist_append_left _ _) <| dyF rfl (fun _ => yd_load_own rfl rfl) rfl rfl (List.sublist_append_left _ _) <| ?_
 apply dcF (fl := fl) (t := 87) (z := .agg ⟨[.bool false, .slice none 0 0, .slice none 0 0]⟩)
 case ho => exact rfl
 case hg => exact rfl
 case hk => exact rfl
 case hd => exact rfl
 case hF => intro b; repeat (first | exact .nil | refine .cons rfl ?_)
 case hO => exact fun _ => (List.perm_append_singleton _ _).symm
 case hs => exact List.sublist_append_left _ _
 intro fl
 refine ch_call rfl rfl (num_Times ha h1 (by omega)) rfl ?_
 rintro _ G9 _ ⟨u1, rfl, hu1⟩
 refine dr_s' (List.sublist_append_left _ _) <| ?_
 apply dcF (fl := fl) (t := 87) (z := .agg ⟨[.bool false, .slice none 0 0, .slice none 0 0]⟩)
 case ho => exact rfl
 case hg => exact rfl
 case hk => exact rfl
 case hd => exact rfl
 case hF => intro b; repeat (first | exact .nil | refine .cons rfl ?_)
 case hO => exact fun _ => (List.perm_append_singleton _ _).symm
 case hs => exact List.sublist_append_left _ _
 intro fl
 refine ch_call rfl rfl (num_Times hdx h2 (by omega)) rfl ?_
 rintro _ G10 _ ⟨u2, rfl, hu2⟩
 refine dr_s' (List.sublist_append_left _ _) <| ?_
 apply dcF (fl := fl) (t := 87) (z := .agg ⟨[.bool false, .slice none 0 0, .slice none 0 0]⟩)
 case ho => exact rfl
 case hg => exact rfl
 case hk => exact rfl
 case hd => exact rfl
 case hF => intro b; repeat (first | exact .nil | refine .cons rfl ?_)
 case hO => exact fun _ => (List.perm_append_singleton _ _).symm
 case hs => exact List.sublist_append_left _ _
 intro fl
 refine ch_call rfl rfl (num_Plus hu1 hu2 (by omega) (by omega)) rfl ?_
 rintro _ G11 _ ⟨s, rfl, hs⟩
 refine dr_s' (List.sublist_append_left _ _) <| ?_
 apply dcF (fl := fl) (t := 87) (z := .agg ⟨[.bool false, .slice none 0 0, .slice none 0 0]⟩)
 case ho => exact rfl
 case hg => exact rfl
 case hk => exact rfl
 case hd => exact rfl
 case hF => intro b; repeat (first | exact .nil | refine .cons rfl ?_)
 case hO => exact fun _ => (List.perm_append_singleton _ _).symm
 case hs => exact List.sublist_append_left _ _
 intro fl
 refine ch_call rfl rfl (num_Opp hs) rfl ?_
 rintro _ G12 _ ⟨c, rfl, hc⟩
 refine dr_s' (List.sublist_append_left _ _) <| ?_
 apply dF_out (fl := fl) (t := 87) (z := .agg ⟨[.bool false, .slice none 0 0, .slice none 0 0]⟩)
 case hk => exact rfl
 case hd => exact rfl
 case hF => intro b; repeat (first | exact .nil | refine .cons rfl ?_)
 case hO => exact fun _ => List.perm_append_singleton _ _
 case hs => exact List.sublist_append_left _ _
 intro bF
 simp only [fO, fF, List.append_nil]
 refine dc rfl rfl (chS rfl rfl rfl (nb rfl) rfl rfl ?_)
 refine dr_f rfl <| dn <| st_seq <| dr (fun _ => false) [(0, true), (2, true), (5, true), (1, false), (3, false), (4, false), (6, false), (7, false), (8, true)] follows (by kernel_rfl) <| dL rfl rfl rfl rfl <| ?_
 refine dL rfl rfl rfl rfl <| dL rfl rfl rfl rfl <| ?_
 refine dc rfl rfl (ch_call rfl rfl num_Den rfl ?_)
 rintro _ G13 _ ⟨o1, rfl, ho1⟩
 refine dr_s <| ?_
 refine dc rfl rfl (ch_call rfl rfl num_Den rfl ?_)
 rintro _ G14 _ ⟨o2, rfl, ho2⟩
 refine dr_s <| ?_
 refine dc rfl rfl (ch_call rfl rfl (num_Product ho1 ho2 (by decide)) rfl ?_)
 rintro _ G15 _ ⟨r1, rfl, hr1⟩
 refine dr_s <| ?_
 refine dc rfl rfl (ch_call rfl rfl num_Den rfl ?_)
 rintro _ G16 _ ⟨o3, rfl, ho3⟩
 refine dr_s <| ?_
 refine dc rfl rfl (ch_call rfl rfl (num_Product hr1 ho3 (by decide)) rfl ?_)
 rintro _ G17 _ ⟨r2, rfl, hr2⟩
 refine dr_s <| dA rfl rfl rfl <| dn <| sR <| sm rfl rfl <| ?_
 refine sc (ch_call rfl rfl (num_Make hr2) rfl ?_)
 rintro _ G18 _ ⟨f, rfl, hf⟩
 refine sy (yd_build rfl) rfl <| ?_
 refine sc (ch_alloc rfl ?_)
 intro b19
 refine sc (chS rfl rfl rfl (nb rfl) rfl rfl ?_)
 refine st_end <| st_seq <| dr0 (b := b3) (fun _ => false) [(0, true), (1, true), (4, true), (5, true), (8, true), (9, true), (2, false), (3, true), (6, false), (7, true), (10, false), (11, true), (12, false), (13, true), (14, true), (15, false), (16, true)] follows (by repeat (first | exact .hd .. | apply ORem.tl)) (by kernel_rfl) <| ?_
 refine dL rfl rfl rfl rfl <| dL rfl rfl rfl rfl <| dL rfl rfl rfl rfl <| dL rfl rfl rfl rfl <| ?_
 refine dL rfl rfl rfl rfl <| dL rfl rfl rfl rfl <| ?_
 refine dc rfl rfl (ch_call rfl rfl (num_Times ha hf (by rw [e6]; omega)) rfl ?_)
 rintro _ G20 _ ⟨v1, rfl, hv1⟩
 refine dr_s <| dy rfl (fun _ => yd_fieldA rfl rfl) rfl rfl <| ?_
 refine dc rfl rfl (ch_call rfl rfl (num_Times hdx hf (by rw [e6]; omega)) rfl ?_)
 rintro _ G21 _ ⟨v2, rfl, hv2⟩
 refine dr_s <| dy rfl (fun _ => yd_fieldA rfl rfl) rfl rfl <| ?_
 refine dc rfl rfl (ch_call rfl rfl (num_Times hc hf (by rw [e6]; omega)) rfl ?_)
 rintro _ G22 _ ⟨v3, rfl, hv3⟩
 refine dr_s <| dy rfl (fun _ => yd_fieldA rfl rfl) rfl rfl <| ?_
 refine dc rfl rfl (ch_call rfl rfl (ref_MakeL hv1 hv2 hv3 (by rw [e5]; omega)) rfl ?_)
 rintro _ G23 _ ⟨l, p, q, r, rfl, hl, hp, hq, hr⟩
 refine dr_s <| dy rfl (fun _ => yd_extract rfl rfl) rfl rfl <| dy rfl (fun _ => yd_extract rfl rfl) rfl rfl <| ?_
 refine dc rfl rfl (chS rfl rfl rfl (nb rfl) rfl rfl ?_)
 refine dr_s <| dA rfl rfl rfl <| dn <| st_ret <| ?_
 exact st_done (.agg rfl ii ii rfl (.tmp rfl .nil)) ⟨l, p, q, r, rfl, ⟨hl.1, by have := hl.2.1; rw [e5] at this; omega, by have := hl.2.2.1; rw [e5] at this; omega, by have := hl.2.2.2; rw [e5] at this; omega⟩, hp.up, hq.up, hr.up⟩
end Go.Sx
end

section
set_option maxRecDepth 100000
namespace Go.Sx
open Go Go.Proofs
section
variable {P : Program} {C : Ctx} {n : Nat} {fr : Fr} {own own0 : List Own} {G G0 : Gh} {ops : Array Oper} {Q : Exit → Act → World → Prop} {k : Nat}
theorem drFS (own0 : List Own) (d : Nat) (t : TypeId) (z : Value) (fin : Nat → Bool) (k : Nat) (π π₂ : List (Nat × Bool)) {id : Nat} (hm : P.follows .mixedOrders = true) (ho : (orderOkF ops fin k π₂ π (Array.replicate ops.size false) && Nat.ble (π.length + π₂.length + 1) ops.size) = true)
  (h : ∀ fl : Option Nat, St C n (fr ++ fF d fl) (own ++ fO t z fl) G (dwE P ops (NoPan Q) (HS C own0 G) fin k π₂ fl π)) : St C n fr own G ((Code.region id ops true).wp P Q) := by
 simp only [Bool.and_eq_true] at ho
 have h0 := h none
 simp only [fF, fO, List.append_nil] at h0
 intro a w rl
 exact wp_mono (wp_region_any hm (wpAny_of_Z _ _ _ _ (wpAnyZ_of_orderF (fun _ _ _ _ _ h => h) π _ a _ ho.1 (h0 a _ (rl.heap rl.h.drew)) _ (by simpa using ho.2)))) NoPan.imp
end
theorem IsI.nil (G : Gh) : IsI 32 G ⟨false, ⟨none, 0, 0⟩⟩ 0 := ⟨rfl, by rw [show (0 : Int).natAbs = 0 from rfl]; exact ⟨by rw [show dg 0 = [] by rw [dg, dif_pos rfl]]; exact IsD.nil G, by decide⟩⟩
theorem Tape_P {A G : Gh} {x : SV} {es : List Int} (hx : IsSl A 1 x (es.map (Value.int .i64))) (he : es.length ≤ 400) [GL A G] {tb a : Nat} {lo : Bool} (ha : a ≤ es.length) :
  FnM Tryz.prog 41 [.pointer (some ⟨tb, 0, none⟩)] [⟨tb, [.slice x.a x.n x.c, .int .i64 a], 93, lo⟩] G (fun v css G' => ∃ (m n : Int) (z w : IV) (a' : Nat), v = .agg ⟨[.bool z.neg, .slice z.a.a z.a.n z.a.c, .slice none 0 0, .bool w.neg, .slice w.a.a w.a.n w.a.c, .slice none 0 0]⟩ ∧ m.natAbs ≤ 4 ∧ n.natAbs ≤ 4 ∧ IsI 32 G' z m ∧ IsI 32 G' w n ∧ a' ≤ es.length ∧ css = [[.slice x.a x.n x.c, .int .i64 a']]) := by
 refine FnM.intro Tryz.func41 rfl rfl Tryz.ntmps41 rfl ?_
 intro C _ _
 show St C _ _ [⟨tb, [.slice x.a x.n x.c, .int .i64 a], 93, false⟩] _ _
 refine sR <| ?_
 refine sc (ch_alloc rfl ?_)
 intro b1
 refine st_end <| sR <| sm rfl rfl <| ?_
 refine sc (ch_callM rfl rfl (M := [_]) (rest := [_]) (List.Perm.swap ..) (Tape_Next hx he (lo := false) (by omega) (by omega) ha) rfl ?_)
 rintro _ css G2 _ _ ⟨r, a1, rfl, hr1, hr2, ha1, rfl⟩
 show St C _ _ [⟨tb, [.slice x.a x.n x.c, .int .i64 a1], 93, false⟩, ⟨b1, [.bool false, .slice none 0 0, .slice none 0 0, .bool false, .slice none 0 0, .slice none 0 0], 89, true⟩] _ _
 refine sy (yd_sub64 rfl rfl) rfl <| sm rfl rfl <| ?_
 refine sc (ch_callM rfl rfl (M := [_]) (rest := [_]) (List.Perm.refl _) (Tape_Next hx he (lo := false) (by omega) (by omega) ha1) rfl ?_)
 rintro _ css G3 _ _ ⟨s, a2, rfl, hs1, hs2, ha2, rfl⟩
 show St C _ _ [⟨tb, [.slice x.a x.n x.c, .int .i64 a2], 93, false⟩, ⟨b1, [.bool false, .slice none 0 0, .slice none 0 0, .bool false, .slice none 0 0, .slice none 0 0], 89, true⟩] _ _
 refine sy (yd_sub64 rfl rfl) rfl <| ?_
 refine sc (ch_call rfl rfl (ref_Xy (m := r - 4) (n := s - 4) (by omega) (by omega) (by omega) (by omega)) rfl ?_)
 rintro _ G4 _ ⟨z, w, rfl, hz, hw⟩
 refine sc (ch_storeN (cs' := [.bool z.neg, .slice z.a.a z.a.n z.a.c, .slice none 0 0, .bool w.neg, .slice w.a.a w.a.n w.a.c, .slice none 0 0]) rfl rfl rfl (.tl _ _ _ _ _ _ _ _ (.hd ..)) rfl (nb rfl) rfl rfl ?_)
 refine st_end <| st_ret <| ?_
 exact st_doneM (css := [[.slice x.a x.n x.c, .int .i64 a2]]) (.agg rfl ii ii rfl .nil) rfl _ (List.Perm.refl _) (.cons_cons _ (List.nil_sublist _)) ⟨r - 4, s - 4, z, w, a2, rfl, by omega, by omega, hz.up, hw.up, ha2, rfl⟩
theorem Tape_V {A G : Gh} {x : SV} {es : List Int} (hx : IsSl A 1 x (es.map (Value.int .i64))) (he : es.length ≤ 400) [GL A G] {tb a : Nat} {lo : Bool} (ha : a ≤ es.length) :
   FnM Tryz.prog 44 [.pointer (some ⟨tb, 0, none⟩)] [⟨tb, [.slice x.a x.n x.c, .int .i64 a], 93, lo⟩] G (fun v css G' => ∃ (m n : Int) (z w : IV) (a' : Nat), v = .agg ⟨[.bool z.neg, .slice z.a.a z.a.n z.a.c, .slice none 0 0, .bool w.neg, .slice w.a.a w.a.n w.a.c, .slice none 0 0]⟩ ∧ m.natAbs ≤ 4 ∧ n.natAbs ≤ 4 ∧ ¬ (m = 0 ∧ n = 0) ∧ IsI 32 G' z m ∧ IsI 32 G' w n ∧ a' ≤ es.length ∧ css = [[.slice x.a x.n x.c, .int .i64 a']]) := by
 refine FnM.intro Tryz.func44 rfl rfl Tryz.ntmps44 rfl ?_
 intro C _ _
 show St C _ _ [⟨tb, [.slice x.a x.n x.c, .int .i64 a], 93, false⟩] _ _
 refine sR <| ?_
 refine sc (ch_alloc rfl ?_)
 intro b1
 refine st_end <| sR <| sm rfl rfl <| ?_
 refine sc (ch_callM rfl rfl (M := [_]) (rest := [_]) (List.Perm.swap ..) (Tape_P hx he (lo := false) ha) rfl ?_)
 rintro _ css G2 _ _ ⟨m, n, z, w, a1, rfl, hm, hn, hz, hw, ha1, rfl⟩
 show St C _ _ [⟨tb, [.slice x.a x.n x.c, .int .i64 a1], 93, false⟩, ⟨b1, [.bool false, .slice none 0 0, .slice none 0 0, .bool false, .slice none 0 0, .slice none 0 0], 89, true⟩] _ _
 refine sc (ch_alloc rfl ?_)
 intro b3
 refine sc (ch_storeN (cs' := [.bool z.neg, .slice z.a.a z.a.n z.a.c, .slice none 0 0, .bool w.neg, .slice w.a.a w.a.n w.a.c, .slice none 0 0]) rfl rfl rfl (.hd ..) rfl (nb rfl) rfl rfl ?_)
 refine st_end <| st_seq <| sR <| slo rfl rfl rfl <| sy (yd_build rfl) rfl <| ?_
 refine sc (ch_call rfl rfl (ref_Same hz hw (IsI.nil _) (IsI.nil _) (by omega) (by omega) (by decide) (by decide) (A1 := G2) (A2 := G2) (B1 := G2) (B2 := G2)) rfl ?_)
 rintro _ G4 _ rfl
 refine st_end <| ?_
 refine st_condP rfl (fun hc => ?_) (fun hc => ?_) -- slot 8
 · -- yes
   refine sR <| ?_
   refine sc (ch_call rfl rfl (ref_Xy (m := 1) (n := 0) (by decide) (by decide) (by decide) (by decide)) rfl ?_)
   rintro _ G5 _ ⟨p, q, rfl, hp, hq⟩
   refine sc (ch_storeN (cs' := [.bool p.neg, .slice p.a.a p.a.n p.a.c, .slice none 0 0, .bool q.neg, .slice q.a.a q.a.n q.a.c, .slice none 0 0]) rfl rfl rfl (.tl _ _ _ _ _ _ _ _ (.tl _ _ _ _ _ _ _ _ (.hd ..))) rfl (nb rfl) rfl rfl ?_)
   refine st_end <| st_ret <| ?_
   exact st_doneM (css := [[.slice x.a x.n x.c, .int .i64 a1]]) (.agg rfl ii ii rfl .nil) rfl _ (List.Perm.refl _) (.cons _ (.cons_cons _ (List.nil_sublist _))) ⟨1, 0, p, q, a1, rfl, by decide, by decide, by decide, hp.up, hq.up, ha1, rfl⟩
 refine st_skipc <| sR <| slo rfl rfl rfl <| ?_
 refine sc (ch_storeN (cs' := [.bool z.neg, .slice z.a.a z.a.n z.a.c, .slice none 0 0, .bool w.neg, .slice w.a.a w.a.n w.a.c, .slice none 0 0]) rfl rfl rfl (.tl _ _ _ _ _ _ _ _ (.tl _ _ _ _ _ _ _ _ (.hd ..))) rfl (nb rfl) rfl rfl ?_)
 refine st_end <| st_ret <| ?_
 exact st_doneM (css := [[.slice x.a x.n x.c, .int .i64 a1]]) (.agg rfl ii ii rfl .nil) rfl _ (List.Perm.refl _) (.cons _ (.cons_cons _ (List.nil_sublist _))) ⟨m, n, z, w, a1, rfl, hm, hn, hc, hz.up, hw.up, ha1, rfl⟩
set_option maxHeartbeats 1000000 in
theorem Tape_L {A G : Gh} {x : SV} {es : List Int} (hx : IsSl A 1 x (es.map (Value.int .i64))) (he : es.length ≤ 400) [GL A G] {tb a : Nat} {lo : Bool} (ha : a ≤ es.length) :
  FnM Tryz.prog 11 [.pointer (some ⟨tb, 0, none⟩)] [⟨tb, [.slice x.a x.n x.c, .int .i64 a], 93, lo⟩] G (fun v css G' => ∃ (l : LnQ) (p q r : IV) (a' : Nat), v = .agg ⟨[.bool p.neg, .slice p.a.a p.a.n p.a.c, .bool q.neg, .slice q.a.a q.a.n q.a.c, .bool r.neg, .slice r.a.a r.a.n r.a.c]⟩ ∧ (l.ok ∧ l.a.natAbs ≤ 4 ∧ l.b.natAbs ≤ 4 ∧ l.c.natAbs ≤ 40000) ∧ IsI 32 G' p l.a ∧ IsI 32 G' q l.b ∧ IsI 32 G' r l.c ∧ a' ≤ es.length ∧ css = [[.slice x.a x.n x.c, .int .i64 a']]) := by
 refine FnM.intro Tryz.func11 rfl rfl Tryz.ntmps11 rfl ?_
 intro C _ _
 show St C _ _ [⟨tb, [.slice x.a x.n x.c, .int .i64 a], 93, false⟩] _ _
 refine sR <| ?_
 refine sc (ch_alloc rfl ?_)
 intro b1
 refine st_end <| sR <| sm rfl rfl <| ?_
 refine sc (ch_callM rfl rfl (M := [_]) (rest := [_]) (List.Perm.swap ..) (Tape_P hx he (lo := false) ha) rfl ?_)
 rintro _ css G2 _ _ ⟨m, n, z, w, a1, rfl, hm, hn, hz, hw, ha1, rfl⟩
 show St C _ _ [⟨tb, [.slice x.a x.n x.c, .int .i64 a1], 93, false⟩, ⟨b1, [.bool false, .slice none 0 0, .bool false, .slice none 0 0, .bool false, .slice none 0 0], 32, true⟩] _ _
 refine sc (ch_alloc rfl ?_)
 intro b3
 refine sc (ch_storeN (cs' := [.bool z.neg, .slice z.a.a z.a.n z.a.c, .slice none 0 0, .bool w.neg, .slice w.a.a w.a.n w.a.c, .slice none 0 0]) rfl rfl rfl (.hd ..) rfl (nb rfl) rfl rfl ?_)
 refine st_end <| st_seq <| ?_
 refine drFS [⟨b3, [.bool z.neg, .slice z.a.a z.a.n z.a.c, .slice none 0 0, .bool w.neg, .slice w.a.a w.a.n w.a.c, .slice none 0 0], 89, true⟩] 4 32 (.agg ⟨[.bool false, .slice none 0 0, .bool false, .slice none 0 0, .bool false, .slice none 0 0]⟩) (fun _ => false) 10 [(0, true), (1, true), (3, true), (2, false), (4, false), (5, false), (6, false), (7, true), (8, true), (9, true)] [(11, false), (12, true)] follows (by kernel_rfl) (fun fl => ?_)
 refine dyF rfl (fun _ => yd_load_own rfl rfl) rfl rfl ((.cons_cons _ (List.nil_sublist _))) <| dyF rfl (fun _ => yd_load_own rfl rfl) rfl rfl ((.cons_cons _ (List.nil_sublist _))) <| dyF rfl (fun _ => yd_move rfl) rfl rfl ((.cons_cons _ (List.nil_sublist _))) <| ?_
 apply dcF (fl := fl) (t := 32) (z := .agg ⟨[.bool false, .slice none 0 0, .bool false, .slice none 0 0, .bool false, .slice none 0 0]⟩)
 case ho => exact rfl
 case hg => exact rfl
 case hk => exact rfl
 case hd => exact rfl
 case hF => intro b; repeat (first | exact .nil | refine .cons rfl ?_)
 case hO => exact fun _ => (List.perm_append_singleton _ _).symm
 case hs => exact (.cons_cons _ (List.nil_sublist _))
 intro fl
 refine ch_call rfl rfl (num_Of (n := 1) (by decide) (by decide)) rfl ?_
 rintro _ G4 _ ⟨o, rfl, ho⟩
 refine dr_s' (own0 := [⟨b3, [.bool z.neg, .slice z.a.a z.a.n z.a.c, .slice none 0 0, .bool w.neg, .slice w.a.a w.a.n w.a.c, .slice none 0 0], 89, true⟩]) ((.cons_cons _ (List.nil_sublist _))) <| ?_
 apply dcF (fl := fl) (t := 32) (z := .agg ⟨[.bool false, .slice none 0 0, .bool false, .slice none 0 0, .bool false, .slice none 0 0]⟩)
 case ho => exact rfl
 case hg => exact rfl
 case hk => exact rfl
 case hd => exact rfl
 case hF => intro b; repeat (first | exact .nil | refine .cons rfl ?_)
 case hO => exact fun _ => (List.perm_append_singleton _ _).symm
 case hs => exact (.cons_cons _ (List.nil_sublist _))
 intro fl
 refine ch_callM rfl rfl (M := [_]) (rest := [_, _] ++ fO 32 (.agg ⟨[.bool false, .slice none 0 0, .bool false, .slice none 0 0, .bool false, .slice none 0 0]⟩) fl) ((List.Perm.swap ..).append_right (t₁ := _)) (Tape_V hx he (lo := false) ha1) rfl ?_
 rintro _ css G5 _ _ ⟨m', n', z', w', a2, rfl, hm', hn', hne, hz', hw', ha2, rfl⟩
 show St C _ _ ([⟨tb, [.slice x.a x.n x.c, .int .i64 a2], 93, false⟩, ⟨b3, [.bool z.neg, .slice z.a.a z.a.n z.a.c, .slice none 0 0, .bool w.neg, .slice w.a.a w.a.n w.a.c, .slice none 0 0], 89, true⟩, ⟨b1, [.bool false, .slice none 0 0, .bool false, .slice none 0 0, .bool false, .slice none 0 0], 32, true⟩] ++ fO 32 (.agg ⟨[.bool false, .slice none 0 0, .bool false, .slice none 0 0, .bool false, .slice none 0 0]⟩) fl) _ _
 refine dr_s' (own0 := [⟨b3, [.bool z.neg, .slice z.a.a z.a.n z.a.c, .slice none 0 0, .bool w.neg, .slice w.a.a w.a.n w.a.c, .slice none 0 0], 89, true⟩]) ((List.Sublist.cons _ (.cons_cons _ (List.nil_sublist _)))) <| ?_
 apply dcF (fl := fl) (t := 32) (z := .agg ⟨[.bool false, .slice none 0 0, .bool false, .slice none 0 0, .bool false, .slice none 0 0]⟩)
 case ho => exact rfl
 case hg => exact rfl
 case hk => exact rfl
 case hd => exact rfl
 case hF => intro b; repeat (first | exact .nil | refine .cons rfl ?_)
 case hO => exact fun _ => (List.perm_append_singleton _ _).symm
 case hs => exact (List.Sublist.cons _ (.cons_cons _ (List.nil_sublist _)))
 intro fl
 refine ch_call rfl rfl (ref_Add hz hw ho hz' hw' (by omega) (by omega) (by decide) (by omega) (by omega)) rfl ?_
 rintro _ G6 _ ⟨u, v, rfl, hu, hv⟩
 refine dr_s' (own0 := [⟨b3, [.bool z.neg, .slice z.a.a z.a.n z.a.c, .slice none 0 0, .bool w.neg, .slice w.a.a w.a.n w.a.c, .slice none 0 0], 89, true⟩]) ((List.Sublist.cons _ (.cons_cons _ (List.nil_sublist _)))) <| ?_
 apply dcF (fl := fl) (t := 32) (z := .agg ⟨[.bool false, .slice none 0 0, .bool false, .slice none 0 0, .bool false, .slice none 0 0]⟩)
 case ho => exact rfl
 case hg => exact rfl
 case hk => exact rfl
 case hd => exact rfl
 case hF => intro b; repeat (first | exact .nil | refine .cons rfl ?_)
 case hO => exact fun _ => (List.perm_append_singleton _ _).symm
 case hs => exact (List.Sublist.cons _ (.cons_cons _ (List.nil_sublist _)))
 intro fl
 refine ch_call rfl rfl (ref_Through hz hw hu hv (by omega) (by omega) (by omega) (by omega) (by omega)) rfl ?_
 rintro _ G7 _ ⟨l, p, q, r, rfl, hl, hp, hq, hr⟩
 refine dr_s' (own0 := [⟨b3, [.bool z.neg, .slice z.a.a z.a.n z.a.c, .slice none 0 0, .bool w.neg, .slice w.a.a w.a.n w.a.c, .slice none 0 0], 89, true⟩]) ((List.Sublist.cons _ (.cons_cons _ (List.nil_sublist _)))) <| dyF rfl (fun _ => yd_move rfl) rfl rfl ((List.Sublist.cons _ (.cons_cons _ (List.nil_sublist _)))) <| dyF rfl (fun _ => yd_extract rfl rfl) rfl rfl ((List.Sublist.cons _ (.cons_cons _ (List.nil_sublist _)))) <| ?_
 refine dyF rfl (fun _ => yd_extract rfl rfl) rfl rfl ((List.Sublist.cons _ (.cons_cons _ (List.nil_sublist _)))) <| ?_
 apply dF_out (fl := fl) (t := 32) (z := .agg ⟨[.bool false, .slice none 0 0, .bool false, .slice none 0 0, .bool false, .slice none 0 0]⟩)
 case hk => exact rfl
 case hd => exact rfl
 case hF => intro b; repeat (first | exact .nil | refine .cons rfl ?_)
 case hO => exact fun _ => List.perm_append_singleton _ _
 case hs => exact (List.Sublist.cons _ (.cons_cons _ (List.nil_sublist _)))
 intro bF
 simp only [fO, fF, List.append_nil]
 refine dc rfl rfl (chS rfl rfl rfl (nb rfl) rfl rfl ?_)
 refine dr_s <| dA rfl rfl rfl <| dn <| sR <| slo rfl rfl rfl <| ?_
 refine sc (chS rfl rfl rfl (nb rfl) rfl rfl ?_)
 refine st_end <| st_ret <| ?_
 exact st_doneM (css := [[.slice x.a x.n x.c, .int .i64 a2]]) (.agg rfl ii ii rfl .nil) rfl _ (List.Perm.refl _) (.cons _ (.cons_cons _ (List.nil_sublist _))) ⟨l, p, q, r, a2, rfl, ⟨hl.1, by have := hl.2.1; omega, by have := hl.2.2.1; omega, hl.2.2.2⟩, hp.up, hq.up, hr.up, ha2, rfl⟩
end Go.Sx
end

section
set_option maxRecDepth 100000
namespace Go.Sx
open Go Go.Proofs
set_option maxHeartbeats 1000000 in
theorem Tape_Tree {A : Gh} {x : SV} {es : List Int} (hx : IsSl A 1 x (es.map (Value.int .i64))) (he : es.length ≤ 400) : ∀ {d : Nat} {G : Gh} {tb a : Nat} {lo : Bool}, [GL A G] → a ≤ es.length → d ≤ 100 →
   FnM Tryz.prog 10 [.pointer (some ⟨tb, 0, none⟩), .int .i64 d] [⟨tb, [.slice x.a x.n x.c, .int .i64 a], 93, lo⟩] G (fun v css G' => ∃ (t : Tr) (p : Option Addr) (a' : Nat), v = .pointer p ∧ IsRT G' t p ∧ t.depth ≤ d ∧ t.all LnQ.ok ∧ a' ≤ es.length ∧ css = [[.slice x.a x.n x.c, .int .i64 a']])
 | 0, G, tb, a, lo, _, ha, hd => by
   refine FnM.intro Tryz.func10 rfl rfl Tryz.ntmps10 rfl ?_
   intro C _ _
   show St C _ [(0, .pointer (some ⟨tb, 0, none⟩)), (1, .int .i64 ((0 : Nat) : Int))] [⟨tb, [.slice x.a x.n x.c, .int .i64 a], 93, false⟩] _ _
   refine sR <| sa rfl rfl <| st_end <| st_seq <| sR <| sm rfl rfl <| sy (yd_eql rfl rfl) rfl <| sm rfl rfl <| ?_
   refine st_caseP 9 rfl (fun hg => ?_) (fun hg => absurd rfl hg)
   refine ss rfl rfl rfl rfl <| ss rfl rfl rfl rfl <| ss rfl rfl rfl rfl <| sy (yd_pickT rfl rfl) rfl <| st_end <| st_condT rfl <| sR <| sm rfl rfl <| ?_
   refine sc (ch_callM rfl rfl (M := [_]) (rest := []) (List.Perm.refl _) (Tape_Next hx he (lo := false) (by omega) (by omega) ha) rfl ?_)
   rintro _ css G1 _ _ ⟨r, a1, rfl, hr1, hr2, ha1, rfl⟩
   show St C _ _ [⟨tb, [.slice x.a x.n x.c, .int .i64 a1], 93, false⟩] _ _
   refine sy (yd_eql rfl rfl) rfl <| ?_
   refine sc (ch_call rfl rfl ref_Code rfl ?_)
   rintro _ G2 _ ⟨p, rfl, hp⟩
   refine sa rfl rfl <| st_end <| st_ret <| ?_
   exact st_doneM (css := [[.slice x.a x.n x.c, .int .i64 a1]]) (.tmp rfl .nil) rfl _ (List.Perm.refl _) (List.Sublist.refl _) ⟨.leaf _, p, a1, rfl, hp, Nat.le_refl _, trivial, ha1, rfl⟩
 | d + 1, G, tb, a, lo, _, ha, hd => by
   refine FnM.intro Tryz.func10 rfl rfl Tryz.ntmps10 rfl ?_
   intro C _ _
   show St C _ [(0, .pointer (some ⟨tb, 0, none⟩)), (1, .int .i64 ((d + 1 : Nat) : Int))] [⟨tb, [.slice x.a x.n x.c, .int .i64 a], 93, false⟩] _ _
   refine sR <| sa rfl rfl <| st_end <| st_seq <| sR <| sm rfl rfl <| sy (yd_eql rfl rfl) rfl <| sm rfl rfl <| ?_
   refine st_caseP 9 rfl (fun hg => absurd hg (by omega)) (fun hg => ?_)
   refine syg rfl rfl (yd_move rfl) rfl <| ?_
   refine st_chg rfl rfl rfl (ch_callM rfl rfl (M := [_]) (rest := []) (List.Perm.refl _) (Tape_Next hx he (lo := false) (by omega) (by omega) ha) rfl ?_)
   rintro _ css G3 _ _ ⟨r, a1, rfl, hr1, hr2, ha1, rfl⟩
   show St C _ _ [⟨tb, [.slice x.a x.n x.c, .int .i64 a1], 93, false⟩] _ _
   refine syg rfl rfl (yd_eql rfl rfl) rfl <| sy (yd_pickF rfl rfl) rfl <| st_end <| ?_
   refine st_condP rfl (fun hc => ?_) (fun hc => ?_) -- slot 13
   · -- yes
     refine sR <| sm rfl rfl <| ?_
     refine sc (ch_callM rfl rfl (M := [_]) (rest := []) (List.Perm.refl _) (Tape_Next hx he (lo := false) (by omega) (by omega) ha1) rfl ?_)
     rintro _ css G4 _ _ ⟨s, a2, rfl, hs1, hs2, ha2, rfl⟩
     show St C _ _ [⟨tb, [.slice x.a x.n x.c, .int .i64 a2], 93, false⟩] _ _
     refine sy (yd_eql rfl rfl) rfl <| ?_
     refine sc (ch_call rfl rfl ref_Code rfl ?_)
     rintro _ G5 _ ⟨p, rfl, hp⟩
     refine sa rfl rfl <| st_end <| st_ret <| ?_
     exact st_doneM (css := [[.slice x.a x.n x.c, .int .i64 a2]]) (.tmp rfl .nil) rfl _ (List.Perm.refl _) (List.Sublist.refl _) ⟨.leaf _, p, a2, rfl, hp, Nat.zero_le _, trivial, ha2, rfl⟩
   refine st_skipc <| sR <| sm rfl rfl <| ?_
   refine sc (ch_callM rfl rfl (M := [_]) (rest := []) (List.Perm.refl _) (Tape_L hx he (lo := false) ha1) rfl ?_)
   rintro _ css G6 _ _ ⟨l, u, v, w, a2, rfl, hl, hu, hv, hw, ha2, rfl⟩
   replace hl := hl.1
   show St C _ _ [⟨tb, [.slice x.a x.n x.c, .int .i64 a2], 93, false⟩] _ _
   refine sc (ch_alloc rfl ?_)
   intro b7
   refine sc (ch_storeN (cs' := [.bool u.neg, .slice u.a.a u.a.n u.a.c, .bool v.neg, .slice v.a.a v.a.n v.a.c, .bool w.neg, .slice w.a.a w.a.n w.a.c]) rfl rfl rfl (.hd ..) rfl (nb rfl) rfl rfl ?_)
   refine st_end <| sR <| sm rfl rfl <| sm rfl rfl <| sy (yd_sub64 rfl rfl) rfl <| ?_
   rw [show ((d + 1 : Nat) : Int) - 1 = (d : Int) by omega]
   refine sc (ch_callM rfl rfl (M := [_]) (rest := [_]) (List.Perm.swap ..) (Tape_Tree hx he (d := d) (lo := false) ha2 (by omega)) rfl ?_)
   rintro _ css G8 _ _ ⟨t1, p1, a3, rfl, hp1, hd1, hk1, ha3, rfl⟩
   show St C _ _ [⟨tb, [.slice x.a x.n x.c, .int .i64 a3], 93, false⟩, ⟨b7, [.bool u.neg, .slice u.a.a u.a.n u.a.c, .bool v.neg, .slice v.a.a v.a.n v.a.c, .bool w.neg, .slice w.a.a w.a.n w.a.c], 32, true⟩] _ _
   refine sa rfl rfl <| st_end <| st_seq <| drS [⟨b7, [.bool u.neg, .slice u.a.a u.a.n u.a.c, .bool v.neg, .slice v.a.a v.a.n v.a.c, .bool w.neg, .slice w.a.a w.a.n w.a.c], 32, true⟩] (fun _ => false) [(0, true), (1, true), (2, true), (3, true), (4, true), (5, false), (6, true), (7, false), (8, true)] follows (by kernel_rfl) <| dL rfl rfl rfl rfl <| ?_
   refine dM rfl rfl rfl <| dM rfl rfl rfl <| dM rfl rfl rfl <| dy rfl (fun _ => yd_sub64 rfl rfl (by omega) (by omega)) rfl rfl <| ?_
   rw [show ((d + 1 : Nat) : Int) - 1 = (d : Int) by omega]
   refine dc rfl rfl (ch_callM rfl rfl (M := [_]) (rest := [_]) (List.Perm.refl _) (Tape_Tree hx he (d := d) (lo := false) ha3 (by omega)) rfl ?_)
   rintro _ css G9 _ _ ⟨t2, p2, a4, rfl, hp2, hd2, hk2, ha4, rfl⟩
   show St C _ _ [⟨tb, [.slice x.a x.n x.c, .int .i64 a4], 93, false⟩, ⟨b7, [.bool u.neg, .slice u.a.a u.a.n u.a.c, .bool v.neg, .slice v.a.a v.a.n v.a.c, .bool w.neg, .slice w.a.a w.a.n w.a.c], 32, true⟩] _ _
   refine dr_s <| dy rfl (fun _ => yd_build rfl) rfl rfl <| ?_
   refine dc rfl rfl (ch_box rfl rfl ?_)
   intro b10
   refine dr_s <| dA rfl rfl rfl <| dn <| st_ret <| ?_
   refine st_freeze b10 (.hd ..) ?_
   intro G10 _ hfz
   exact st_doneM (css := [[.slice x.a x.n x.c, .int .i64 a4]]) (.tmp rfl .nil) rfl _ (List.Perm.refl _) (.cons_cons _ (List.nil_sublist _)) ⟨.node l t1 t2, _, a4, rfl, ⟨b10, u, v, w, p1, p2, rfl, hfz.h, hu.up, hv.up, hw.up, hp1.up, hp2.up⟩, (by simp only [Tr.depth]; omega), ⟨hl, hk1, hk2⟩, ha4, rfl⟩
end Go.Sx
end

section
set_option maxRecDepth 100000
namespace Go.Sx
open Go Go.Proofs
def cT : Tr → List DV
 | .leaf b => [.v (.bool true), .v (.bool b), .v (.bool false), .sl [], .v (.bool false), .sl [], .v (.bool false), .sl [], .v (.pointer none), .v (.pointer none)]
 | .node l x y => [.v (.bool false), .v (.bool false), .v (.bool (decide (l.a < 0))), dN l.a.natAbs, .v (.bool (decide (l.b < 0))), dN l.b.natAbs, .v (.bool (decide (l.c < 0))), dN l.c.natAbs, .pt (cT x), .pt (cT y)]
def eT (t : Tr) : DV := .pt (cT t)
def eN (n : NQ) : DV := .ag [.v (.bool (decide (n.l.a < 0))), dN n.l.a.natAbs, .v (.bool (decide (n.l.b < 0))), dN n.l.b.natAbs, .v (.bool (decide (n.l.c < 0))), dN n.l.c.natAbs, .v (.int .i64 n.a), .v (.int .i64 n.b)]
def eA (t : Tr) : DV := .ag [.v (.int .i64 (t.num 0)), .sl ((t.wr 0).map eN)]
theorem isI_to {G : Gh} {k : Nat} {z : IV} {m : Int} (h : IsI k G z m) : Is G (.v (.bool (decide (m < 0)))) (.bool z.neg) ∧ Is G (dN m.natAbs) (.slice z.a.a z.a.n z.a.c) :=
 ⟨is_v.2 (by rw [h.neg]), (is_dN h.abs.lt).2 ⟨_, rfl, h.abs⟩⟩
theorem isI_of {G : Gh} {k : Nat} {m : Int} {u v : Value} (hm : m.natAbs < 2 ^ k) (h1 : Is G (.v (.bool (decide (m < 0)))) u) (h2 : Is G (dN m.natAbs) v) : ∃ z : IV, u = .bool z.neg ∧ v = .slice z.a.a z.a.n z.a.c ∧ IsI k G z m := by
 obtain ⟨x, rfl, hx⟩ := (is_dN hm).1 h2
 exact ⟨⟨decide (m < 0), x⟩, is_v.1 h1, rfl, rfl, hx⟩
structure BL (l : LnQ) (k : Nat) : Prop where
 a : l.a.natAbs < 2 ^ k
 b : l.b.natAbs < 2 ^ k
 c : l.c.natAbs < 2 ^ k
theorem isL_of {G : Gh} {k : Nat} {l : LnQ} {v : Value} (hl : BL l k) (h : Is G (eL l) v) : ∃ a b c : IV, v = .agg ⟨[.bool a.neg, .slice a.a.a a.a.n a.a.c, .bool b.neg, .slice b.a.a b.a.n b.a.c, .bool c.neg, .slice c.a.a c.a.n c.a.c]⟩ ∧ IsI k G a l.a ∧ IsI k G b l.b ∧ IsI k G c l.c := by
 obtain ⟨m, rfl, g⟩ := is_ag.1 h
 clear h
 obtain ⟨v1, m, rfl, h1, h⟩ := isl_cons.1 g
 obtain ⟨v2, m, rfl, h2, h⟩ := isl_cons.1 h
 obtain ⟨v3, m, rfl, h3, h⟩ := isl_cons.1 h
 obtain ⟨v4, m, rfl, h4, h⟩ := isl_cons.1 h
 obtain ⟨v5, m, rfl, h5, h⟩ := isl_cons.1 h
 obtain ⟨v6, m, rfl, h6, h⟩ := isl_cons.1 h
 rw [isl_nil] at h; subst h
 obtain ⟨a, rfl, rfl, ha⟩ := isI_of hl.a h1 h2
 obtain ⟨b, rfl, rfl, hb⟩ := isI_of hl.b h3 h4
 obtain ⟨c, rfl, rfl, hc⟩ := isI_of hl.c h5 h6
 exact ⟨a, b, c, rfl, ha, hb, hc⟩
theorem isL_to {G : Gh} {k : Nat} {l : LnQ} {a b c : IV} (ha : IsI k G a l.a) (hb : IsI k G b l.b) (hc : IsI k G c l.c) : Is G (eL l) (.agg ⟨[.bool a.neg, .slice a.a.a a.a.n a.a.c, .bool b.neg, .slice b.a.a b.a.n b.a.c, .bool c.neg, .slice c.a.a c.a.n c.a.c]⟩) :=
 is_ag.2 ⟨_, rfl, .cons (isI_to ha).1 (.cons (isI_to ha).2 (.cons (isI_to hb).1 (.cons (isI_to hb).2 (.cons (isI_to hc).1 (.cons (isI_to hc).2 .nil)))))⟩
theorem isND_of {G : Gh} {k : Nat} {n : NQ} {v : Value} (hl : BL n.l k) (h : Is G (eN n) v) : ∃ z : ND, v = z.val ∧ IsND k G z n := by
 obtain ⟨m, rfl, g⟩ := is_ag.1 h
 clear h
 obtain ⟨v1, m, rfl, h1, h⟩ := isl_cons.1 g
 obtain ⟨v2, m, rfl, h2, h⟩ := isl_cons.1 h
 obtain ⟨v3, m, rfl, h3, h⟩ := isl_cons.1 h
 obtain ⟨v4, m, rfl, h4, h⟩ := isl_cons.1 h
 obtain ⟨v5, m, rfl, h5, h⟩ := isl_cons.1 h
 obtain ⟨v6, m, rfl, h6, h⟩ := isl_cons.1 h
 obtain ⟨v7, m, rfl, h7, h⟩ := isl_cons.1 h
 obtain ⟨v8, m, rfl, h8, h⟩ := isl_cons.1 h
 rw [isl_nil] at h; subst h
 obtain ⟨a, rfl, rfl, ha⟩ := isI_of hl.a h1 h2
 obtain ⟨b, rfl, rfl, hb⟩ := isI_of hl.b h3 h4
 obtain ⟨c, rfl, rfl, hc⟩ := isI_of hl.c h5 h6
 rw [is_v.1 h7, is_v.1 h8]
 exact ⟨⟨a, b, c, n.a, n.b⟩, rfl, ha, hb, hc, rfl, rfl⟩
theorem isND_to {G : Gh} {k : Nat} {n : NQ} {z : ND} (h : IsND k G z n) : Is G (eN n) z.val := by
 refine is_ag.2 ⟨_, rfl, .cons (isI_to h.a).1 (.cons (isI_to h.a).2 (.cons (isI_to h.b).1 (.cons (isI_to h.b).2 (.cons (isI_to h.c).1 (.cons (isI_to h.c).2 (.cons (is_v.2 ?_) (.cons (is_v.2 ?_) .nil)))))))⟩
 · rw [h.l]
 · rw [h.r]
theorem isNs_of {G : Gh} {k : Nat} : ∀ {ns : List NQ} {es : List Value}, (∀ n ∈ ns, BL n.l k) → IsLs G (ns.map eN) es → ∃ zs : List ND, es = zs.map ND.val ∧ All2 (IsND k G) zs ns
 | [], es, _, h => by rw [List.map_nil, isl_nil] at h; subst h; exact ⟨[], rfl, .nil⟩
 | n :: ns, es, hb, h => by
   rw [List.map_cons] at h
   obtain ⟨v, m, rfl, h1, h2⟩ := isl_cons.1 h
   obtain ⟨z, rfl, hz⟩ := isND_of (hb n List.mem_cons_self) h1
   obtain ⟨zs, rfl, hzs⟩ := isNs_of (fun n hn => hb n (List.mem_cons_of_mem _ hn)) h2
   exact ⟨z :: zs, rfl, .cons hz hzs⟩
theorem isNs_to {G : Gh} {k : Nat} : ∀ {ns : List NQ} {zs : List ND}, All2 (IsND k G) zs ns → IsLs G (ns.map eN) (zs.map ND.val)
 | _, _, .nil => .nil
 | _, _, .cons h t => .cons (isND_to h) (isNs_to t)
theorem slOkN (ns : List NQ) : slOk 8 (ns.map eN) := fun d hd => by
 obtain ⟨n, _, rfl⟩ := List.mem_map.1 hd; exact ⟨rfl, rfl⟩
theorem isA_of {G : Gh} {k : Nat} {t : Tr} {v : Value} (hb : ∀ n ∈ t.wr 0, BL n.l k) (h : Is G (eA t) v) : ∃ x : SV, v = .agg ⟨[.int .i64 (t.num 0), .slice x.a x.n x.c]⟩ ∧ IsNs k G x (t.wr 0) := by
 obtain ⟨m, rfl, g⟩ := is_ag.1 h
 clear h
 obtain ⟨v1, m, rfl, h1, h⟩ := isl_cons.1 g
 obtain ⟨v2, m, rfl, h2, h⟩ := isl_cons.1 h
 rw [isl_nil] at h; subst h
 rw [is_v.1 h1]
 obtain ⟨s, x, es, rfl, hs, hl⟩ := is_sl.1 h2
 obtain ⟨zs, rfl, hz⟩ := isNs_of hb hl
 refine ⟨x, rfl, zs, ?_, hz⟩
 rcases sl_stride hs hl (slOkN _) with h | h
 · rw [h] at hs ⊢; exact ⟨hs.len, hs.cap, .inl rfl⟩
 · subst h; exact hs
theorem isA_to {G : Gh} {k : Nat} {t : Tr} {x : SV} (h : IsNs k G x (t.wr 0)) : Is G (eA t) (.agg ⟨[.int .i64 (t.num 0), .slice x.a x.n x.c]⟩) := by
 obtain ⟨zs, h1, h2⟩ := h
 exact is_ag.2 ⟨_, rfl, .cons (is_v.2 rfl) (.cons (is_sl.2 ⟨8, x, _, rfl, h1, isNs_to h2⟩) .nil)⟩
theorem isRT_to {G : Gh} : ∀ {t : Tr} {p : Option Addr}, IsRT G t p → Is G (eT t) (.pointer p)
 | .leaf b, p, ⟨n, h1, h2⟩ => by
   subst h1
   exact is_pt.2 ⟨n, _, rfl, h2, .cons (is_v.2 rfl) (.cons (is_v.2 rfl) (.cons (is_v.2 rfl) (.cons (isNilS _) (.cons (is_v.2 rfl) (.cons (isNilS _) (.cons (is_v.2 rfl) (.cons (isNilS _) (.cons (is_v.2 rfl) (.cons (is_v.2 rfl) .nil)))))))))⟩
 | .node l x y, p, ⟨n, a, b, c, q, r, h1, h2, h3, h4, h5, h6, h7⟩ => by
   subst h1
   exact is_pt.2 ⟨n, _, rfl, h2, .cons (is_v.2 rfl) (.cons (is_v.2 rfl) (.cons (isI_to h3).1 (.cons (isI_to h3).2 (.cons (isI_to h4).1 (.cons (isI_to h4).2 (.cons (isI_to h5).1 (.cons (isI_to h5).2 (.cons (isRT_to h6) (.cons (isRT_to h7) .nil)))))))))⟩
theorem isRT_bl {G : Gh} : ∀ {t : Tr} {p : Option Addr}, IsRT G t p → t.all (fun l => BL l 32)
 | .leaf b, p, h => trivial
 | .node l x y, p, ⟨n, a, b, c, q, r, h1, h2, h3, h4, h5, h6, h7⟩ => ⟨⟨h3.abs.lt, h4.abs.lt, h5.abs.lt⟩, isRT_bl h6, isRT_bl h7⟩
theorem Tr.all_wr {p : LnQ → Prop} : ∀ {t : Tr} (n : Nat), t.all p → ∀ x ∈ t.wr n, p x.l
 | .leaf b, n, _, x, hx => by cases hx
 | .node l u v, n, ⟨h1, h2, h3⟩, x, hx => by
   simp only [Tr.wr, List.cons_append, List.mem_cons, List.mem_append] at hx
   rcases hx with rfl | hx | hx
   · exact h1
   · exact u.all_wr _ h2 x hx
   · exact v.all_wr _ h3 x hx
theorem q_ToL {GB : Gh} {l : LnQ} (hl : BL l 32) : PF GB Tryz.prog 14 [eL l] (eL l) := by
 intro G vs hg hv
 obtain ⟨v, m, rfl, h1, h2⟩ := isl_cons.1 hv
 rw [isl_nil] at h2; subst h2
 obtain ⟨a, b, c, rfl, ha, hb, hc⟩ := isL_of hl h1
 refine (ref_ToL ha hb hc).mono ?_
 rintro _ G' hG ⟨x, y, w, rfl, hx, hy, hw⟩
 exact isL_to hx hy hw
end Go.Sx
end

section
set_option maxRecDepth 100000
namespace Go.Sx
open Go Go.Proofs
theorem eN_get (xs ys : List NQ) (n : NQ) : ((xs ++ (n :: ys)).map eN)[((xs.length : Nat) : Int).toNat]? = some (eN n) := by simp
theorem eN_set (xs ys : List NQ) (n m : NQ) (e : DV) (h : e = eN m) : ((xs ++ (n :: ys)).map eN).set ((xs.length : Nat) : Int).toNat e = (xs ++ (m :: ys)).map eN := by subst h; simp
theorem q_write_true {GB : Gh} {ns : List NQ} : PB GB Tryz.prog 50 (fun w => [eT (.leaf true), .v (.slice w.a w.n w.c)]) 8 60 (ns.map eN) (fun w => .tp [.v (.slice w.a w.n w.c), .v (.int .i64 (Tr.num (.leaf true) ns.length))]) ((ns ++ Tr.wr (.leaf true) ns.length).map eN) := by
 refine PB.intro Tryz.func50 rfl rfl Tryz.ntmps50 (fun _ => rfl) ?_
 intro C w0
 refine sd_bh ((ns ++ Tr.wr (.leaf true) ns.length).map eN) (by simp [Tr.wr]) ?_
 refine qR <| tA rfl rfl <| tA rfl rfl <| sd_end <| sd_seq <| qR <| tM rfl rfl <| tY (yq_nilT rfl) rfl <| tY (yq_faE rfl rfl) rfl <| ?_
 refine tY (yq_ldE1 rfl rfl) rfl <| sd_end <| sd_condT rfl <| sd_seq <| qR <| tM rfl rfl <| tY (yq_nilT rfl) rfl <| tY (yq_faE rfl rfl) rfl <| tY (yq_ldE1 rfl rfl) rfl <| ?_
 refine sd_end <| sd_condT rfl <| qR <| tM rfl rfl <| tA rfl rfl <| tA rfl rfl <| sd_end <| sd_ret <| ?_
 exact sd_doneB (w := w0) (.tmp rfl (.tmp rfl .nil)) rfl (by repeat (first | exact .hd .. | apply BRemD.tl))
theorem q_write_false {GB : Gh} {ns : List NQ} : PB GB Tryz.prog 50 (fun w => [eT (.leaf false), .v (.slice w.a w.n w.c)]) 8 60 (ns.map eN) (fun w => .tp [.v (.slice w.a w.n w.c), .v (.int .i64 (Tr.num (.leaf false) ns.length))]) ((ns ++ Tr.wr (.leaf false) ns.length).map eN) := by
 refine PB.intro Tryz.func50 rfl rfl Tryz.ntmps50 (fun _ => rfl) ?_
 intro C w0
 refine sd_bh ((ns ++ Tr.wr (.leaf false) ns.length).map eN) (by simp [Tr.wr]) ?_
 refine qR <| tA rfl rfl <| tA rfl rfl <| sd_end <| sd_seq <| qR <| tM rfl rfl <| tY (yq_nilT rfl) rfl <| tY (yq_faE rfl rfl) rfl <| ?_
 refine tY (yq_ldE1 rfl rfl) rfl <| sd_end <| sd_condT rfl <| sd_seq <| qR <| tM rfl rfl <| tY (yq_nilT rfl) rfl <| tY (yq_faE rfl rfl) rfl <| tY (yq_ldE1 rfl rfl) rfl <| ?_
 refine sd_end <| sd_condF rfl <| sd_skipc <| qR <| tM rfl rfl <| tA rfl rfl <| tA rfl rfl <| sd_end <| sd_ret <| ?_
 exact sd_doneB (w := w0) (.tmp rfl (.tmp rfl .nil)) rfl (by repeat (first | exact .hd .. | apply BRemD.tl))
theorem q_write_node {GB : Gh} {l : LnQ} {s u : Tr} {ns : List NQ} (hl : BL l 32) (hs : ns.length + (1 + s.size + u.size) ≤ 1000000) (ihs : ∀ {ns : List NQ}, ns.length + s.size ≤ 1000000 → PB GB Tryz.prog 50 (fun w => [eT s, .v (.slice w.a w.n w.c)]) 8 60 (ns.map eN) (fun w => .tp [.v (.slice w.a w.n w.c), .v (.int .i64 (Tr.num s ns.length))]) ((ns ++ Tr.wr s ns.length).map eN)) (ihu : ∀ {ns : List NQ}, ns.length + u.size ≤ 1000000 → PB GB Tryz.prog 50 (fun w => [eT u, .v (.slice w.a w.n w.c)]) 8 60 (ns.map eN) (fun w => .tp [.v (.slice w.a w.n w.c), .v (.int .i64 (Tr.num u ns.length))]) ((ns ++ Tr.wr u ns.length).map eN)) : PB GB Tryz.prog 50 (fun w => [eT (.node l s u), .v (.slice w.a w.n w.c)]) 8 60 (ns.map eN) (fun w => .tp [.v (.slice w.a w.n w.c), .v (.int .i64 (Tr.num (.node l s u) ns.length))]) ((ns ++ Tr.wr (.node l s u) ns.length).map eN) := by
 refine PB.intro Tryz.func50 rfl rfl Tryz.ntmps50 (fun _ => rfl) ?_
 intro C w0
 refine qR <| tA rfl rfl <| tA rfl rfl <| sd_end <| sd_seq <| qR <| tM rfl rfl <| tY (yq_nilT rfl) rfl <| tY (yq_faE rfl rfl) rfl <| ?_
 refine tY (yq_ldE1 rfl rfl) rfl <| sd_end <| sd_condF rfl <| sd_skipc <| qR <| tM rfl rfl <| tY (yq_lenB rfl) rfl <| ?_
 refine sd_eq 20 (.d (.v (.int .i64 (ns.length : Nat)))) rfl (by simp) ?_
 refine tA rfl rfl <| sd_end <| qR <| tM rfl rfl <| tM rfl rfl <| tY (yq_nilT rfl) rfl <| tY (yq_faE rfl rfl) rfl <| tY (yq_ldE rfl rfl) rfl <| ?_
 refine tC (td_call rfl rfl (q_ToL hl) rfl) <| tY (yq_build rfl) rfl <| tF (tf_row rfl rfl rfl rfl rfl rfl rfl) <| ?_
 intro w1
 refine tF (tf_appendF (w := w0) rfl (by repeat (first | exact .hd .. | apply BRemD.tl)) (.bf rfl (okRow_spec rfl)) rfl (by simp only [List.length_map, List.length_cons, List.length_nil]; omega) rfl rfl) <| ?_
 intro w2
 refine sd_bh ((ns ++ [(⟨l, 0, 0⟩ : NQ)]).map eN) (by rw [List.map_append]; rfl) ?_
 refine tA rfl rfl <| sd_end <| qR <| tA rfl rfl <| tA rfl rfl <| sd_end <| qR <| tM rfl rfl <| tY (yq_nilT rfl) rfl <| ?_
 refine tY (yq_faE rfl rfl) rfl <| tY (yq_ldE1 rfl rfl) rfl <| tM rfl rfl <| tF (tf_callB (w := w2) rfl rfl (ihs (ns := ns ++ [(⟨l, 0, 0⟩ : NQ)]) (by simp; omega)) (by repeat (first | exact .hd .. | apply BRemD.tl)) rfl) <| ?_
 intro w3
 refine tM rfl rfl <| tY (yq_ext rfl rfl) rfl <| tY (yq_ext rfl rfl) rfl <| tA rfl rfl <| tA rfl rfl <| sd_end <| qR <| tM rfl rfl <| ?_
 refine tY (yq_nilT rfl) rfl <| tY (yq_faE rfl rfl) rfl <| tY (yq_ldE1 rfl rfl) rfl <| tM rfl rfl <| tF (tf_callB (w := w3) rfl rfl (ihu (ns := ns ++ [(⟨l, 0, 0⟩ : NQ)] ++ s.wr (ns ++ [(⟨l, 0, 0⟩ : NQ)]).length) (by simp [Tr.wr_len]; omega)) (by repeat (first | exact .hd .. | apply BRemD.tl)) rfl) <| ?_
 intro w4
 refine sd_bh ((ns ++ ((⟨l, 0, 0⟩ : NQ) :: (s.wr (ns.length + 1) ++ u.wr (ns.length + 1 + s.size)))).map eN) (by simp [Tr.wr_len, Nat.add_assoc, Nat.add_comm 1]) ?_
 refine tM rfl rfl <| tY (yq_ext rfl rfl) rfl <| tY (yq_ext rfl rfl) rfl <| tA rfl rfl <| tA rfl rfl <| sd_end <| qR <| tM rfl rfl <| ?_
 refine tM rfl rfl <| tM rfl rfl <| tM rfl rfl <| tM rfl rfl <| tM rfl rfl <| tY (yq_ixB rfl rfl (by omega) (by simp; omega)) rfl <| ?_
 refine tY (yq_faB rfl) rfl <| tC (td_storeBs (d := eN ⟨l, 0, 0⟩) rfl rfl (by repeat (first | exact .hd .. | apply BRemD.tl)) (eN_get ns _ ⟨l, 0, 0⟩) rfl rfl rfl) <| ?_
 refine sd_bh ((ns ++ ((⟨l, s.num (ns.length + 1), 0⟩ : NQ) :: (s.wr (ns.length + 1) ++ u.wr (ns.length + 1 + s.size)))).map eN) (by rw [eN_set _ _ _ ⟨l, s.num (ns.length + 1), 0⟩ _ (by simp [eN, DV.cells])]) ?_
 refine tY (yq_ixB rfl rfl (by omega) (by simp; omega)) rfl <| tY (yq_faB rfl) rfl <| tC (td_storeBs (d := eN ⟨l, s.num (ns.length + 1), 0⟩) rfl rfl (by repeat (first | exact .hd .. | apply BRemD.tl)) (eN_get ns _ ⟨l, s.num (ns.length + 1), 0⟩) rfl rfl rfl) <| ?_
 refine sd_bh ((ns ++ Tr.wr (.node l s u) ns.length).map eN) (by rw [eN_set _ _ _ ⟨l, s.num (ns.length + 1), u.num (ns.length + 1 + s.size)⟩ _ (by simp [eN, DV.cells, Tr.wr_len, Nat.add_assoc, Nat.add_comm 1])]; simp [Tr.wr]) ?_
 refine sd_end <| qR <| tM rfl rfl <| tM rfl rfl <| tA rfl rfl <| tA rfl rfl <| sd_end <| sd_ret <| ?_
 exact sd_doneB (w := w4) (.tmp rfl (.tmp rfl .nil)) rfl (by repeat (first | exact .hd .. | apply BRemD.tl))
theorem q_write {GB : Gh} : ∀ {t : Tr} {ns : List NQ}, t.all (fun l => BL l 32) → ns.length + t.size ≤ 1000000 → PB GB Tryz.prog 50 (fun w => [eT t, .v (.slice w.a w.n w.c)]) 8 60 (ns.map eN) (fun w => .tp [.v (.slice w.a w.n w.c), .v (.int .i64 (Tr.num t ns.length))]) ((ns ++ Tr.wr t ns.length).map eN)
 | .leaf true, ns, _, _ => q_write_true
 | .leaf false, ns, _, _ => q_write_false
 | .node l s u, ns, hb, hs => q_write_node hb.1 hs (fun h => q_write hb.2.1 h) (fun h => q_write hb.2.2 h)
theorem q_Write {GB : Gh} {t : Tr} (hb : t.all (fun l => BL l 32)) (hs : t.size ≤ 1000000) : PF GB Tryz.prog 13 [eT t] (eA t) := by
 refine PF.intro Tryz.func13 rfl rfl Tryz.ntmps13 rfl ?_
 intro C
 refine qR <| tF (tf_alloc rfl) <| ?_
 intro b1
 refine sd_end <| qR <| tF (tf_alloc rfl) <| ?_
 intro b2
 refine sd_end <| qR <| tM rfl rfl <| ?_
 refine sd_newB 8 60 ?_
 refine tF (tf_callB (w := ⟨none, 0, 0⟩) rfl rfl (q_write (t := t) (ns := []) hb (by simpa using hs)) (by repeat (first | exact .hd .. | apply BRemD.tl)) rfl) <| ?_
 intro w3
 refine tM rfl rfl <| tY (yq_ext rfl rfl) rfl <| tY (yq_ext rfl rfl) rfl <| tY (yq_faP rfl) rfl <| ?_
 refine sd_freezeB [7] (w := w3) (by repeat (first | exact .hd .. | apply BRemD.tl)) (by simp only [List.forall_mem_cons, List.not_mem_nil, false_implies, implies_true, and_true]; exact rfl) ?_
 refine tC (td_store1 rfl rfl (by first | (dsimp only [DV.cells, ovD, zs1, zs2, Nat.reduceAdd, zs3, zs4]; done) | exact rfl) (by repeat (first | exact .hd .. | apply OUpdD.tl)) rfl rfl rfl) <| ?_
 refine tY (yq_faP rfl) rfl <| tC (td_store1 rfl rfl (by first | (dsimp only [DV.cells, ovD, zs1, zs2, Nat.reduceAdd, zs3, zs4]; done) | exact rfl) (by repeat (first | exact .hd .. | apply OUpdD.tl)) rfl rfl rfl) <| ?_
 refine sd_end <| qR <| tY (yq_ldO rfl rfl) rfl <| tC (tdS rfl rfl rfl rfl rfl rfl) <| ?_
 refine sd_end <| sd_ret <| ?_
 exact sd_done (.agg rfl ii ii rfl .nil) rfl
end Go.Sx
end
