/-
  Reference: directions by angle; spans; the edge of a side. Reference: the edge of a side of a cell. Reference: points near an edge; the interior of a cell; the place of a line. Regions that draw their order, with a tree of orders.
-/
import Derived.Test.YtkijgpopaaknfaaGreatDoorMc17
set_option linter.unusedSimpArgs false
set_option linter.unusedVariables false
section
set_option maxRecDepth 100000
namespace Go.Sx
open Go Go.Proofs
theorem q_half {GB : Gh} {v : PtQ} : PF GB Tryz.prog 129 [eP v] (vI v.half) := by
 refine PF.intro Tryz.func129 rfl rfl Tryz.ntmps129 rfl ?_
 intro C
 refine qR <| tF (tf_box rfl rfl rfl) <| ?_
 intro b1
 refine tA rfl rfl <| sd_end <| sd_seq <| ?_
 refine drX (own0 := _) (own1 := []) (bs0 := []) (bs1 := _) [] [(0, true), (1, true), (3, true), (4, true), (2, false), (5, false), (6, true), (7, true)] [] follows (by rw [List.append_nil]) (List.Perm.refl _) (by kernel_rfl) ?_
 refine dyX rfl (yq_faP rfl) rfl <| ?_
 refine dyX rfl (yq_ldO rfl rfl) rfl <| ?_
 refine dyX rfl (yq_faP rfl) rfl <| ?_
 refine dyX rfl (yq_ldO rfl rfl) rfl <| ?_
 refine dcX rfl (td_call rfl rfl (q_S (q := v.x)) rfl) FDok.nil rfl <| ?_
 refine dcX rfl (td_call rfl rfl (q_S (q := v.y)) rfl) FDok.nil rfl <| ?_
 refine dyX rfl (yq_assign rfl) rfl <| ?_
 refine dyX rfl (yq_assign rfl) rfl <| ?_
 refine outX0 <| onX <| outX0 <| dnX <| ?_
 simp only [List.nil_append, List.append_nil, List.cons_append]
 refine sd_seq <| qR <| tM rfl rfl <| tY (yq_eql rfl rfl) rfl <| tM rfl rfl <| ?_
 refine sd_caseP 13 rfl (fun hg13 => ?_) (fun hg13 => ?_)
 ·
  refine tYg rfl rfl (yq_move rfl) rfl <| tYg rfl rfl (yq_eql rfl rfl) rfl <| tY (yq_pickT rfl rfl) rfl <| sd_end <| ?_
  refine sd_condP rfl (fun hc16 => ?_) (fun hc16 => ?_)
  ·
   refine qR <| tA rfl rfl <| sd_end <| sd_ret <| ?_
   exact sd_done (.tmp rfl .nil) (by show vI _ = vI _; unfold PtQ.half; generalize v.x.num.sign = sx at *; generalize v.y.num.sign = sy at *; congr 1; (repeat' split) <;> omega)
  ·
   refine sd_skipc <| sd_seq <| qR <| tM rfl rfl <| tY (yq_gtr rfl rfl) rfl <| tM rfl rfl <| ?_
   refine sd_caseP 19 rfl (fun hg19 => ?_) (fun hg19 => ?_)
   ·
    refine tS rfl rfl rfl rfl <| tS rfl rfl rfl rfl <| tS rfl rfl rfl rfl <| tU rfl rfl rfl <| tU rfl rfl rfl <| tS rfl rfl rfl rfl <| tY (yq_pickT rfl rfl) rfl <| sd_end <| sd_condT rfl <| ?_
    refine qR <| tA rfl rfl <| sd_end <| sd_ret <| ?_
    exact sd_done (.tmp rfl .nil) (by show vI _ = vI _; unfold PtQ.half; generalize v.x.num.sign = sx at *; generalize v.y.num.sign = sy at *; congr 1; (repeat' split) <;> omega)
   ·
    refine tYg rfl rfl (yq_move rfl) rfl <| tYg rfl rfl (yq_eql rfl rfl) rfl <| tYg rfl rfl (yq_move rfl) rfl <| ?_
    refine sd_caseP 22 rfl (fun hg22 => ?_) (fun hg22 => ?_)
    ·
     refine tYg rfl rfl (yq_move rfl) rfl <| tYg rfl rfl (yq_gtr rfl rfl) rfl <| tYg rfl rfl (yq_pickT rfl rfl) rfl <| tY (yq_pickF rfl rfl) rfl <| sd_end <| ?_
     refine sd_condP rfl (fun hc26 => ?_) (fun hc26 => ?_)
     ·
      refine qR <| tA rfl rfl <| sd_end <| sd_ret <| ?_
      exact sd_done (.tmp rfl .nil) (by show vI _ = vI _; unfold PtQ.half; generalize v.x.num.sign = sx at *; generalize v.y.num.sign = sy at *; congr 1; (repeat' split) <;> omega)
     ·
      refine sd_skipc <| qR <| tA rfl rfl <| sd_end <| sd_ret <| ?_
      exact sd_done (.tmp rfl .nil) (by show vI _ = vI _; unfold PtQ.half; generalize v.x.num.sign = sx at *; generalize v.y.num.sign = sy at *; congr 1; (repeat' split) <;> omega)
    ·
     refine tS rfl rfl rfl rfl <| tS rfl rfl rfl rfl <| tYg rfl rfl (yq_pickF rfl rfl) rfl <| tY (yq_pickF rfl rfl) rfl <| sd_end <| sd_condF rfl <| sd_skipc <| qR <| tA rfl rfl <| ?_
     refine sd_end <| sd_ret <| ?_
     exact sd_done (.tmp rfl .nil) (by show vI _ = vI _; unfold PtQ.half; generalize v.x.num.sign = sx at *; generalize v.y.num.sign = sy at *; congr 1; (repeat' split) <;> omega)
 ·
  refine tS rfl rfl rfl rfl <| tS rfl rfl rfl rfl <| tY (yq_pickF rfl rfl) rfl <| sd_end <| sd_condF rfl <| sd_skipc <| sd_seq <| qR <| tM rfl rfl <| tY (yq_gtr rfl rfl) rfl <| ?_
  refine tM rfl rfl <| ?_
  refine sd_caseP 19 rfl (fun hg19 => ?_) (fun hg19 => ?_)
  ·
   refine tS rfl rfl rfl rfl <| tS rfl rfl rfl rfl <| tS rfl rfl rfl rfl <| tU rfl rfl rfl <| tU rfl rfl rfl <| tS rfl rfl rfl rfl <| tY (yq_pickT rfl rfl) rfl <| sd_end <| sd_condT rfl <| ?_
   refine qR <| tA rfl rfl <| sd_end <| sd_ret <| ?_
   exact sd_done (.tmp rfl .nil) (by show vI _ = vI _; unfold PtQ.half; generalize v.x.num.sign = sx at *; generalize v.y.num.sign = sy at *; congr 1; (repeat' split) <;> omega)
  ·
   refine tYg rfl rfl (yq_move rfl) rfl <| tYg rfl rfl (yq_eql rfl rfl) rfl <| tYg rfl rfl (yq_move rfl) rfl <| ?_
   refine sd_caseP 22 rfl (fun hg22 => ?_) (fun hg22 => ?_)
   ·
    refine tYg rfl rfl (yq_move rfl) rfl <| tYg rfl rfl (yq_gtr rfl rfl) rfl <| tYg rfl rfl (yq_pickT rfl rfl) rfl <| tY (yq_pickF rfl rfl) rfl <| sd_end <| ?_
    refine sd_condP rfl (fun hc26 => ?_) (fun hc26 => ?_)
    ·
     refine qR <| tA rfl rfl <| sd_end <| sd_ret <| ?_
     exact sd_done (.tmp rfl .nil) (by show vI _ = vI _; unfold PtQ.half; generalize v.x.num.sign = sx at *; generalize v.y.num.sign = sy at *; congr 1; (repeat' split) <;> omega)
    ·
     refine sd_skipc <| qR <| tA rfl rfl <| sd_end <| sd_ret <| ?_
     exact sd_done (.tmp rfl .nil) (by show vI _ = vI _; unfold PtQ.half; generalize v.x.num.sign = sx at *; generalize v.y.num.sign = sy at *; congr 1; (repeat' split) <;> omega)
   ·
    refine tS rfl rfl rfl rfl <| tS rfl rfl rfl rfl <| tYg rfl rfl (yq_pickF rfl rfl) rfl <| tY (yq_pickF rfl rfl) rfl <| sd_end <| sd_condF rfl <| sd_skipc <| qR <| tA rfl rfl <| ?_
    refine sd_end <| sd_ret <| ?_
    exact sd_done (.tmp rfl .nil) (by show vI _ = vI _; unfold PtQ.half; generalize v.x.num.sign = sx at *; generalize v.y.num.sign = sy at *; congr 1; (repeat' split) <;> omega)
theorem sgn_bd (z : Int) : -1 ≤ z.sign ∧ z.sign ≤ 1 := by
 rcases Int.lt_trichotomy z 0 with h | h | h
 · rw [Int.sign_eq_neg_one_of_neg h]; omega
 · rw [h]; decide
 · rw [Int.sign_eq_one_of_pos h]; omega
theorem q_Angle {GB : Gh} {u v : PtQ} {i j : Nat} [hu : BPt u i] [hv : BPt v j] (hi : i ≤ 200000 := by decide) (hj : j ≤ 200000 := by decide) : PF GB Tryz.prog 77 [eP u, eP v] (vI (angleQ u v)) := by
 refine PF.intro Tryz.func77 rfl rfl Tryz.ntmps77 rfl ?_
 intro C
 refine qR <| tF (tf_box rfl rfl rfl) <| ?_
 intro b1
 refine tF (tf_box rfl rfl rfl) <| ?_
 intro b2
 refine tA rfl rfl <| sd_end <| sd_seq <| ?_
 refine drX (own0 := _) (own1 := []) (bs0 := []) (bs1 := _) [] [(0, true), (2, true), (1, false), (3, false), (4, true), (5, true)] [] follows (by rw [List.append_nil]) (List.Perm.refl _) (by kernel_rfl) ?_
 refine dyX rfl (yq_ldO rfl rfl) rfl <| ?_
 refine dyX rfl (yq_ldO rfl rfl) rfl <| ?_
 refine dcX rfl (td_call rfl rfl (q_half (v := u)) rfl) FDok.nil rfl <| ?_
 refine dcX rfl (td_call rfl rfl (q_half (v := v)) rfl) FDok.nil rfl <| ?_
 refine dyX rfl (yq_assign rfl) rfl <| ?_
 refine dyX rfl (yq_assign rfl) rfl <| ?_
 refine outX0 <| onX <| outX0 <| dnX <| ?_
 simp only [List.nil_append, List.append_nil, List.cons_append]
 refine sd_seq <| qR <| tM rfl rfl <| tM rfl rfl <| tY (yq_neq rfl rfl) rfl <| sd_end <| ?_
 refine sd_condP rfl (fun hc13 => ?_) (fun hc13 => ?_)
 ·
  refine sd_seq <| qR <| tM rfl rfl <| tM rfl rfl <| tY (yq_lss rfl rfl) rfl <| sd_end <| ?_
  refine sd_condP rfl (fun hc16 => ?_) (fun hc16 => ?_)
  ·
   refine qR <| tA rfl rfl <| sd_end <| sd_ret <| ?_
   exact sd_done (.tmp rfl .nil) (by show vI _ = vI _; unfold angleQ; rw [if_pos hc16])
  ·
   refine sd_skipc <| qR <| tA rfl rfl <| sd_end <| sd_ret <| ?_
   exact sd_done (.tmp rfl .nil) (by show vI _ = vI _; unfold angleQ; rw [if_neg hc16, if_pos (by omega)])
 ·
  refine sd_skipc <| qR <| tY (yq_ldO rfl rfl) rfl <| tY (yq_ldO rfl rfl) rfl <| tC (td_call rfl rfl (q_Cross hi hj) rfl) <| tC (td_call rfl rfl (q_S) rfl) <| tY (yq_neg64 rfl (by have := sgn_bd (u.cross v).num; omega) (by have := sgn_bd (u.cross v).num; omega)) rfl <| ?_
  refine tA rfl rfl <| sd_end <| sd_ret <| ?_
  exact sd_done (.tmp rfl .nil) (by show vI _ = vI _; unfold angleQ; rw [if_neg (by omega), if_neg (by omega)])
instance BQ.i1 : BQ (((1 : Int) : Rat)) 2 := ⟨by decide, by decide⟩
def eV (v : IvQ) : DV := .ag [.v (.bool (decide (v.lo.num < 0))), dN v.lo.num.natAbs, dD v.lo.den, .v (.bool (decide (v.hi.num < 0))), dN v.hi.num.natAbs, dD v.hi.den, .v (.bool v.nl), .v (.bool v.nh)]
theorem eV_all : eV IvQ.all = .ag [.v (.bool false), .sl [], .sl [], .v (.bool false), .sl [], .sl [], .v (.bool true), .v (.bool true)] := by
 unfold eV IvQ.all dD
 simp only [show (0 : Rat).num = 0 from rfl, show (0 : Rat).den = 1 from rfl, Int.natAbs_zero, dN_zero]; rfl
theorem eQ_zero : eQ 0 = .ag [.v (.bool false), .sl [], .sl []] := by
 unfold eQ dD
 simp only [show (0 : Rat).num = 0 from rfl, show (0 : Rat).den = 1 from rfl, Int.natAbs_zero, dN_zero]; rfl
def sampleR (v : IvQ) : Rat := if v.nl = true ∧ v.nh = true then 0 else if v.nl = true then v.hi - 1 else if v.nh = true then v.lo + 1 else (v.lo + v.hi) / 2
theorem q_Full {GB : Gh}  : PF GB Tryz.prog 123 [] (eV IvQ.all) := by
 refine PF.intro Tryz.func123 rfl rfl Tryz.ntmps123 rfl ?_
 intro C
 refine qR <| tF (tf_alloc rfl) <| ?_
 intro b1
 refine sd_end <| qR <| tY (yq_build rfl) rfl <| tC (tdS rfl rfl rfl rfl rfl rfl) <| ?_
 refine sd_end <| sd_ret <| ?_
 exact sd_done (.agg rfl ii ii rfl .nil) (by rw [eV_all]; rfl)
theorem q_Sample {GB : Gh} {v : IvQ} {i : Nat} [hl : BQ v.lo i] [hh : BQ v.hi i] (hi : i ≤ 100000 := by decide) : PF GB Tryz.prog 161 [eV v] (eQ (sampleR v)) := by
 refine PF.intro Tryz.func161 rfl rfl Tryz.ntmps161 rfl ?_
 intro C
 refine qR <| tF (tf_box rfl rfl rfl) <| ?_
 intro b1
 refine tF (tf_alloc rfl) <| ?_
 intro b2
 refine sd_end <| sd_seq <| sd_block <| qR <| tY (yq_faP rfl) rfl <| tY (yq_ldO1 rfl rfl) rfl <| ?_
 refine sd_eq 5 (.d (.v (.bool (decide (v.nl = true))))) rfl (by simp) ?_
 refine tM rfl rfl <| ?_
 refine sd_caseP 6 rfl (fun hg6 => ?_) (fun hg6 => ?_)
 ·
  refine tYg rfl rfl (yq_faP rfl) rfl <| tYg rfl rfl (yq_ldO1 rfl rfl) rfl <| ?_
  refine sd_eq 8 (.d (.v (.bool (decide (v.nh = true))))) rfl (by simp) ?_
  refine tY (yq_pickT rfl rfl) rfl <| tA rfl rfl <| sd_end <| ?_
  refine sd_condP rfl (fun hc3 => ?_) (fun hc3 => ?_)
  ·
   refine qR <| tY (yq_build rfl) rfl <| tC (tdS rfl rfl rfl rfl rfl rfl) <| ?_
   refine sd_end <| sd_ret <| ?_
   exact sd_done (.agg rfl ii ii rfl .nil) (by unfold sampleR; rw [if_pos ⟨hg6, hc3⟩, eQ_zero]; rfl)
  ·
   refine qR <| tY (yq_faP rfl) rfl <| tY (yq_ldO1 rfl rfl) rfl <| ?_
   refine sd_eq 13 (.d (.v (.bool (decide (v.nl = true))))) rfl (by simp) ?_
   refine tA rfl rfl <| sd_end <| ?_
   refine sd_condP rfl (fun hc11 => ?_) (fun hc11 => ?_)
   ·
    refine sd_seq <| ?_
    refine sd_selO [1, 0] (by decide) rfl ?_
    simp only [pickL, zf1, zf2, zf3, zf4]
    refine drX (own0 := [_]) (own1 := [_]) (bs0 := []) (bs1 := _) [] [(0, true), (1, true), (2, false), (3, false), (4, false)] [] follows (List.Perm.refl _) (List.Perm.refl _) (by kernel_rfl) ?_
    refine dyX rfl (yq_faP rfl) rfl <| ?_
    refine dyX rfl (yq_ldO rfl rfl) rfl <| ?_
    refine dcX rfl (td_call rfl rfl (q_Of (n := 1) (by decide) (by decide)) rfl) FDok.nil rfl <| ?_
    refine dcX rfl (td_call rfl rfl (q_Sub (a := v.hi) (b := ((1 : Int) : Rat)) (by omega) (by decide)) rfl) FDok.nil rfl <| ?_
    refine dcX rfl (tdS rfl rfl rfl rfl rfl rfl) FDok.nil rfl <| ?_
    refine outX0 <| onX <| outX0 <| dnX <| ?_
    simp only [List.nil_append, List.append_nil, List.cons_append]
    refine sd_ret <| ?_
    exact sd_done (.agg rfl ii ii rfl .nil) (by unfold sampleR; rw [if_neg (fun e => hc3 e.2), if_pos hc11]; rfl)
   ·
    refine qR <| tY (yq_faP rfl) rfl <| tY (yq_ldO1 rfl rfl) rfl <| ?_
    refine sd_eq 20 (.d (.v (.bool (decide (v.nh = true))))) rfl (by simp) ?_
    refine tA rfl rfl <| sd_end <| ?_
    refine sd_condP rfl (fun hc18 => ?_) (fun hc18 => ?_)
    ·
     refine sd_seq <| ?_
     refine sd_selO [1, 0] (by decide) rfl ?_
     simp only [pickL, zf1, zf2, zf3, zf4]
     refine drX (own0 := [_]) (own1 := [_]) (bs0 := []) (bs1 := _) [] [(0, true), (1, true), (2, false), (3, false), (4, false)] [] follows (List.Perm.refl _) (List.Perm.refl _) (by kernel_rfl) ?_
     refine dyX rfl (yq_faP rfl) rfl <| ?_
     refine dyX rfl (yq_ldO rfl rfl) rfl <| ?_
     refine dcX rfl (td_call rfl rfl (q_Of (n := 1) (by decide) (by decide)) rfl) FDok.nil rfl <| ?_
     refine dcX rfl (td_call rfl rfl (q_Plus (a := v.lo) (b := ((1 : Int) : Rat)) (by omega) (by decide)) rfl) FDok.nil rfl <| ?_
     refine dcX rfl (tdS rfl rfl rfl rfl rfl rfl) FDok.nil rfl <| ?_
     refine outX0 <| onX <| outX0 <| dnX <| ?_
     simp only [List.nil_append, List.append_nil, List.cons_append]
     refine sd_ret <| ?_
     exact sd_done (.agg rfl ii ii rfl .nil) (by exact absurd hg6 hc11)
    ·
     refine sd_skipc <| qR <| tY (yq_faP rfl) rfl <| tY (yq_ldO rfl rfl) rfl <| tY (yq_faP rfl) rfl <| tY (yq_ldO rfl rfl) rfl <| tC (td_call rfl rfl (q_Mid (a := v.lo) (b := v.hi) (by omega) (by omega)) rfl) <| ?_
     refine tC (tdS rfl rfl rfl rfl rfl rfl) <| ?_
     refine sd_end <| sd_ret <| ?_
     exact sd_done (.agg rfl ii ii rfl .nil) (by exact absurd hg6 hc11)
 ·
  refine tS rfl rfl rfl rfl <| tS rfl rfl rfl rfl <| tY (yq_pickF rfl rfl) rfl <| tA rfl rfl <| sd_end <| sd_condF rfl <| qR <| tY (yq_faP rfl) rfl <| tY (yq_ldO1 rfl rfl) rfl <| ?_
  refine sd_eq 13 (.d (.v (.bool (decide (v.nl = true))))) rfl (by simp) ?_
  refine tA rfl rfl <| sd_end <| ?_
  refine sd_condP rfl (fun hc11 => ?_) (fun hc11 => ?_)
  ·
   refine sd_seq <| ?_
   refine sd_selO [1, 0] (by decide) rfl ?_
   simp only [pickL, zf1, zf2, zf3, zf4]
   refine drX (own0 := [_]) (own1 := [_]) (bs0 := []) (bs1 := _) [] [(0, true), (1, true), (2, false), (3, false), (4, false)] [] follows (List.Perm.refl _) (List.Perm.refl _) (by kernel_rfl) ?_
   refine dyX rfl (yq_faP rfl) rfl <| ?_
   refine dyX rfl (yq_ldO rfl rfl) rfl <| ?_
   refine dcX rfl (td_call rfl rfl (q_Of (n := 1) (by decide) (by decide)) rfl) FDok.nil rfl <| ?_
   refine dcX rfl (td_call rfl rfl (q_Sub (a := v.hi) (b := ((1 : Int) : Rat)) (by omega) (by decide)) rfl) FDok.nil rfl <| ?_
   refine dcX rfl (tdS rfl rfl rfl rfl rfl rfl) FDok.nil rfl <| ?_
   refine outX0 <| onX <| outX0 <| dnX <| ?_
   simp only [List.nil_append, List.append_nil, List.cons_append]
   refine sd_ret <| ?_
   exact sd_done (.agg rfl ii ii rfl .nil) (by exact absurd hc11 hg6)
  ·
   refine qR <| tY (yq_faP rfl) rfl <| tY (yq_ldO1 rfl rfl) rfl <| ?_
   refine sd_eq 20 (.d (.v (.bool (decide (v.nh = true))))) rfl (by simp) ?_
   refine tA rfl rfl <| sd_end <| ?_
   refine sd_condP rfl (fun hc18 => ?_) (fun hc18 => ?_)
   ·
    refine sd_seq <| ?_
    refine sd_selO [1, 0] (by decide) rfl ?_
    simp only [pickL, zf1, zf2, zf3, zf4]
    refine drX (own0 := [_]) (own1 := [_]) (bs0 := []) (bs1 := _) [] [(0, true), (1, true), (2, false), (3, false), (4, false)] [] follows (List.Perm.refl _) (List.Perm.refl _) (by kernel_rfl) ?_
    refine dyX rfl (yq_faP rfl) rfl <| ?_
    refine dyX rfl (yq_ldO rfl rfl) rfl <| ?_
    refine dcX rfl (td_call rfl rfl (q_Of (n := 1) (by decide) (by decide)) rfl) FDok.nil rfl <| ?_
    refine dcX rfl (td_call rfl rfl (q_Plus (a := v.lo) (b := ((1 : Int) : Rat)) (by omega) (by decide)) rfl) FDok.nil rfl <| ?_
    refine dcX rfl (tdS rfl rfl rfl rfl rfl rfl) FDok.nil rfl <| ?_
    refine outX0 <| onX <| outX0 <| dnX <| ?_
    simp only [List.nil_append, List.append_nil, List.cons_append]
    refine sd_ret <| ?_
    exact sd_done (.agg rfl ii ii rfl .nil) (by unfold sampleR; rw [if_neg (fun e => hg6 e.1), if_neg hc11, if_pos hc18]; rfl)
   ·
    refine sd_skipc <| qR <| tY (yq_faP rfl) rfl <| tY (yq_ldO rfl rfl) rfl <| tY (yq_faP rfl) rfl <| tY (yq_ldO rfl rfl) rfl <| tC (td_call rfl rfl (q_Mid (a := v.lo) (b := v.hi) (by omega) (by omega)) rfl) <| ?_
    refine tC (tdS rfl rfl rfl rfl rfl rfl) <| ?_
    refine sd_end <| sd_ret <| ?_
    exact sd_done (.agg rfl ii ii rfl .nil) (by unfold sampleR; rw [if_neg (fun e => hg6 e.1), if_neg hc11, if_neg hc18]; rfl)
end Go.Sx
end

section
set_option maxRecDepth 100000
namespace Go.Sx
open Go Go.Proofs
theorem BQ.of_fracI {q : Rat} {n D : Int} {i : Nat} (hd : 0 < D.natAbs) (h : q * ((D.natAbs : Nat) : Rat) = (n : Rat)) (hn : BI n i) (hD : BI D i) : BQ q i := BQ.of_frac hd h hn.h hD.h
theorem biMono {m : Int} {i j : Nat} (h : BI m i) (hij : i ≤ j) : BI m j := ⟨Nat.lt_of_lt_of_le h.h (Nat.pow_le_pow_right (by decide) hij)⟩
theorem param_bd {l m : LnQ} [LB l] [LB m] (hn : l.Ne) (h : crossI l m ≠ 0) : BQ (paramQ l (meetP l m)) 400 := by
 have e := param_frac hn h
 have hA : BI (crossI l m * (l.a * l.a + l.b * l.b)) _ := inferInstance
 have hB : BI (meetX l m * l.b - meetY l m * l.a) _ := inferInstance
 have hne : crossI l m * (l.a * l.a + l.b * l.b) ≠ 0 := by
   intro q
   rcases Int.mul_eq_zero.1 q with q | q
   · exact h q
   · have h1 := dd_pos hn
     simp only [LnQ.dir, PtQ.dot] at h1
     have h2 : ((l.a * l.a + l.b * l.b : Int) : Rat) = ((0 : Int) : Rat) := by rw [q]
     rw [Rat.intCast_add, Rat.intCast_mul, Rat.intCast_mul] at h2
     have h3 : ((0 : Int) : Rat) = 0 := rfl
     rw [h3] at h2
     grind
 have hA' := biMono (j := 400) hA (by decide)
 have hB' := biMono (j := 400) hB (by decide)
 generalize crossI l m * (l.a * l.a + l.b * l.b) = D at *
 generalize meetX l m * l.b - meetY l m * l.a = M at *
 by_cases hD : 0 < D
 · refine BQ.of_fracI (n := M) (D := D) (by omega) ?_ hB' hA'
   rw [← e]
   congr 1
   have : ((D.natAbs : Nat) : Int) = D := by omega
   rw [← this]; rfl
 · refine BQ.of_fracI (n := -M) (D := D) (by omega) ?_ (BI.neg M 400 (h := hB')) hA'
   rw [Rat.intCast_neg, ← e]
   have : ((D.natAbs : Nat) : Rat) = -(D : Rat) := by
     have h1 : ((D.natAbs : Nat) : Int) = -D := by omega
     rw [← Rat.intCast_neg, ← h1]; rfl
   rw [this]; grind
theorem sgn_le (k : Rat) : k.num.sign ≤ 0 ↔ ¬ 0 < k := by rw [← sgn_pos]; omega
theorem empty_of {w : IvQ} (h1 : ¬ w.nl = true) (h2 : ¬ w.nh = true) (h3 : 0 ≤ rcmp w.lo w.hi) : w.empty = true := by
 unfold IvQ.empty
 simp [h1, h2, h3]
theorem not_empty_nl {w : IvQ} (h : w.nl = true) : w.empty = false := by unfold IvQ.empty; simp [h]
theorem not_empty_nh {w : IvQ} (h : w.nh = true) : w.empty = false := by unfold IvQ.empty; simp [h]
theorem not_empty_lt {w : IvQ} (h : ¬ 0 ≤ rcmp w.lo w.hi) : w.empty = false := by unfold IvQ.empty; simp [h]
structure Stp (l : LnQ) (c : List LnQ) (k : Nat) (v : IvQ) : Prop where
 le : k ≤ c.length
 p : partL l (c.drop k) v = partL l c IvQ.all
 z : IvZ v
 lo : BQ v.lo 400
 hi : BQ v.hi 400
theorem Stp.skip {l : LnQ} {c : List LnQ} {k : Nat} {v : IvQ} (h : Stp l c k v) (hk : k < c.length) (e : c[k] = l) : Stp l c (k + 1) v :=
 ⟨hk, by have := h.p; rw [List.drop_eq_getElem_cons hk, partL_cons, if_pos e] at this; exact this, h.z, h.lo, h.hi⟩
theorem Stp.cut {l : LnQ} {c : List LnQ} {k : Nat} {v w : IvQ} (h : Stp l c k v) (hk : k < c.length) (e : c[k] ≠ l) (hb : l.cutB v c[k] = true) (hw : l.cutV v c[k] = w) (z : IvZ w) (lo : BQ w.lo 400) (hi : BQ w.hi 400) : Stp l c (k + 1) w :=
 ⟨hk, by have := h.p; rw [List.drop_eq_getElem_cons hk, partL_cons, if_neg e, if_pos hb, hw] at this; exact this, z, lo, hi⟩
theorem Stp.no {l : LnQ} {c : List LnQ} {k : Nat} {v : IvQ} (h : Stp l c k v) (hk : k < c.length) (e : c[k] ≠ l) (hb : l.cutB v c[k] = false) : (partL l c IvQ.all).isSome = false := by
 have := h.p
 rw [List.drop_eq_getElem_cons hk, partL_cons, if_neg e, if_neg (by rw [hb]; decide)] at this
 rw [← this]; rfl
theorem Stp.yes {l : LnQ} {c : List LnQ} {k : Nat} {v : IvQ} (h : Stp l c k v) (hk : c.length ≤ k) : (partL l c IvQ.all).isSome = true := by
 have := h.p
 rw [List.drop_eq_nil_of_le hk] at this
 rw [← this]; rfl
theorem Stp.all {l : LnQ} {c : List LnQ} : Stp l c 0 IvQ.all := ⟨Nat.zero_le _, by rw [List.drop_zero], IvZ.all, BQ.mono (k := 1) ⟨by decide, by decide⟩ (by decide), BQ.mono (k := 1) ⟨by decide, by decide⟩ (by decide)⟩
theorem updLo_y {v : IvQ} {t : Rat} (h : v.nl = true ∨ 0 < rcmp t v.lo) : (⟨t, v.hi, false, v.nh⟩ : IvQ) = updLo v t := by unfold updLo; rw [if_pos h]
theorem updLo_n {v : IvQ} {t : Rat} (h : ¬ v.nl = true) (h2 : ¬ 0 < rcmp t v.lo) : v = updLo v t := by unfold updLo; rw [if_neg (fun e => e.elim h h2)]
theorem updHi_y {v : IvQ} {t : Rat} (h : v.nh = true ∨ rcmp t v.hi < 0) : (⟨v.lo, t, v.nl, false⟩ : IvQ) = updHi v t := by unfold updHi; rw [if_pos h]
theorem updHi_n {v : IvQ} {t : Rat} (h : ¬ v.nh = true) (h2 : ¬ rcmp t v.hi < 0) : v = updHi v t := by unfold updHi; rw [if_neg (fun e => e.elim h h2)]
def updB (l m : LnQ) (v : IvQ) : IvQ := if 0 < (m.dir.cross l.dir).num.sign then updLo v (paramQ l (meetP l m)) else updHi v (paramQ l (meetP l m))
theorem updB_spec {l m : LnQ} {v : IvQ} [LB l] [LB m] (hn : l.Ne) (hz : IvZ v) (hlo : BQ v.lo 400) (hhi : BQ v.hi 400) (h0 : crossI l m ≠ 0) : l.cutV v m = updB l m v ∧ l.cutB v m = !(updB l m v).empty ∧ IvZ (updB l m v) ∧ BQ (updB l m v).lo 400 ∧ BQ (updB l m v).hi 400 := by
 have hb := param_bd (l := l) (m := m) hn h0
 unfold updB
 split
 · rename_i h
   obtain ⟨_, h1, h2⟩ := step_lo hn hz ((sgn_pos _).1 h)
   refine ⟨h1, h2, hz.lo' _, ?_⟩
   unfold updLo; split
   · exact ⟨hb, hhi⟩
   · exact ⟨hlo, hhi⟩
 · rename_i h
   obtain ⟨h1, h2⟩ := step_hi hn hz h0 (fun e => h ((sgn_pos _).2 e))
   refine ⟨h1, h2, hz.hi' _, ?_⟩
   unfold updHi; split
   · exact ⟨hlo, hb⟩
   · exact ⟨hlo, hhi⟩
set_option maxHeartbeats 4000000 in
theorem q_edge {GB : Gh} {c : List LnQ} {i : Nat} (hc : ∀ m ∈ c, LB m) (hok : ∀ m ∈ c, m.ok) (hn : c.length ≤ 1000) (hi : i < c.length) : PX GB Tryz.prog 76 [.sl (c.map eL), vI (i : Nat)] {x : IvQ × Bool // x.2 = (partL (c[i]'hi) c IvQ.all).isSome ∧ BQ x.1.lo 400 ∧ BQ x.1.hi 400} (fun x => .tp [eV x.1.1, vB x.1.2]) := by
 refine PX.intro Tryz.func76 rfl rfl Tryz.ntmps76 rfl ?_
 intro C
 have hcl := mapL_len c
 obtain ⟨l, hl⟩ : ∃ l, l = c[i] := ⟨_, rfl⟩
 rw [← hl]
 haveI hlb : LB l := hl ▸ hc _ (List.getElem_mem hi)
 have hlo : l.ok := hl ▸ hok _ (List.getElem_mem hi)
 refine qR <| tF (tf_alloc rfl) <| ?_
 intro b1
 refine tA rfl rfl <| sd_end <| qR <| tM rfl rfl <| tM rfl rfl <| tY (yq_ix rfl rfl (by omega) (mapL_get hi) rfl rfl) rfl <| tY (yq_ldE rfl rfl) rfl <| ?_
 refine sd_eq 16 (.d (eL l)) rfl (by rw [hl]; rfl) ?_
 refine tF (tf_alloc rfl) <| ?_
 intro b2
 refine tC (tdS rfl rfl rfl rfl rfl rfl) <| ?_
 refine sd_end <| qR <| tC (td_call rfl rfl (q_Full) rfl) <| tF (tf_alloc rfl) <| ?_
 intro b3
 refine tC (tdS rfl rfl rfl rfl rfl rfl) <| ?_
 refine sd_end <| sd_seq <| qR <| tM rfl rfl <| tY (yq_len rfl) rfl <| ?_
 refine sd_eq 19 (.d (vI (c.length : Nat))) rfl (by rw [hcl]; rfl) ?_
 refine tM rfl rfl <| sd_end <| sd_block <| ?_
 refine sd_loop (X := IvQ × Nat) (fun x => [(20, .d (vI (x.2 : Nat))), (19, .d (vI (c.length : Nat))), (18, .d (.sl (c.map eL))), (1, .d (vI (i : Nat))), (6, .d (.v (.pointer (some ⟨b2, 0, none⟩)))), (7, .d (.v (.pointer (some ⟨b3, 0, none⟩)))), (4, .d (.v (.pointer (some ⟨b1, 0, none⟩))))]) (fun x => [⟨b3, (eV x.1).cells, 157, true⟩, ⟨b2, (eL l).cells, 32, true⟩, ⟨b1, [.v (.bool false), .sl [], .sl [], .v (.bool false), .sl [], .sl [], .v (.bool false), .v (.bool false)], 157, true⟩]) (fun x => []) (fun x => Stp l c x.2 x.1) (fun x => c.length - x.2) ⟨IvQ.all, 0⟩ (by dsimp only; exact Stp.all) (by repeat (first | exact .nil | refine .cons rfl ?_ | refine .cons' rfl (by first | (simp [vI]; done) | (congr 3; omega) | (simp [vI]; omega)) ?_)) rfl rfl ?_
 rintro GB1 hGB1 ⟨v, k⟩ hS
 try dsimp only at *
 refine qR <| tY (yq_lss rfl rfl) rfl <| sd_end <| sd_seq <| ?_
 refine sd_condP rfl (fun hc21 => ?_) (fun hc21 => ?_)
 ·
  have hk : k < c.length := by omega
  obtain ⟨m, hm⟩ : ∃ m, m = c[k] := ⟨_, rfl⟩
  haveI hmb : LB m := hm ▸ hc _ (List.getElem_mem hk)
  have hmo : m.ok := hm ▸ hok _ (List.getElem_mem hk)
  refine sd_skipc <| sd_seq <| sd_block <| qR <| tM rfl rfl <| tY (yq_ix rfl rfl (by omega) (mapL_get hk) rfl rfl) rfl <| tY (yq_ldE rfl rfl) rfl <| ?_
  refine sd_eq 24 (.d (eL m)) rfl (by rw [hm]; rfl) ?_
  refine tF (tf_alloc rfl) <| ?_
  intro b4
  refine tA rfl rfl <| tC (tdS rfl rfl rfl rfl rfl rfl) <| ?_
  refine sd_end <| sd_seq <| qR <| tM rfl rfl <| tM rfl rfl <| tY (yq_eql rfl rfl) rfl <| tM rfl rfl <| ?_
  refine sd_caseP 28 rfl (fun hg28 => ?_) (fun hg28 => ?_)
  ·
   have hinv : Stp l c (k + 1) v := hS.skip hk (by rw [hl]; congr 1; omega)
   refine tS rfl rfl rfl rfl <| tS rfl rfl rfl rfl <| tS rfl rfl rfl rfl <| tS rfl rfl rfl rfl <| tY (yq_pickT rfl rfl) rfl <| sd_end <| sd_condT rfl <| sd_exit <| sd_ts <| sd_inBlock_eq <| ?_
   refine sd_region <| tY (yq_add64 rfl rfl) rfl <| tM rfl rfl <| sd_end <| ?_
   refine sd_selO [1, 2, 3] (by decide) rfl ?_
   simp only [pickL, zf1, zf2, zf3, zf4]
   exact sd_again ⟨v, k + 1⟩ (by dsimp only; exact hinv) (by dsimp only; omega) (by repeat (first | exact .nil | refine .cons rfl ?_ | refine .cons' rfl (by first | (simp [vI]; done) | (congr 3; omega) | (simp [vI]; omega)) ?_)) rfl rfl
  ·
   refine tYg rfl rfl (yq_ldO rfl rfl) rfl <| tYg rfl rfl (yq_ldO rfl rfl) rfl <| tCg rfl rfl (td_call rfl rfl (q_LCmp (l := l) (m := m)) rfl) <| tYg rfl rfl (yq_eql rfl rfl) rfl <| tY (yq_pickF rfl rfl) rfl <| ?_
   refine sd_end <| ?_
   refine sd_condP rfl (fun hc33 => ?_) (fun hc33 => ?_)
   ·
    have hinv : Stp l c (k + 1) v := hS.skip hk (by rw [← hm, (lcmp_zero l m).1 hc33])
    refine sd_exit <| sd_ts <| sd_inBlock_eq <| sd_region <| tY (yq_add64 rfl rfl) rfl <| tM rfl rfl <| sd_end <| ?_
    refine sd_selO [1, 2, 3] (by decide) rfl ?_
    simp only [pickL, zf1, zf2, zf3, zf4]
    exact sd_again ⟨v, k + 1⟩ (by dsimp only; exact hinv) (by dsimp only; omega) (by repeat (first | exact .nil | refine .cons rfl ?_ | refine .cons' rfl (by first | (simp [vI]; done) | (congr 3; omega) | (simp [vI]; omega)) ?_)) rfl rfl
   ·
    have hne : c[k] ≠ l := fun e => hc33 ((lcmp_zero l m).2 (by rw [hm, e]))
    refine sd_skipc <| qR <| tY (yq_ldO rfl rfl) rfl <| tY (yq_ldO rfl rfl) rfl <| tC (td_call rfl rfl (q_Meet (l := l) (m := m)) rfl) <| tM rfl rfl <| tY (yq_ext rfl rfl) rfl <| ?_
    refine tY (yq_ext rfl rfl) rfl <| tF (tf_alloc rfl) <| ?_
    intro b5
    refine tC (tdS rfl rfl rfl rfl rfl rfl) <| ?_
    refine tA rfl rfl <| sd_end <| sd_seq <| qR <| tM rfl rfl <| tY (yq_not rfl) rfl <| ?_
    refine sd_eq 41 (.d (.v (.bool (decide (crossI l m = 0))))) rfl (by simp) ?_
    refine sd_end <| ?_
    refine sd_condP rfl (fun hc41 => ?_) (fun hc41 => ?_)
    ·
     refine sd_seq <| sd_seq <| ?_
     refine drX (own0 := _) (own1 := []) (bs0 := []) (bs1 := _) [] [(0, true), (1, true), (2, false), (3, false), (4, true)] [] follows (by rw [List.append_nil]) (List.Perm.refl _) (by kernel_rfl) ?_
     refine dyX rfl (yq_ldO rfl rfl) rfl <| ?_
     refine dyX rfl (yq_ldO rfl rfl) rfl <| ?_
     refine dcX rfl (td_call rfl rfl (q_Base hlo.ne) rfl) FDok.nil rfl <| ?_
     refine dcX rfl (td_call rfl rfl (q_Side (l := m) (p := l.base)) rfl) FDok.nil rfl <| ?_
     refine dyX rfl (yq_leq rfl rfl) rfl <| ?_
     refine outX0 <| onX <| outX0 <| dnX <| ?_
     simp only [List.nil_append, List.append_nil, List.cons_append]
     refine sd_condP rfl (fun hc46 => ?_) (fun hc46 => ?_)
     ·
      have hno := hS.no hk hne (by have := (step_par (v := v) hc41).2; rw [← hm]; cases hb : l.cutB v m with | false => rfl | true => exact absurd (this.1 hb) ((sgn_le _).1 hc46))
      refine qR <| tY (yq_ldO rfl rfl) rfl <| tC (tdS rfl rfl rfl rfl rfl rfl) <| ?_
      refine tA rfl rfl <| sd_end <| sd_ret <| ?_
      exact sd_doneX ⟨(v, false), hno.symm, hS.lo, hS.hi⟩ (.agg rfl ii ii rfl (.tmp rfl .nil)) rfl
     ·
      have hinv : Stp l c (k + 1) v := by have := step_par (v := v) hc41; exact hS.cut hk hne (by rw [← hm]; exact this.2.2 (by have := mt (sgn_le (m.value l.base)).2 hc46; exact Decidable.not_not.1 this)) (by rw [← hm]; exact this.1) hS.z hS.lo hS.hi
      refine sd_skipc <| sd_exit <| sd_ts <| sd_inBlock_eq <| sd_region <| tY (yq_add64 rfl rfl) rfl <| tM rfl rfl <| sd_end <| ?_
      refine sd_selO [2, 3, 4] (by decide) rfl ?_
      simp only [pickL, zf1, zf2, zf3, zf4]
      exact sd_again ⟨v, k + 1⟩ (by dsimp only; exact hinv) (by dsimp only; omega) (by repeat (first | exact .nil | refine .cons rfl ?_ | refine .cons' rfl (by first | (simp [vI]; done) | (congr 3; omega) | (simp [vI]; omega)) ?_)) rfl rfl
    ·
     obtain ⟨u1, u2, u3, u4, u5⟩ := updB_spec (v := v) hlo.ne hS.z hS.lo hS.hi hc41
     haveI htb := param_bd hlo.ne hc41
     haveI hvl := hS.lo
     haveI hvh := hS.hi
     refine sd_skipc <| qR <| tY (yq_ldO rfl rfl) rfl <| tY (yq_ldO rfl rfl) rfl <| tC (td_call rfl rfl (q_Param (l := l) (p := meetP l m) hlo.ne) rfl) <| ?_
     obtain ⟨t, ht⟩ : ∃ t, t = paramQ l (meetP l m) := ⟨_, rfl⟩
     refine sd_eq 50 (.d (eQ t)) rfl (by rw [ht]) ?_
     rw [← ht] at htb
     refine tF (tf_alloc rfl) <| ?_
     intro b6
     refine tC (tdS rfl rfl rfl rfl rfl rfl) <| ?_
     refine sd_end <| ?_
     refine sd_cut (IvQ) (fun w => [(20, .d (vI (k : Nat))), (19, .d (vI (c.length : Nat))), (18, .d (.sl (c.map eL))), (1, .d (vI (i : Nat))), (6, .d (.v (.pointer (some ⟨b2, 0, none⟩)))), (7, .d (.v (.pointer (some ⟨b3, 0, none⟩)))), (4, .d (.v (.pointer (some ⟨b1, 0, none⟩))))]) (fun w => [⟨b3, (eV w).cells, 157, true⟩, ⟨b2, (eL l).cells, 32, true⟩, ⟨b1, [.v (.bool false), .sl [], .sl [], .v (.bool false), .sl [], .sl [], .v (.bool false), .v (.bool false)], 157, true⟩]) (fun w => []) (fun w => w = updB l m v) ?_ ?_
     ·
      refine sd_seq <| ?_
      refine drX (own0 := _) (own1 := []) (bs0 := []) (bs1 := _) [] [(0, true), (2, true), (1, false), (3, false), (4, false), (5, false), (6, true)] [] follows (by rw [List.append_nil]) (List.Perm.refl _) (by kernel_rfl) ?_
      refine dyX rfl (yq_ldO rfl rfl) rfl <| ?_
      refine dyX rfl (yq_ldO rfl rfl) rfl <| ?_
      refine dcX rfl (td_call rfl rfl (q_Dir (l := m)) rfl) FDok.nil rfl <| ?_
      refine dcX rfl (td_call rfl rfl (q_Dir (l := l)) rfl) FDok.nil rfl <| ?_
      refine dcX rfl (td_call rfl rfl (q_Cross (p := m.dir) (q := l.dir)) rfl) FDok.nil rfl <| ?_
      refine dcX rfl (td_call rfl rfl (q_S (q := m.dir.cross l.dir)) rfl) FDok.nil rfl <| ?_
      refine dyX rfl (yq_gtr rfl rfl) rfl <| ?_
      refine outX0 <| onX <| outX0 <| dnX <| ?_
      simp only [List.nil_append, List.append_nil, List.cons_append]
      refine sd_condP rfl (fun hc57 => ?_) (fun hc57 => ?_)
      ·
       refine qR <| tY (yq_faP rfl) rfl <| tY (yq_ldO1 rfl rfl) rfl <| ?_
       refine sd_eq 59 (.d (.v (.bool (decide (v.nl = true))))) rfl (by simp) ?_
       refine tM rfl rfl <| ?_
       refine sd_caseP 60 rfl (fun hg60 => ?_) (fun hg60 => ?_)
       ·
        refine tS rfl rfl rfl rfl <| tS rfl rfl rfl rfl <| tS rfl rfl rfl rfl <| tS rfl rfl rfl rfl <| tS rfl rfl rfl rfl <| tY (yq_pickT rfl rfl) rfl <| sd_end <| sd_condT rfl <| sd_region <| ?_
        refine tY (yq_ldO rfl rfl) rfl <| tY (yq_faP rfl) rfl <| tC (tdS rfl rfl rfl rfl rfl rfl) <| ?_
        refine tY (yq_faP rfl) rfl <| tC (td_store1 rfl rfl (by first | (dsimp only [DV.cells, ovD, zs1, zs2, Nat.reduceAdd, zs3, zs4]; done) | exact rfl) (by repeat (first | exact .hd .. | apply OUpdD.tl)) rfl rfl rfl) <| ?_
        refine sd_end <| ?_
        refine sd_selO [3, 4, 5] (by decide) rfl ?_
        simp only [pickL, zf1, zf2, zf3, zf4]
        exact sd_at ⟨t, v.hi, false, v.nh⟩ (by unfold updB; rw [if_pos hc57, ← ht]; exact updLo_y (.inl hg60)) (by repeat (first | exact .nil | refine .cons rfl ?_ | refine .cons' rfl (by first | (simp [vI]; done) | (congr 3; omega) | (simp [vI]; omega)) ?_)) rfl rfl
       ·
        refine tYg rfl rfl (yq_ldO rfl rfl) rfl <| tYg rfl rfl (yq_faP rfl) rfl <| tYg rfl rfl (yq_ldO rfl rfl) rfl <| tCg rfl rfl (td_call rfl rfl (q_C (a := t) (b := v.lo)) rfl) <| tYg rfl rfl (yq_gtr rfl rfl) rfl <| ?_
        refine tY (yq_pickF rfl rfl) rfl <| sd_end <| ?_
        refine sd_condP rfl (fun hc66 => ?_) (fun hc66 => ?_)
        ·
         refine sd_region <| tY (yq_ldO rfl rfl) rfl <| tY (yq_faP rfl) rfl <| tC (tdS rfl rfl rfl rfl rfl rfl) <| ?_
         refine tY (yq_faP rfl) rfl <| tC (td_store1 rfl rfl (by first | (dsimp only [DV.cells, ovD, zs1, zs2, Nat.reduceAdd, zs3, zs4]; done) | exact rfl) (by repeat (first | exact .hd .. | apply OUpdD.tl)) rfl rfl rfl) <| ?_
         refine sd_end <| ?_
         refine sd_selO [3, 4, 5] (by decide) rfl ?_
         simp only [pickL, zf1, zf2, zf3, zf4]
         exact sd_at ⟨t, v.hi, false, v.nh⟩ (by unfold updB; rw [if_pos hc57, ← ht]; exact updLo_y (.inr hc66)) (by repeat (first | exact .nil | refine .cons rfl ?_ | refine .cons' rfl (by first | (simp [vI]; done) | (congr 3; omega) | (simp [vI]; omega)) ?_)) rfl rfl
        ·
         refine sd_skipc <| ?_
         refine sd_selO [3, 4, 5] (by decide) rfl ?_
         simp only [pickL, zf1, zf2, zf3, zf4]
         exact sd_at v (by unfold updB; rw [if_pos hc57, ← ht]; exact updLo_n hg60 hc66) (by repeat (first | exact .nil | refine .cons rfl ?_ | refine .cons' rfl (by first | (simp [vI]; done) | (congr 3; omega) | (simp [vI]; omega)) ?_)) rfl rfl
      ·
       refine qR <| tY (yq_faP rfl) rfl <| tY (yq_ldO1 rfl rfl) rfl <| ?_
       refine sd_eq 71 (.d (.v (.bool (decide (v.nh = true))))) rfl (by simp) ?_
       refine tM rfl rfl <| ?_
       refine sd_caseP 72 rfl (fun hg72 => ?_) (fun hg72 => ?_)
       ·
        refine tS rfl rfl rfl rfl <| tS rfl rfl rfl rfl <| tS rfl rfl rfl rfl <| tS rfl rfl rfl rfl <| tS rfl rfl rfl rfl <| tY (yq_pickT rfl rfl) rfl <| sd_end <| sd_condT rfl <| sd_region <| ?_
        refine tY (yq_ldO rfl rfl) rfl <| tY (yq_faP rfl) rfl <| tC (tdS rfl rfl rfl rfl rfl rfl) <| ?_
        refine tY (yq_faP rfl) rfl <| tC (td_store1 rfl rfl (by first | (dsimp only [DV.cells, ovD, zs1, zs2, Nat.reduceAdd, zs3, zs4]; done) | exact rfl) (by repeat (first | exact .hd .. | apply OUpdD.tl)) rfl rfl rfl) <| ?_
        refine sd_end <| ?_
        refine sd_selO [3, 4, 5] (by decide) rfl ?_
        simp only [pickL, zf1, zf2, zf3, zf4]
        exact sd_at ⟨v.lo, t, v.nl, false⟩ (by unfold updB; rw [if_neg hc57, ← ht]; exact updHi_y (.inl hg72)) (by repeat (first | exact .nil | refine .cons rfl ?_ | refine .cons' rfl (by first | (simp [vI]; done) | (congr 3; omega) | (simp [vI]; omega)) ?_)) rfl rfl
       ·
        refine tYg rfl rfl (yq_ldO rfl rfl) rfl <| tYg rfl rfl (yq_faP rfl) rfl <| tYg rfl rfl (yq_ldO rfl rfl) rfl <| tCg rfl rfl (td_call rfl rfl (q_C (a := t) (b := v.hi)) rfl) <| tYg rfl rfl (yq_lss rfl rfl) rfl <| ?_
        refine tY (yq_pickF rfl rfl) rfl <| sd_end <| ?_
        refine sd_condP rfl (fun hc78 => ?_) (fun hc78 => ?_)
        ·
         refine sd_region <| tY (yq_ldO rfl rfl) rfl <| tY (yq_faP rfl) rfl <| tC (tdS rfl rfl rfl rfl rfl rfl) <| ?_
         refine tY (yq_faP rfl) rfl <| tC (td_store1 rfl rfl (by first | (dsimp only [DV.cells, ovD, zs1, zs2, Nat.reduceAdd, zs3, zs4]; done) | exact rfl) (by repeat (first | exact .hd .. | apply OUpdD.tl)) rfl rfl rfl) <| ?_
         refine sd_end <| ?_
         refine sd_selO [3, 4, 5] (by decide) rfl ?_
         simp only [pickL, zf1, zf2, zf3, zf4]
         exact sd_at ⟨v.lo, t, v.nl, false⟩ (by unfold updB; rw [if_neg hc57, ← ht]; exact updHi_y (.inr hc78)) (by repeat (first | exact .nil | refine .cons rfl ?_ | refine .cons' rfl (by first | (simp [vI]; done) | (congr 3; omega) | (simp [vI]; omega)) ?_)) rfl rfl
        ·
         refine sd_skipc <| ?_
         refine sd_selO [3, 4, 5] (by decide) rfl ?_
         simp only [pickL, zf1, zf2, zf3, zf4]
         exact sd_at v (by unfold updB; rw [if_neg hc57, ← ht]; exact updHi_n hg72 hc78) (by repeat (first | exact .nil | refine .cons rfl ?_ | refine .cons' rfl (by first | (simp [vI]; done) | (congr 3; omega) | (simp [vI]; omega)) ?_)) rfl rfl
     rintro w hw
     rw [← hw] at u1 u2 u3 u4 u5
     haveI := u4
     haveI := u5
     refine qR <| tY (yq_faP rfl) rfl <| tY (yq_ldO1 rfl rfl) rfl <| ?_
     refine sd_eq 83 (.d (.v (.bool (decide (w.nl = true))))) rfl (by simp) ?_
     refine tY (yq_not rfl) rfl <| ?_
     refine sd_eq 84 (.d (.v (.bool (decide (¬ w.nl = true))))) rfl (by simp) ?_
     refine tM rfl rfl <| ?_
     refine sd_caseP 85 rfl (fun hg85 => ?_) (fun hg85 => ?_)
     ·
      refine tYg rfl rfl (yq_faP rfl) rfl <| tYg rfl rfl (yq_ldO1 rfl rfl) rfl <| ?_
      refine sd_eq 87 (.d (.v (.bool (decide (w.nh = true))))) rfl (by simp) ?_
      refine tYg rfl rfl (yq_not rfl) rfl <| ?_
      refine sd_eq 88 (.d (.v (.bool (decide (¬ w.nh = true))))) rfl (by simp) ?_
      refine tY (yq_pickT rfl rfl) rfl <| tM rfl rfl <| ?_
      refine sd_caseP 90 rfl (fun hg90 => ?_) (fun hg90 => ?_)
      ·
       refine tYg rfl rfl (yq_faP rfl) rfl <| tYg rfl rfl (yq_ldO rfl rfl) rfl <| tYg rfl rfl (yq_faP rfl) rfl <| tYg rfl rfl (yq_ldO rfl rfl) rfl <| tCg rfl rfl (td_call rfl rfl (q_C (a := w.lo) (b := w.hi)) rfl) <| ?_
       refine tYg rfl rfl (yq_geq rfl rfl) rfl <| tY (yq_pickT rfl rfl) rfl <| sd_end <| ?_
       refine sd_condP rfl (fun hc97 => ?_) (fun hc97 => ?_)
       ·
        have hno := hS.no hk hne (by rw [← hm, u2, empty_of hg85 hg90 hc97]; rfl)
        refine qR <| tY (yq_ldO rfl rfl) rfl <| tC (tdS rfl rfl rfl rfl rfl rfl) <| ?_
        refine tA rfl rfl <| sd_end <| sd_ret <| ?_
        exact sd_doneX ⟨(w, false), hno.symm, u4, u5⟩ (.agg rfl ii ii rfl (.tmp rfl .nil)) rfl
       ·
        have hinv : Stp l c (k + 1) w := hS.cut hk hne (by rw [← hm, u2, not_empty_lt hc97]; rfl) (by rw [← hm, u1]) u3 u4 u5
        refine sd_skipc <| sd_region <| tY (yq_add64 rfl rfl) rfl <| tM rfl rfl <| sd_end <| ?_
        exact sd_again ⟨w, k + 1⟩ (by dsimp only; exact hinv) (by dsimp only; omega) (by repeat (first | exact .nil | refine .cons rfl ?_ | refine .cons' rfl (by first | (simp [vI]; done) | (congr 3; omega) | (simp [vI]; omega)) ?_)) rfl rfl
      ·
       have hinv : Stp l c (k + 1) w := hS.cut hk hne (by rw [← hm, u2, not_empty_nh (Decidable.not_not.1 hg90)]; rfl) (by rw [← hm, u1]) u3 u4 u5
       refine tS rfl rfl rfl rfl <| tS rfl rfl rfl rfl <| tS rfl rfl rfl rfl <| tS rfl rfl rfl rfl <| tS rfl rfl rfl rfl <| tS rfl rfl rfl rfl <| tY (yq_pickF rfl rfl) rfl <| sd_end <| sd_condF rfl <| ?_
       refine sd_skipc <| sd_region <| tY (yq_add64 rfl rfl) rfl <| tM rfl rfl <| sd_end <| ?_
       exact sd_again ⟨w, k + 1⟩ (by dsimp only; exact hinv) (by dsimp only; omega) (by repeat (first | exact .nil | refine .cons rfl ?_ | refine .cons' rfl (by first | (simp [vI]; done) | (congr 3; omega) | (simp [vI]; omega)) ?_)) rfl rfl
     ·
      have hinv : Stp l c (k + 1) w := hS.cut hk hne (by rw [← hm, u2, not_empty_nl (Decidable.not_not.1 hg85)]; rfl) (by rw [← hm, u1]) u3 u4 u5
      refine tS rfl rfl rfl rfl <| tS rfl rfl rfl rfl <| tS rfl rfl rfl rfl <| tY (yq_pickF rfl rfl) rfl <| tM rfl rfl <| tS rfl rfl rfl rfl <| tS rfl rfl rfl rfl <| tS rfl rfl rfl rfl <| ?_
      refine tS rfl rfl rfl rfl <| tS rfl rfl rfl rfl <| tS rfl rfl rfl rfl <| tY (yq_pickF rfl rfl) rfl <| sd_end <| sd_condF rfl <| sd_skipc <| sd_region <| tY (yq_add64 rfl rfl) rfl <| ?_
      refine tM rfl rfl <| sd_end <| ?_
      exact sd_again ⟨w, k + 1⟩ (by dsimp only; exact hinv) (by dsimp only; omega) (by repeat (first | exact .nil | refine .cons rfl ?_ | refine .cons' rfl (by first | (simp [vI]; done) | (congr 3; omega) | (simp [vI]; omega)) ?_)) rfl rfl
 ·
  refine sd_exit <| sd_ts <| sd_te <| sd_inBlock_eq <| qR <| tY (yq_ldO rfl rfl) rfl <| tC (tdS rfl rfl rfl rfl rfl rfl) <| ?_
  refine tA rfl rfl <| sd_end <| sd_ret <| ?_
  exact sd_doneX ⟨(v, true), (hS.yes (by omega)).symm, hS.lo, hS.hi⟩ (.agg rfl ii ii rfl (.tmp rfl .nil)) rfl
end Go.Sx
end

section
set_option maxRecDepth 100000
namespace Go.Sx
open Go Go.Proofs
instance BQ.i1' : BQ (1 : Rat) 2 := ⟨by decide, by decide⟩
instance BQ.i2' : BQ (2 : Rat) 2 := ⟨by decide, by decide⟩
theorem sample_bd {v : IvQ} {i : Nat} [BQ v.lo i] [BQ v.hi i] : BQ (sampleR v) (i + i + 5) := by
 unfold sampleR
 split
 · exact BQ.mono (k := 1) ⟨by decide, by decide⟩ (by omega)
 · split
   · exact BQ.mono (inferInstance : BQ (v.hi - 1) _) (by omega)
   · split
     · exact BQ.mono (inferInstance : BQ (v.lo + 1) _) (by omega)
     · exact BQ.mono (inferInstance : BQ ((v.lo + v.hi) / 2) _) (by omega)
instance BPt.at (l : LnQ) (t : Rat) (k : Nat) [LB l] [BQ t k] : BPt (l.at t) (300 + (k + 33) + 1) := by
 rw [← at_ref]; infer_instance
theorem ne_of_sgn {q : Rat} (h : ¬ q.num.sign = 0) : q ≠ 0 := fun e => h ((sgn_zero q).2 e)
def turnP (d : PtQ) : PtQ := ⟨-d.y, d.x⟩
instance BPt.turn (d : PtQ) (k : Nat) [BPt d k] : BPt (turnP d) k := ⟨inferInstanceAs (BQ (-d.y) k), inferInstanceAs (BQ d.x k)⟩
set_option maxHeartbeats 4000000 in
theorem q_Near {GB : Gh} {c : List LnQ} {p v : PtQ} (hc : ∀ m ∈ c, LB m) (hn : c.length ≤ 1000) (hp : BPt p 1500) (hv : BPt v 33) : PX GB Tryz.prog 159 [.sl (c.map eL), eP p, eP v] PtQ eP := by
 refine PX.intro Tryz.func159 rfl rfl Tryz.ntmps159 rfl ?_
 intro C
 have hcl := mapL_len c
 refine qR <| tF (tf_box rfl rfl rfl) <| ?_
 intro b1
 refine tF (tf_box rfl rfl rfl) <| ?_
 intro b2
 refine tF (tf_alloc rfl) <| ?_
 intro b3
 refine sd_end <| qR <| tC (td_call rfl rfl (q_Of (n := 1) (by decide) (by decide)) rfl) <| tF (tf_alloc rfl) <| ?_
 intro b4
 refine tC (tdS rfl rfl rfl rfl rfl rfl) <| ?_
 refine sd_end <| sd_seq <| qR <| tM rfl rfl <| tY (yq_len rfl) rfl <| ?_
 refine sd_eq 14 (.d (vI (c.length : Nat))) rfl (by rw [hcl]; rfl) ?_
 refine tM rfl rfl <| sd_end <| sd_block <| ?_
 refine sd_loop (X := Rat × Nat) (fun x => [(15, .d (vI (x.2 : Nat))), (14, .d (vI (c.length : Nat))), (13, .d (.sl (c.map eL))), (4, .d (.v (.pointer (some ⟨b1, 0, none⟩)))), (5, .d (.v (.pointer (some ⟨b2, 0, none⟩)))), (7, .d (.v (.pointer (some ⟨b4, 0, none⟩)))), (6, .d (.v (.pointer (some ⟨b3, 0, none⟩))))]) (fun x => [⟨b4, (eQ x.1).cells, 87, true⟩, ⟨b3, [.v (.bool false), .sl [], .sl [], .v (.bool false), .sl [], .sl []], 89, true⟩, ⟨b2, (eP v).cells, 89, true⟩, ⟨b1, (eP p).cells, 89, true⟩]) (fun x => []) (fun x => x.2 ≤ c.length ∧ BQ x.1 20000) (fun x => c.length - x.2) ⟨((1 : Int) : Rat), 0⟩ (by dsimp only; exact ⟨Nat.zero_le _, BQ.i1.mono (by decide)⟩) (by repeat (first | exact .nil | refine .cons rfl ?_ | refine .cons' rfl (by first | (simp [vI]; done) | (congr 3; omega) | (simp [vI]; omega)) ?_)) rfl rfl ?_
 rintro GB1 hGB1 ⟨s, k⟩ ⟨hle, hsb⟩
 try dsimp only at *
 refine qR <| tY (yq_lss rfl rfl) rfl <| sd_end <| sd_seq <| ?_
 refine sd_condP rfl (fun hc16 => ?_) (fun hc16 => ?_)
 ·
  have hk : k < c.length := by omega
  obtain ⟨m, hm⟩ : ∃ m, m = c[k] := ⟨_, rfl⟩
  haveI hmb : LB m := hm ▸ hc _ (List.getElem_mem hk)
  have hinv := hsb
  refine sd_skipc <| sd_seq <| sd_block <| qR <| tY (yq_ix rfl rfl (by omega) (mapL_get hk) rfl rfl) rfl <| tY (yq_ldE rfl rfl) rfl <| ?_
  refine sd_eq 18 (.d (eL m)) rfl (by rw [hm]; rfl) ?_
  refine tF (tf_alloc rfl) <| ?_
  intro b5
  refine tC (tdS rfl rfl rfl rfl rfl rfl) <| ?_
  refine sd_end <| sd_seq <| ?_
  refine drX (own0 := _) (own1 := []) (bs0 := []) (bs1 := _) [⟨10, 10, 87, .agg ⟨[.bool false, .slice none 0 0, .slice none 0 0]⟩⟩] [(0, true), (1, true), (3, true), (6, true), (7, true), (2, false), (4, false), (5, false), (8, false), (9, false)] [(11, false)] follows (by rw [List.append_nil]) (List.Perm.refl _) (by kernel_rfl) ?_
  refine dyX rfl (yq_ldO rfl rfl) rfl <| ?_
  refine dyX rfl (yq_ldO rfl rfl) rfl <| ?_
  refine dyX rfl (yq_ldO rfl rfl) rfl <| ?_
  refine dyX rfl (yq_ldO rfl rfl) rfl <| ?_
  refine dyX rfl (yq_ldO rfl rfl) rfl <| ?_
  refine dcX rfl (td_call rfl rfl (q_Of (n := 1) (by decide) (by decide)) rfl) (by exact .o ⟨_, _, _, rfl, rfl⟩ ii) rfl <| ?_
  refine dcX rfl (td_call rfl rfl (q_PAdd (p := p) (q := v) (c := ((1 : Int) : Rat))) rfl) (by exact .o ⟨_, _, _, rfl, rfl⟩ ii) rfl <| ?_
  refine dcX rfl (td_call rfl rfl (q_Value (l := m) (p := movQ p v ((1 : Int) : Rat))) rfl) (by exact .o ⟨_, _, _, rfl, rfl⟩ ii) rfl <| ?_
  refine dcX rfl (td_call rfl rfl (q_Value (l := m) (p := p)) rfl) (by exact .o ⟨_, _, _, rfl, rfl⟩ ii) rfl <| ?_
  refine dcX rfl (td_call rfl rfl (q_Sub (a := m.value (movQ p v ((1 : Int) : Rat))) (b := m.value p)) rfl) (by exact .o ⟨_, _, _, rfl, rfl⟩ ii) rfl <| ?_
  refine outX1 ⟨(inferInstance : TyZD Tryz.prog 87 _ _).iz, trivial⟩ (by exact .o ⟨_, _, _, rfl, rfl⟩ ii) rfl (fun b6 => ?_)
  simp only [List.cons_append, List.nil_append]
  refine onX <| ?_
  refine dcX rfl (tdS rfl rfl rfl rfl rfl rfl) FDok.nil rfl <| ?_
  refine outX0 <| dnX <| ?_
  simp only [List.nil_append, List.append_nil, List.cons_append]
  refine sd_seq <| qR <| tY (yq_ldO rfl rfl) rfl <| tC (td_call rfl rfl (q_S (q := m.value (movQ p v ((1 : Int) : Rat)) - m.value p)) rfl) <| tY (yq_eql rfl rfl) rfl <| ?_
  refine tM rfl rfl <| ?_
  refine sd_caseP 32 rfl (fun hg32 => ?_) (fun hg32 => ?_)
  ·
   refine tS rfl rfl rfl rfl <| tS rfl rfl rfl rfl <| tS rfl rfl rfl rfl <| tS rfl rfl rfl rfl <| tY (yq_pickT rfl rfl) rfl <| sd_end <| sd_condT rfl <| sd_exit <| sd_ts <| sd_inBlock_eq <| ?_
   refine sd_region <| tY (yq_add64 rfl rfl) rfl <| tM rfl rfl <| sd_end <| ?_
   refine sd_selO [2, 3, 4, 5] (by decide) rfl ?_
   simp only [pickL, zf1, zf2, zf3, zf4]
   exact sd_again ⟨s, k + 1⟩ (by dsimp only; exact ⟨by omega, hinv⟩) (by dsimp only; omega) (by repeat (first | exact .nil | refine .cons rfl ?_ | refine .cons' rfl (by first | (simp [vI]; done) | (congr 3; omega) | (simp [vI]; omega)) ?_)) rfl rfl
  ·
   refine tYg rfl rfl (yq_ldO rfl rfl) rfl <| tYg rfl rfl (yq_ldO rfl rfl) rfl <| tCg rfl rfl (td_call rfl rfl (q_Side (l := m) (p := p)) rfl) <| tYg rfl rfl (yq_eql rfl rfl) rfl <| tY (yq_pickF rfl rfl) rfl <| ?_
   refine sd_end <| ?_
   refine sd_condP rfl (fun hc37 => ?_) (fun hc37 => ?_)
   ·
    refine sd_exit <| sd_ts <| sd_inBlock_eq <| sd_region <| tY (yq_add64 rfl rfl) rfl <| tM rfl rfl <| sd_end <| ?_
    refine sd_selO [2, 3, 4, 5] (by decide) rfl ?_
    simp only [pickL, zf1, zf2, zf3, zf4]
    exact sd_again ⟨s, k + 1⟩ (by dsimp only; exact ⟨by omega, hinv⟩) (by dsimp only; omega) (by repeat (first | exact .nil | refine .cons rfl ?_ | refine .cons' rfl (by first | (simp [vI]; done) | (congr 3; omega) | (simp [vI]; omega)) ?_)) rfl rfl
   ·
    refine sd_skipc <| sd_seq <| ?_
    refine drX (own0 := _) (own1 := []) (bs0 := []) (bs1 := _) [⟨6, 11, 87, .agg ⟨[.bool false, .slice none 0 0, .slice none 0 0]⟩⟩] [(0, true), (1, true), (3, true), (2, false), (4, false), (5, false)] [(7, false)] follows (by rw [List.append_nil]) (List.Perm.refl _) (by kernel_rfl) ?_
    refine dyX rfl (yq_ldO rfl rfl) rfl <| ?_
    refine dyX rfl (yq_ldO rfl rfl) rfl <| ?_
    refine dyX rfl (yq_ldO rfl rfl) rfl <| ?_
    refine dcX rfl (td_call rfl rfl (q_Value (l := m) (p := p)) rfl) (by exact .o ⟨_, _, _, rfl, rfl⟩ ii) rfl <| ?_
    refine dcX rfl (td_call rfl rfl (q_Over (a := m.value p) (b := m.value (movQ p v ((1 : Int) : Rat)) - m.value p) (ne_of_sgn hg32)) rfl) (by exact .o ⟨_, _, _, rfl, rfl⟩ ii) rfl <| ?_
    refine dcX rfl (td_call rfl rfl (q_Opp (q := m.value p / (m.value (movQ p v ((1 : Int) : Rat)) - m.value p))) rfl) (by exact .o ⟨_, _, _, rfl, rfl⟩ ii) rfl <| ?_
    refine outX1 ⟨(inferInstance : TyZD Tryz.prog 87 _ _).iz, trivial⟩ (by exact .o ⟨_, _, _, rfl, rfl⟩ ii) rfl (fun b7 => ?_)
    simp only [List.cons_append, List.nil_append]
    refine onX <| ?_
    refine dcX rfl (tdS rfl rfl rfl rfl rfl rfl) FDok.nil rfl <| ?_
    refine outX0 <| dnX <| ?_
    simp only [List.nil_append, List.append_nil, List.cons_append]
    refine sd_seq <| ?_
    refine drX (own0 := _) (own1 := []) (bs0 := []) (bs1 := _) [] [(0, true), (1, false), (2, true), (3, true), (4, true), (6, true), (5, false), (7, false), (8, true), (9, true)] [] follows (by rw [List.append_nil]) (List.Perm.refl _) (by kernel_rfl) ?_
    refine dyX rfl (yq_ldO rfl rfl) rfl <| ?_
    refine dcX rfl (td_call rfl rfl (q_S (q := -(m.value p / (m.value (movQ p v ((1 : Int) : Rat)) - m.value p)))) rfl) FDok.nil rfl <| ?_
    refine dyX rfl (yq_gtr rfl rfl) rfl <| ?_
    refine dyX rfl (yq_move rfl) rfl <| ?_
    refine sr_caseP 47 rfl (fun hg47 => ?_) (fun hg47 => ?_)
    ·
     refine dygX rfl rfl rfl (yq_ldO rfl rfl) rfl <| ?_
     refine dygX rfl rfl rfl (yq_ldO rfl rfl) rfl <| ?_
     refine dcgX rfl rfl rfl (td_call rfl rfl (q_Half (a := -(m.value p / (m.value (movQ p v ((1 : Int) : Rat)) - m.value p)))) rfl) FDok.nil rfl <| ?_
     refine dcgX rfl rfl rfl (td_call rfl rfl (q_C (a := -(m.value p / (m.value (movQ p v ((1 : Int) : Rat)) - m.value p)) / 2) (b := s)) rfl) FDok.nil rfl <| ?_
     refine dygX rfl rfl rfl (yq_lss rfl rfl) rfl <| ?_
     refine dyX rfl (yq_pickT rfl rfl) rfl <| ?_
     refine outX0 <| onX <| outX0 <| dnX <| ?_
     simp only [List.nil_append, List.append_nil, List.cons_append]
     refine sd_condP rfl (fun hc53 => ?_) (fun hc53 => ?_)
     ·
      obtain ⟨t, ht⟩ : ∃ t, t = -(m.value p / (m.value (movQ p v ((1 : Int) : Rat)) - m.value p)) := ⟨_, rfl⟩
      haveI htb : BQ t 15000 := ht ▸ BQ.mono inferInstance (by decide)
      have hinv : BQ (t / 2) 20000 := BQ.mono inferInstance (by decide)
      rw [← ht]
      refine sd_region <| tY (yq_ldO rfl rfl) rfl <| tC (td_call rfl rfl (q_Half (a := t)) rfl) <| tC (tdS rfl rfl rfl rfl rfl rfl) <| ?_
      refine sd_end <| sd_region <| tY (yq_add64 rfl rfl) rfl <| tM rfl rfl <| sd_end <| ?_
      refine sd_selO [3, 4, 5, 6] (by decide) rfl ?_
      simp only [pickL, zf1, zf2, zf3, zf4]
      exact sd_again ⟨t / 2, k + 1⟩ (by dsimp only; exact ⟨by omega, hinv⟩) (by dsimp only; omega) (by repeat (first | exact .nil | refine .cons rfl ?_ | refine .cons' rfl (by first | (simp [vI]; done) | (congr 3; omega) | (simp [vI]; omega)) ?_)) rfl rfl
     ·
      refine sd_skipc <| sd_region <| tY (yq_add64 rfl rfl) rfl <| tM rfl rfl <| sd_end <| ?_
      refine sd_selO [3, 4, 5, 6] (by decide) rfl ?_
      simp only [pickL, zf1, zf2, zf3, zf4]
      exact sd_again ⟨s, k + 1⟩ (by dsimp only; exact ⟨by omega, hinv⟩) (by dsimp only; omega) (by repeat (first | exact .nil | refine .cons rfl ?_ | refine .cons' rfl (by first | (simp [vI]; done) | (congr 3; omega) | (simp [vI]; omega)) ?_)) rfl rfl
    ·
     refine dysX rfl rfl rfl rfl rfl <| dysX rfl rfl rfl rfl rfl <| dcsX rfl rfl rfl rfl rfl FDok.nil rfl <| dcsX rfl rfl rfl rfl rfl FDok.nil rfl <| dysX rfl rfl rfl rfl rfl <| ?_
     refine dyX rfl (yq_pickF rfl rfl) rfl <| ?_
     refine outX0 <| onX <| outX0 <| dnX <| ?_
     simp only [List.nil_append, List.append_nil, List.cons_append]
     refine sd_condF rfl <| sd_skipc <| sd_region <| tY (yq_add64 rfl rfl) rfl <| tM rfl rfl <| sd_end <| ?_
     refine sd_selO [3, 4, 5, 6] (by decide) rfl ?_
     simp only [pickL, zf1, zf2, zf3, zf4]
     exact sd_again ⟨s, k + 1⟩ (by dsimp only; exact ⟨by omega, hinv⟩) (by dsimp only; omega) (by repeat (first | exact .nil | refine .cons rfl ?_ | refine .cons' rfl (by first | (simp [vI]; done) | (congr 3; omega) | (simp [vI]; omega)) ?_)) rfl rfl
 ·
  refine sd_exit <| sd_ts <| sd_te <| sd_inBlock_eq <| qR <| tY (yq_ldO rfl rfl) rfl <| tY (yq_ldO rfl rfl) rfl <| tY (yq_ldO rfl rfl) rfl <| tC (td_call rfl rfl (q_PAdd (p := p) (q := v) (c := s)) rfl) <| ?_
  refine tC (tdS rfl rfl rfl rfl rfl rfl) <| ?_
  refine sd_end <| sd_ret <| ?_
  exact sd_doneX (movQ p v s) (.agg rfl ii ii rfl .nil) rfl
theorem inner_yes {c : List LnQ} {m : LnQ} (h : m ∈ c) (h2 : (partL m c IvQ.all).isSome = true) : innerB c = true := by
 unfold innerB; rw [Bool.or_eq_true, List.any_eq_true]; exact .inr ⟨m, h, h2⟩
theorem inner_nil {c : List LnQ} (h : c = []) : innerB c = true := by subst h; rfl
theorem inner_no {c : List LnQ} (h : c ≠ []) (h2 : ∀ m ∈ c, (partL m c IvQ.all).isSome = false) : innerB c = false := by
 rw [← Bool.not_eq_true]; unfold innerB; rw [Bool.or_eq_true, List.any_eq_true, List.isEmpty_iff]
 rintro (e | ⟨m, h3, h4⟩)
 · exact h e
 · rw [h2 m h3] at h4; exact absurd h4 (by decide)
theorem eP_zero : eP ⟨0, 0⟩ = .ag [.v (.bool false), .sl [], .sl [], .v (.bool false), .sl [], .sl []] := by
 unfold eP dD
 simp only [show (0 : Rat).num = 0 from rfl, show (0 : Rat).den = 1 from rfl, Int.natAbs_zero, dN_zero]; rfl
set_option maxHeartbeats 4000000 in
theorem q_Inner {GB : Gh} {c : List LnQ} (hc : ∀ m ∈ c, LB m) (hok : ∀ m ∈ c, m.ok) (hn : c.length ≤ 1000) : PX GB Tryz.prog 111 [.sl (c.map eL)] PtQ (fun p => .tp [eP p, vB (innerB c)]) := by
 refine PX.intro Tryz.func111 rfl rfl Tryz.ntmps111 rfl ?_
 intro C
 have hcl := mapL_len c
 refine qR <| tF (tf_alloc rfl) <| ?_
 intro b1
 refine tA rfl rfl <| sd_end <| sd_seq <| qR <| tM rfl rfl <| tY (yq_len rfl) rfl <| tY (yq_eql rfl rfl) rfl <| sd_end <| ?_
 refine sd_condP rfl (fun hc11 => ?_) (fun hc11 => ?_)
 ·
  refine qR <| tY (yq_build rfl) rfl <| tC (tdS rfl rfl rfl rfl rfl rfl) <| ?_
  refine tA rfl rfl <| sd_end <| sd_ret <| ?_
  exact sd_doneX ⟨0, 0⟩ (.agg rfl ii ii rfl (.tmp rfl .nil)) (by rw [inner_nil (List.eq_nil_of_length_eq_zero (by omega)), eP_zero]; rfl)
 ·
  refine sd_skipc <| sd_seq <| qR <| tM rfl rfl <| tY (yq_len rfl) rfl <| ?_
  refine sd_eq 14 (.d (vI (c.length : Nat))) rfl (by rw [hcl]; rfl) ?_
  refine tM rfl rfl <| sd_end <| sd_block <| ?_
  refine sd_loop (X := Nat) (fun x => [(15, .d (vI (x : Nat))), (14, .d (vI (c.length : Nat))), (13, .d (.sl (c.map eL))), (0, .d (.sl (c.map eL))), (2, .d (.v (.pointer (some ⟨b1, 0, none⟩))))]) (fun x => [⟨b1, [.v (.bool false), .sl [], .sl [], .v (.bool false), .sl [], .sl []], 89, true⟩]) (fun x => []) (fun x => x ≤ c.length ∧ ∀ m ∈ c.take x, (partL m c IvQ.all).isSome = false) (fun x => c.length - x) 0 ⟨Nat.zero_le _, fun m hm => absurd hm (by simp)⟩ (by repeat (first | exact .nil | refine .cons rfl ?_ | refine .cons' rfl (by first | (simp [vI]; done) | (congr 3; omega) | (simp [vI]; omega)) ?_)) rfl rfl ?_
  rintro GB1 hGB1 k ⟨hle, hno⟩
  try dsimp only at *
  refine qR <| tY (yq_lss rfl rfl) rfl <| sd_end <| sd_seq <| ?_
  refine sd_condP rfl (fun hc16 => ?_) (fun hc16 => ?_)
  ·
   have hk : k < c.length := by omega
   obtain ⟨m, hm⟩ : ∃ m, m = c[k] := ⟨_, rfl⟩
   haveI hmb : LB m := hm ▸ hc _ (List.getElem_mem hk)
   have hmo : m.ok := hm ▸ hok _ (List.getElem_mem hk)
   refine sd_skipc <| sd_seq <| sd_block <| qR <| tM rfl rfl <| tY (yq_ix rfl rfl (by omega) (mapL_get hk) rfl rfl) rfl <| tY (yq_ldE rfl rfl) rfl <| ?_
   refine sd_eq 19 (.d (eL m)) rfl (by rw [hm]; rfl) ?_
   refine tF (tf_alloc rfl) <| ?_
   intro b2
   refine tA rfl rfl <| tC (tdS rfl rfl rfl rfl rfl rfl) <| ?_
   refine sd_end <| qR <| tM rfl rfl <| tM rfl rfl <| tF (tf_callX rfl rfl (q_edge hc hok hn hk) rfl) <| ?_
   rintro ⟨⟨s, ok⟩, he1, he2, he3⟩; try dsimp only
   dsimp only at he1 he2 he3
   rw [← hm] at he1
   refine tM rfl rfl <| tY (yq_ext rfl rfl) rfl <| tY (yq_ext rfl rfl) rfl <| tF (tf_alloc rfl) <| ?_
   intro b3
   refine tC (tdS rfl rfl rfl rfl rfl rfl) <| ?_
   refine tA rfl rfl <| sd_end <| qR <| tM rfl rfl <| sd_end <| ?_
   refine sd_condB rfl (fun hc26 => ?_) (fun hc26 => ?_)
   ·
    haveI := he2
    haveI := he3
    haveI hsb := sample_bd (v := s) (i := 400)
    have hpt : BPt (m.at (sampleR s)) 1500 := by have := BPt.at m (sampleR s) (400 + 400 + 5); exact ⟨this.x.mono (by decide), this.y.mono (by decide)⟩
    have hin : innerB c = true := inner_yes (hm ▸ List.getElem_mem hk) (he1 ▸ hc26)
    refine qR <| tY (yq_ldO rfl rfl) rfl <| tC (td_call rfl rfl (q_Dir (l := m)) rfl) <| tF (tf_alloc rfl) <| ?_
    intro b4
    refine tC (tdS rfl rfl rfl rfl rfl rfl) <| ?_
    refine sd_end <| sd_seq <| ?_
    refine drX (own0 := [_, _, _]) (own1 := [_]) (bs0 := []) (bs1 := _) [] [(0, true), (1, true), (2, true), (5, true), (6, true), (8, true), (9, true), (3, false), (4, false), (7, false), (10, true), (11, false), (12, false), (13, true)] [] follows (List.Perm.refl _) (List.Perm.refl _) (by kernel_rfl) ?_
    refine dyX rfl (yq_move rfl) rfl <| ?_
    refine dyX rfl (yq_ldO rfl rfl) rfl <| ?_
    refine dyX rfl (yq_ldO rfl rfl) rfl <| ?_
    refine dyX rfl (yq_faP rfl) rfl <| ?_
    refine dyX rfl (yq_ldO rfl rfl) rfl <| ?_
    refine dyX rfl (yq_faP rfl) rfl <| ?_
    refine dyX rfl (yq_ldO rfl rfl) rfl <| ?_
    refine dcX rfl (td_call rfl rfl (q_Sample (v := s)) rfl) FDok.nil rfl <| ?_
    refine dcX rfl (td_call rfl rfl (q_At (l := m) (t := sampleR s) hmo.ne) rfl) FDok.nil rfl <| ?_
    refine dcX rfl (td_call rfl rfl (q_Opp (q := m.dir.y)) rfl) FDok.nil rfl <| ?_
    refine dyX rfl (yq_build rfl) rfl <| ?_
    refine dfX rfl (tf_callX rfl rfl (q_Near (p := m.at (sampleR s)) (v := turnP m.dir) hc hn (hpt) inferInstance) rfl) FDok.nil rfl <| ?_
    rintro p40; try dsimp only
    refine dcX rfl (tdS rfl rfl rfl rfl rfl rfl) FDok.nil rfl <| ?_
    refine dyX rfl (yq_assign rfl) rfl <| ?_
    refine outX0 <| onX <| outX0 <| dnX <| ?_
    simp only [List.nil_append, List.append_nil, List.cons_append]
    refine sd_ret <| ?_
    exact sd_doneX p40 (.agg rfl ii ii rfl (.tmp rfl .nil)) (by rw [hin]; rfl)
   ·
    refine sd_skipc <| sd_region <| tY (yq_add64 rfl rfl) rfl <| tM rfl rfl <| sd_end <| ?_
    refine sd_selO [2] (by decide) rfl ?_
    simp only [pickL, zf1, zf2, zf3, zf4]
    exact sd_again (k + 1) ⟨by omega, take_next hno hk (by rw [← hm, ← he1]; exact hc26)⟩ (by omega) (by repeat (first | exact .nil | refine .cons rfl ?_ | refine .cons' rfl (by first | (simp [vI]; done) | (congr 3; omega) | (simp [vI]; omega)) ?_)) rfl rfl
  ·
   refine sd_exit <| sd_ts <| sd_te <| sd_inBlock_eq <| qR <| tY (yq_build rfl) rfl <| tC (tdS rfl rfl rfl rfl rfl rfl) <| ?_
   refine tA rfl rfl <| sd_end <| sd_ret <| ?_
   exact sd_doneX ⟨0, 0⟩ (.agg rfl ii ii rfl (.tmp rfl .nil)) (by rw [inner_no (fun e => hc11 (by rw [e]; rfl)) (fun m hm => hno m (by rw [List.take_of_length_le (by omega)]; exact hm)), eP_zero]; rfl)
end Go.Sx
end

section
set_option maxRecDepth 100000
namespace Go.Sx
open Go
inductive OT where
 | z (π : List (Nat × Bool))
 | q (i : Nat) (t : OT)
 | a (i : Nat) (t : OT)
 | c (i : Nat) (t r : OT)
def OT.sz : OT → Nat
 | .z _ => 0
 | .q _ t => t.sz + 1
 | .a _ t => t.sz + 1
 | .c _ t r => t.sz + r.sz + 1
def OT.d : OT → Nat
 | .z π => π.length
 | .q _ t => t.d + 1
 | .a _ t => t.d + 1
 | .c _ t r => Nat.max (t.d + 1) r.d
section
variable {P : Program} {ops : Array Oper} {Q : Exit → Act → World → Prop} {S : World → Prop} {π₂ : List (Nat × Bool)}
def dwN (P : Program) (ops : Array Oper) (Q : Exit → Act → World → Prop) (K : (World → Prop) → Act → World → Prop) : List Nat → OT → (World → Prop) → Act → World → Prop
 | ks, .z π, S, a, w => dwT P ops Q K ks π S a w
 | ks, .q i t, S, a, w => ∃ o v, ops[i]? = some o ∧ S w ∧ YieldsIf P ops S o v a ∧ dwN P ops Q K ks t S (a.put o.dst v) w
 | ks, .a i t, S, a, w => wpOp P ops Q i (grS S (dwN P ops Q K ks t)) a w ∧
     ∀ j, (h : j ∈ ks) → wpOp P ops Q j (grS S (dwN P ops Q K (without ks j) (.a i t))) a w
 | ks, .c i t r, S, a, w => wpOp P ops Q i (grS S (dwN P ops Q K ks t)) a w ∧ dwN P ops Q K ks r S a w ∧
     ∀ j, (h : j ∈ ks) → wpOp P ops Q j (grS S (dwN P ops Q K (without ks j) (.c i t r))) a w
termination_by ks t => ks.length + t.sz
decreasing_by
 all_goals (first | (have := without_lt h; simp only [OT.sz] at *; omega) | (simp only [OT.sz]; omega))
def orderOkN (ops : Array Oper) (fin : Nat → Bool) (π₂ : List (Nat × Bool)) : Nat → Bool → List Nat → OT → Array Bool → List Nat → Bool
 | 0, _, _, _, _, _ => false
 | n + 1, false, ks, .z π, l, _ => orderOkG ops fin π₂ n ks π l
 | _ + 1, true, _, .z _, _, _ => false
 | n + 1, false, ks, .q i t, l, _ => takeOk ops fin l i && orderOkN ops fin π₂ n false ks t (l.setIfInBounds i true) []
 | _ + 1, true, _, .q _ _, _, _ => false
 | n + 1, true, ks, .a i t, l, rs => rs.all (fun j => Nat.beq j i) && orderOkN ops fin π₂ n false ks t (l.setIfInBounds i true) []
 | n + 1, false, ks, .a i t, l, _ => !(Region.ready .any ops l).isEmpty && (Region.ready .any ops l).all (fun j => Nat.beq j i || ks.contains j) && orderOkN ops fin π₂ n false ks t (l.setIfInBounds i true) [] && ks.all fun j => orderOkN ops fin π₂ n false (without ks j) (.a i t) (l.setIfInBounds j true) []
 | n + 1, true, ks, .c i t r, l, rs => orderOkN ops fin π₂ n false ks t (l.setIfInBounds i true) [] && orderOkN ops fin π₂ n true ks r l (without rs i)
 | n + 1, false, ks, .c i t r, l, _ => !(Region.ready .any ops l).isEmpty && orderOkN ops fin π₂ n false ks t (l.setIfInBounds i true) [] && orderOkN ops fin π₂ n true ks r l (without ((Region.ready .any ops l).filter fun j => !ks.contains j) i) && ks.all fun j => orderOkN ops fin π₂ n false (without ks j) (.c i t r) (l.setIfInBounds j true) []
theorem nbeq {i k : Nat} (e : ¬i = k) : (!Nat.beq i k) = true := by
 cases h : Nat.beq i k with
 | false => rfl
 | true => exact absurd (Nat.eq_of_beq_eq_true h) e
theorem altN {K : (World → Prop) → Act → World → Prop} : ∀ (n : Nat) (ks : List Nat) (r : OT) (S : World → Prop) (l : Array Bool) (rs : List Nat) (a : Act) (w : World), orderOkN ops fin0 π₂ n true ks r l rs = true → dwN P ops Q K ks r S a w → ∀ i ∈ rs,
   ∃ m t, m < n ∧ t.d + 1 ≤ r.d ∧ orderOkN ops fin0 π₂ m false ks t (l.setIfInBounds i true) [] = true ∧ wpOp P ops Q i (grS S (dwN P ops Q K ks t)) a w
 | 0, ks, r, S, l, rs, a, w, ho, h, i, hi => by simp [orderOkN] at ho
 | n + 1, ks, .z _, S, l, rs, a, w, ho, h, i, hi => by simp [orderOkN] at ho
 | n + 1, ks, .q _ _, S, l, rs, a, w, ho, h, i, hi => by simp [orderOkN] at ho
 | n + 1, ks, .a k t, S, l, rs, a, w, ho, h, i, hi => by
   rw [dwN] at h
   simp only [orderOkN, Bool.and_eq_true, List.all_eq_true] at ho
   have := Nat.eq_of_beq_eq_true (ho.1 i hi)
   subst this
   exact ⟨n, t, Nat.lt_succ_self _, Nat.le_refl _, ho.2, h.1⟩
 | n + 1, ks, .c k t r, S, l, rs, a, w, ho, h, i, hi => by
   rw [dwN] at h
   simp only [orderOkN, Bool.and_eq_true] at ho
   by_cases e : i = k
   · subst e
     exact ⟨n, t, Nat.lt_succ_self _, Nat.le_max_left _ _, ho.1, h.1⟩
   · obtain ⟨m, t', h1, h2, h3, h4⟩ := altN n ks r S l (without rs k) a w ho.2 h.2.1 i (by unfold without; rw [List.mem_filter]; exact ⟨hi, nbeq e⟩)
     exact ⟨m, t', by omega, Nat.le_trans h2 (Nat.le_max_right _ _), h3, h4⟩
theorem wpAnyZ_of_N (hQ : ∀ c a d v w, Q (.panic c) (Act.put a d v) w → Q (.panic c) a w) {K : (World → Prop) → Act → World → Prop}
   (hK : ∀ (S : World → Prop) (listed : Array Bool) (a : Act) (w : World), orderOk ops fin0 π₂ listed = true → K S a w → ∀ fuel, π₂.length ≤ fuel → wpAnyZ P ops Q S fin0 fuel listed a w) :
   ∀ (n : Nat) (ks : List Nat) (t : OT) (S : World → Prop) (listed : Array Bool) (a : Act) (w : World), orderOkN ops fin0 π₂ n false ks t listed [] = true → dwN P ops Q K ks t S a w → ∀ fuel, ks.length + t.d + π₂.length ≤ fuel → wpAnyZ P ops Q S fin0 fuel listed a w := by
 intro n
 induction n using Nat.strongRecOn with
 | _ n ih =>
   intro ks t S listed a w ho h fuel hf
   cases n with
   | zero => simp [orderOkN] at ho
   | succ n =>
     cases t with
     | z π =>
       rw [dwN] at h
       simp only [orderOkN] at ho
       exact wpAnyZ_of_T hQ hK n ks π S listed a w ho h fuel hf
     | q i t =>
       rw [dwN] at h
       obtain ⟨o, v, hoi, hS, hy, hk⟩ := h
       simp only [orderOkN, takeOk, Bool.and_eq_true] at ho
       obtain ⟨⟨⟨⟨h1, h2⟩, h3⟩, h4⟩, h5⟩ := ho
       obtain ⟨h6, h7⟩ := finOk_spec h4
       cases fuel with
       | zero => simp [OT.d] at hf
       | succ fuel =>
         exact wpAnyZ_first hoi (Region.noSelect_spec h1) (fun c a w => hQ c a _ _ w) h6 h7 fuel listed a w (Region.free_spec hoi h2) (by simpa using h3) hy hS
           (ih n (Nat.lt_succ_self _) ks t S _ _ _ h5 hk fuel (by simp only [OT.d] at hf; omega))
     | a i t =>
       rw [dwN] at h
       simp only [orderOkN, Bool.and_eq_true, List.all_eq_true, Bool.not_eq_true'] at ho
       obtain ⟨⟨⟨h1, h2⟩, h3⟩, h4⟩ := ho
       cases fuel with
       | zero => simp [OT.d] at hf
       | succ fuel =>
         refine ⟨fun h0 => by rw [h0] at h1; simp at h1, fun j hj => ?_⟩
         have := h2 j hj
         simp only [Bool.or_eq_true] at this
         rcases this with e | e
         · replace e := Nat.eq_of_beq_eq_true e
           subst e
           refine wpOp_mono (fun a' w' h' => ?_) h.1
           obtain ⟨S', hs, hS', hd⟩ := h'
           exact ⟨.inr (hs _ hS'), wpAnyZ_mono hs _ _ _ _ (ih n (Nat.lt_succ_self _) ks t _ _ _ _ h3 hd fuel (by simp only [OT.d] at hf; omega))⟩
         · have hjk : j ∈ ks := by simpa using e
           refine wpOp_mono (fun a' w' h' => ?_) (h.2 j hjk)
           obtain ⟨S', hs, hS', hd⟩ := h'
           exact ⟨.inr (hs _ hS'), wpAnyZ_mono hs _ _ _ _ (ih n (Nat.lt_succ_self _) _ _ _ _ _ _ (h4 j hjk) hd fuel (by have := without_lt hjk; simp only [OT.d] at *; omega))⟩
     | c i t r =>
       have h00 := h
       rw [dwN] at h
       simp only [orderOkN, Bool.and_eq_true, List.all_eq_true, Bool.not_eq_true'] at ho
       obtain ⟨⟨⟨h1, h2⟩, h3⟩, h4⟩ := ho
       have hd1 : t.d + 1 ≤ (OT.c i t r).d := Nat.le_max_left _ _
       have hd2 : r.d ≤ (OT.c i t r).d := Nat.le_max_right _ _
       cases fuel with
       | zero => omega
       | succ fuel =>
         refine ⟨fun h0 => by rw [h0] at h1; simp at h1, fun j hj => ?_⟩
         by_cases e : j ∈ ks
         · refine wpOp_mono (fun a' w' h' => ?_) (h.2.2 j e)
           obtain ⟨S', hs, hS', hd⟩ := h'
           exact ⟨.inr (hs _ hS'), wpAnyZ_mono hs _ _ _ _ (ih n (Nat.lt_succ_self _) _ _ _ _ _ _ (h4 j e) hd fuel (by have := without_lt e; omega))⟩
         · by_cases e2 : j = i
           · subst e2
             refine wpOp_mono (fun a' w' h' => ?_) h.1
             obtain ⟨S', hs, hS', hd⟩ := h'
             exact ⟨.inr (hs _ hS'), wpAnyZ_mono hs _ _ _ _ (ih n (Nat.lt_succ_self _) ks t _ _ _ _ h2 hd fuel (by omega))⟩
           · obtain ⟨m, t', k1, k2, k3, k4⟩ := altN n ks r S listed _ a w h3 h.2.1 j (by
               unfold without
               rw [List.mem_filter, List.mem_filter]
               exact ⟨⟨hj, by simpa using e⟩, nbeq e2⟩)
             refine wpOp_mono (fun a' w' h' => ?_) k4
             obtain ⟨S', hs, hS', hd⟩ := h'
             exact ⟨.inr (hs _ hS'), wpAnyZ_mono hs _ _ _ _ (ih m (by omega) ks t' _ _ _ _ k3 hd fuel (by omega))⟩
end
section
variable {P : Program} {GB : Gh} {C : Ctx} {n : Nat} {fr fr' : FrF} {own own' own0 own1 own1' : List OwnD} {bs bs0 bs1 bs1' : List BufD} {ops : Array Oper} {Q : Exit → Act → World → Prop} {fd : List FD} {π₂ : List (Nat × Bool)} {t r : OT}
abbrev dnK (P : Program) (ops : Array Oper) (Q : Exit → Act → World → Prop) (K : (World → Prop) → Act → World → Prop) (t : OT) : List Nat → (World → Prop) → Act → World → Prop := fun ks S => dwN P ops (NoPan Q) K ks t S
theorem drN (fd : List FD) (t : OT) (m : Nat) (π₂ : List (Nat × Bool)) {id : Nat} (hm : P.follows .mixedOrders = true) (hpo : own.Perm (own0 ++ own1)) (hpb : bs.Perm (bs0 ++ bs1))
   (ho : (orderOkN ops fin0 π₂ m false (fd.map (·.k)) t (Array.replicate ops.size false) [] && Nat.ble (fd.length + t.d + π₂.length) ops.size) = true)
   (h : SR GB C n fr own0 bs0 own1 bs1 fd (dnK P ops Q (dwK P ops Q (endN (NoPan Q)) π₂ []) t)) : SD GB C n E0 fr own bs ((Code.region id ops true).wp P Q) := by
 simp only [Bool.and_eq_true] at ho
 refine ⟨fun G frv ov s => ?_⟩
 obtain ⟨p, q, rfl, hp, hq⟩ := s.ob
 obtain ⟨p', e1, hp'⟩ := hp.perm hpo
 obtain ⟨q', e2, hq'⟩ := hq.perm hpb
 obtain ⟨p0, p1, rfl, hp0, hp1⟩ := hp'.unapp
 obtain ⟨q0, q1, rfl, hq0, hq1⟩ := hq'.unapp
 simp only [E0, List.append_nil]
 have h0 := h G frv (p0 ++ q0) (p1 ++ q1) s.gb s.fr ⟨p0, q0, rfl, hp0, hq0⟩ ⟨p1, q1, rfl, hp1, hq1⟩ (fun _ => none)
 rw [(pend_none fd).1, (pend_none fd).2.1, (pend_none fd).2.2, List.append_nil, List.append_nil] at h0
 refine st_perm ((p1 ++ q1) ++ (p0 ++ q0)) ?_ ?_
 · refine (e1.append e2).trans ?_
   refine List.perm_append_comm.trans ?_
   rw [List.append_assoc, List.append_assoc]
   have : (q0 ++ (q1 ++ (p0 ++ p1))).Perm (p1 ++ (q1 ++ (p0 ++ q0))) := by
     have a1 : (q0 ++ (q1 ++ (p0 ++ p1))).Perm ((q1 ++ (p0 ++ p1)) ++ q0) := List.perm_append_comm
     have a2 : ((q1 ++ (p0 ++ p1)) ++ q0).Perm (((q1 ++ p0) ++ p1) ++ q0) := by rw [← List.append_assoc q1]
     have a3 : (((q1 ++ p0) ++ p1) ++ q0).Perm ((p1 ++ (q1 ++ p0)) ++ q0) := (List.perm_append_comm).append_right q0
     refine a1.trans (a2.trans (a3.trans ?_))
     simp [List.append_assoc]
   simpa [List.append_assoc] using this
 · intro a w rl
   exact wp_mono (wp_region_any hm (wpAny_of_Z _ _ _ _ (wpAnyZ_of_N (fun _ _ _ _ _ h => h) (fun S listed a w ho hK fuel hf => wpAnyZ_of_T0 (fun _ _ _ _ _ h => h) _ _ _ _ _ ho hK fuel hf) _ _ t _ _ a _ ho.1 (h0 a _ (rl.heap rl.h.drew)) _ (by have := ho.2; simp at this ⊢; omega)))) NoPan.imp
theorem dyN {K : (World → Prop) → Act → World → Prop} {i : Nat} {dst : Option Nat} {ty' : TypeId} {pos : String} {af : Array Edge} {op : Op} {f : FV} (ho : ops[i]? = some ⟨dst, op, ty', pos, af, none⟩) (hy : YD P GB C fr own0 bs0 ⟨dst, op, ty', pos, af, none⟩ f) (hd : dstOk n dst = true)
  (h : SR GB C n (putF fr dst f) own0 bs0 own1 bs1 fd (dnK P ops Q K t)) : SR GB C n fr own0 bs0 own1 bs1 fd (dnK P ops Q K (.q i t)) := by
 refine ⟨fun G frv o0 o1 hgb hf h0 h1 fs => ?_⟩
 intro a w rl
 obtain ⟨y, k1, k2⟩ := hy G frv o0 ⟨hgb, hf, h0⟩
 have hsub : o0.Sublist (o1 ++ (o0 ++ fOs fd fs)) := (List.sublist_append_left o0 _).trans (List.sublist_append_right _ _)
 have hS : HS C o0 G w := ⟨G, GLe.refl _, rl.h.drop hsub⟩
 show dwN P ops (NoPan Q) K (pend fd fs) (.q i t) _ a w
 rw [dwN]
 refine ⟨_, y, ho, hS, .inl ⟨by simp [Region.wanted], fun w' ⟨G', hle, hr⟩ => k2 G' hle a w' rl.fr.left hr⟩, ?_⟩
 have := h G (put frv dst y) o0 o1 hgb (hf.put k1 _) h0 h1 fs _ _ (rl.put y hd |> fun r => by rw [put_app] at r; exact r)
 exact this
theorem dcN0 {K : (World → Prop) → Act → World → Prop} {i : Nat} (hok : FDok P ops n fd) (hfr : (fd.all fun f => (lookF fr f.d).isNone) = true)
   {G : Gh} {frv : Fr} {o0 o1 : List Own} (hf : FrIs G fr frv)
   (hc : ∀ fs, St C n (frv ++ fFs fd fs) (o1 ++ (o0 ++ fOs fd fs)) G (wpOp P ops (NoPan Q) i (grS (HS C o0 G) (dwN P ops (NoPan Q) K (pend fd fs) t)))) :
   ∀ (m : Nat) (fs : Fs), (pend fd fs).length ≤ m → St C n (frv ++ fFs fd fs) (o1 ++ (o0 ++ fOs fd fs)) G (dwN P ops (NoPan Q) K (pend fd fs) (.a i t) (HS C o0 G))
 | m, fs, hm => by
   intro a w rl
   rw [dwN]
   refine ⟨hc fs a w rl, fun j hj => ?_⟩
   have hsm : ∀ fs', (pend fd fs').length < (pend fd fs).length → St C n (frv ++ fFs fd fs') (o1 ++ (o0 ++ fOs fd fs')) G (dwN P ops (NoPan Q) K (pend fd fs') (.a i t) (HS C o0 G)) := fun fs' hlt => by
     cases m with
     | zero => omega
     | succ m => exact dcN0 hok hfr hf hc m fs' (by omega)
   have hfr' : (fd.all fun f => (look frv f.d).isNone) = true := by
     rw [List.all_eq_true] at hfr ⊢
     intro f hfm
     have h9 := hfr f hfm
     rw [Option.isNone_iff_eq_none] at h9 ⊢
     exact hf.lookN h9
   have := alloc_G (own := o1 ++ o0) (own0 := o0) (G0 := G) (Q := Q) (fin := fin0) (Φ := fun l => dwN P ops (NoPan Q) K l (.a i t) (HS C o0 G)) hok hfr' (List.sublist_append_right _ _) hj (fun b => by
     rw [List.append_assoc]
     refine hsm _ ?_
     rw [pend_upd]
     exact without_lt hj)
   rw [List.append_assoc] at this
   refine wpOp_mono (fun a' w' h' => ?_) (this a w rl)
   exact ⟨HS C o0 G, fun _ h => h, h'.1.resolve_left (by simp), h'.2⟩
theorem dkN0 {K : (World → Prop) → Act → World → Prop} {i : Nat} (hok : FDok P ops n fd) (hfr : (fd.all fun f => (lookF fr f.d).isNone) = true)
   {G : Gh} {frv : Fr} {o0 o1 : List Own} (hf : FrIs G fr frv)
   (hc : ∀ fs, St C n (frv ++ fFs fd fs) (o1 ++ (o0 ++ fOs fd fs)) G (wpOp P ops (NoPan Q) i (grS (HS C o0 G) (dwN P ops (NoPan Q) K (pend fd fs) t))))
   (hr : ∀ fs, St C n (frv ++ fFs fd fs) (o1 ++ (o0 ++ fOs fd fs)) G (dwN P ops (NoPan Q) K (pend fd fs) r (HS C o0 G))) :
   ∀ (m : Nat) (fs : Fs), (pend fd fs).length ≤ m → St C n (frv ++ fFs fd fs) (o1 ++ (o0 ++ fOs fd fs)) G (dwN P ops (NoPan Q) K (pend fd fs) (.c i t r) (HS C o0 G))
 | m, fs, hm => by
   intro a w rl
   rw [dwN]
   refine ⟨hc fs a w rl, hr fs a w rl, fun j hj => ?_⟩
   have hsm : ∀ fs', (pend fd fs').length < (pend fd fs).length → St C n (frv ++ fFs fd fs') (o1 ++ (o0 ++ fOs fd fs')) G (dwN P ops (NoPan Q) K (pend fd fs') (.c i t r) (HS C o0 G)) := fun fs' hlt => by
     cases m with
     | zero => omega
     | succ m => exact dkN0 hok hfr hf hc hr m fs' (by omega)
   have hfr' : (fd.all fun f => (look frv f.d).isNone) = true := by
     rw [List.all_eq_true] at hfr ⊢
     intro f hfm
     have h9 := hfr f hfm
     rw [Option.isNone_iff_eq_none] at h9 ⊢
     exact hf.lookN h9
   have := alloc_G (own := o1 ++ o0) (own0 := o0) (G0 := G) (Q := Q) (fin := fin0) (Φ := fun l => dwN P ops (NoPan Q) K l (.c i t r) (HS C o0 G)) hok hfr' (List.sublist_append_right _ _) hj (fun b => by
     rw [List.append_assoc]
     refine hsm _ ?_
     rw [pend_upd]
     exact without_lt hj)
   rw [List.append_assoc] at this
   refine wpOp_mono (fun a' w' h' => ?_) (this a w rl)
   exact ⟨HS C o0 G, fun _ h => h, h'.1.resolve_left (by simp), h'.2⟩
theorem grS_SDN {K : (World → Prop) → Act → World → Prop} (h : SR GB C n fr' own0 bs0 own1' bs1' fd (dnK P ops Q K t)) {G : Gh} {o0 : List Own} (hgb : GLe GB G) (h0 : OB G own0 bs0 o0) (fs : Fs) :
  SD G C n ⟨fFs fd fs, o0 ++ fOs fd fs⟩ fr' own1' bs1' (grS (HS C o0 G) (dwN P ops (NoPan Q) K (pend fd fs) t)) := by
 refine ⟨fun G' frv' o1' s => ?_⟩
 intro a w rl
 have := h G' frv' o0 o1' (hgb.trans s.gb) s.fr (h0.up s.gb) s.ob fs a w rl
 refine ⟨HS C o0 G', fun w' ⟨G2, hle, hr⟩ => ⟨G2, s.gb.trans hle, hr⟩, ⟨G', GLe.refl _, rl.h.drop ?_⟩, this⟩
 exact (List.sublist_append_left o0 _).trans (List.sublist_append_right _ _)
theorem dcN {K : (World → Prop) → Act → World → Prop} {i : Nat} {dst : Option Nat} {ty' : TypeId} {pos : String} {af : Array Edge} {op : Op} (ho : ops[i]? = some ⟨dst, op, ty', pos, af, none⟩) (h : TD P GB C n fr own1 bs1 ⟨dst, op, ty', pos, af, none⟩ fr' own1' bs1') (hok : FDok P ops n fd) (hfr : (fd.all fun f => (lookF fr f.d).isNone) = true)
  (k : SR GB C n fr' own0 bs0 own1' bs1' fd (dnK P ops Q K t)) : SR GB C n fr own0 bs0 own1 bs1 fd (dnK P ops Q K (.a i t)) := by
 refine ⟨fun G frv o0 o1 hgb hf h0 h1 fs => ?_⟩
 refine dcN0 hok hfr hf (fun fs => ?_) _ fs (Nat.le_refl _)
 intro a w rl
 unfold wpOp
 simp only [ho, Region.wanted, if_true]
 exact .inl (h G ⟨fFs fd fs, o0 ++ fOs fd fs⟩ _ hgb (grS_SDN k hgb h0 fs) G frv o1 ⟨GLe.refl _, hf, h1⟩ a w _ rl)
theorem dfkN {K : (World → Prop) → Act → World → Prop} {i : Nat} {dst : Option Nat} {ty' : TypeId} {pos : String} {af : Array Edge} {op : Op} {ι : Type} {fr' : ι → FrF} {own1' : ι → List OwnD} {bs1' : ι → List BufD} (ho : ops[i]? = some ⟨dst, op, ty', pos, af, none⟩) (h : TF P GB C n fr own1 bs1 ⟨dst, op, ty', pos, af, none⟩ ι fr' own1' bs1') (hok : FDok P ops n fd) (hfr : (fd.all fun f => (lookF fr f.d).isNone) = true)
  (k : ∀ x, SR GB C n (fr' x) own0 bs0 (own1' x) (bs1' x) fd (dnK P ops Q K t)) (k2 : SR GB C n fr own0 bs0 own1 bs1 fd (dnK P ops Q K r)) : SR GB C n fr own0 bs0 own1 bs1 fd (dnK P ops Q K (.c i t r)) := by
 refine ⟨fun G frv o0 o1 hgb hf h0 h1 fs => ?_⟩
 refine dkN0 hok hfr hf (fun fs => ?_) (fun fs => k2 G frv o0 o1 hgb hf h0 h1 fs) _ fs (Nat.le_refl _)
 intro a w rl
 unfold wpOp
 simp only [ho, Region.wanted, if_true]
 exact .inl (h G ⟨fFs fd fs, o0 ++ fOs fd fs⟩ _ hgb (fun x => grS_SDN (k x) hgb h0 fs) G frv o1 ⟨GLe.refl _, hf, h1⟩ a w _ rl)
theorem zN {K : (World → Prop) → Act → World → Prop} {π : List (Nat × Bool)} (h : SR GB C n fr own0 bs0 own1 bs1 fd (dwK P ops Q K π)) : SR GB C n fr own0 bs0 own1 bs1 fd (dnK P ops Q K (.z π)) := by
 refine ⟨fun G frv o0 o1 hgb hf h0 h1 fs => ?_⟩
 intro a w rl
 show dwN P ops (NoPan Q) K (pend fd fs) (.z π) _ a w
 rw [dwN]
 exact h G frv o0 o1 hgb hf h0 h1 fs a w rl
end
end Go.Sx
end
