/-
  Reference: fractions of small numbers; sides of points. Reference: sides of a point, lines reversed and written, rows of lines; what is the same. Reference: cells around a point; what is the same; Restrict over deep values. Reference: what is the same; Restrict over deep values. Restrict over deep values; the law ReduceTwice: its walk. From deep values to a row's statement: the memory of a call's start as frozen cells, its slices of integers, what is left of old memory at the end.
-/
import Derived.Test.YtkijgpopaaknfaaGreatDoorMb15
import Derived.Test.YtkijgpopaaknfaaGreatDoorCards
import Derived.Test.YtkijgpopaaknfaaGreatDoorTie
import Derived.WalkKit
import Derived.ProofKit
import Derived.OpenShut
import Derived.Deep.DeepHandedRow
import Derived.Deep.DeepWitnessRowRef
import Derived.LaidMore
import Derived.Lib.LaidTab
import Derived.SizedLaws
section
set_option maxRecDepth 100000
namespace Go.Sx
open Go Go.Proofs

theorem zv_f (n : Nat) : zv false n = (n : Int) := rfl
theorem eQ_int (z : Int) : eQ (z : Rat) = .ag [.v (.bool (decide (z < 0))), dN z.natAbs, .sl []] := by unfold eQ; rw [Rat.num_intCast, Rat.den_intCast]; rfl
theorem rat_of_den {a : Rat} (h : a.den = 1) : ((a.num : Int) : Rat) = a := Rat.ext (Rat.num_intCast _) (by rw [Rat.den_intCast, h])
theorem plus_int {a b : Rat} (ha : a.den = 1) (hb : b.den = 1) : a + b = ((a.num + b.num : Int) : Rat) := by
  rw [Rat.intCast_add, rat_of_den ha, rat_of_den hb]
theorem times_int {a b : Rat} (ha : a.den = 1) (hb : b.den = 1) : a * b = ((a.num * b.num : Int) : Rat) := by
  rw [Rat.intCast_mul, rat_of_den ha, rat_of_den hb]
theorem dD_len (n : Nat) (h : 0 < n) : (if n = 1 then [] else (dg n).map dU).length = 0 ↔ n = 1 := by
  by_cases q : n = 1
  · simp [q]
  · rw [if_neg q, List.length_map, dg_len_zero]; omega
theorem dD_of {n : Nat} (h : n ≠ 1) : dD n = dN n := by unfold dD; rw [if_neg h]; rfl
theorem cmpN_one {g : Nat} : (cmpN g 1 = 0) ↔ g = 1 := by
  unfold cmpN
  constructor
  · intro h; split at h
    · exact absurd h (by decide)
    · split at h
      · assumption
      · exact absurd h (by decide)
  · rintro rfl; rfl
theorem dg_small {n : Nat} (h : n < 4294967296) : (dg n).length ≤ 100000000 := by have := dg_len_le (k := 32) h; omega
theorem mk_num {x : Int} {d : Nat} (hd : 0 < d) : zv (decide (x < 0)) (x.natAbs / Nat.gcd x.natAbs d) = (mkRat x d).num := by
  rw [Rat.num_mkRat, if_neg (by omega), Nat.gcd_comm]
  have hg : 0 < Nat.gcd d x.natAbs := Nat.gcd_pos_of_pos_left _ hd
  obtain ⟨c, hc⟩ : Nat.gcd d x.natAbs ∣ x.natAbs := Nat.gcd_dvd_right _ _
  generalize Nat.gcd d x.natAbs = g at *
  rw [hc, Nat.mul_div_cancel_left _ hg]
  unfold zv
  by_cases q : x < 0
  · rw [if_pos (by simpa using q), show x = (g : Int) * (-(c : Int)) by rw [Int.mul_neg, ← Int.natCast_mul]; omega, Int.mul_ediv_cancel_left _ (by omega)]
  · rw [if_neg (by simpa using q), show x = (g : Int) * (c : Int) by rw [← Int.natCast_mul]; omega, Int.mul_ediv_cancel_left _ (by omega)]
theorem mk_den {x : Int} {d : Nat} (hd : 0 < d) : d / Nat.gcd x.natAbs d = (mkRat x d).den := by
  rw [Rat.den_mkRat, if_neg (by omega), Nat.gcd_comm]
theorem mk_one {x : Int} {d : Nat} (hd : 0 < d) (h : Nat.gcd x.natAbs d = 1) : (mkRat x d).num = x ∧ (mkRat x d).den = d := by
  rw [← mk_num hd, ← mk_den hd, h, Nat.div_one, Nat.div_one]
  exact ⟨zv_eta x, rfl⟩
theorem mk_le {x : Int} {d : Nat} (hd : 0 < d) : (mkRat x d).num.natAbs ≤ x.natAbs ∧ (mkRat x d).den ≤ d := by
  rw [← mk_num hd, ← mk_den hd, zv_abs]
  exact ⟨Nat.div_le_self .., Nat.div_le_self ..⟩
theorem mul_le (a b : Rat) : (a * b).num.natAbs ≤ a.num.natAbs * b.num.natAbs ∧ (a * b).den ≤ a.den * b.den := by
  rw [rat_mul_mk]
  have := mk_le (x := a.num * b.num) (d := a.den * b.den) (Nat.mul_pos (den_pos' a) (den_pos' b))
  rwa [Int.natAbs_mul] at this
theorem add_le (a b : Rat) : (a + b).num.natAbs ≤ a.num.natAbs * b.den + b.num.natAbs * a.den ∧ (a + b).den ≤ a.den * b.den := by
  rw [rat_add_mk]
  have h := mk_le (x := a.num * b.den + b.num * a.den) (d := a.den * b.den) (Nat.mul_pos (den_pos' a) (den_pos' b))
  have h2 : (a.num * b.den + b.num * a.den).natAbs ≤ (a.num * b.den).natAbs + (b.num * a.den).natAbs := by omega
  rw [Int.natAbs_mul, Int.natAbs_mul, Int.natAbs_natCast, Int.natAbs_natCast] at h2
  exact ⟨by omega, h.2⟩

theorem q_sDen {GB : Gh} {q : Rat} : PF GB Tryz.prog 92 [eQ q] (dN q.den) := by
  refine PF.intro Tryz.func92 rfl rfl Tryz.ntmps92 rfl ?_
  intro C
  refine sd_seq <| sd_region <| tF (tf_box rfl rfl rfl) <| ?_
  intro b1
  refine tY (yq_assign rfl) rfl <| sd_end <| sd_seq <| sd_seq <| sd_region <| tY (yq_faP rfl) rfl <| tY (yq_ldO1 rfl rfl) rfl <| tY (yq_len rfl) rfl <| tY (yq_eql rfl rfl) rfl <| sd_end <| ?_
  refine sd_condP rfl (fun hc6 => ?_) (fun hc6 => ?_)
  ·
    refine sd_seq <| sd_region <| tC (td_call rfl rfl (q_One) rfl) <| tY (yq_assign rfl) rfl <| sd_end <| sd_ret <| ?_
    exact sd_done (.tmp rfl .nil) (by rw [(dD_len q.den (den_pos' q)).1 (by omega)]; rfl)
  ·
    refine sd_skipc <| sd_seq <| sd_region <| tY (yq_faP rfl) rfl <| tY (yq_ldO1 rfl rfl) rfl <| tY (yq_assign rfl) rfl <| sd_end <| sd_ret <| ?_
    exact sd_done (.tmp rfl .nil) (by exact dD_of (fun e => hc6 (by exact congrArg Int.ofNat ((dD_len q.den (den_pos' q)).2 e))))
set_option maxHeartbeats 1000000 in
theorem q_sFrac {GB : Gh} {x : Int} {d : Nat} (hx : x.natAbs < 4294967296) (hd : d < 4294967296) (hd0 : 0 < d) : PF GB Tryz.prog 113 [eI x, dN d] (eQ (mkRat x d)) := by
  refine PF.intro Tryz.func113 rfl rfl Tryz.ntmps113 rfl ?_
  intro C
  obtain ⟨q, hq⟩ : ∃ q, q = mkRat x d := ⟨_, rfl⟩
  obtain ⟨g, hg⟩ : ∃ g, g = Nat.gcd x.natAbs d := ⟨_, rfl⟩
  have hg0 : 0 < g := hg ▸ Nat.gcd_pos_of_pos_right _ hd0
  have hgd : g ≤ d := hg ▸ Nat.gcd_le_right _ hd0
  have hg1 : (dg g).length ≤ 100000000 := dg_small (by omega)
  have ho1 : (dg 1).length ≤ 100000000 := by rw [dg_one]; decide
  have hqd := (mk_le (x := x) hd0).2
  rw [← hq] at hqd
  have hdv : x.natAbs / g ≤ x.natAbs := Nat.div_le_self ..
  refine sd_seq <| sd_region <| tF (tf_box rfl rfl rfl) <| ?_
  intro b1
  refine tF (tf_alloc rfl) <| ?_
  intro b2
  refine sd_end <| sd_seq <| sd_region <| tY (yq_faP rfl) rfl <| tY (yq_ldO1 rfl rfl) rfl <| tY (yq_move rfl) rfl <| tC (td_call rfl rfl (q_sCommon (by omega) (by omega)) rfl) <| ?_
  refine sd_eq 11 (.d (dN g)) rfl (by rw [hg]) ?_
  refine tY (yq_assign rfl) rfl <| sd_end <| ?_
  refine sd_cut (Unit) (fun _ => [(1, .d (dN q.den)), (2, .d (.v (.pointer (some ⟨b1, 0, none⟩)))), (4, .d (.v (.pointer (some ⟨b2, 0, none⟩))))]) (fun _ => [⟨b2, [.v (.bool false), .sl [], .sl []], 87, true⟩, ⟨b1, [.v (.bool (decide (q.num < 0))), dN q.num.natAbs], 30, true⟩]) (fun _ => []) (fun _ => True) ?_ ?_
  ·
    refine sd_seq <| sd_region <| tY (yq_move rfl) rfl <| tC (td_call rfl rfl (q_One) rfl) <| tC (td_call rfl rfl (q_Cmp hg1 ho1) rfl) <| tY (yq_neq rfl rfl) rfl <| sd_end <| ?_
    refine sd_condP rfl (fun hc15 => ?_) (fun hc15 => ?_)
    ·
      refine sd_seq <| sd_region <| tY (yq_faP rfl) rfl <| tY (yq_ldO1 rfl rfl) rfl <| tY (yq_move rfl) rfl <| tF (tf_callX rfl rfl (q_sDivide (by omega) (by omega) (by omega)) rfl) <| ?_
      rintro z20; try dsimp only
      refine tY (yq_move rfl) rfl <| tY (yq_ext rfl rfl) rfl <| tY (yq_ext rfl rfl) rfl <| tY (yq_assign rfl) rfl <| tY (yq_assign rfl) rfl <| sd_end <| sd_seq <| sd_region <| tY (yq_faP rfl) rfl <| ?_
      refine tY (yq_ldO1 rfl rfl) rfl <| tY (yq_move rfl) rfl <| tC (td_call rfl rfl (q_sMake (by omega)) rfl) <| ?_
      refine sd_eq 26 (.d (eI q.num)) rfl (by show FV.d (eI (zv _ _)) = _; rw [hg, mk_num hd0, hq]) ?_
      refine tC (td_store rfl rfl (by first | (dsimp only [DV.cells, ovD, List.set_cons_zero, List.set_cons_succ, Nat.reduceAdd, List.drop_succ_cons, List.drop_zero]; done) | exact rfl) (by repeat (first | exact .hd .. | apply OUpdD.tl)) rfl rfl rfl rfl) <| ?_
      refine sd_end <| sd_region <| tY (yq_move rfl) rfl <| tY (yq_move rfl) rfl <| tF (tf_callX rfl rfl (q_sDivide (by omega) (by omega) (by omega)) rfl) <| ?_
      rintro z30; try dsimp only
      refine tY (yq_move rfl) rfl <| tY (yq_ext rfl rfl) rfl <| ?_
      refine sd_eq 31 (.d (dN q.den)) rfl (by rw [hg, mk_den hd0, hq]) ?_
      refine tY (yq_ext rfl rfl) rfl <| tY (yq_assign rfl) rfl <| sd_end <| ?_
      exact sd_at () trivial (by repeat (first | exact .nil | refine .cons rfl ?_ | refine .cons' rfl (by first | (simp [vI]; done) | (congr 3; omega) | (simp [vI]; omega)) ?_)) rfl rfl
    ·
      refine sd_skipc <| ?_
      have hm := mk_one (x := x) hd0 (by rw [← hg]; exact cmpN_one.1 (Decidable.not_not.1 hc15))
      rw [← hq] at hm
      refine sd_eq 1 (.d (dN q.den)) rfl (by rw [hm.2]) ?_
      refine sd_own [⟨_, [.v (.bool false), .sl [], .sl []], _, _⟩, ⟨_, [.v (.bool (decide (q.num < 0))), dN q.num.natAbs], _, _⟩] (by rw [hm.1]; rfl) ?_
      exact sd_at () trivial (by repeat (first | exact .nil | refine .cons rfl ?_ | refine .cons' rfl (by first | (simp [vI]; done) | (congr 3; omega) | (simp [vI]; omega)) ?_)) rfl rfl
  rintro _ _
  refine sd_cut (Unit) (fun _ => [(1, .d (dD q.den)), (2, .d (.v (.pointer (some ⟨b1, 0, none⟩)))), (4, .d (.v (.pointer (some ⟨b2, 0, none⟩))))]) (fun _ => [⟨b2, [.v (.bool false), .sl [], .sl []], 87, true⟩, ⟨b1, [.v (.bool (decide (q.num < 0))), dN q.num.natAbs], 30, true⟩]) (fun _ => []) (fun _ => True) ?_ ?_
  ·
    refine sd_seq <| sd_region <| tY (yq_move rfl) rfl <| tC (td_call rfl rfl (q_One) rfl) <| tC (td_call rfl rfl (q_Cmp (dg_small (by omega)) ho1) rfl) <| tY (yq_eql rfl rfl) rfl <| sd_end <| ?_
    refine sd_condP rfl (fun hc36 => ?_) (fun hc36 => ?_)
    ·
      refine sd_region <| tY (yq_assign rfl) rfl <| sd_end <| ?_
      refine sd_nilS 1 rfl ?_
      refine sd_eq 1 (.d (dD q.den)) rfl (by rw [cmpN_one.1 hc36]; rfl) ?_
      exact sd_at () trivial (by repeat (first | exact .nil | refine .cons rfl ?_ | refine .cons' rfl (by first | (simp [vI]; done) | (congr 3; omega) | (simp [vI]; omega)) ?_)) rfl rfl
    ·
      refine sd_skipc <| ?_
      refine sd_eq 1 (.d (dD q.den)) rfl (by rw [dD_of (fun e => hc36 (cmpN_one.2 e))]) ?_
      exact sd_at () trivial (by repeat (first | exact .nil | refine .cons rfl ?_ | refine .cons' rfl (by first | (simp [vI]; done) | (congr 3; omega) | (simp [vI]; omega)) ?_)) rfl rfl
  rintro _ _
  refine sd_seq <| sd_region <| tY (yq_ldO rfl rfl) rfl <| tY (yq_move rfl) rfl <| tY (yq_build rfl) rfl <| tC (td_store rfl rfl (by first | (dsimp only [DV.cells, ovD, List.set_cons_zero, List.set_cons_succ, Nat.reduceAdd, List.drop_succ_cons, List.drop_zero]; done) | exact rfl) (by repeat (first | exact .hd .. | apply OUpdD.tl)) rfl rfl rfl rfl) <| ?_
  refine sd_end <| sd_ret <| ?_
  exact sd_done (.agg rfl inferInstance inferInstance rfl .nil) (by rw [← hq]; rfl)
theorem q_sPart {GB : Gh} {n : Int} {d : Nat} (h0 : -1000000 ≤ n) (h1 : n ≤ 1000000) (hd : 0 < d) (hd1 : d < 1000000) : PF GB Tryz.prog 61 [vI n, vI (d : Nat)] (eQ (mkRat n d)) := by
  refine PF.intro Tryz.func61 rfl rfl Tryz.ntmps61 rfl ?_
  intro C
  refine sd_seq <| sd_region <| tF (tf_alloc rfl) <| ?_
  intro b1
  refine sd_end <| sd_seq <| sd_region <| tY (yq_move rfl) rfl <| tC (td_call rfl rfl (q_sInt (by omega) (by omega)) rfl) <| tY (yq_move rfl) rfl <| tY (yq_toU64 rfl (by omega) (by omega)) rfl <| ?_
  refine tC (td_call rfl rfl (q_Word (u := d) (by omega)) rfl) <| tC (td_call rfl rfl (q_sFrac (by omega) (by omega) (by omega)) rfl) <| tC (td_store rfl rfl (by first | (dsimp only [DV.cells, ovD, List.set_cons_zero, List.set_cons_succ, Nat.reduceAdd, List.drop_succ_cons, List.drop_zero]; done) | exact rfl) (by repeat (first | exact .hd .. | apply OUpdD.tl)) rfl rfl rfl rfl) <| ?_
  refine sd_end <| sd_ret <| ?_
  exact sd_done (.agg rfl inferInstance inferInstance rfl .nil) rfl
theorem q_sS {GB : Gh} {q : Rat} (h : q.num.natAbs < 4294967296) : PF GB Tryz.prog 115 [eQ q] (vI q.num.sign) := by
  refine PF.intro Tryz.func115 rfl rfl Tryz.ntmps115 rfl ?_
  intro C
  refine sd_seq <| sd_region <| tF (tf_box rfl rfl rfl) <| ?_
  intro b1
  refine tY (yq_assign rfl) rfl <| sd_end <| sd_seq <| sd_region <| tY (yq_faP rfl) rfl <| tY (yq_ldO rfl rfl) rfl <| tC (td_call rfl rfl (q_sSign h) rfl) <| tY (yq_assign rfl) rfl <| ?_
  refine sd_end <| sd_ret <| ?_
  exact sd_done (.tmp rfl .nil) rfl
/-- small enough to be multiplied, to be added -/
structure TQ (a b : Rat) : Prop where
  an : a.num.natAbs < 4294967296
  bn : b.num.natAbs < 4294967296
  n : a.num.natAbs * b.num.natAbs < 4294967296
  ad : a.den < 4294967296
  bd : b.den < 4294967296
  d : a.den * b.den < 4294967296
structure PQ (a b : Rat) : Prop where
  an : a.num.natAbs < 1000000000
  bn : b.num.natAbs < 1000000000
  n : a.num.natAbs * b.den < 1000000000
  m : b.num.natAbs * a.den < 1000000000
  ad : a.den < 4294967296
  bd : b.den < 4294967296
  d : a.den * b.den < 4294967296

set_option maxHeartbeats 1000000 in
theorem q_sTimes {GB : Gh} {a b : Rat} (h : TQ a b) : PF GB Tryz.prog 90 [eQ a, eQ b] (eQ (a * b)) := by
  refine PF.intro Tryz.func90 rfl rfl Tryz.ntmps90 rfl ?_
  intro C
  have had := den_pos' a
  have hbd := den_pos' b
  have hdp := Nat.mul_pos had hbd
  have e1 := dD_len a.den had
  have e2 := dD_len b.den hbd
  obtain ⟨h1, h2, h3, h4, h5, h6⟩ := h
  have h7 : (a.num * b.num).natAbs < 4294967296 := by rw [Int.natAbs_mul]; exact h3
  refine sd_seq <| sd_region <| tF (tf_box rfl rfl rfl) <| ?_
  intro b1
  refine tF (tf_box rfl rfl rfl) <| ?_
  intro b2
  refine tF (tf_alloc rfl) <| ?_
  intro b3
  refine sd_end <| sd_seq <| sd_seq <| sd_region <| tY (yq_faP rfl) rfl <| tY (yq_ldO1 rfl rfl) rfl <| tY (yq_len rfl) rfl <| tY (yq_eql rfl rfl) rfl <| tY (yq_move rfl) rfl <| ?_
  refine sd_caseP 9 rfl (fun hg9 => ?_) (fun hg9 => ?_)
  ·
    refine tYg rfl rfl (yq_faP rfl) rfl <| tYg rfl rfl (yq_ldO1 rfl rfl) rfl <| tYg rfl rfl (yq_len rfl) rfl <| tYg rfl rfl (yq_eql rfl rfl) rfl <| tY (yq_pickT rfl rfl) rfl <| sd_end <| ?_
    refine sd_condP rfl (fun hc14 => ?_) (fun hc14 => ?_)
    ·
      refine sd_seq <| sd_region <| tY (yq_faP rfl) rfl <| tY (yq_ldO rfl rfl) rfl <| tY (yq_faP rfl) rfl <| tY (yq_ldO rfl rfl) rfl <| tC (td_call rfl rfl (q_sMul (m := a.num) (n := b.num) h1 h2 h3) rfl) <| ?_
      refine tY (yq_build rfl) rfl <| tC (td_store rfl rfl (by first | (dsimp only [DV.cells, ovD, List.set_cons_zero, List.set_cons_succ, Nat.reduceAdd, List.drop_succ_cons, List.drop_zero]; done) | exact rfl) (by repeat (first | exact .hd .. | apply OUpdD.tl)) rfl rfl rfl rfl) <| ?_
      refine sd_end <| sd_ret <| ?_
      exact sd_done (.agg rfl inferInstance inferInstance rfl .nil) (by rw [times_int (e1.1 (by omega)) (e2.1 (by omega)), eQ_int]; rfl)
    ·
      refine sd_skipc <| sd_seq <| ?_
      refine sd_selO [1, 2, 0] (by decide) rfl ?_
      simp only [pickL, List.filterMap_cons, List.filterMap_nil, List.getElem?_cons_zero, List.getElem?_cons_succ]
      refine drX (own0 := [_, _]) (own1 := [_]) (bs0 := []) (bs1 := _) [] [(0, true), (1, true), (2, true), (3, true), (5, true), (7, true), (4, false), (6, false), (8, false), (9, false), (10, false), (11, false)] [] follows (List.Perm.refl _) (List.Perm.refl _) (by kernel_rfl) ?_
      refine dyX rfl (yq_faP rfl) rfl <| ?_
      refine dyX rfl (yq_ldO rfl rfl) rfl <| ?_
      refine dyX rfl (yq_faP rfl) rfl <| ?_
      refine dyX rfl (yq_ldO rfl rfl) rfl <| ?_
      refine dyX rfl (yq_ldO rfl rfl) rfl <| ?_
      refine dyX rfl (yq_ldO rfl rfl) rfl <| ?_
      refine dcX rfl (td_call rfl rfl (q_sMul (m := a.num) (n := b.num) h1 h2 h3) rfl) FDok.nil rfl <| ?_
      refine dcX rfl (td_call rfl rfl (q_sDen) rfl) FDok.nil rfl <| ?_
      refine dcX rfl (td_call rfl rfl (q_sDen) rfl) FDok.nil rfl <| ?_
      refine dcX rfl (td_call rfl rfl (q_sProduct h4 h5 h6) rfl) FDok.nil rfl <| ?_
      refine dcX rfl (td_call rfl rfl (q_sFrac h7 h6 hdp) rfl) FDok.nil rfl <| ?_
      refine dcX rfl (td_store rfl rfl (by first | (dsimp only [DV.cells, ovD, List.set_cons_zero, List.set_cons_succ, Nat.reduceAdd, List.drop_succ_cons, List.drop_zero]; done) | exact rfl) (by repeat (first | exact .hd .. | apply OUpdD.tl)) rfl rfl rfl rfl) FDok.nil rfl <| ?_
      refine outX0 <| onX <| outX0 <| dnX <| ?_
      simp only [List.nil_append, List.append_nil, List.cons_append]
      refine sd_ret <| ?_
      exact sd_done (.agg rfl inferInstance inferInstance rfl .nil) (by rw [rat_mul_mk]; rfl)
  ·
    refine tS rfl rfl rfl rfl <| tS rfl rfl rfl rfl <| tS rfl rfl rfl rfl <| tS rfl rfl rfl rfl <| tY (yq_pickF rfl rfl) rfl <| sd_end <| sd_condF rfl <| sd_skipc <| sd_seq <| ?_
    refine sd_selO [1, 2, 0] (by decide) rfl ?_
    simp only [pickL, List.filterMap_cons, List.filterMap_nil, List.getElem?_cons_zero, List.getElem?_cons_succ]
    refine drX (own0 := [_, _]) (own1 := [_]) (bs0 := []) (bs1 := _) [] [(0, true), (1, true), (2, true), (3, true), (5, true), (7, true), (4, false), (6, false), (8, false), (9, false), (10, false), (11, false)] [] follows (List.Perm.refl _) (List.Perm.refl _) (by kernel_rfl) ?_
    refine dyX rfl (yq_faP rfl) rfl <| ?_
    refine dyX rfl (yq_ldO rfl rfl) rfl <| ?_
    refine dyX rfl (yq_faP rfl) rfl <| ?_
    refine dyX rfl (yq_ldO rfl rfl) rfl <| ?_
    refine dyX rfl (yq_ldO rfl rfl) rfl <| ?_
    refine dyX rfl (yq_ldO rfl rfl) rfl <| ?_
    refine dcX rfl (td_call rfl rfl (q_sMul (m := a.num) (n := b.num) h1 h2 h3) rfl) FDok.nil rfl <| ?_
    refine dcX rfl (td_call rfl rfl (q_sDen) rfl) FDok.nil rfl <| ?_
    refine dcX rfl (td_call rfl rfl (q_sDen) rfl) FDok.nil rfl <| ?_
    refine dcX rfl (td_call rfl rfl (q_sProduct h4 h5 h6) rfl) FDok.nil rfl <| ?_
    refine dcX rfl (td_call rfl rfl (q_sFrac h7 h6 hdp) rfl) FDok.nil rfl <| ?_
    refine dcX rfl (td_store rfl rfl (by first | (dsimp only [DV.cells, ovD, List.set_cons_zero, List.set_cons_succ, Nat.reduceAdd, List.drop_succ_cons, List.drop_zero]; done) | exact rfl) (by repeat (first | exact .hd .. | apply OUpdD.tl)) rfl rfl rfl rfl) FDok.nil rfl <| ?_
    refine outX0 <| onX <| outX0 <| dnX <| ?_
    simp only [List.nil_append, List.append_nil, List.cons_append]
    refine sd_ret <| ?_
    exact sd_done (.agg rfl inferInstance inferInstance rfl .nil) (by rw [rat_mul_mk]; rfl)
set_option maxHeartbeats 1000000 in
theorem q_sPlus {GB : Gh} {a b : Rat} (h : PQ a b) : PF GB Tryz.prog 89 [eQ a, eQ b] (eQ (a + b)) := by
  refine PF.intro Tryz.func89 rfl rfl Tryz.ntmps89 rfl ?_
  intro C
  have had := den_pos' a
  have hbd := den_pos' b
  have hdp := Nat.mul_pos had hbd
  have e1 := dD_len a.den had
  have e2 := dD_len b.den hbd
  obtain ⟨h1, h2, h3, h4, h5, h6, h7⟩ := h
  have k1 : (a.num * zv false b.den).natAbs = a.num.natAbs * b.den := by rw [zv_f, Int.natAbs_mul, Int.natAbs_natCast]
  have k2 : (b.num * zv false a.den).natAbs = b.num.natAbs * a.den := by rw [zv_f, Int.natAbs_mul, Int.natAbs_natCast]
  have k3 : (zv false b.den).natAbs = b.den := rfl
  have k4 : (zv false a.den).natAbs = a.den := rfl
  refine sd_seq <| sd_region <| tF (tf_box rfl rfl rfl) <| ?_
  intro b1
  refine tF (tf_box rfl rfl rfl) <| ?_
  intro b2
  refine tF (tf_alloc rfl) <| ?_
  intro b3
  refine sd_end <| sd_seq <| sd_seq <| sd_region <| tY (yq_faP rfl) rfl <| tY (yq_ldO1 rfl rfl) rfl <| tY (yq_len rfl) rfl <| tY (yq_eql rfl rfl) rfl <| tY (yq_move rfl) rfl <| ?_
  refine sd_caseP 9 rfl (fun hg9 => ?_) (fun hg9 => ?_)
  ·
    refine tYg rfl rfl (yq_faP rfl) rfl <| tYg rfl rfl (yq_ldO1 rfl rfl) rfl <| tYg rfl rfl (yq_len rfl) rfl <| tYg rfl rfl (yq_eql rfl rfl) rfl <| tY (yq_pickT rfl rfl) rfl <| sd_end <| ?_
    refine sd_condP rfl (fun hc14 => ?_) (fun hc14 => ?_)
    ·
      refine sd_seq <| sd_region <| tY (yq_faP rfl) rfl <| tY (yq_ldO rfl rfl) rfl <| tY (yq_faP rfl) rfl <| tY (yq_ldO rfl rfl) rfl <| tC (td_call rfl rfl (q_sAdd (by omega) (by omega)) rfl) <| ?_
      refine tY (yq_build rfl) rfl <| tC (td_store rfl rfl (by first | (dsimp only [DV.cells, ovD, List.set_cons_zero, List.set_cons_succ, Nat.reduceAdd, List.drop_succ_cons, List.drop_zero]; done) | exact rfl) (by repeat (first | exact .hd .. | apply OUpdD.tl)) rfl rfl rfl rfl) <| ?_
      refine sd_end <| sd_ret <| ?_
      exact sd_done (.agg rfl inferInstance inferInstance rfl .nil) (by rw [plus_int (e1.1 (by omega)) (e2.1 (by omega)), eQ_int]; rfl)
    ·
      refine sd_skipc <| sd_seq <| ?_
      refine sd_selO [1, 2, 0] (by decide) rfl ?_
      simp only [pickL, List.filterMap_cons, List.filterMap_nil, List.getElem?_cons_zero, List.getElem?_cons_succ]
      refine drX (own0 := [_, _]) (own1 := [_]) (bs0 := []) (bs1 := _) [] [(0, true), (1, true), (2, true), (6, true), (7, true), (8, true), (13, true), (15, true), (3, false), (4, false), (5, false), (9, false), (10, false), (11, false), (12, false), (14, false), (16, false), (17, false), (18, false), (19, false)] [] follows (List.Perm.refl _) (List.Perm.refl _) (by kernel_rfl) ?_
      refine dyX rfl (yq_faP rfl) rfl <| ?_
      refine dyX rfl (yq_ldO rfl rfl) rfl <| ?_
      refine dyX rfl (yq_ldO rfl rfl) rfl <| ?_
      refine dyX rfl (yq_faP rfl) rfl <| ?_
      refine dyX rfl (yq_ldO rfl rfl) rfl <| ?_
      refine dyX rfl (yq_ldO rfl rfl) rfl <| ?_
      refine dyX rfl (yq_ldO rfl rfl) rfl <| ?_
      refine dyX rfl (yq_ldO rfl rfl) rfl <| ?_
      refine dcX rfl (td_call rfl rfl (q_sDen) rfl) FDok.nil rfl <| ?_
      refine dcX rfl (td_call rfl rfl (q_sMake (by assumption)) rfl) FDok.nil rfl <| ?_
      refine dcX rfl (td_call rfl rfl (q_sMul (by omega) (by rw [k3]; exact h6) (by rw [k3]; omega)) rfl) FDok.nil rfl <| ?_
      refine dcX rfl (td_call rfl rfl (q_sDen) rfl) FDok.nil rfl <| ?_
      refine dcX rfl (td_call rfl rfl (q_sMake (by assumption)) rfl) FDok.nil rfl <| ?_
      refine dcX rfl (td_call rfl rfl (q_sMul (by omega) (by rw [k4]; exact h5) (by rw [k4]; omega)) rfl) FDok.nil rfl <| ?_
      refine dcX rfl (td_call rfl rfl (q_sAdd (by omega) (by omega)) rfl) FDok.nil rfl <| ?_
      refine dcX rfl (td_call rfl rfl (q_sDen) rfl) FDok.nil rfl <| ?_
      refine dcX rfl (td_call rfl rfl (q_sDen) rfl) FDok.nil rfl <| ?_
      refine dcX rfl (td_call rfl rfl (q_sProduct h5 h6 h7) rfl) FDok.nil rfl <| ?_
      refine dcX rfl (td_call rfl rfl (q_sFrac (by omega) h7 hdp) rfl) FDok.nil rfl <| ?_
      refine dcX rfl (td_store rfl rfl (by first | (dsimp only [DV.cells, ovD, List.set_cons_zero, List.set_cons_succ, Nat.reduceAdd, List.drop_succ_cons, List.drop_zero]; done) | exact rfl) (by repeat (first | exact .hd .. | apply OUpdD.tl)) rfl rfl rfl rfl) FDok.nil rfl <| ?_
      refine outX0 <| onX <| outX0 <| dnX <| ?_
      simp only [List.nil_append, List.append_nil, List.cons_append]
      refine sd_ret <| ?_
      exact sd_done (.agg rfl inferInstance inferInstance rfl .nil) (by rw [rat_add_mk]; rfl)
  ·
    refine tS rfl rfl rfl rfl <| tS rfl rfl rfl rfl <| tS rfl rfl rfl rfl <| tS rfl rfl rfl rfl <| tY (yq_pickF rfl rfl) rfl <| sd_end <| sd_condF rfl <| sd_skipc <| sd_seq <| ?_
    refine sd_selO [1, 2, 0] (by decide) rfl ?_
    simp only [pickL, List.filterMap_cons, List.filterMap_nil, List.getElem?_cons_zero, List.getElem?_cons_succ]
    refine drX (own0 := [_, _]) (own1 := [_]) (bs0 := []) (bs1 := _) [] [(0, true), (1, true), (2, true), (6, true), (7, true), (8, true), (13, true), (15, true), (3, false), (4, false), (5, false), (9, false), (10, false), (11, false), (12, false), (14, false), (16, false), (17, false), (18, false), (19, false)] [] follows (List.Perm.refl _) (List.Perm.refl _) (by kernel_rfl) ?_
    refine dyX rfl (yq_faP rfl) rfl <| ?_
    refine dyX rfl (yq_ldO rfl rfl) rfl <| ?_
    refine dyX rfl (yq_ldO rfl rfl) rfl <| ?_
    refine dyX rfl (yq_faP rfl) rfl <| ?_
    refine dyX rfl (yq_ldO rfl rfl) rfl <| ?_
    refine dyX rfl (yq_ldO rfl rfl) rfl <| ?_
    refine dyX rfl (yq_ldO rfl rfl) rfl <| ?_
    refine dyX rfl (yq_ldO rfl rfl) rfl <| ?_
    refine dcX rfl (td_call rfl rfl (q_sDen) rfl) FDok.nil rfl <| ?_
    refine dcX rfl (td_call rfl rfl (q_sMake (by assumption)) rfl) FDok.nil rfl <| ?_
    refine dcX rfl (td_call rfl rfl (q_sMul (by omega) (by rw [k3]; exact h6) (by rw [k3]; omega)) rfl) FDok.nil rfl <| ?_
    refine dcX rfl (td_call rfl rfl (q_sDen) rfl) FDok.nil rfl <| ?_
    refine dcX rfl (td_call rfl rfl (q_sMake (by assumption)) rfl) FDok.nil rfl <| ?_
    refine dcX rfl (td_call rfl rfl (q_sMul (by omega) (by rw [k4]; exact h5) (by rw [k4]; omega)) rfl) FDok.nil rfl <| ?_
    refine dcX rfl (td_call rfl rfl (q_sAdd (by omega) (by omega)) rfl) FDok.nil rfl <| ?_
    refine dcX rfl (td_call rfl rfl (q_sDen) rfl) FDok.nil rfl <| ?_
    refine dcX rfl (td_call rfl rfl (q_sDen) rfl) FDok.nil rfl <| ?_
    refine dcX rfl (td_call rfl rfl (q_sProduct h5 h6 h7) rfl) FDok.nil rfl <| ?_
    refine dcX rfl (td_call rfl rfl (q_sFrac (by omega) h7 hdp) rfl) FDok.nil rfl <| ?_
    refine dcX rfl (td_store rfl rfl (by first | (dsimp only [DV.cells, ovD, List.set_cons_zero, List.set_cons_succ, Nat.reduceAdd, List.drop_succ_cons, List.drop_zero]; done) | exact rfl) (by repeat (first | exact .hd .. | apply OUpdD.tl)) rfl rfl rfl rfl) FDok.nil rfl <| ?_
    refine outX0 <| onX <| outX0 <| dnX <| ?_
    simp only [List.nil_append, List.append_nil, List.cons_append]
    refine sd_ret <| ?_
    exact sd_done (.agg rfl inferInstance inferInstance rfl .nil) (by rw [rat_add_mk]; rfl)
end Go.Sx
end

section
set_option maxRecDepth 100000
namespace Go.Sx
open Go Go.Proofs

def p7 : PtQ := ⟨mkRat 1 7, mkRat 1 5⟩
theorem p7n : p7.x.num = 1 ∧ p7.x.den = 7 ∧ p7.y.num = 1 ∧ p7.y.den = 5 := ⟨rfl, rfl, rfl, rfl⟩
theorem mul_lt' {a b A B N : Nat} (ha : a ≤ A) (hb : b ≤ B) (h : A * B < N) : a * b < N := Nat.lt_of_le_of_lt (Nat.mul_le_mul ha hb) h
theorem na1 : Int.natAbs 1 = 1 := rfl
theorem nI (z : Int) : (z : Rat).num = z := Rat.num_intCast z
theorem dI' (z : Int) : (z : Rat).den = 1 := Rat.den_intCast z
theorem LS.t1 {l : LnQ} (h : LS l) : TQ (l.a : Rat) p7.x := by
  obtain ⟨h1, h2, h3, h4⟩ := p7n
  have := h.a
  constructor <;> simp only [nI, dI', h1, h2, na1] <;> omega
theorem LS.t2 {l : LnQ} (h : LS l) : TQ (l.b : Rat) p7.y := by
  obtain ⟨h1, h2, h3, h4⟩ := p7n
  have := h.b
  constructor <;> simp only [nI, dI', h3, h4, na1] <;> omega
theorem LS.m1 {l : LnQ} (h : LS l) : ((l.a : Rat) * p7.x).num.natAbs ≤ 4 ∧ ((l.a : Rat) * p7.x).den ≤ 7 := by
  have k := mul_le (l.a : Rat) p7.x
  obtain ⟨h1, h2, h3, h4⟩ := p7n
  rw [nI, dI', h1, h2, na1] at k
  have := h.a
  omega
theorem LS.m2 {l : LnQ} (h : LS l) : ((l.b : Rat) * p7.y).num.natAbs ≤ 4 ∧ ((l.b : Rat) * p7.y).den ≤ 5 := by
  have k := mul_le (l.b : Rat) p7.y
  obtain ⟨h1, h2, h3, h4⟩ := p7n
  rw [nI, dI', h3, h4, na1] at k
  have := h.b
  omega
theorem LS.t3 {l : LnQ} (h : LS l) : PQ ((l.a : Rat) * p7.x) ((l.b : Rat) * p7.y) := by
  have h1 := h.m1
  have h2 := h.m2
  exact ⟨by omega, by omega, mul_lt' h1.1 h2.2 (by decide), mul_lt' h2.1 h1.2 (by decide), by omega, by omega, mul_lt' h1.2 h2.2 (by decide)⟩
theorem LS.m3 {l : LnQ} (h : LS l) : ((l.a : Rat) * p7.x + (l.b : Rat) * p7.y).num.natAbs ≤ 48 ∧ ((l.a : Rat) * p7.x + (l.b : Rat) * p7.y).den ≤ 35 := by
  have h1 := h.m1
  have h2 := h.m2
  have k := add_le ((l.a : Rat) * p7.x) ((l.b : Rat) * p7.y)
  have a1 := Nat.mul_le_mul h1.1 h2.2
  have a2 := Nat.mul_le_mul h2.1 h1.2
  have a3 := Nat.mul_le_mul h1.2 h2.2
  omega
theorem LS.t4 {l : LnQ} (h : LS l) : PQ ((l.a : Rat) * p7.x + (l.b : Rat) * p7.y) (l.c : Rat) := by
  have h1 := h.m3
  have h2 := h.c
  refine ⟨by omega, by rw [nI]; omega, ?_, ?_, by omega, by rw [dI']; decide, ?_⟩
  · rw [dI']; omega
  · rw [nI]; exact mul_lt' h2 h1.2 (by decide)
  · rw [dI']; omega
theorem LS.m4 {l : LnQ} (h : LS l) : (l.value p7).num.natAbs < 4294967296 := by
  have h1 := h.m3
  have h2 := h.c
  have k := add_le ((l.a : Rat) * p7.x + (l.b : Rat) * p7.y) (l.c : Rat)
  rw [nI, dI'] at k
  have a2 := Nat.mul_le_mul h2 h1.2
  have e : l.value p7 = (l.a : Rat) * p7.x + (l.b : Rat) * p7.y + (l.c : Rat) := rfl
  rw [e]
  omega
theorem q_sq {GB : Gh} {z : Int} : PF GB Tryz.prog 130 [eI z] (eQ (z : Rat)) := by
  refine PF.intro Tryz.func130 rfl rfl Tryz.ntmps130 rfl ?_
  intro C
  refine sd_seq <| sd_region <| tF (tf_box rfl rfl rfl) <| ?_
  intro b1
  refine tF (tf_alloc rfl) <| ?_
  intro b2
  refine sd_end <| sd_seq <| sd_region <| tY (yq_ldO rfl rfl) rfl <| tY (yq_build rfl) rfl <| tC (td_store rfl rfl (by first | (dsimp only [DV.cells, ovD, List.set_cons_zero, List.set_cons_succ, Nat.reduceAdd, List.drop_succ_cons, List.drop_zero]; done) | exact rfl) (by repeat (first | exact .hd .. | apply OUpdD.tl)) rfl rfl rfl rfl) <| ?_
  refine sd_end <| sd_ret <| ?_
  exact sd_done (.agg rfl inferInstance inferInstance rfl .nil) (by rw [eQ_int]; rfl)
theorem q_sValue {GB : Gh} {l : LnQ} (h : LS l) : PF GB Tryz.prog 116 [eL l, eP p7] (eQ (l.value p7)) := by
  refine PF.intro Tryz.func116 rfl rfl Tryz.ntmps116 rfl ?_
  intro C
  refine sd_seq <| sd_region <| tF (tf_box rfl rfl rfl) <| ?_
  intro b1
  refine tF (tf_box rfl rfl rfl) <| ?_
  intro b2
  refine tF (tf_alloc rfl) <| ?_
  intro b3
  refine sd_end <| sd_seq <| ?_
  refine sd_selO [1, 2, 0] (by decide) rfl ?_
  simp only [pickL, List.filterMap_cons, List.filterMap_nil, List.getElem?_cons_zero, List.getElem?_cons_succ]
  refine drX (own0 := [_, _]) (own1 := [_]) (bs0 := []) (bs1 := _) [] [(0, true), (1, true), (3, true), (4, true), (6, true), (7, true), (9, true), (10, true), (13, true), (14, true), (2, false), (5, false), (8, false), (11, false), (12, false), (15, false), (16, false), (17, false)] [] follows (List.Perm.refl _) (List.Perm.refl _) (by kernel_rfl) ?_
  refine dyX rfl (yq_faP rfl) rfl <| ?_
  refine dyX rfl (yq_ldO rfl rfl) rfl <| ?_
  refine dyX rfl (yq_faP rfl) rfl <| ?_
  refine dyX rfl (yq_ldO rfl rfl) rfl <| ?_
  refine dyX rfl (yq_faP rfl) rfl <| ?_
  refine dyX rfl (yq_ldO rfl rfl) rfl <| ?_
  refine dyX rfl (yq_faP rfl) rfl <| ?_
  refine dyX rfl (yq_ldO rfl rfl) rfl <| ?_
  refine dyX rfl (yq_faP rfl) rfl <| ?_
  refine dyX rfl (yq_ldO rfl rfl) rfl <| ?_
  refine dcX rfl (td_call rfl rfl (q_sq (z := l.a)) rfl) FDok.nil rfl <| ?_
  refine dcX rfl (td_call rfl rfl (q_sTimes h.t1) rfl) FDok.nil rfl <| ?_
  refine dcX rfl (td_call rfl rfl (q_sq (z := l.b)) rfl) FDok.nil rfl <| ?_
  refine dcX rfl (td_call rfl rfl (q_sTimes h.t2) rfl) FDok.nil rfl <| ?_
  refine dcX rfl (td_call rfl rfl (q_sPlus h.t3) rfl) FDok.nil rfl <| ?_
  refine dcX rfl (td_call rfl rfl (q_sq (z := l.c)) rfl) FDok.nil rfl <| ?_
  refine dcX rfl (td_call rfl rfl (q_sPlus h.t4) rfl) FDok.nil rfl <| ?_
  refine dcX rfl (td_store rfl rfl (by first | (dsimp only [DV.cells, ovD, List.set_cons_zero, List.set_cons_succ, Nat.reduceAdd, List.drop_succ_cons, List.drop_zero]; done) | exact rfl) (by repeat (first | exact .hd .. | apply OUpdD.tl)) rfl rfl rfl rfl) FDok.nil rfl <| ?_
  refine outX0 <| onX <| outX0 <| dnX <| ?_
  simp only [List.nil_append, List.append_nil, List.cons_append]
  refine sd_ret <| ?_
  exact sd_done (.agg rfl inferInstance inferInstance rfl .nil) rfl
theorem q_sSide {GB : Gh} {l : LnQ} (h : LS l) : PF GB Tryz.prog 62 [eL l, eP p7] (vI (l.value p7).num.sign) := by
  refine PF.intro Tryz.func62 rfl rfl Tryz.ntmps62 rfl ?_
  intro C
  refine sd_seq <| sd_region <| tF (tf_box rfl rfl rfl) <| ?_
  intro b1
  refine tF (tf_box rfl rfl rfl) <| ?_
  intro b2
  refine tY (yq_assign rfl) rfl <| sd_end <| sd_seq <| sd_region <| tY (yq_ldO rfl rfl) rfl <| tY (yq_ldO rfl rfl) rfl <| tC (td_call rfl rfl (q_sValue ‹_›) rfl) <| tC (td_call rfl rfl (q_sS h.m4) rfl) <| ?_
  refine tY (yq_assign rfl) rfl <| sd_end <| sd_ret <| ?_
  exact sd_done (.tmp rfl .nil) rfl
theorem q_sRev {GB : Gh} {l : LnQ} (h : LS l) : PF GB Tryz.prog 18 [eL l] (eL l.rev) := by
  refine PF.intro Tryz.func18 rfl rfl Tryz.ntmps18 rfl ?_
  intro C
  have ha := h.a
  have hb := h.b
  have hc := h.c
  refine sd_seq <| sd_region <| tF (tf_box rfl rfl rfl) <| ?_
  intro b1
  refine tF (tf_alloc rfl) <| ?_
  intro b2
  refine sd_end <| sd_seq <| ?_
  refine sd_selO [1, 0] (by decide) rfl ?_
  simp only [pickL, List.filterMap_cons, List.filterMap_nil, List.getElem?_cons_zero, List.getElem?_cons_succ]
  refine drX (own0 := [_]) (own1 := [_]) (bs0 := []) (bs1 := _) [] [(0, true), (1, true), (3, true), (4, true), (6, true), (7, true), (2, false), (5, false), (8, false), (9, true), (10, false)] [] follows (List.Perm.refl _) (List.Perm.refl _) (by kernel_rfl) ?_
  refine dyX rfl (yq_faP rfl) rfl <| ?_
  refine dyX rfl (yq_ldO rfl rfl) rfl <| ?_
  refine dyX rfl (yq_faP rfl) rfl <| ?_
  refine dyX rfl (yq_ldO rfl rfl) rfl <| ?_
  refine dyX rfl (yq_faP rfl) rfl <| ?_
  refine dyX rfl (yq_ldO rfl rfl) rfl <| ?_
  refine dcX rfl (td_call rfl rfl (q_sMinus (by omega)) rfl) FDok.nil rfl <| ?_
  refine dcX rfl (td_call rfl rfl (q_sMinus (by omega)) rfl) FDok.nil rfl <| ?_
  refine dcX rfl (td_call rfl rfl (q_sMinus (by omega)) rfl) FDok.nil rfl <| ?_
  refine dyX rfl (yq_build rfl) rfl <| ?_
  refine dcX rfl (td_store rfl rfl (by first | (dsimp only [DV.cells, ovD, List.set_cons_zero, List.set_cons_succ, Nat.reduceAdd, List.drop_succ_cons, List.drop_zero]; done) | exact rfl) (by repeat (first | exact .hd .. | apply OUpdD.tl)) rfl rfl rfl rfl) FDok.nil rfl <| ?_
  refine outX0 <| onX <| outX0 <| dnX <| ?_
  simp only [List.nil_append, List.append_nil, List.cons_append]
  refine sd_ret <| ?_
  exact sd_done (.agg rfl inferInstance inferInstance rfl .nil) rfl
theorem mapL_get {xs : List LnQ} {i : Nat} (h : i < xs.length) : (xs.map eL)[(i : Int).toNat]? = some (eL xs[i]) := by simp [h]
theorem mapL_len (xs : List LnQ) : (xs.map eL).length = xs.length := List.length_map ..
theorem mapL_set (xs : List LnQ) (i : Nat) (l : LnQ) : (xs.map eL).set (i : Int).toNat (eL l) = (xs.set i l).map eL := by rw [List.map_set, Int.toNat_natCast]

set_option maxHeartbeats 1000000 in
theorem q_ToLs {GB : Gh} {ls : List LnQ} (hb : ∀ l ∈ ls, BL l 32) (hn : ls.length ≤ 1000000) : PF GB Tryz.prog 67 [.sl (ls.map eL)] (.sl (ls.map eL)) := by
  refine PF.intro Tryz.func67 rfl rfl Tryz.ntmps67 rfl ?_
  intro C
  have hll := mapL_len ls
  refine sd_seq <| sd_region <| tY (yq_assign rfl) rfl <| sd_end <| sd_seq <| sd_region <| tY (yq_assign rfl) rfl <| sd_end <| sd_seq <| sd_seq <| sd_region <| tY (yq_move rfl) rfl <| ?_
  refine tY (yq_len rfl) rfl <| tY (yq_move rfl) rfl <| sd_end <| sd_block <| ?_
  refine sd_newB 6 46 ?_
  refine sd_loop (X := SV × Nat) (fun x => [(8, .d (vI (x.2 : Nat))), (7, .d (vI (ls.length : Nat))), (6, .d (.sl (ls.map eL))), (3, x.1.f)]) (fun x => []) (fun x => [⟨x.1, 6, 46, (ls.take x.2).map eL, true⟩]) (fun x => x.2 ≤ ls.length) (fun x => ls.length - x.2) ⟨⟨none, 0, 0⟩, 0⟩ (by dsimp only; exact (Nat.zero_le _)) (by repeat (first | exact .nil | refine .cons rfl ?_ | refine .cons' rfl (by first | (simp [vI]; done) | (congr 3; omega) | (simp [vI]; omega)) ?_)) rfl rfl ?_
  rintro GB1 hGB1 ⟨w, i⟩ hi
  try dsimp only at *
  have htl : (ls.take i).length = i := by simp; omega
  refine sd_seq <| sd_region <| tY (yq_lss rfl rfl) rfl <| sd_end <| sd_seq <| ?_
  refine sd_condP rfl (fun hc9 => ?_) (fun hc9 => ?_)
  ·
    refine sd_skipc <| sd_seq <| sd_block <| sd_seq <| sd_region <| tY (yq_ix rfl rfl (by omega) (mapL_get (by omega)) rfl rfl) rfl <| tY (yq_ldE rfl rfl) rfl <| tF (tf_alloc rfl) <| ?_
    intro b1
    refine tC (td_store rfl rfl (by first | (dsimp only [DV.cells, ovD, List.set_cons_zero, List.set_cons_succ, Nat.reduceAdd, List.drop_succ_cons, List.drop_zero]; done) | exact rfl) (by repeat (first | exact .hd .. | apply OUpdD.tl)) rfl rfl rfl rfl) <| ?_
    refine sd_end <| sd_region <| tY (yq_move rfl) rfl <| tY (yq_ldO rfl rfl) rfl <| tC (td_call rfl rfl (q_ToL (hb _ (List.getElem_mem (by omega)))) rfl) <| tC (td_rowF rfl rfl rfl rfl rfl rfl rfl) <| ?_
    refine tF (tf_append (w := w) rfl (by repeat (first | exact .hd .. | apply BRemD.tl)) (.sl rfl (okRow_spec rfl)) rfl (by rw [mapL_len, htl]; show (i + 1) * _ ≤ _; omega) rfl rfl) <| ?_
    intro w2
    refine tY (yq_assign rfl) rfl <| sd_end <| sd_region <| tY (yq_add64 rfl rfl (by omega) (by omega)) rfl <| tY (yq_move rfl) rfl <| sd_end <| ?_
    refine sd_bh ((ls.take (i + 1)).map eL) (by rw [List.take_succ_eq_append_getElem (by omega), List.map_append]; rfl) ?_
    refine sd_selO [] (by decide) rfl ?_
    simp only [pickL, List.filterMap_cons, List.filterMap_nil, List.getElem?_cons_zero, List.getElem?_cons_succ]
    exact sd_again ⟨w2, i + 1⟩ (by dsimp only; exact (by omega)) (by dsimp only; omega) (by repeat (first | exact .nil | refine .cons rfl ?_ | refine .cons' rfl (by first | (simp [vI]; done) | (congr 3; omega) | (simp [vI]; omega)) ?_)) rfl rfl
  ·
    obtain rfl : i = ls.length := by omega
    refine sd_bh (ls.map eL) (by rw [List.take_length]) ?_
    refine sd_exit <| sd_ts <| sd_te <| sd_inBlock_eq <| sd_seq <| sd_region <| tY (yq_move rfl) rfl <| tY (yq_assign rfl) rfl <| sd_end <| sd_ret <| ?_
    refine sd_freezeB [3, 18, 2] (w := w) (by repeat (first | exact .hd .. | apply BRemD.tl)) (by simp only [List.forall_mem_cons, List.not_mem_nil, false_implies, implies_true, and_true]; exact ⟨rfl, rfl, rfl⟩) ?_
    exact sd_done (.tmp rfl .nil) rfl
theorem q_CWrite {GB : Gh} {ls : List LnQ} (hb : ∀ l ∈ ls, BL l 32) (hn : ls.length ≤ 1000000) : PF GB Tryz.prog 23 [.sl (ls.map eL)] (.ag [.sl (ls.map eL)]) := by
  refine PF.intro Tryz.func23 rfl rfl Tryz.ntmps23 rfl ?_
  intro C
  refine sd_seq <| sd_region <| tF (tf_alloc rfl) <| ?_
  intro b1
  refine sd_end <| sd_seq <| sd_region <| tY (yq_move rfl) rfl <| tC (td_call rfl rfl (q_ToLs hb hn) rfl) <| tY (yq_build rfl) rfl <| tC (td_store rfl rfl (by first | (dsimp only [DV.cells, ovD, List.set_cons_zero, List.set_cons_succ, Nat.reduceAdd, List.drop_succ_cons, List.drop_zero]; done) | exact rfl) (by repeat (first | exact .hd .. | apply OUpdD.tl)) rfl rfl rfl rfl) <| ?_
  refine sd_end <| sd_ret <| ?_
  exact sd_done (.agg rfl inferInstance inferInstance rfl .nil) rfl
set_option maxHeartbeats 1000000 in
theorem q_Ls {GB : Gh} {b : Nat} {es : List Int} (hes : es.length ≤ 400) {a : Nat} (ha : a ≤ es.length) {most : Nat} (hmo : most ≤ 900) : PMR GB Tryz.prog 60 [.v (.pointer (some ⟨b, 0, none⟩)), .v (.int .i64 (most : Nat))] b 93 [.sl (es.map vI), .v (.int .i64 (a : Nat))] 6 32 {x : List LnQ × Nat // (∀ l ∈ x.1, LS l) ∧ x.1.length ≤ most ∧ x.2 ≤ es.length} (fun x => x.1.1.map eL) (fun x => [.sl (es.map vI), .v (.int .i64 (x.1.2 : Nat))]) := by
  refine PMR.intro Tryz.func60 rfl rfl Tryz.ntmps60 rfl ?_
  intro C
  refine sd_seq <| sd_region <| tY (yq_assign rfl) rfl <| sd_end <| sd_seq <| sd_region <| tY (yq_assign rfl) rfl <| sd_end <| sd_seq <| sd_seq <| sd_region <| tY (yq_move rfl) rfl <| ?_
  refine tY (yq_move rfl) rfl <| tY (yq_add64 rfl rfl (by omega) (by omega)) rfl <| tF (tf_callMX rfl rfl (q_Next hes (by omega) (by omega) (by omega)) (by repeat (first | exact .hd .. | apply OSp.tl)) rfl) <| ?_
  rintro ⟨⟨k, a1⟩, hk, ha1⟩; try simp only [List.cons_append, List.nil_append]
  dsimp only at hk ha1
  refine tY (yq_assign rfl) rfl <| sd_end <| sd_block <| ?_
  refine sd_newB 6 32 ?_
  refine sd_loop (X := SV × List LnQ × Nat × Nat) (fun x => [(6, .d (.v (.int .i64 (x.2.2.1 : Nat)))), (5, x.1.f), (0, .d (.v (.pointer (some ⟨b, 0, none⟩))))]) (fun x => [⟨b, [.sl (es.map vI), .v (.int .i64 (x.2.2.2 : Nat))], 93, false⟩]) (fun x => [⟨x.1, 6, 32, x.2.1.map eL, true⟩]) (fun x => (∀ l ∈ x.2.1, LS l) ∧ x.2.1.length + x.2.2.1 ≤ most ∧ x.2.2.2 ≤ es.length) (fun x => x.2.2.1) ⟨⟨none, 0, 0⟩, [], k, a1⟩ (by dsimp only; exact ⟨fun l hl => absurd hl (by simp), by simp; omega, ha1⟩) (by repeat (first | exact .nil | refine .cons rfl ?_ | refine .cons' rfl (by first | (simp [vI]; done) | (congr 3; omega) | (simp [vI]; omega)) ?_)) rfl rfl ?_
  rintro GB1 hGB1 ⟨w, xs, i, a2⟩ ⟨h1, h2, h3⟩
  try dsimp only at *
  have hxl := mapL_len xs
  refine sd_seq <| sd_seq <| sd_region <| tY (yq_move rfl) rfl <| tY (yq_gtr rfl rfl) rfl <| sd_end <| ?_
  refine sd_condP rfl (fun hc12 => ?_) (fun hc12 => ?_)
  ·
    refine sd_skipc <| sd_seq <| sd_block <| sd_region <| tY (yq_move rfl) rfl <| tY (yq_move rfl) rfl <| tF (tf_callMX rfl rfl (q_L hes h3) (by repeat (first | exact .hd .. | apply OSp.tl)) rfl) <| ?_
    rintro ⟨⟨l, a3⟩, hl, ha3⟩; try simp only [List.cons_append, List.nil_append]
    dsimp only at hl ha3
    refine tC (td_rowF rfl rfl rfl rfl rfl rfl rfl) <| tF (tf_append (w := w) rfl (by repeat (first | exact .hd .. | apply BRemD.tl)) (.sl rfl (okRow_spec rfl)) rfl (by rw [mapL_len]; show (xs.length + 1) * _ ≤ _; omega) rfl rfl) <| ?_
    intro w1
    refine tY (yq_assign rfl) rfl <| sd_end <| sd_region <| tY (yq_move rfl) rfl <| tY (yq_sub64 rfl rfl (by omega) (by omega)) rfl <| tY (yq_assign rfl) rfl <| sd_end <| ?_
    refine sd_bh ((xs ++ [l]).map eL) (by rw [List.map_append]; rfl) ?_
    exact sd_again ⟨w1, xs ++ [l], i - 1, a3⟩ (by dsimp only; exact ⟨List.forall_mem_append.2 ⟨h1, by simpa using hl⟩, by simp; omega, ha3⟩) (by dsimp only; omega) (by repeat (first | exact .nil | refine .cons rfl ?_ | refine .cons' rfl (by first | (simp [vI]; done) | (congr 3; omega) | (simp [vI]; omega)) ?_)) rfl rfl
  ·
    refine sd_exit <| sd_ts <| sd_te <| sd_inBlock_eq <| sd_seq <| sd_region <| tY (yq_move rfl) rfl <| tY (yq_assign rfl) rfl <| sd_end <| sd_ret <| ?_
    exact sd_doneMR ⟨⟨xs, a2⟩, h1, by dsimp only; omega, h3⟩ rfl rfl rfl rfl (by repeat (first | exact .hd .. | apply BRemD.tl)) rfl
end Go.Sx
end

section
set_option maxRecDepth 100000
namespace Go.Sx
open Go Go.Proofs

theorem sgn_nonzero (l : LnQ) (h : LS l) : l.value p7 ≠ 0 := by
  intro e
  have e1 : (l.a : Rat) * p7.x + (l.b : Rat) * p7.y + (l.c : Rat) = 0 := e
  have hx : p7.x * 7 = 1 := by rw [show p7.x = (1 : Rat) / 7 from by show mkRat 1 7 = _; rw [Rat.mkRat_eq_div]; rfl]; grind
  have hy : p7.y * 5 = 1 := by rw [show p7.y = (1 : Rat) / 5 from by show mkRat 1 5 = _; rw [Rat.mkRat_eq_div]; rfl]; grind
  have e2 : (5 : Rat) * l.a + 7 * l.b + 35 * l.c = 0 := by grind
  have e3 : 5 * l.a + 7 * l.b + 35 * l.c = 0 := by exact_mod_cast e2
  have := h.a
  have := h.b
  have := h.ok.1
  omega
/-- lines with the point p7 on their left -/
structure LP (l : LnQ) : Prop where
  s : LS l
  p : 0 < l.value p7
theorem LP.of_pos {l : LnQ} (h : LS l) (k : ¬ (l.value p7).num.sign < 0) : LP l := ⟨h, by
  have h0 := sgn_nonzero l h
  have h1 : ¬ l.value p7 < 0 := fun e => k ((sgn_neg _).2 e)
  grind⟩
theorem LP.of_neg {l : LnQ} (h : LS l) (k : (l.value p7).num.sign < 0) : LP l.rev := ⟨h.rev, by
  rw [val_rev]
  have h1 := (sgn_neg _).1 k
  grind⟩
theorem take_set {α : Type} {xs : List α} {i : Nat} {p : α → Prop} (h : ∀ x ∈ xs.take i, p x) {y : α} (hy : p y) (hi : i < xs.length) : ∀ x ∈ (xs.set i y).take (i + 1), p x := by
  intro x hx
  rw [List.take_set, List.take_succ_eq_append_getElem hi, List.set_append_right _ _ (by simp; omega)] at hx
  have e : i - (xs.take i).length = 0 := by simp; omega
  rw [e] at hx
  simp only [List.set_cons_zero, List.mem_append, List.mem_singleton] at hx
  rcases hx with hx | rfl
  · exact h x hx
  · exact hy
theorem take_next {α : Type} {xs : List α} {i : Nat} {p : α → Prop} (h : ∀ x ∈ xs.take i, p x) (hi : i < xs.length) (hy : p xs[i]) : ∀ x ∈ xs.take (i + 1), p x := by
  intro x hx
  rw [List.take_succ_eq_append_getElem hi] at hx
  simp only [List.mem_append, List.mem_singleton] at hx
  rcases hx with hx | rfl
  · exact h x hx
  · exact hy

set_option maxHeartbeats 1000000 in
theorem q_side17 {GB : Gh} {b : Nat} {es : List Int} (hes : es.length ≤ 400) {a : Nat} (ha : a ≤ es.length) : PMX GB Tryz.prog 21 [.v (.pointer (some ⟨b, 0, none⟩))] b 93 [.sl (es.map vI), .v (.int .i64 (a : Nat))] {x : List LnQ × Nat // (∀ l ∈ x.1, LP l) ∧ x.1.length ≤ 3 ∧ x.2 ≤ es.length} (fun x => .sl (x.1.1.map eL)) (fun x => [.sl (es.map vI), .v (.int .i64 (x.1.2 : Nat))]) := by
  refine PMX.intro Tryz.func21 rfl rfl Tryz.ntmps21 rfl ?_
  intro C m0 lo0
  refine sd_seq <| sd_region <| tY (yq_assign rfl) rfl <| sd_end <| sd_seq <| sd_region <| tY (yq_move rfl) rfl <| tF (tf_callMR rfl rfl (q_Ls (most := 3) hes ha (by decide)) (by repeat (first | exact .hd .. | apply OSp.tl)) rfl) <| ?_
  rintro ⟨⟨⟨xs0, a1⟩, hx1, hx2, hx3⟩, w1⟩; try simp only [List.cons_append, List.nil_append]
  dsimp only at hx1 hx2 hx3
  refine tY (yq_assign rfl) rfl <| sd_end <| sd_seq <| sd_region <| tC (td_call rfl rfl (q_sPart (n := 1) (d := 7) (by decide) (by decide) (by decide) (by decide)) rfl) <| tC (td_call rfl rfl (q_sPart (n := 1) (d := 5) (by decide) (by decide) (by decide) (by decide)) rfl) <| ?_
  refine tY (yq_build rfl) rfl <| tF (tf_alloc rfl) <| ?_
  intro b2
  refine tC (td_store rfl rfl (by first | (dsimp only [DV.cells, ovD, List.set_cons_zero, List.set_cons_succ, Nat.reduceAdd, List.drop_succ_cons, List.drop_zero]; done) | exact rfl) (by repeat (first | exact .hd .. | apply OUpdD.tl)) rfl rfl rfl rfl) <| ?_
  refine sd_end <| sd_seq <| sd_seq <| sd_region <| tY (yq_move rfl) rfl <| tY (yq_lenB rfl) rfl <| ?_
  refine sd_eq 13 (.d (vI (xs0.length : Nat))) rfl (by rw [mapL_len]; rfl) ?_
  refine tY (yq_move rfl) rfl <| sd_end <| sd_block <| ?_
  refine sd_loop (X := List LnQ × Nat) (fun x => [(14, .d (vI (x.2 : Nat))), (13, .d (vI (xs0.length : Nat))), (12, w1.f), (4, .d (.v (.pointer (some ⟨b2, 0, none⟩)))), (3, w1.f)]) (fun x => [⟨b2, (eP p7).cells, 89, true⟩, ⟨b, [.sl (es.map vI), .v (.int .i64 (a1 : Nat))], 93, false⟩]) (fun x => [⟨w1, 6, 32, x.1.map eL, true⟩]) (fun x => x.1.length = xs0.length ∧ (∀ l ∈ x.1, LS l) ∧ (∀ l ∈ x.1.take x.2, LP l) ∧ x.2 ≤ x.1.length) (fun x => xs0.length - x.2) ⟨xs0, 0⟩ (by dsimp only; exact ⟨rfl, hx1, fun l hl => absurd hl (by simp), Nat.zero_le _⟩) (by repeat (first | exact .nil | refine .cons rfl ?_ | refine .cons' rfl (by first | (simp [vI]; done) | (congr 3; omega) | (simp [vI]; omega)) ?_)) rfl rfl ?_
  rintro GB1 hGB1 ⟨xs, i⟩ ⟨h1, h2, h3, h4⟩
  try dsimp only at *
  have hxl := mapL_len xs
  refine sd_seq <| sd_region <| tY (yq_lss rfl rfl) rfl <| sd_end <| sd_seq <| ?_
  refine sd_condP rfl (fun hc15 => ?_) (fun hc15 => ?_)
  ·
    refine sd_skipc <| ?_
    refine sd_cut (List LnQ) (fun ys => [(14, .d (vI (i : Nat))), (13, .d (vI (xs0.length : Nat))), (12, w1.f), (4, .d (.v (.pointer (some ⟨b2, 0, none⟩)))), (3, w1.f)]) (fun ys => [⟨b2, (eP p7).cells, 89, true⟩, ⟨b, [.sl (es.map vI), .v (.int .i64 (a1 : Nat))], 93, false⟩]) (fun ys => [⟨w1, 6, 32, ys.map eL, true⟩]) (fun ys => ys.length = xs0.length ∧ (∀ l ∈ ys, LS l) ∧ ∀ l ∈ ys.take (i + 1), LP l) ?_ ?_
    ·
      refine sd_block <| sd_seq <| sd_region <| tY (yq_move rfl) rfl <| tY (yq_ixB rfl rfl (by omega) (by rw [mapL_len]; omega)) rfl <| tY (yq_ldB rfl (mapL_get (by omega)) rfl rfl) rfl <| ?_
      refine tF (tf_alloc rfl) <| ?_
      intro b3
      refine tY (yq_assign rfl) rfl <| tC (td_store rfl rfl (by first | (dsimp only [DV.cells, ovD, List.set_cons_zero, List.set_cons_succ, Nat.reduceAdd, List.drop_succ_cons, List.drop_zero]; done) | exact rfl) (by repeat (first | exact .hd .. | apply OUpdD.tl)) rfl rfl rfl rfl) <| ?_
      refine sd_end <| sd_seq <| sd_region <| tY (yq_ldO rfl rfl) rfl <| tY (yq_ldO rfl rfl) rfl <| tC (td_call rfl rfl (q_sSide (h2 _ (List.getElem_mem (by omega)))) rfl) <| tY (yq_lss rfl rfl) rfl <| ?_
      refine sd_end <| ?_
      refine sd_condP rfl (fun hc22 => ?_) (fun hc22 => ?_)
      ·
        refine sd_region <| tY (yq_move rfl) rfl <| tY (yq_move rfl) rfl <| tY (yq_ldO rfl rfl) rfl <| tC (td_call rfl rfl (q_sRev (h2 _ (List.getElem_mem (by omega)))) rfl) <| tY (yq_ixB rfl rfl (by omega) (by rw [mapL_len]; omega)) rfl <| ?_
        refine tC (td_storeB (d := eL (xs[i]'(by omega))) rfl rfl (by repeat (first | exact .hd .. | apply BRemD.tl)) (mapL_get (xs := xs) (i := i) (by omega)) rfl rfl rfl rfl rfl rfl) <| sd_end <| ?_
        refine sd_bh ((xs.set i (xs[i]'(by omega)).rev).map eL) (by rw [← mapL_set]; rfl) ?_
        refine sd_selO [1, 2] (by decide) rfl ?_
        simp only [pickL, List.filterMap_cons, List.filterMap_nil, List.getElem?_cons_zero, List.getElem?_cons_succ]
        exact sd_at (xs.set i (xs[i]'(by omega)).rev) ⟨by rw [List.length_set]; omega, fun l hl => (List.mem_or_eq_of_mem_set hl).elim (h2 l) (fun e => e ▸ (h2 _ (List.getElem_mem (by omega))).rev), take_set h3 (LP.of_neg (h2 _ (List.getElem_mem (by omega))) hc22) (by omega)⟩ (by repeat (first | exact .nil | refine .cons rfl ?_ | refine .cons' rfl (by first | (simp [vI]; done) | (congr 3; omega) | (simp [vI]; omega)) ?_)) rfl rfl
      ·
        refine sd_skipc <| ?_
        refine sd_selO [1, 2] (by decide) rfl ?_
        simp only [pickL, List.filterMap_cons, List.filterMap_nil, List.getElem?_cons_zero, List.getElem?_cons_succ]
        exact sd_at xs ⟨h1, h2, take_next h3 (by omega) (LP.of_pos (h2 _ (List.getElem_mem (by omega))) hc22)⟩ (by repeat (first | exact .nil | refine .cons rfl ?_ | refine .cons' rfl (by first | (simp [vI]; done) | (congr 3; omega) | (simp [vI]; omega)) ?_)) rfl rfl
    rintro ys ⟨k1, k2, k3⟩
    refine sd_region <| tY (yq_add64 rfl rfl (by omega) (by omega)) rfl <| tY (yq_move rfl) rfl <| sd_end <| ?_
    exact sd_again ⟨ys, i + 1⟩ (by dsimp only; exact ⟨k1, k2, k3, by omega⟩) (by dsimp only; omega) (by repeat (first | exact .nil | refine .cons rfl ?_ | refine .cons' rfl (by first | (simp [vI]; done) | (congr 3; omega) | (simp [vI]; omega)) ?_)) rfl rfl
  ·
    refine sd_exit <| sd_ts <| sd_te <| sd_inBlock_eq <| sd_seq <| sd_region <| tY (yq_move rfl) rfl <| tY (yq_assign rfl) rfl <| sd_end <| sd_ret <| ?_
    refine sd_freezeB [12, 3, 29, 2] (w := w1) (by repeat (first | exact .hd .. | apply BRemD.tl)) (by simp only [List.forall_mem_cons, List.not_mem_nil, false_implies, implies_true, and_true]; exact ⟨rfl, rfl, rfl, rfl⟩) ?_
    exact sd_doneMX ⟨⟨xs, a1⟩, fun l hl => h3 l (by rw [List.take_of_length_le (by omega)]; exact hl), by dsimp only; omega, hx3⟩ (.tmp rfl .nil) rfl inferInstance rfl
theorem same_dg {a b : Nat} (hl : (dg a).length = (dg b).length) (h : ∀ j, j < (dg a).length → (dg a).getD j 0 = (dg b).getD j 0) : a = b := by
  have e : dg a = dg b := by
    apply List.ext_getElem hl
    intro i h1 h2
    have := h i h1
    rw [List.getD_eq_getElem?_getD, List.getD_eq_getElem?_getD, List.getElem?_eq_getElem h1, List.getElem?_eq_getElem h2] at this
    exact this
  rw [← dv_dg a, e, dv_dg]
theorem q_SameN {GB : Gh} {a b : Nat} (ha : a < 4294967296) (hb : b < 4294967296) : PF GB Tryz.prog 158 [dN a, dN b] (vB (decide (a = b))) := by
  refine PF.intro Tryz.func158 rfl rfl Tryz.ntmps158 rfl ?_
  intro C
  have hla := mapU_len (dg a)
  have hlb := mapU_len (dg b)
  have hba := dg_small ha
  refine sd_seq <| sd_region <| tY (yq_assign rfl) rfl <| sd_end <| sd_seq <| sd_seq <| sd_region <| tY (yq_move rfl) rfl <| tY (yq_len rfl) rfl <| tY (yq_move rfl) rfl <| tY (yq_len rfl) rfl <| ?_
  refine tY (yq_neq rfl rfl) rfl <| sd_end <| ?_
  refine sd_condP rfl (fun hc10 => ?_) (fun hc10 => ?_)
  ·
    refine sd_seq <| sd_region <| tY (yq_assign rfl) rfl <| sd_end <| sd_ret <| ?_
    exact sd_done (.tmp rfl .nil) (by rw [decide_eq_false (fun e : a = b => hc10 (by rw [e]))]; rfl)
  ·
    refine sd_skipc <| sd_seq <| sd_seq <| sd_region <| tY (yq_move rfl) rfl <| tY (yq_len rfl) rfl <| ?_
    refine sd_eq 12 (.d (vI ((dg a).length : Nat))) rfl (by rw [hla]; rfl) ?_
    refine tY (yq_move rfl) rfl <| sd_end <| sd_block <| ?_
    refine sd_loop (X := Nat) (fun x => [(13, .d (vI (x : Nat))), (12, .d (vI ((dg a).length : Nat))), (0, .d (dN a)), (1, .d (dN b))]) (fun x => []) (fun x => []) (fun x => x ≤ (dg a).length ∧ ∀ j, j < x → (dg a).getD j 0 = (dg b).getD j 0) (fun x => (dg a).length - x) 0 ⟨Nat.zero_le _, fun j hj => absurd hj (by omega)⟩ (by repeat (first | exact .nil | refine .cons rfl ?_ | refine .cons' rfl (by first | (simp [vI]; done) | (congr 3; omega) | (simp [vI]; omega)) ?_)) rfl rfl ?_
    rintro GB1 hGB1 i ⟨h1, h2⟩
    try dsimp only at *
    refine sd_seq <| sd_region <| tY (yq_lss rfl rfl) rfl <| sd_end <| sd_seq <| ?_
    refine sd_condP rfl (fun hc14 => ?_) (fun hc14 => ?_)
    ·
      refine sd_skipc <| sd_seq <| sd_block <| sd_seq <| sd_region <| tY (yq_move rfl) rfl <| tY (yq_assign rfl) rfl <| sd_end <| sd_seq <| ?_
      refine drX (own0 := _) (own1 := []) (bs0 := []) (bs1 := _) [] [(0, true), (1, true), (2, true), (3, true), (4, true), (5, true), (6, true), (7, true), (8, true)] [] follows (by rw [List.append_nil]) (List.Perm.refl _) (by kernel_rfl) ?_
      refine dyX rfl (yq_move rfl) rfl <| ?_
      refine dyX rfl (yq_move rfl) rfl <| ?_
      refine dyX rfl (yq_ix rfl rfl (by omega) (mapU_getI (by omega)) rfl rfl) rfl <| ?_
      refine dyX rfl (yq_ldE1 rfl rfl) rfl <| ?_
      refine dyX rfl (yq_move rfl) rfl <| ?_
      refine dyX rfl (yq_move rfl) rfl <| ?_
      refine dyX rfl (yq_ix rfl rfl (by omega) (mapU_getI (by omega)) rfl rfl) rfl <| ?_
      refine dyX rfl (yq_ldE1 rfl rfl) rfl <| ?_
      refine dyX rfl (yq_neq rfl rfl) rfl <| ?_
      refine outX0 <| onX <| outX0 <| dnX <| ?_
      simp only [List.nil_append, List.append_nil, List.cons_append]
      refine sd_condP rfl (fun hc24 => ?_) (fun hc24 => ?_)
      ·
        refine sd_seq <| sd_region <| tY (yq_assign rfl) rfl <| sd_end <| sd_ret <| ?_
        exact sd_done (.tmp rfl .nil) (by rw [decide_eq_false (fun e : a = b => hc24 (by rw [e]))]; rfl)
      ·
        refine sd_skipc <| sd_region <| tY (yq_add64 rfl rfl (by omega) (by omega)) rfl <| tY (yq_move rfl) rfl <| sd_end <| ?_
        exact sd_again (i + 1) ⟨by omega, fun j hj => by by_cases q : j = i; (subst q; omega); exact h2 j (by omega)⟩ (by omega) (by repeat (first | exact .nil | refine .cons rfl ?_ | refine .cons' rfl (by first | (simp [vI]; done) | (congr 3; omega) | (simp [vI]; omega)) ?_)) rfl rfl
    ·
      refine sd_exit <| sd_ts <| sd_te <| sd_inBlock_eq <| sd_seq <| sd_region <| tY (yq_assign rfl) rfl <| sd_end <| sd_ret <| ?_
      exact sd_done (.tmp rfl .nil) (by rw [decide_eq_true (same_dg (by omega) (fun j hj => h2 j (by omega)))]; rfl)
end Go.Sx
end

section
set_option maxRecDepth 100000
namespace Go.Sx
open Go Go.Proofs

theorem sameI_yes {a b : Int} (h : decide (a < 0) = decide (b < 0)) : decide (a.natAbs = b.natAbs) = decide (a = b) := by
  have h' : a < 0 ↔ b < 0 := by simpa using h
  exact decide_eq_decide.2 ⟨fun e => by omega, fun e => by rw [e]⟩
theorem LnQ.ext' {l m : LnQ} (h1 : l.a = m.a) (h2 : l.b = m.b) (h3 : l.c = m.c) : l = m := by cases l; cases m; simp_all
instance : DecidableEq NQ := fun x y => decidable_of_iff (x.l = y.l ∧ x.a = y.a ∧ x.b = y.b) (by
  cases x; cases y; simp)
theorem NQ.ext' {n m : NQ} (h1 : n.l = m.l) (h2 : n.a = m.a) (h3 : n.b = m.b) : n = m := by cases n; cases m; simp_all
theorem mapN_len (ns : List NQ) : (ns.map eN).length = ns.length := List.length_map ..
theorem same_list {ns ms : List NQ} (hl : ns.length = ms.length) (h : ∀ j (h1 : j < ns.length) (h2 : j < ms.length), ns[j] = ms[j]) : ns = ms := List.ext_getElem hl h

theorem q_SameI {GB : Gh} {a b : Int} (ha : a.natAbs < 4294967296) (hb : b.natAbs < 4294967296) : PF GB Tryz.prog 110 [eI a, eI b] (vB (decide (a = b))) := by
  refine PF.intro Tryz.func110 rfl rfl Tryz.ntmps110 rfl ?_
  intro C
  refine sd_seq <| sd_region <| tF (tf_box rfl rfl rfl) <| ?_
  intro b1
  refine tF (tf_box rfl rfl rfl) <| ?_
  intro b2
  refine tY (yq_assign rfl) rfl <| sd_end <| sd_seq <| sd_region <| tY (yq_faP rfl) rfl <| tY (yq_ldO1 rfl rfl) rfl <| tY (yq_faP rfl) rfl <| tY (yq_ldO1 rfl rfl) rfl <| tY (yq_eqB rfl rfl) rfl <| ?_
  refine sd_eq 9 (.d (.v (.bool (decide (decide (a < 0) = decide (b < 0)))))) rfl (by congr 2) ?_
  refine tY (yq_move rfl) rfl <| ?_
  refine sd_caseP 10 rfl (fun hg10 => ?_) (fun hg10 => ?_)
  ·
    refine tYg rfl rfl (yq_faP rfl) rfl <| tYg rfl rfl (yq_ldO1 rfl rfl) rfl <| tYg rfl rfl (yq_faP rfl) rfl <| tYg rfl rfl (yq_ldO1 rfl rfl) rfl <| tCg rfl rfl (td_call rfl rfl (q_SameN ha hb) rfl) <| ?_
    refine tY (yq_pickT rfl rfl) rfl <| tY (yq_assign rfl) rfl <| sd_end <| sd_ret <| ?_
    exact sd_done (.tmp rfl .nil) (by show DV.v (.bool _) = DV.v (.bool _); rw [← sameI_yes hg10])
  ·
    refine tS rfl rfl rfl rfl <| tS rfl rfl rfl rfl <| tS rfl rfl rfl rfl <| tS rfl rfl rfl rfl <| tS rfl rfl rfl rfl <| tY (yq_pickF rfl rfl) rfl <| tY (yq_assign rfl) rfl <| sd_end <| ?_
    refine sd_ret <| ?_
    exact sd_done (.tmp rfl .nil) (by rw [decide_eq_false (fun e : a = b => hg10 (by rw [e]))]; rfl)
theorem q_SameL {GB : Gh} {l m : LnQ} (hl : BL l 32) (hm : BL m 32) : PF GB Tryz.prog 52 [eL l, eL m] (vB (decide (l = m))) := by
  refine PF.intro Tryz.func52 rfl rfl Tryz.ntmps52 rfl ?_
  intro C
  have h1 := hl.a
  have h2 := hl.b
  have h3 := hl.c
  have k1 := hm.a
  have k2 := hm.b
  have k3 := hm.c
  refine sd_seq <| sd_region <| tF (tf_box rfl rfl rfl) <| ?_
  intro b1
  refine tF (tf_box rfl rfl rfl) <| ?_
  intro b2
  refine tY (yq_assign rfl) rfl <| sd_end <| sd_seq <| sd_region <| tY (yq_faP rfl) rfl <| tY (yq_ldO rfl rfl) rfl <| tY (yq_faP rfl) rfl <| tY (yq_ldO rfl rfl) rfl <| tC (td_call rfl rfl (q_SameI (a := l.a) (b := m.a) h1 k1) rfl) <| ?_
  refine tY (yq_move rfl) rfl <| ?_
  refine sd_caseP 10 rfl (fun hg10 => ?_) (fun hg10 => ?_)
  ·
    refine tYg rfl rfl (yq_faP rfl) rfl <| tYg rfl rfl (yq_ldO rfl rfl) rfl <| tYg rfl rfl (yq_faP rfl) rfl <| tYg rfl rfl (yq_ldO rfl rfl) rfl <| tCg rfl rfl (td_call rfl rfl (q_SameI (by omega) (by omega)) rfl) <| ?_
    refine tY (yq_pickT rfl rfl) rfl <| tY (yq_move rfl) rfl <| ?_
    refine sd_caseP 17 rfl (fun hg17 => ?_) (fun hg17 => ?_)
    ·
      refine tYg rfl rfl (yq_faP rfl) rfl <| tYg rfl rfl (yq_ldO rfl rfl) rfl <| tYg rfl rfl (yq_faP rfl) rfl <| tYg rfl rfl (yq_ldO rfl rfl) rfl <| tCg rfl rfl (td_call rfl rfl (q_SameI (by omega) (by omega)) rfl) <| ?_
      refine tY (yq_pickT rfl rfl) rfl <| tY (yq_assign rfl) rfl <| sd_end <| sd_ret <| ?_
      exact sd_done (.tmp rfl .nil) (by show DV.v (.bool _) = DV.v (.bool _); rw [decide_eq_decide.2 ⟨fun e => LnQ.ext' hg10 hg17 e, fun e => by rw [e]⟩])
    ·
      refine tS rfl rfl rfl rfl <| tS rfl rfl rfl rfl <| tS rfl rfl rfl rfl <| tS rfl rfl rfl rfl <| tS rfl rfl rfl rfl <| tY (yq_pickF rfl rfl) rfl <| tY (yq_assign rfl) rfl <| sd_end <| ?_
      refine sd_ret <| ?_
      exact sd_done (.tmp rfl .nil) (by rw [decide_eq_false (fun e : l = m => hg17 (by rw [e]))]; rfl)
  ·
    refine tS rfl rfl rfl rfl <| tS rfl rfl rfl rfl <| tS rfl rfl rfl rfl <| tS rfl rfl rfl rfl <| tS rfl rfl rfl rfl <| tY (yq_pickF rfl rfl) rfl <| tY (yq_move rfl) rfl <| tS rfl rfl rfl rfl <| ?_
    refine tS rfl rfl rfl rfl <| tS rfl rfl rfl rfl <| tS rfl rfl rfl rfl <| tS rfl rfl rfl rfl <| tY (yq_pickF rfl rfl) rfl <| tY (yq_assign rfl) rfl <| sd_end <| sd_ret <| ?_
    exact sd_done (.tmp rfl .nil) (by rw [decide_eq_false (fun e : l = m => hg10 (by rw [e]))]; rfl)
theorem q_TSame {GB : Gh} {s t : Tr} (hs : s.all (fun l => BL l 32)) (ht : t.all (fun l => BL l 32)) (hn : s.size ≤ 1000000) : PF GB Tryz.prog 16 [eA s, eA t] (vB (decide (s.num 0 = t.num 0 ∧ s.wr 0 = t.wr 0))) := by
  refine PF.intro Tryz.func16 rfl rfl Tryz.ntmps16 rfl ?_
  intro C
  have hbs := Tr.all_wr 0 hs
  have hbt := Tr.all_wr 0 ht
  have hsl := s.wr_len 0
  have hls := mapN_len (s.wr 0)
  have hlt := mapN_len (t.wr 0)
  generalize hns : s.wr 0 = ns at *
  generalize hms : t.wr 0 = ms at *
  generalize ha : s.num 0 = a at *
  generalize hb : t.num 0 = b at *
  have goal0 : args0F 0 [eA s, eA t] = args0F 0 [.ag [.v (.int .i64 a), .sl (ns.map eN)], .ag [.v (.int .i64 b), .sl (ms.map eN)]] := by unfold eA; rw [hns, hms, ha, hb]
  rw [goal0]
  refine sd_seq <| sd_region <| tF (tf_box rfl rfl rfl) <| ?_
  intro b1
  refine tF (tf_box rfl rfl rfl) <| ?_
  intro b2
  refine tY (yq_assign rfl) rfl <| sd_end <| sd_seq <| sd_seq <| sd_region <| tY (yq_faP rfl) rfl <| tY (yq_ldO1 rfl rfl) rfl <| tY (yq_faP rfl) rfl <| tY (yq_ldO1 rfl rfl) rfl <| tY (yq_neq rfl rfl) rfl <| ?_
  refine tY (yq_move rfl) rfl <| ?_
  refine sd_caseP 13 rfl (fun hg13 => ?_) (fun hg13 => ?_)
  ·
    refine tS rfl rfl rfl rfl <| tS rfl rfl rfl rfl <| tS rfl rfl rfl rfl <| tS rfl rfl rfl rfl <| tS rfl rfl rfl rfl <| tS rfl rfl rfl rfl <| tS rfl rfl rfl rfl <| tY (yq_pickT rfl rfl) rfl <| ?_
    refine sd_end <| sd_condT rfl <| sd_seq <| sd_region <| tY (yq_assign rfl) rfl <| sd_end <| sd_ret <| ?_
    exact sd_done (.tmp rfl .nil) (by rw [decide_eq_false (fun e : a = b ∧ ns = ms => by obtain ⟨e1, e2⟩ := e; subst e2; exact hg13 e1)]; rfl)
  ·
    refine tYg rfl rfl (yq_faP rfl) rfl <| tYg rfl rfl (yq_ldO1 rfl rfl) rfl <| tYg rfl rfl (yq_len rfl) rfl <| tYg rfl rfl (yq_faP rfl) rfl <| tYg rfl rfl (yq_ldO1 rfl rfl) rfl <| tYg rfl rfl (yq_len rfl) rfl <| ?_
    refine tYg rfl rfl (yq_neq rfl rfl) rfl <| tY (yq_pickF rfl rfl) rfl <| sd_end <| ?_
    refine sd_condP rfl (fun hc21 => ?_) (fun hc21 => ?_)
    ·
      refine sd_seq <| sd_region <| tY (yq_assign rfl) rfl <| sd_end <| sd_ret <| ?_
      exact sd_done (.tmp rfl .nil) (by rw [decide_eq_false (fun e : a = b ∧ ns = ms => by obtain ⟨e1, e2⟩ := e; subst e2; exact hc21 rfl)]; rfl)
    ·
      refine sd_skipc <| sd_seq <| sd_seq <| sd_region <| tY (yq_faP rfl) rfl <| tY (yq_ldO1 rfl rfl) rfl <| tY (yq_len rfl) rfl <| ?_
      refine sd_eq 24 (.d (vI (ns.length : Nat))) rfl (by rw [hls]; rfl) ?_
      refine tY (yq_move rfl) rfl <| sd_end <| sd_block <| ?_
      refine sd_selO [0] (by decide) rfl ?_
      simp only [pickL, List.filterMap_cons, List.filterMap_nil, List.getElem?_cons_zero, List.getElem?_cons_succ]
      refine sd_loop (X := Nat) (fun x => [(25, .d (vI (x : Nat))), (24, .d (vI (ns.length : Nat))), (23, .d (.sl (ns.map eN))), (3, .d (.v (.pointer (some ⟨b2, 0, none⟩))))]) (fun x => [⟨b2, [.v (.int .i64 b), .sl (ms.map eN)], 36, true⟩]) (fun x => []) (fun x => x ≤ ns.length ∧ ∀ j (h1 : j < ns.length) (h2 : j < ms.length), j < x → ns[j] = ms[j]) (fun x => ns.length - x) 0 ⟨Nat.zero_le _, fun j _ _ hj => absurd hj (by omega)⟩ (by repeat (first | exact .nil | refine .cons rfl ?_ | refine .cons' rfl (by first | (simp [vI]; done) | (congr 3; omega) | (simp [vI]; omega)) ?_)) rfl rfl ?_
      rintro GB1 hGB1 i ⟨h1, h2⟩
      try dsimp only at *
      have hi2 : i < ns.length → i < ms.length := fun h => by omega
      refine sd_seq <| sd_region <| tY (yq_lss rfl rfl) rfl <| sd_end <| sd_seq <| ?_
      refine sd_condP rfl (fun hc26 => ?_) (fun hc26 => ?_)
      ·
        refine sd_skipc <| sd_seq <| sd_block <| sd_seq <| sd_region <| tY (yq_move rfl) rfl <| tY (yq_ix rfl rfl (by omega) (mapN_get (by omega)) rfl rfl) rfl <| tY (yq_ldE rfl rfl) rfl <| ?_
        refine tF (tf_alloc rfl) <| ?_
        intro b3
        refine tY (yq_assign rfl) rfl <| tC (td_store rfl rfl (by first | (dsimp only [DV.cells, ovD, List.set_cons_zero, List.set_cons_succ, Nat.reduceAdd, List.drop_succ_cons, List.drop_zero]; done) | exact rfl) (by repeat (first | exact .hd .. | apply OUpdD.tl)) rfl rfl rfl rfl) <| ?_
        refine sd_end <| sd_seq <| sd_region <| tY (yq_faP rfl) rfl <| tY (yq_ldO1 rfl rfl) rfl <| tY (yq_move rfl) rfl <| tY (yq_ix rfl rfl (by omega) (mapN_get (by omega)) rfl rfl) rfl <| ?_
        refine tY (yq_ldE rfl rfl) rfl <| tF (tf_alloc rfl) <| ?_
        intro b4
        refine tC (td_store rfl rfl (by first | (dsimp only [DV.cells, ovD, List.set_cons_zero, List.set_cons_succ, Nat.reduceAdd, List.drop_succ_cons, List.drop_zero]; done) | exact rfl) (by repeat (first | exact .hd .. | apply OUpdD.tl)) rfl rfl rfl rfl) <| ?_
        refine sd_end <| sd_seq <| sd_region <| tY (yq_faP rfl) rfl <| tY (yq_ldO1 rfl rfl) rfl <| tY (yq_faP rfl) rfl <| tY (yq_ldO1 rfl rfl) rfl <| tY (yq_neq rfl rfl) rfl <| tY (yq_move rfl) rfl <| ?_
        refine sd_caseP 40 rfl (fun hg40 => ?_) (fun hg40 => ?_)
        ·
          refine tS rfl rfl rfl rfl <| tS rfl rfl rfl rfl <| tS rfl rfl rfl rfl <| tS rfl rfl rfl rfl <| tS rfl rfl rfl rfl <| tY (yq_pickT rfl rfl) rfl <| tY (yq_move rfl) rfl <| tS rfl rfl rfl rfl <| ?_
          refine tS rfl rfl rfl rfl <| tS rfl rfl rfl rfl <| tS rfl rfl rfl rfl <| tS rfl rfl rfl rfl <| tS rfl rfl rfl rfl <| tY (yq_pickT rfl rfl) rfl <| sd_end <| sd_condT rfl <| sd_seq <| ?_
          refine sd_region <| tY (yq_assign rfl) rfl <| sd_end <| sd_ret <| ?_
          exact sd_done (.tmp rfl .nil) (by rw [decide_eq_false (fun e : a = b ∧ ns = ms => by obtain ⟨e1, e2⟩ := e; subst e2; exact hg40 rfl)]; rfl)
        ·
          refine tYg rfl rfl (yq_faP rfl) rfl <| tYg rfl rfl (yq_ldO1 rfl rfl) rfl <| tYg rfl rfl (yq_faP rfl) rfl <| tYg rfl rfl (yq_ldO1 rfl rfl) rfl <| tYg rfl rfl (yq_neq rfl rfl) rfl <| tY (yq_pickF rfl rfl) rfl <| ?_
          refine tY (yq_move rfl) rfl <| ?_
          refine sd_caseP 47 rfl (fun hg47 => ?_) (fun hg47 => ?_)
          ·
            refine tS rfl rfl rfl rfl <| tS rfl rfl rfl rfl <| tS rfl rfl rfl rfl <| tS rfl rfl rfl rfl <| tS rfl rfl rfl rfl <| tS rfl rfl rfl rfl <| tY (yq_pickT rfl rfl) rfl <| sd_end <| sd_condT rfl <| ?_
            refine sd_seq <| sd_region <| tY (yq_assign rfl) rfl <| sd_end <| sd_ret <| ?_
            exact sd_done (.tmp rfl .nil) (by rw [decide_eq_false (fun e : a = b ∧ ns = ms => by obtain ⟨e1, e2⟩ := e; subst e2; exact hg47 rfl)]; rfl)
          ·
            refine tYg rfl rfl (yq_faP rfl) rfl <| tYg rfl rfl (yq_ldO rfl rfl) rfl <| tYg rfl rfl (yq_faP rfl) rfl <| tYg rfl rfl (yq_ldO rfl rfl) rfl <| tCg rfl rfl (td_call rfl rfl (q_SameL (l := (ns[i]'(by omega)).l) (m := (ms[i]'(by omega)).l) (hbs _ (List.getElem_mem (by omega))) (hbt _ (List.getElem_mem (by omega)))) rfl) <| ?_
            refine tYg rfl rfl (yq_not rfl) rfl <| ?_
            refine sd_eq 53 (.d (.v (.bool (decide (¬ (ns[i]'(by omega)).l = (ms[i]'(by omega)).l))))) rfl (by rw [decide_not]) ?_
            refine tY (yq_pickF rfl rfl) rfl <| sd_end <| ?_
            refine sd_condP rfl (fun hc54 => ?_) (fun hc54 => ?_)
            ·
              refine sd_seq <| sd_region <| tY (yq_assign rfl) rfl <| sd_end <| sd_ret <| ?_
              exact sd_done (.tmp rfl .nil) (by rw [decide_eq_false (fun e : a = b ∧ ns = ms => by obtain ⟨e1, e2⟩ := e; subst e2; exact hc54 rfl)]; rfl)
            ·
              refine sd_skipc <| sd_region <| tY (yq_add64 rfl rfl (by omega) (by omega)) rfl <| tY (yq_move rfl) rfl <| sd_end <| ?_
              refine sd_selO [2] (by decide) rfl ?_
              simp only [pickL, List.filterMap_cons, List.filterMap_nil, List.getElem?_cons_zero, List.getElem?_cons_succ]
              exact sd_again (i + 1) ⟨by omega, fun j p q hj => by by_cases e : j = i; (subst e; exact NQ.ext' (Decidable.not_not.1 hc54) (Decidable.not_not.1 hg40) (Decidable.not_not.1 hg47)); exact h2 j p q (by omega)⟩ (by omega) (by repeat (first | exact .nil | refine .cons rfl ?_ | refine .cons' rfl (by first | (simp [vI]; done) | (congr 3; omega) | (simp [vI]; omega)) ?_)) rfl rfl
      ·
        refine sd_exit <| sd_ts <| sd_te <| sd_inBlock_eq <| sd_seq <| sd_region <| tY (yq_assign rfl) rfl <| sd_end <| sd_ret <| ?_
        exact sd_done (.tmp rfl .nil) (by rw [decide_eq_true (⟨Decidable.not_not.1 hg13, same_list (by omega) (fun j p q => h2 j p q (by omega))⟩ : a = b ∧ ns = ms)]; rfl)
end Go.Sx
end

section
set_option maxRecDepth 100000
namespace Go.Sx
open Go Go.Proofs

theorem slOkL (ls : List LnQ) : slOk 6 (ls.map eL) := fun d hd => by
  obtain ⟨n, _, rfl⟩ := List.mem_map.1 hd; exact ⟨rfl, rfl⟩
theorem isLIl_of {G : Gh} {k : Nat} : ∀ {ls : List LnQ} {es : List Value}, (∀ l ∈ ls, BL l k) → IsLs G (ls.map eL) es → ∃ zs : List LI, es = zs.map LI.val ∧ All2 (IsLI k G) zs ls
  | [], es, _, h => by rw [List.map_nil, isl_nil] at h; subst h; exact ⟨[], rfl, .nil⟩
  | n :: ns, es, hb, h => by
    rw [List.map_cons] at h
    obtain ⟨v, m, rfl, h1, h2⟩ := isl_cons.1 h
    obtain ⟨a, b, c, rfl, ha, hb1, hc⟩ := isL_of (hb n List.mem_cons_self) h1
    obtain ⟨zs, rfl, hzs⟩ := isLIl_of (fun n hn => hb n (List.mem_cons_of_mem _ hn)) h2
    exact ⟨⟨a, b, c⟩ :: zs, rfl, .cons ⟨ha, hb1, hc⟩ hzs⟩
theorem isLIs_of {G : Gh} {k : Nat} {ls : List LnQ} {v : Value} (hb : ∀ l ∈ ls, BL l k) (h : Is G (.sl (ls.map eL)) v) : ∃ x : SV, v = .slice x.a x.n x.c ∧ IsLIs k G x ls := by
  obtain ⟨s, x, es, rfl, hs, hl⟩ := is_sl.1 h
  obtain ⟨zs, rfl, hz⟩ := isLIl_of hb hl
  refine ⟨x, rfl, zs, ?_, hz⟩
  rcases sl_stride hs hl (slOkL _) with h | h
  · rw [h] at hs ⊢; exact ⟨hs.len, hs.cap, .inl rfl⟩
  · subst h; exact hs
theorem q_Restrict {GB : Gh} {t : Tr} {ls : List LnQ} {c : CellQ} (hb : t.all (fun l => BL l 32)) (hok : t.all LnQ.ok) (hbl : ∀ l ∈ ls, BL l 32) (hokl : ∀ l ∈ ls, l.ok) (hn : ls.length ≤ 1000) (hq : canonQ ls [] = some c) (hs : t.size ≤ 65536) (hd : t.depth + ls.length ≤ 1024) :
    PF GB Tryz.prog 22 [eA t, .ag [.sl (ls.map eL)]] (.tp [eA (t.restrict c), .v .nilIface]) := by
  intro G vs hg hv
  obtain ⟨v, m, rfl, h1, hv⟩ := isl_cons.1 hv
  obtain ⟨v2, m, rfl, h2, hv⟩ := isl_cons.1 hv
  rw [isl_nil] at hv; subst hv
  obtain ⟨x, rfl, hx⟩ := isA_of (Tr.all_wr 0 hb) h1
  obtain ⟨l, rfl, g⟩ := is_ag.1 h2
  obtain ⟨v3, l, rfl, h3, g⟩ := isl_cons.1 g
  rw [isl_nil] at g; subst g
  obtain ⟨y, rfl, hy⟩ := isLIs_of hbl h3
  refine (reduce_Restrict (by decide) (by decide) hx hy hok hokl hn hq hs hd (by have := Tr.restrict_size t c; omega)).mono ?_
  rintro _ G' hG ⟨z, rfl, hz⟩
  exact is_tp.2 ⟨_, rfl, .cons (isA_to hz) (.cons (is_v.2 rfl) .nil)⟩
theorem q_CWrite' {GB : Gh} {ds : List DV} {ls : List LnQ} (h : ds = ls.map eL) (hb : ∀ l ∈ ls, BL l 32) (hn : ls.length ≤ 1000000) : PF GB Tryz.prog 23 [.sl ds] (.ag [.sl (ls.map eL)]) := by subst h; exact q_CWrite hb hn
theorem LP.bl {l : LnQ} (h : LP l) : BL l 32 := h.s.bl
theorem LP.ok {l : LnQ} (h : LP l) : l.ok := h.s.ok
theorem canon_p7 {ls : List LnQ} (h : ∀ l ∈ ls, LP l) : ∃ c, canonQ ls [] = some c ∧ GoodC c ∧ ∀ p, InD c p ↔ ∀ l ∈ ls, 0 < l.value p := by
  obtain ⟨c, hc⟩ := canon_some GoodC.nil (fun l hl => (h l hl).ok) ⟨p7, fun s hs => absurd hs (by simp), fun l hl => (h l hl).p⟩
  obtain ⟨g, i⟩ := canon_good GoodC.nil (fun l hl => (h l hl).ok) hc
  exact ⟨c, hc, g, fun p => by rw [i]; exact ⟨fun h => h.2, fun h => ⟨fun s hs => absurd hs (by simp), h⟩⟩⟩

set_option maxHeartbeats 2000000 in
theorem q_ReduceTwice {GB : Gh} {es0 : List Int} (hb : es0.length ≤ 1125899906842624) : PF GB Tryz.prog 5 [.sl (es0.map vI)] (.v (.bool true)) := by
  refine PF.intro Tryz.func5 rfl rfl Tryz.ntmps5 rfl ?_
  intro C
  refine sd_seq <| sd_region <| tY (yq_assign rfl) rfl <| sd_end <| sd_seq <| sd_region <| tY (yq_move rfl) rfl <| tF (tf_callN rfl rfl (q_New hb) rfl) <| ?_
  rintro ⟨⟨es, hes⟩, b1⟩; try dsimp only
  refine tY (yq_assign rfl) rfl <| sd_end <| sd_seq <| sd_region <| tY (yq_move rfl) rfl <| tF (tf_callMX rfl rfl (q_Tree (a := 0) (d := 4) hes (Nat.zero_le _) (by decide)) (by repeat (first | exact .hd .. | apply OSp.tl)) rfl) <| ?_
  rintro ⟨⟨t, a⟩, hd, hok, hbl, ha⟩; try simp only [List.cons_append, List.nil_append]
  dsimp only at hd hok hbl ha
  have hsz := Tr.size_lt t
  have hp4 : (2 : Nat) ^ t.depth ≤ 2 ^ 4 := Nat.pow_le_pow_right (by decide) hd
  have hp5 : (2 : Nat) ^ 4 = 16 := rfl
  refine tC (td_call rfl rfl (q_Write hbl (by omega)) rfl) <| tF (tf_alloc rfl) <| ?_
  intro b2
  refine tC (td_store rfl rfl (by first | (dsimp only [DV.cells, ovD, List.set_cons_zero, List.set_cons_succ, Nat.reduceAdd, List.drop_succ_cons, List.drop_zero]; done) | exact rfl) (by repeat (first | exact .hd .. | apply OUpdD.tl)) rfl rfl rfl rfl) <| ?_
  refine sd_end <| sd_seq <| sd_region <| tY (yq_move rfl) rfl <| tF (tf_callMX rfl rfl (q_side17 hes ha) (by repeat (first | exact .hd .. | apply OSp.tl)) rfl) <| ?_
  rintro ⟨⟨cs, a1⟩, hcp, hcl, ha1⟩; try simp only [List.cons_append, List.nil_append]
  dsimp only at hcp hcl ha1
  refine tY (yq_move rfl) rfl <| tF (tf_callMX rfl rfl (q_side17 hes ha1) (by repeat (first | exact .hd .. | apply OSp.tl)) rfl) <| ?_
  rintro ⟨⟨ds, a2⟩, hdp, hdl, ha2⟩; try simp only [List.cons_append, List.nil_append]
  dsimp only at hdp hdl ha2
  have hcd : ∀ l ∈ cs ++ ds, LP l := List.forall_mem_append.2 ⟨hcp, hdp⟩
  have hcdl : (cs ++ ds).length ≤ 6 := by rw [List.length_append]; omega
  obtain ⟨C1, hC1, gC, iC⟩ := canon_p7 hcp
  obtain ⟨E1, hE1, gE, iE⟩ := canon_p7 hcd
  have hT := t.restrict_twice C1 E1 hok gC gE (fun p hp => (iC p).2 fun l hl => (iE p).1 hp l (List.mem_append_left _ hl))
  have hrs := Tr.restrict_size t C1
  have hrd := Tr.restrict_depth t C1
  have hrE := Tr.restrict_size t E1
  refine tY (yq_assign rfl) rfl <| tY (yq_assign rfl) rfl <| sd_end <| sd_seq <| ?_
  refine drX (own0 := _) (own1 := []) (bs0 := []) (bs1 := _) [⟨7, 7, 36, .agg ⟨[.int .i64 0, .slice none 0 0]⟩⟩] [(0, true), (1, true), (2, false), (3, false), (4, true), (5, true), (6, true)] [(8, false), (9, true)] follows (by rw [List.append_nil]) (List.Perm.refl _) (by kernel_rfl) ?_
  refine dyX rfl (yq_ldO rfl rfl) rfl <| ?_
  refine dyX rfl (yq_move rfl) rfl <| ?_
  refine dcX rfl (td_call rfl rfl (q_CWrite (fun l hl => (hcp l hl).bl) (by omega)) rfl) (by exact ⟨List.forall_mem_cons.2 ⟨⟨_, _, _, rfl, rfl⟩, List.forall_mem_nil _⟩, List.forall_mem_cons.2 ⟨inferInstance, List.forall_mem_nil _⟩, by decide, by decide⟩) rfl <| ?_
  refine dcX rfl (td_call rfl rfl (q_Restrict hbl hok (fun l hl => (hcp l hl).bl) (fun l hl => (hcp l hl).ok) (by omega) hC1 (by omega) (by omega)) rfl) (by exact ⟨List.forall_mem_cons.2 ⟨⟨_, _, _, rfl, rfl⟩, List.forall_mem_nil _⟩, List.forall_mem_cons.2 ⟨inferInstance, List.forall_mem_nil _⟩, by decide, by decide⟩) rfl <| ?_
  refine dyX rfl (yq_move rfl) rfl <| ?_
  refine dyX rfl (yq_ext rfl rfl) rfl <| ?_
  refine dyX rfl (yq_ext rfl rfl) rfl <| ?_
  refine outX1 ⟨(inferInstance : TyZD Tryz.prog 36 _ _).iz, trivial⟩ (by exact ⟨List.forall_mem_cons.2 ⟨⟨_, _, _, rfl, rfl⟩, List.forall_mem_nil _⟩, List.forall_mem_cons.2 ⟨inferInstance, List.forall_mem_nil _⟩, by decide, by decide⟩) rfl (fun b3 => ?_)
  simp only [List.cons_append, List.nil_append]
  refine onX <| ?_
  refine dcX rfl (td_store rfl rfl (by first | (dsimp only [DV.cells, ovD, List.set_cons_zero, List.set_cons_succ, Nat.reduceAdd, List.drop_succ_cons, List.drop_zero]; done) | exact rfl) (by repeat (first | exact .hd .. | apply OUpdD.tl)) rfl rfl rfl rfl) FDok.nil rfl <| ?_
  refine dyX rfl (yq_assign rfl) rfl <| outX0 <| dnX <| ?_
  simp only [List.nil_append, List.append_nil, List.cons_append]
  refine sd_seq <| sd_seq <| sd_region <| tY (yq_move rfl) rfl <| tY (yq_neN0 rfl) rfl <| sd_end <| sd_condF rfl <| sd_skipc <| sd_seq <| ?_
  refine drX (own0 := _) (own1 := []) (bs0 := []) (bs1 := _) [⟨11, 9, 36, .agg ⟨[.int .i64 0, .slice none 0 0]⟩⟩] [(0, true), (2, true), (4, true), (1, false), (3, false), (5, false), (6, false), (7, false), (8, true), (9, true), (10, true)] [(12, false), (13, true)] follows (by rw [List.append_nil]) (List.Perm.refl _) (by kernel_rfl) ?_
  refine dyX rfl (yq_ldO rfl rfl) rfl <| ?_
  refine dyX rfl (yq_move rfl) rfl <| ?_
  refine dyX rfl (yq_move rfl) rfl <| ?_
  refine dfX rfl (tf_row0 rfl) (by exact ⟨List.forall_mem_cons.2 ⟨⟨_, _, _, rfl, rfl⟩, List.forall_mem_nil _⟩, List.forall_mem_cons.2 ⟨inferInstance, List.forall_mem_nil _⟩, by decide, by decide⟩) rfl <| ?_
  intro w4
  refine dfX rfl (tf_append (w := w4) rfl (by repeat (first | exact .hd .. | apply BRemD.tl)) (.sl rfl (slOkL _)) rfl (by simp; omega) rfl rfl) (by exact ⟨List.forall_mem_cons.2 ⟨⟨_, _, _, rfl, rfl⟩, List.forall_mem_nil _⟩, List.forall_mem_cons.2 ⟨inferInstance, List.forall_mem_nil _⟩, by decide, by decide⟩) rfl <| ?_
  intro w5
  refine dcX rfl (td_appendZ (w := w5) rfl (by repeat (first | exact .hd .. | apply BRemD.tl)) (.sl rfl (slOkL _)) rfl (by simp; omega) rfl rfl) (by exact ⟨List.forall_mem_cons.2 ⟨⟨_, _, _, rfl, rfl⟩, List.forall_mem_nil _⟩, List.forall_mem_cons.2 ⟨inferInstance, List.forall_mem_nil _⟩, by decide, by decide⟩) rfl <| ?_
  refine dcX rfl (td_call rfl rfl (q_CWrite' (ls := cs ++ ds) (by simp) (fun l hl => (hcd l hl).bl) (by omega)) rfl) (by exact ⟨List.forall_mem_cons.2 ⟨⟨_, _, _, rfl, rfl⟩, List.forall_mem_nil _⟩, List.forall_mem_cons.2 ⟨inferInstance, List.forall_mem_nil _⟩, by decide, by decide⟩) rfl <| ?_
  refine dcX rfl (td_call rfl rfl (q_Restrict (Tr.restrict_all _ t C1 hbl) (Tr.restrict_all _ t C1 hok) (fun l hl => (hcd l hl).bl) (fun l hl => (hcd l hl).ok) (by omega) hE1 (by omega) (by omega)) rfl) (by exact ⟨List.forall_mem_cons.2 ⟨⟨_, _, _, rfl, rfl⟩, List.forall_mem_nil _⟩, List.forall_mem_cons.2 ⟨inferInstance, List.forall_mem_nil _⟩, by decide, by decide⟩) rfl <| ?_
  refine dyX rfl (yq_move rfl) rfl <| ?_
  refine dyX rfl (yq_ext rfl rfl) rfl <| ?_
  refine dyX rfl (yq_ext rfl rfl) rfl <| ?_
  refine outX1 ⟨(inferInstance : TyZD Tryz.prog 36 _ _).iz, trivial⟩ (by exact ⟨List.forall_mem_cons.2 ⟨⟨_, _, _, rfl, rfl⟩, List.forall_mem_nil _⟩, List.forall_mem_cons.2 ⟨inferInstance, List.forall_mem_nil _⟩, by decide, by decide⟩) rfl (fun b6 => ?_)
  simp only [List.cons_append, List.nil_append]
  refine onX <| ?_
  refine dcX rfl (td_store rfl rfl (by first | (dsimp only [DV.cells, ovD, List.set_cons_zero, List.set_cons_succ, Nat.reduceAdd, List.drop_succ_cons, List.drop_zero]; done) | exact rfl) (by repeat (first | exact .hd .. | apply OUpdD.tl)) rfl rfl rfl rfl) FDok.nil rfl <| ?_
  refine dyX rfl (yq_assign rfl) rfl <| outX0 <| dnX <| ?_
  simp only [List.nil_append, List.append_nil, List.cons_append]
  refine sd_seq <| ?_
  refine drX (own0 := _) (own1 := []) (bs0 := []) (bs1 := _) [⟨11, 11, 36, .agg ⟨[.int .i64 0, .slice none 0 0]⟩⟩] [(0, true), (2, true), (4, true), (1, false), (3, false), (5, false), (6, false), (7, false), (8, true), (9, true), (10, true)] [(12, false), (13, true)] follows (by rw [List.append_nil]) (List.Perm.refl _) (by kernel_rfl) ?_
  refine dyX rfl (yq_ldO rfl rfl) rfl <| ?_
  refine dyX rfl (yq_move rfl) rfl <| ?_
  refine dyX rfl (yq_move rfl) rfl <| ?_
  refine dfX rfl (tf_row0 rfl) (by exact ⟨List.forall_mem_cons.2 ⟨⟨_, _, _, rfl, rfl⟩, List.forall_mem_nil _⟩, List.forall_mem_cons.2 ⟨inferInstance, List.forall_mem_nil _⟩, by decide, by decide⟩) rfl <| ?_
  intro w7
  refine dfX rfl (tf_append (w := w7) rfl (by repeat (first | exact .hd .. | apply BRemD.tl)) (.sl rfl (slOkL _)) rfl (by simp; omega) rfl rfl) (by exact ⟨List.forall_mem_cons.2 ⟨⟨_, _, _, rfl, rfl⟩, List.forall_mem_nil _⟩, List.forall_mem_cons.2 ⟨inferInstance, List.forall_mem_nil _⟩, by decide, by decide⟩) rfl <| ?_
  intro w8
  refine dcX rfl (td_appendZ (w := w8) rfl (by repeat (first | exact .hd .. | apply BRemD.tl)) (.sl rfl (slOkL _)) rfl (by simp; omega) rfl rfl) (by exact ⟨List.forall_mem_cons.2 ⟨⟨_, _, _, rfl, rfl⟩, List.forall_mem_nil _⟩, List.forall_mem_cons.2 ⟨inferInstance, List.forall_mem_nil _⟩, by decide, by decide⟩) rfl <| ?_
  refine dcX rfl (td_call rfl rfl (q_CWrite' (ls := cs ++ ds) (by simp) (fun l hl => (hcd l hl).bl) (by omega)) rfl) (by exact ⟨List.forall_mem_cons.2 ⟨⟨_, _, _, rfl, rfl⟩, List.forall_mem_nil _⟩, List.forall_mem_cons.2 ⟨inferInstance, List.forall_mem_nil _⟩, by decide, by decide⟩) rfl <| ?_
  refine dcX rfl (td_call rfl rfl (q_Restrict hbl hok (fun l hl => (hcd l hl).bl) (fun l hl => (hcd l hl).ok) (by omega) hE1 (by omega) (by omega)) rfl) (by exact ⟨List.forall_mem_cons.2 ⟨⟨_, _, _, rfl, rfl⟩, List.forall_mem_nil _⟩, List.forall_mem_cons.2 ⟨inferInstance, List.forall_mem_nil _⟩, by decide, by decide⟩) rfl <| ?_
  refine dyX rfl (yq_move rfl) rfl <| ?_
  refine dyX rfl (yq_ext rfl rfl) rfl <| ?_
  refine dyX rfl (yq_ext rfl rfl) rfl <| ?_
  refine outX1 ⟨(inferInstance : TyZD Tryz.prog 36 _ _).iz, trivial⟩ (by exact ⟨List.forall_mem_cons.2 ⟨⟨_, _, _, rfl, rfl⟩, List.forall_mem_nil _⟩, List.forall_mem_cons.2 ⟨inferInstance, List.forall_mem_nil _⟩, by decide, by decide⟩) rfl (fun b9 => ?_)
  simp only [List.cons_append, List.nil_append]
  refine onX <| ?_
  refine dcX rfl (td_store rfl rfl (by first | (dsimp only [DV.cells, ovD, List.set_cons_zero, List.set_cons_succ, Nat.reduceAdd, List.drop_succ_cons, List.drop_zero]; done) | exact rfl) (by repeat (first | exact .hd .. | apply OUpdD.tl)) rfl rfl rfl rfl) FDok.nil rfl <| ?_
  refine dyX rfl (yq_assign rfl) rfl <| outX0 <| dnX <| ?_
  simp only [List.nil_append, List.append_nil, List.cons_append]
  refine sd_seq <| sd_seq <| sd_region <| tY (yq_move rfl) rfl <| tY (yq_neN0 rfl) rfl <| sd_end <| sd_condF rfl <| sd_skipc <| sd_seq <| sd_region <| tC (td_call rfl rfl (q_known17) rfl) <| ?_
  refine tY (yq_move rfl) rfl <| tYg rfl rfl (yq_move rfl) rfl <| tYg rfl rfl (yq_eqN0 rfl) rfl <| tY (yq_pickT rfl rfl) rfl <| tY (yq_move rfl) rfl <| tYg rfl rfl (yq_ldO rfl rfl) rfl <| ?_
  refine tYg rfl rfl (yq_ldO rfl rfl) rfl <| tCg rfl rfl (td_call rfl rfl (q_TSame (Tr.restrict_all _ _ E1 (Tr.restrict_all _ t C1 hbl)) (Tr.restrict_all _ t E1 hbl) (by rw [hT]; omega)) rfl) <| ?_
  refine tY (yq_pickT rfl rfl) rfl <| tY (yq_assign rfl) rfl <| sd_end <| sd_ret <| ?_
  exact sd_done (.tmp rfl .nil) (by rw [hT, decide_eq_true (⟨rfl, rfl⟩ : _ ∧ _)]; rfl)
end Go.Sx
end

section
set_option maxRecDepth 100000
namespace Go.Sx
open Go Go.Proofs Go.ChangeShapes Go.WideShapes Go.ChangeAt Go.RowKit

/-- Every block of cells that is there. -/
def GW (w : World) : Gh := fun b => match w.heap[b]? with | some (.cells cs _ _) => some cs.toList | _ => none
theorem GW.sub {w : World} {b : Nat} {cs : List Value} (h : GW w b = some cs) : ∃ ty fz, w.heap[b]? = some (.cells ⟨cs⟩ ty fz) := by
  unfold GW at h
  split at h
  · rename_i c t f e
    cases h
    exact ⟨t, f, by rw [e]⟩
  · cases h
theorem GW.of_cell {w : World} {b off : Nat} {v : Value} (h : w.cell? ⟨b, off, none⟩ = some v) : ∃ cs, GW w b = some cs ∧ cs[off]? = some v := by
  unfold World.cell? at h
  unfold GW
  split at h
  · rename_i c t f e
    simp only at e
    refine ⟨c.toList, by rw [e], ?_⟩
    simpa using h
  all_goals first | (rename_i e; cases h) | cases h
theorem HRel.below {w w' : World} {G G' : Gh} {own : List Own} (h : HRel ⟨w, G, []⟩ own G' w') : Below w.heap.size w w' :=
  ⟨h.os, h.tape, h.output, h.size, fun k hk => h.keep k hk (by simp)⟩

theorem isLs_vI {G : Gh} : ∀ es : List Int, IsLs G (es.map vI) (es.map fun n => Value.int .i64 n)
  | [] => .nil
  | n :: t => .cons (is_v.2 rfl) (isLs_vI t)

/-- A slice of integers, opened: the deep value, its length, and the datum's own length. -/
theorem open_vI {base : Nat} {H : Type} {enc : TypeId × Value → H} {P : Program} {w : World} {t e : TypeId} {v : Value} {d : DataW H} {ps : List MemPlace} (ht : P.underlying t = some (.slice e)) (he : P.underlying e = some (.int .i64)) (hc : P.cellsOf e = 1)
    (hv : Value.okWide P w .any base t v) (h : DataW.Trod enc P w 0 (fun _ => true) true t v d ps) :
    ∃ es : List Int, Is (GW w) (.sl (es.map vI)) v ∧ (d = .nil ∧ es = [] ∨ ∃ sp, d = .slice (lits .i64 es) sp) ∧ (∀ n ∈ es, (Lit.int .i64 n).wf = true) := by
  obtain ⟨a0, len, cap, rfl⟩ := okWide_slice ht hv
  obtain ⟨fuel, hf⟩ := h
  rcases open_ints ht he hc hf with ⟨hcs, hx⟩ | ⟨a, len', cap', zs, hcs, _, hl, hm, hz, hx, hcell, hwz⟩
  · simp [Value.cells] at hcs
    obtain ⟨rfl, rfl, rfl⟩ := hcs
    simp only [Prod.mk.injEq] at hx
    exact ⟨[], is_sl.2 ⟨0, ⟨none, 0, 0⟩, [], rfl, IsSl.nil _ 0, .nil⟩, .inl ⟨hx.1, rfl⟩, by simp⟩
  · simp [Value.cells] at hcs
    obtain ⟨rfl, rfl, rfl⟩ := hcs
    simp only [Prod.mk.injEq] at hx
    simp only [if_true] at hz
    refine ⟨zs.take len, is_sl.2 ⟨1, ⟨some a, len, cap⟩, (zs.take len).map fun n => Value.int .i64 n, rfl, ⟨by simp; omega, hl, ?_⟩, isLs_vI _⟩, .inr ⟨_, hx.1⟩, fun n hn => hwz n (List.mem_of_mem_take hn)⟩
    by_cases h0 : len = 0
    · exact .inl (by simp [h0])
    · right
      obtain ⟨b, off, spot⟩ := a
      have hspot : spot = none := by simpa [Addr.add] using World.cell?_spot (hcell 0 (by omega))
      subst hspot
      have c0 : ∀ i, i < zs.length → w.cell? ⟨b, off + i, none⟩ = some (.int .i64 (zs.getD i 0)) := fun i hi => by
        have := hcell i hi
        rwa [Go.WideShapes.add_plain] at this
      obtain ⟨cs, hcs, _⟩ := GW.of_cell (by simpa using c0 0 (by omega))
      refine ⟨b, off, cs, rfl, hcs, fun i hi => ?_⟩
      simp only [List.length_map, List.length_take] at hi
      obtain ⟨cs', hcs', hi'⟩ := GW.of_cell (c0 i (by omega))
      rw [hcs] at hcs'
      cases hcs'
      rw [Nat.mul_one, takeL_one.2 hi']
      simp [cellsL, List.getD, List.getElem?_eq_getElem (show i < zs.length by omega)]
end Go.Sx
end
