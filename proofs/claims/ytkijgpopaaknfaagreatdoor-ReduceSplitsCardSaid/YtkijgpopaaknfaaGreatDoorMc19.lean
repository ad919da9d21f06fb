/-
  The law ReduceSplits holds: it answers true at every input and leaves its argument as it was.
-/
import Derived.Test.YtkijgpopaaknfaaGreatDoorMc18
import Derived.Test.YtkijgpopaaknfaaGreatDoorCards
import Derived.Test.YtkijgpopaaknfaaGreatDoorTie
import Derived.WalkKit
import Derived.ProofKit
import Derived.OpenShut
import Derived.Deep.DeepHandedRow
import Derived.Deep.DeepWitnessRowRef
import Derived.LaidMore
import Derived.Lib.LaidTab
import Derived.SizedLaws
set_option linter.unusedSimpArgs false
set_option linter.unusedVariables false
section
set_option maxRecDepth 100000
namespace Go.Sx
open Go Go.Proofs
theorem q_Inner' {GB : Gh} {ds : List DV} {c : List LnQ} (h : ds = c.map eL) (hc : ∀ m ∈ c, LB m) (hok : ∀ m ∈ c, m.ok) (hn : c.length ≤ 1000) : PX GB Tryz.prog 111 [.sl ds] PtQ (fun p => .tp [eP p, vB (innerB c)]) := by subst h; exact q_Inner hc hok hn
theorem q_sRev' {GB : Gh} {l : LnQ} (h : BL l 32) : PF GB Tryz.prog 18 [eL l] (eL l.rev) := by
 have ha := h.a
 have hb := h.b
 have hc := h.c
 refine PF.intro Tryz.func18 rfl rfl Tryz.ntmps18 rfl ?_
 intro C
 refine qR <| tF (tf_box rfl rfl rfl) <| ?_
 intro b1
 refine tF (tf_alloc rfl) <| ?_
 intro b2
 refine sd_end <| sd_seq <| ?_
 refine sd_selO [1, 0] (by decide) rfl ?_
 simp only [pickL, zf1, zf2, zf3, zf4]
 refine drX (own0 := [_]) (own1 := [_]) (bs0 := []) (bs1 := _) [] [(0, true), (1, true), (3, true), (4, true), (6, true), (7, true), (2, false), (5, false), (8, false), (9, true), (10, false)] [] follows (List.Perm.refl _) (List.Perm.refl _) (by kernel_rfl) ?_
 refine dyX rfl (yq_faP rfl) rfl <| ?_
 refine dyX rfl (yq_ldO rfl rfl) rfl <| ?_
 refine dyX rfl (yq_faP rfl) rfl <| ?_
 refine dyX rfl (yq_ldO rfl rfl) rfl <| ?_
 refine dyX rfl (yq_faP rfl) rfl <| ?_
 refine dyX rfl (yq_ldO rfl rfl) rfl <| ?_
 refine dcX rfl (td_call rfl rfl (q_Minus) rfl) FDok.nil rfl <| ?_
 refine dcX rfl (td_call rfl rfl (q_Minus) rfl) FDok.nil rfl <| ?_
 refine dcX rfl (td_call rfl rfl (q_Minus) rfl) FDok.nil rfl <| ?_
 refine dyX rfl (yq_build rfl) rfl <| ?_
 refine dcX rfl (tdS rfl rfl rfl rfl rfl rfl) FDok.nil rfl <| ?_
 refine outX0 <| onX <| outX0 <| dnX <| ?_
 simp only [List.nil_append, List.append_nil, List.cons_append]
 refine sd_ret <| ?_
 exact sd_done (.agg rfl ii ii rfl .nil) rfl
theorem lb_app {c : List LnQ} {l : LnQ} (hc : ∀ m ∈ c, LB m) (hl : LB l) : ∀ m ∈ c ++ [l], LB m := by
 rw [List.forall_mem_append]
 exact ⟨hc, by simpa using hl⟩
theorem LB.rev {l : LnQ} (h : LB l) : LB l.rev := ⟨⟨by rw [show l.rev.a = -l.a from rfl, Int.natAbs_neg]; exact h.bl.a, by rw [show l.rev.b = -l.b from rfl, Int.natAbs_neg]; exact h.bl.b, by rw [show l.rev.c = -l.c from rfl, Int.natAbs_neg]; exact h.bl.c⟩⟩
set_option maxHeartbeats 2000000 in
theorem q_Place {GB : Gh} {c : List LnQ} {l : LnQ} (hc : ∀ m ∈ c, LB m) (hok : ∀ m ∈ c, m.ok) (hn : c.length ≤ 900) (hl : LB l) (hlo : l.ok) : PF GB Tryz.prog 53 [.sl (c.map eL), eL l] (vI (placeL c l)) := by
 refine PF.intro Tryz.func53 rfl rfl Tryz.ntmps53 rfl ?_
 intro C
 have hcl := mapL_len c
 refine qR <| tF (tf_box rfl rfl rfl) <| ?_
 intro b1
 refine tA rfl rfl <| sd_end <| ?_
 refine sd_cut (Unit) (fun _ => [(0, .d (.sl (c.map eL))), (3, .d (.v (.pointer (some ⟨b1, 0, none⟩)))), (4, .d (vI 0)), (6, .d (vB (innerB (c ++ [l]))))]) (fun _ => [⟨b1, (eL l).cells, 32, true⟩]) (fun _ => []) (fun _ => True) ?_ ?_
 ·
  refine drN (own0 := _) (own1 := []) (bs0 := []) (bs1 := _) [⟨10, 5, 89, .agg ⟨[.bool false, .slice none 0 0, .slice none 0 0, .bool false, .slice none 0 0, .slice none 0 0]⟩⟩] (.q 1 (.q 3 (.c 0 (.c 2 (.z [(4, false), (5, false), (6, false), (7, true), (8, true), (9, true)]) (.a 4 (.z [(2, false), (5, false), (6, false), (7, true), (8, true), (9, true)]))) (.a 4 (.z [(0, false), (2, false), (5, false), (6, false), (7, true), (8, true), (9, true)]))))) 15 [(11, false), (12, true)] follows (by rw [List.append_nil]) (List.Perm.refl _) (by kernel_rfl) ?_
  refine dyN rfl (yq_move rfl) rfl <| ?_
  refine dyN rfl (yq_ldO rfl rfl) rfl <| ?_
  refine dfkN rfl (tf_row0 rfl) (by exact .o ⟨_, _, _, rfl, rfl⟩ ii) rfl ?_ ?_
  ·
   intro w2
   refine dfkN rfl (tf_append (w := w2) rfl (by repeat (first | exact .hd .. | apply BRemD.tl)) (.sl rfl (slOkL _)) rfl (by rw [hcl]; show (0 + c.length) * _ ≤ _; omega) rfl rfl) (by exact .o ⟨_, _, _, rfl, rfl⟩ ii) rfl ?_ ?_
   ·
    intro w3
    refine zN <| ?_
    refine dcX rfl (td_rowF rfl rfl rfl rfl rfl rfl rfl) (by exact .o ⟨_, _, _, rfl, rfl⟩ ii) rfl <| ?_
    refine dcX rfl (td_appendZ (w := w3) rfl (by repeat (first | exact .hd .. | apply BRemD.tl)) (.sl rfl (slOkL [_])) rfl (by simp only [List.nil_append, List.length_cons, List.length_nil]; rw [hcl]; omega) rfl rfl) (by exact .o ⟨_, _, _, rfl, rfl⟩ ii) rfl <| ?_
    refine dfX rfl (tf_callX rfl rfl (q_Inner' (c := c ++ [l]) (by rw [List.map_append]; rfl) (lb_app hc hl) (ok_app hok hlo) (by simp; omega)) rfl) (by exact .o ⟨_, _, _, rfl, rfl⟩ ii) rfl <| ?_
    rintro pp4; try dsimp only
    refine dyX rfl (yq_move rfl) rfl <| ?_
    refine dyX rfl (yq_ext rfl rfl) rfl <| ?_
    refine dyX rfl (yq_ext rfl rfl) rfl <| ?_
    refine outX1 ⟨(inferInstance : TyZD Tryz.prog 89 _ _).iz, trivial⟩ (by exact .o ⟨_, _, _, rfl, rfl⟩ ii) rfl (fun b5 => ?_)
    simp only [List.cons_append, List.nil_append]
    refine onX <| ?_
    refine dcX rfl (tdS rfl rfl rfl rfl rfl rfl) FDok.nil rfl <| ?_
    refine dyX rfl (yq_assign rfl) rfl <| outX0 <| dnX <| ?_
    simp only [List.nil_append, List.append_nil, List.cons_append]
    refine sd_selO [1] (by decide) rfl ?_
    simp only [pickL, zf1, zf2, zf3, zf4]
    exact sd_at () trivial (by repeat (first | exact .nil | refine .cons rfl ?_ | refine .cons' rfl (by first | (simp [vI]; done) | (congr 3; omega) | (simp [vI]; omega)) ?_)) rfl rfl
   ·
    refine dcN rfl (td_rowF rfl rfl rfl rfl rfl rfl rfl) (by exact .o ⟨_, _, _, rfl, rfl⟩ ii) rfl <| ?_
    refine zN <| ?_
    refine dfX rfl (tf_append (w := w2) rfl (by repeat (first | exact .hd .. | apply BRemD.tl)) (.sl rfl (slOkL _)) rfl (by rw [hcl]; show (0 + c.length) * _ ≤ _; omega) rfl rfl) (by exact .o ⟨_, _, _, rfl, rfl⟩ ii) rfl <| ?_
    intro w6
    refine dcX rfl (td_appendZ (w := w6) rfl (by repeat (first | exact .hd .. | apply BRemD.tl)) (.sl rfl (slOkL [_])) rfl (by simp only [List.nil_append, List.length_cons, List.length_nil]; rw [hcl]; omega) rfl rfl) (by exact .o ⟨_, _, _, rfl, rfl⟩ ii) rfl <| ?_
    refine dfX rfl (tf_callX rfl rfl (q_Inner' (c := c ++ [l]) (by rw [List.map_append]; rfl) (lb_app hc hl) (ok_app hok hlo) (by simp; omega)) rfl) (by exact .o ⟨_, _, _, rfl, rfl⟩ ii) rfl <| ?_
    rintro pp7; try dsimp only
    refine dyX rfl (yq_move rfl) rfl <| ?_
    refine dyX rfl (yq_ext rfl rfl) rfl <| ?_
    refine dyX rfl (yq_ext rfl rfl) rfl <| ?_
    refine outX1 ⟨(inferInstance : TyZD Tryz.prog 89 _ _).iz, trivial⟩ (by exact .o ⟨_, _, _, rfl, rfl⟩ ii) rfl (fun b8 => ?_)
    simp only [List.cons_append, List.nil_append]
    refine onX <| ?_
    refine dcX rfl (tdS rfl rfl rfl rfl rfl rfl) FDok.nil rfl <| ?_
    refine dyX rfl (yq_assign rfl) rfl <| outX0 <| dnX <| ?_
    simp only [List.nil_append, List.append_nil, List.cons_append]
    refine sd_selO [1] (by decide) rfl ?_
    simp only [pickL, zf1, zf2, zf3, zf4]
    exact sd_at () trivial (by repeat (first | exact .nil | refine .cons rfl ?_ | refine .cons' rfl (by first | (simp [vI]; done) | (congr 3; omega) | (simp [vI]; omega)) ?_)) rfl rfl
  ·
   refine dcN rfl (td_rowF rfl rfl rfl rfl rfl rfl rfl) (by exact .o ⟨_, _, _, rfl, rfl⟩ ii) rfl <| ?_
   refine zN <| ?_
   refine dfX rfl (tf_row0 rfl) (by exact .o ⟨_, _, _, rfl, rfl⟩ ii) rfl <| ?_
   intro w9
   refine dfX rfl (tf_append (w := w9) rfl (by repeat (first | exact .hd .. | apply BRemD.tl)) (.sl rfl (slOkL _)) rfl (by rw [hcl]; show (0 + c.length) * _ ≤ _; omega) rfl rfl) (by exact .o ⟨_, _, _, rfl, rfl⟩ ii) rfl <| ?_
   intro w10
   refine dcX rfl (td_appendZ (w := w10) rfl (by repeat (first | exact .hd .. | apply BRemD.tl)) (.sl rfl (slOkL [_])) rfl (by simp only [List.nil_append, List.length_cons, List.length_nil]; rw [hcl]; omega) rfl rfl) (by exact .o ⟨_, _, _, rfl, rfl⟩ ii) rfl <| ?_
   refine dfX rfl (tf_callX rfl rfl (q_Inner' (c := c ++ [l]) (by rw [List.map_append]; rfl) (lb_app hc hl) (ok_app hok hlo) (by simp; omega)) rfl) (by exact .o ⟨_, _, _, rfl, rfl⟩ ii) rfl <| ?_
   rintro pp11; try dsimp only
   refine dyX rfl (yq_move rfl) rfl <| ?_
   refine dyX rfl (yq_ext rfl rfl) rfl <| ?_
   refine dyX rfl (yq_ext rfl rfl) rfl <| ?_
   refine outX1 ⟨(inferInstance : TyZD Tryz.prog 89 _ _).iz, trivial⟩ (by exact .o ⟨_, _, _, rfl, rfl⟩ ii) rfl (fun b12 => ?_)
   simp only [List.cons_append, List.nil_append]
   refine onX <| ?_
   refine dcX rfl (tdS rfl rfl rfl rfl rfl rfl) FDok.nil rfl <| ?_
   refine dyX rfl (yq_assign rfl) rfl <| outX0 <| dnX <| ?_
   simp only [List.nil_append, List.append_nil, List.cons_append]
   refine sd_selO [1] (by decide) rfl ?_
   simp only [pickL, zf1, zf2, zf3, zf4]
   exact sd_at () trivial (by repeat (first | exact .nil | refine .cons rfl ?_ | refine .cons' rfl (by first | (simp [vI]; done) | (congr 3; omega) | (simp [vI]; omega)) ?_)) rfl rfl
 rintro _ _
 refine sd_cut (Unit) (fun _ => [(4, .d (vI 0)), (6, .d (vB (innerB (c ++ [l])))), (8, .d (vB (innerB (c ++ [l.rev]))))]) (fun _ => []) (fun _ => []) (fun _ => True) ?_ ?_
 ·
  refine drX (own0 := _) (own1 := []) (bs0 := []) (bs1 := _) [⟨11, 7, 89, .agg ⟨[.bool false, .slice none 0 0, .slice none 0 0, .bool false, .slice none 0 0, .slice none 0 0]⟩⟩] [(1, true), (3, true), (0, false), (2, false), (4, false), (5, false), (6, false), (7, false), (8, true), (9, true), (10, true)] [(12, false), (13, true)] follows (by rw [List.append_nil]) (List.Perm.refl _) (by kernel_rfl) ?_
  refine dyX rfl (yq_move rfl) rfl <| ?_
  refine dyX rfl (yq_ldO rfl rfl) rfl <| ?_
  refine dfX rfl (tf_row0 rfl) (by exact .o ⟨_, _, _, rfl, rfl⟩ ii) rfl <| ?_
  intro w13
  refine dfX rfl (tf_append (w := w13) rfl (by repeat (first | exact .hd .. | apply BRemD.tl)) (.sl rfl (slOkL _)) rfl (by rw [hcl]; show (0 + c.length) * _ ≤ _; omega) rfl rfl) (by exact .o ⟨_, _, _, rfl, rfl⟩ ii) rfl <| ?_
  intro w14
  refine dcX rfl (td_call rfl rfl (q_sRev' (l := l) hl.bl) rfl) (by exact .o ⟨_, _, _, rfl, rfl⟩ ii) rfl <| ?_
  refine dcX rfl (td_rowF rfl rfl rfl rfl rfl rfl rfl) (by exact .o ⟨_, _, _, rfl, rfl⟩ ii) rfl <| ?_
  refine dcX rfl (td_appendZ (w := w14) rfl (by repeat (first | exact .hd .. | apply BRemD.tl)) (.sl rfl (slOkL [_])) rfl (by simp only [List.nil_append, List.length_cons, List.length_nil]; rw [hcl]; omega) rfl rfl) (by exact .o ⟨_, _, _, rfl, rfl⟩ ii) rfl <| ?_
  refine dfX rfl (tf_callX rfl rfl (q_Inner' (c := c ++ [l.rev]) (by rw [List.map_append]; rfl) (lb_app hc hl.rev) (ok_app hok hlo.rev) (by simp; omega)) rfl) (by exact .o ⟨_, _, _, rfl, rfl⟩ ii) rfl <| ?_
  rintro pp15; try dsimp only
  refine dyX rfl (yq_move rfl) rfl <| ?_
  refine dyX rfl (yq_ext rfl rfl) rfl <| ?_
  refine dyX rfl (yq_ext rfl rfl) rfl <| ?_
  refine outX1 ⟨(inferInstance : TyZD Tryz.prog 89 _ _).iz, trivial⟩ (by exact .o ⟨_, _, _, rfl, rfl⟩ ii) rfl (fun b16 => ?_)
  simp only [List.cons_append, List.nil_append]
  refine onX <| ?_
  refine dcX rfl (tdS rfl rfl rfl rfl rfl rfl) FDok.nil rfl <| ?_
  refine dyX rfl (yq_assign rfl) rfl <| outX0 <| dnX <| ?_
  simp only [List.nil_append, List.append_nil, List.cons_append]
  refine sd_selO [] (by decide) rfl ?_
  simp only [pickL, zf1, zf2, zf3, zf4]
  exact sd_at () trivial (by repeat (first | exact .nil | refine .cons rfl ?_ | refine .cons' rfl (by first | (simp [vI]; done) | (congr 3; omega) | (simp [vI]; omega)) ?_)) rfl rfl
 rintro _ _
 refine sd_seq <| qR <| tM rfl rfl <| ?_
 refine sd_eq 30 (.d (.v (.bool (decide (innerB (c ++ [l]) = true))))) rfl (by simp [vB]) ?_
 refine tM rfl rfl <| ?_
 refine sd_caseP 31 rfl (fun hg31 => ?_) (fun hg31 => ?_)
 ·
  refine tYg rfl rfl (yq_move rfl) rfl <| ?_
  refine sd_eq 32 (.d (.v (.bool (decide (innerB (c ++ [l.rev]) = true))))) rfl (by simp [vB]) ?_
  refine tY (yq_pickT rfl rfl) rfl <| sd_end <| ?_
  refine sd_condP rfl (fun hc33 => ?_) (fun hc33 => ?_)
  ·
   refine qR <| tA rfl rfl <| sd_end <| sd_ret <| ?_
   exact sd_done (.tmp rfl .nil) (by show vI 0 = vI _; congr 1; unfold placeL; simp_all)
  ·
   refine sd_skipc <| sd_seq <| qR <| tM rfl rfl <| ?_
   refine sd_eq 34 (.d (.v (.bool (decide (innerB (c ++ [l]) = true))))) rfl (by simp [vB]) ?_
   refine sd_end <| ?_
   refine sd_condP rfl (fun hc34 => ?_) (fun hc34 => ?_)
   ·
    refine qR <| tA rfl rfl <| sd_end <| sd_ret <| ?_
    exact sd_done (.tmp rfl .nil) (by show vI 1 = vI _; congr 1; unfold placeL; simp_all)
   ·
    refine sd_skipc <| qR <| tA rfl rfl <| sd_end <| sd_ret <| ?_
    exact sd_done (.tmp rfl .nil) (by exact absurd hg31 hc34)
 ·
  refine tS rfl rfl rfl rfl <| tY (yq_pickF rfl rfl) rfl <| sd_end <| sd_condF rfl <| sd_skipc <| sd_seq <| qR <| tM rfl rfl <| ?_
  refine sd_eq 34 (.d (.v (.bool (decide (innerB (c ++ [l]) = true))))) rfl (by simp [vB]) ?_
  refine sd_end <| ?_
  refine sd_condP rfl (fun hc34 => ?_) (fun hc34 => ?_)
  ·
   refine qR <| tA rfl rfl <| sd_end <| sd_ret <| ?_
   exact sd_done (.tmp rfl .nil) (by exact absurd hc34 hg31)
  ·
   refine sd_skipc <| qR <| tA rfl rfl <| sd_end <| sd_ret <| ?_
   exact sd_done (.tmp rfl .nil) (by show vI (-1) = vI _; congr 1; unfold placeL; simp_all)
theorem takeWhile_len {α : Type} {p : α → Bool} : ∀ {xs : List α} {n : Nat}, n ≤ xs.length → (∀ j (h : j < xs.length), j < n → p xs[j] = true) → (∀ h : n < xs.length, p xs[n] = false) → (xs.takeWhile p).length = n
 | [], n, h, _, _ => by simp at h; subst h; rfl
 | x :: xs, 0, _, _, h3 => by
   have := h3 (by simp)
   simp only [List.getElem_cons_zero] at this
   simp [List.takeWhile_cons, this]
 | x :: xs, n + 1, h1, h2, h3 => by
   have hx := h2 0 (by simp) (by omega)
   simp only [List.getElem_cons_zero] at hx
   rw [List.takeWhile_cons, if_pos hx, List.length_cons]
   rw [takeWhile_len (n := n) (by simpa using h1) (fun j h hj => by have := h2 (j + 1) (by simpa using h) (by omega); simpa using this) (fun h => by have := h3 (by simpa using h); simpa using this)]
theorem angIdx_eq {xs : List LnQ} {l : LnQ} {n : Nat} (h1 : n ≤ xs.length) (h2 : ∀ j (h : j < xs.length), j < n → angleQ xs[j].dir l.dir < 0) (h3 : ∀ h : n < xs.length, ¬ angleQ xs[n].dir l.dir < 0) : angIdx xs l = n :=
 takeWhile_len h1 (fun j h hj => decide_eq_true (h2 j h hj)) (fun h => decide_eq_false (h3 h))
theorem canonIns_old {xs : List LnQ} {l : LnQ} {n : Nat} (hn : angIdx xs l = n) (h : n < xs.length) (e : xs[n] = l) : canonIns xs l = xs := by
 unfold canonIns; rw [hn, if_pos (by rw [List.getElem?_eq_getElem h, e])]
theorem canonIns_new {xs : List LnQ} {l : LnQ} {n : Nat} (hn : angIdx xs l = n) (h : ∀ h : n < xs.length, xs[n] ≠ l) : canonIns xs l = xs.take n ++ l :: xs.drop n := by
 unfold canonIns
 rw [hn, if_neg]
 intro e
 obtain ⟨h1, h2⟩ := List.getElem?_eq_some_iff.1 e
 exact h h1 h2
theorem slOkLt (xs : List LnQ) (n : Nat) : slOk 6 ((xs.map eL).take n) := fun d hd => slOkL xs d (List.mem_of_mem_take hd)
theorem slOkLd (xs : List LnQ) (n m : Nat) : slOk 6 (((xs.map eL).take n).drop m) := fun d hd => slOkL xs d (List.mem_of_mem_take (List.mem_of_mem_drop hd))
theorem slOkLi (xs : List LnQ) (n m : Nat) (l : LnQ) : slOk 6 ([eL l] ++ ((xs.map eL).take n).drop m) := fun d hd => by
 rcases List.mem_append.1 hd with h | h
 · exact slOkL [l] d h
 · exact slOkLd xs n m d h
structure Cst (c : List LnQ) (k : Nat) (xs : List LnQ) : Prop where
 le : k ≤ c.length
 f : canonF c (c.drop k) xs = canonL c
 m : ∀ m ∈ xs, m ∈ c
 n : xs.length ≤ k
theorem Cst.skip {c xs : List LnQ} {k : Nat} (h : Cst c k xs) (hk : k < c.length) (e : (partL c[k] c IvQ.all).isSome = false) : Cst c (k + 1) xs := by
 have := h.f
 rw [List.drop_eq_getElem_cons hk, canonF, e] at this
 exact ⟨hk, this, h.m, by have := h.n; omega⟩
theorem Cst.ins {c xs ys : List LnQ} {k : Nat} (h : Cst c k xs) (hk : k < c.length) (e : (partL c[k] c IvQ.all).isSome = true) (hy : canonIns xs c[k] = ys) (hl : ys.length ≤ xs.length + 1) : Cst c (k + 1) ys := by
 have := h.f
 rw [List.drop_eq_getElem_cons hk, canonF, e, if_pos rfl, hy] at this
 refine ⟨hk, this, fun m hm => ?_, by have := h.n; omega⟩
 rw [← hy] at hm
 rcases mem_canonIns.1 hm with rfl | hm
 · exact List.getElem_mem hk
 · exact h.m m hm
theorem Cst.done {c xs : List LnQ} {k : Nat} (h : Cst c k xs) (hk : k = c.length) : canonL c = xs := by
 have := h.f
 rw [hk, List.drop_length, canonF] at this
 exact this.symm
theorem Cst.nil (c : List LnQ) : Cst c 0 [] := ⟨Nat.zero_le _, rfl, fun m hm => absurd hm (by simp), Nat.le_refl _⟩
set_option maxHeartbeats 4000000 in
theorem q_Canon {GB : Gh} {c : List LnQ} (hc : ∀ m ∈ c, LB m) (hok : ∀ m ∈ c, m.ok) (hn : c.length ≤ 1000) : PX GB Tryz.prog 28 [.sl (c.map eL)] Bool (fun b => .tp [.sl ((canonL c).map eL), vB b]) := by
 refine PX.intro Tryz.func28 rfl rfl Tryz.ntmps28 rfl ?_
 intro C
 have hcl := mapL_len c
 refine qR <| tA rfl rfl <| tA rfl rfl <| sd_end <| qR <| tA rfl rfl <| sd_end <| sd_seq <| qR <| ?_
 refine tM rfl rfl <| tY (yq_len rfl) rfl <| ?_
 refine sd_eq 11 (.d (vI (c.length : Nat))) rfl (by rw [hcl]; rfl) ?_
 refine tM rfl rfl <| sd_end <| sd_block <| ?_
 refine sd_nilS 4 rfl ?_
 refine sd_loop (X := List LnQ × Nat) (fun x => [(12, .d (vI (x.2 : Nat))), (11, .d (vI (c.length : Nat))), (10, .d (.sl (c.map eL))), (0, .d (.sl (c.map eL))), (4, .d (.sl (x.1.map eL)))]) (fun x => []) (fun x => []) (fun x => Cst c x.2 x.1) (fun x => c.length - x.2) ⟨[], 0⟩ (by dsimp only; exact (Cst.nil c)) (by repeat (first | exact .nil | refine .cons rfl ?_ | refine .cons' rfl (by first | (simp [vI]; done) | (congr 3; omega) | (simp [vI]; omega)) ?_)) rfl rfl ?_
 rintro GB1 hGB1 ⟨xs, k⟩ hS
 try dsimp only at *
 refine qR <| tY (yq_lss rfl rfl) rfl <| sd_end <| sd_seq <| ?_
 refine sd_condP rfl (fun hc13 => ?_) (fun hc13 => ?_)
 ·
  have hk : k < c.length := by omega
  obtain ⟨m, hm⟩ : ∃ m, m = c[k] := ⟨_, rfl⟩
  haveI hmb : LB m := hm ▸ hc _ (List.getElem_mem hk)
  have hmo : m.ok := hm ▸ hok _ (List.getElem_mem hk)
  have hxl := mapL_len xs
  have hxn := hS.n
  refine sd_skipc <| sd_seq <| sd_block <| qR <| tM rfl rfl <| tY (yq_ix rfl rfl (by omega) (mapL_get hk) rfl rfl) rfl <| tY (yq_ldE rfl rfl) rfl <| ?_
  refine sd_eq 16 (.d (eL m)) rfl (by rw [hm]; rfl) ?_
  refine tF (tf_alloc rfl) <| ?_
  intro b1
  refine tA rfl rfl <| tC (tdS rfl rfl rfl rfl rfl rfl) <| ?_
  refine sd_end <| sd_seq <| qR <| tM rfl rfl <| tM rfl rfl <| tF (tf_callX rfl rfl (q_edge hc hok hn hk) rfl) <| ?_
  rintro ⟨⟨s, ok⟩, he1, he2, he3⟩; try dsimp only
  dsimp only at he1 he2 he3
  refine tM rfl rfl <| tY (yq_ext rfl rfl) rfl <| tY (yq_ext rfl rfl) rfl <| tF (tf_alloc rfl) <| ?_
  intro b2
  refine tC (tdS rfl rfl rfl rfl rfl rfl) <| ?_
  refine tA rfl rfl <| sd_end <| qR <| tM rfl rfl <| tY (yq_not rfl) rfl <| ?_
  refine sd_eq 24 (.d (.v (.bool (decide (ok = false))))) rfl (by cases ok <;> rfl) ?_
  refine sd_end <| ?_
  refine sd_condP rfl (fun hc24 => ?_) (fun hc24 => ?_)
  ·
   have hinv : Cst c (k + 1) xs := hS.skip hk (by rw [← he1]; exact hc24)
   refine sd_exit <| sd_ts <| sd_inBlock_eq <| sd_region <| tY (yq_add64 rfl rfl) rfl <| tM rfl rfl <| sd_end <| ?_
   refine sd_selO [] (by decide) rfl ?_
   simp only [pickL, zf1, zf2, zf3, zf4]
   exact sd_again ⟨xs, k + 1⟩ (by dsimp only; exact hinv) (by dsimp only; omega) (by repeat (first | exact .nil | refine .cons rfl ?_ | refine .cons' rfl (by first | (simp [vI]; done) | (rw [hys]; simp [hxl]; exact ⟨rfl, by rw [List.take_of_length_le (by simp)]⟩)) ?_)) rfl rfl
  ·
   have hyes : (partL c[k] c IvQ.all).isSome = true := by rw [← he1]; simpa using hc24
   refine sd_skipc <| qR <| tA rfl rfl <| sd_end <| ?_
   refine sd_cut (Unit) (fun _ => [(12, .d (vI (k : Nat))), (11, .d (vI (c.length : Nat))), (10, .d (.sl (c.map eL))), (0, .d (.sl (c.map eL))), (4, .d (.sl (xs.map eL))), (6, .d (.v (.pointer (some ⟨b1, 0, none⟩)))), (9, .d (vI (angIdx xs m : Nat)))]) (fun _ => [⟨b1, (eL m).cells, 32, true⟩]) (fun _ => []) (fun _ => True) ?_ ?_
   ·
    refine sd_block <| ?_
    refine sd_selO [1] (by decide) rfl ?_
    simp only [pickL, zf1, zf2, zf3, zf4]
    refine sd_loop (X := Nat) (fun x => [(12, .d (vI (k : Nat))), (11, .d (vI (c.length : Nat))), (10, .d (.sl (c.map eL))), (0, .d (.sl (c.map eL))), (4, .d (.sl (xs.map eL))), (6, .d (.v (.pointer (some ⟨b1, 0, none⟩)))), (9, .d (vI (x : Nat)))]) (fun x => [⟨b1, (eL m).cells, 32, true⟩]) (fun x => []) (fun x => x ≤ xs.length ∧ ∀ j (h : j < xs.length), j < x → angleQ xs[j].dir m.dir < 0) (fun x => xs.length - x) 0 ⟨Nat.zero_le _, fun j _ hj => absurd hj (by omega)⟩ (by repeat (first | exact .nil | refine .cons rfl ?_ | refine .cons' rfl (by first | (simp [vI]; done) | (congr 3; omega) | (simp [vI]; omega)) ?_)) rfl rfl ?_
    rintro GB2 hGB2 n ⟨n1, n2⟩
    try dsimp only at *
    refine sd_seq <| sd_seq <| ?_
    refine drX (own0 := _) (own1 := []) (bs0 := []) (bs1 := _) [] [(0, true), (1, true), (2, true), (3, true), (4, true), (5, true), (6, true), (7, true), (8, true), (10, true), (9, false), (11, false), (12, false), (13, true), (14, true)] [] follows (by rw [List.append_nil]) (List.Perm.refl _) (by kernel_rfl) ?_
    refine dyX rfl (yq_move rfl) rfl <| ?_
    refine dyX rfl (yq_move rfl) rfl <| ?_
    refine dyX rfl (yq_len rfl) rfl <| ?_
    refine dyX rfl (yq_lss rfl rfl) rfl <| ?_
    refine dyX rfl (yq_move rfl) rfl <| ?_
    refine sr_caseP 29 rfl (fun hg29 => ?_) (fun hg29 => ?_)
    ·
     refine dygX rfl rfl rfl (yq_move rfl) rfl <| ?_
     refine dygX rfl rfl rfl (yq_move rfl) rfl <| ?_
     refine dygX rfl rfl rfl (yq_ix rfl rfl (by omega) (mapL_get (by omega)) rfl rfl) rfl <| ?_
     refine dygX rfl rfl rfl (yq_ldE rfl rfl) rfl <| ?_
     refine dygX rfl rfl rfl (yq_ldO rfl rfl) rfl <| ?_
     haveI : LB (xs[n]'(by omega)) := hc _ (hS.m _ (List.getElem_mem _))
     refine dcgX rfl rfl rfl (td_call rfl rfl (q_Dir (l := xs[n]'(by omega))) rfl) FDok.nil rfl <| ?_
     refine dcgX rfl rfl rfl (td_call rfl rfl (q_Dir (l := m)) rfl) FDok.nil rfl <| ?_
     refine dcgX rfl rfl rfl (td_call rfl rfl (q_Angle (u := (xs[n]'(by omega)).dir) (v := m.dir)) rfl) FDok.nil rfl <| ?_
     refine dygX rfl rfl rfl (yq_lss rfl rfl) rfl <| ?_
     refine dyX rfl (yq_pickT rfl rfl) rfl <| ?_
     refine outX0 <| onX <| outX0 <| dnX <| ?_
     simp only [List.nil_append, List.append_nil, List.cons_append]
     refine sd_condP rfl (fun hc39 => ?_) (fun hc39 => ?_)
     ·
      refine sd_skipc <| sd_block <| sd_region <| tM rfl rfl <| tY (yq_add64 rfl rfl) rfl <| tA rfl rfl <| sd_end <| ?_
      exact sd_again (n + 1) ⟨by omega, fun j h hj => by by_cases q : j = n; (subst q; exact hc39); exact n2 j h (by omega)⟩ (by omega) (by repeat (first | exact .nil | refine .cons rfl ?_ | refine .cons' rfl (by first | (simp [vI]; done) | (congr 3; omega) | (simp [vI]; omega)) ?_)) rfl rfl
     ·
      refine sd_exit <| sd_ts <| sd_te <| sd_inBlock_eq <| ?_
      have hidx : angIdx xs m = n := angIdx_eq n1 n2 (fun h => hc39)
      exact sd_atU hGB2 () trivial (by repeat (first | exact .nil | refine .cons rfl ?_ | refine .cons' rfl (by rw [hidx]) ?_)) rfl rfl
    ·
     refine dysX rfl rfl rfl rfl rfl <| dysX rfl rfl rfl rfl rfl <| dysX rfl rfl rfl rfl rfl <| dysX rfl rfl rfl rfl rfl <| dysX rfl rfl rfl rfl rfl <| dcsX rfl rfl rfl rfl rfl FDok.nil rfl <| ?_
     refine dcsX rfl rfl rfl rfl rfl FDok.nil rfl <| dcsX rfl rfl rfl rfl rfl FDok.nil rfl <| dysX rfl rfl rfl rfl rfl <| ?_
     refine dyX rfl (yq_pickF rfl rfl) rfl <| ?_
     refine outX0 <| onX <| outX0 <| dnX <| ?_
     simp only [List.nil_append, List.append_nil, List.cons_append]
     refine sd_condF rfl <| sd_exit <| sd_ts <| sd_te <| sd_inBlock_eq <| ?_
     have hidx : angIdx xs m = n := angIdx_eq n1 n2 (fun h => absurd h (by omega))
     exact sd_atU hGB2 () trivial (by repeat (first | exact .nil | refine .cons rfl ?_ | refine .cons' rfl (by rw [hidx]) ?_)) rfl rfl
   rintro _ _
   obtain ⟨n, hnx⟩ : ∃ n, angIdx xs m = n := ⟨_, rfl⟩
   rw [hnx]
   have hnl : n ≤ xs.length := by rw [← hnx]; unfold angIdx; exact (List.takeWhile_sublist _).length_le
   have hcb : ∀ m ∈ xs, LB m := fun m hm => hc m (hS.m m hm)
   refine sd_seq <| sd_seq <| ?_
   refine drX (own0 := _) (own1 := []) (bs0 := []) (bs1 := _) [] [(0, true), (1, true), (2, true), (3, true), (4, true), (5, true), (6, true), (7, true), (8, true), (9, true), (10, false), (11, true), (12, true)] [] follows (by rw [List.append_nil]) (List.Perm.refl _) (by kernel_rfl) ?_
   refine dyX rfl (yq_move rfl) rfl <| ?_
   refine dyX rfl (yq_move rfl) rfl <| ?_
   refine dyX rfl (yq_len rfl) rfl <| ?_
   refine dyX rfl (yq_lss rfl rfl) rfl <| ?_
   refine dyX rfl (yq_move rfl) rfl <| ?_
   refine sr_caseP 46 rfl (fun hg46 => ?_) (fun hg46 => ?_)
   ·
    refine dygX rfl rfl rfl (yq_move rfl) rfl <| ?_
    refine dygX rfl rfl rfl (yq_move rfl) rfl <| ?_
    refine dygX rfl rfl rfl (yq_ix rfl rfl (by omega) (mapL_get (by omega)) rfl rfl) rfl <| ?_
    refine dygX rfl rfl rfl (yq_ldE rfl rfl) rfl <| ?_
    refine dygX rfl rfl rfl (yq_ldO rfl rfl) rfl <| ?_
    refine dcgX rfl rfl rfl (td_call rfl rfl (q_LCmp (l := xs[n]'(by omega)) (m := m) (hl := hcb _ (List.getElem_mem (by omega)))) rfl) FDok.nil rfl <| ?_
    refine dygX rfl rfl rfl (yq_eql rfl rfl) rfl <| ?_
    refine dyX rfl (yq_pickT rfl rfl) rfl <| ?_
    refine outX0 <| onX <| outX0 <| dnX <| ?_
    simp only [List.nil_append, List.append_nil, List.cons_append]
    refine sd_condP rfl (fun hc54 => ?_) (fun hc54 => ?_)
    ·
     have hn46 : n < xs.length := by omega
     have hinv : Cst c (k + 1) xs := hS.ins hk hyes (by rw [← hm]; exact canonIns_old hnx hn46 ((lcmp_zero _ m).1 hc54)) (by omega)
     refine sd_exit <| sd_ts <| sd_inBlock_eq <| sd_region <| tY (yq_add64 rfl rfl) rfl <| tM rfl rfl <| sd_end <| ?_
     refine sd_selO [] (by decide) rfl ?_
     simp only [pickL, zf1, zf2, zf3, zf4]
     exact sd_again ⟨xs, k + 1⟩ (by dsimp only; exact hinv) (by dsimp only; omega) (by repeat (first | exact .nil | refine .cons rfl ?_ | refine .cons' rfl (by first | (simp [vI]; done) | (rw [hys]; simp [hxl]; exact ⟨rfl, by rw [List.take_of_length_le (by simp)]⟩)) ?_)) rfl rfl
    ·
     have hnew : ∀ h : n < xs.length, xs[n] ≠ m := fun h e => hc54 ((lcmp_zero _ m).2 e)
     obtain ⟨ys, hys⟩ : ∃ ys, ys = xs.take n ++ m :: xs.drop n := ⟨_, rfl⟩
     have hinv : Cst c (k + 1) ys := hS.ins hk hyes (by rw [← hm, canonIns_new hnx hnew, hys]) (by rw [hys]; simp; omega)
     refine sd_skipc <| ?_
     refine drX (own0 := _) (own1 := []) (bs0 := []) (bs1 := _) [] [(0, true), (1, true), (2, true), (3, true), (4, true), (6, true), (7, true), (8, true), (5, false), (9, false), (10, false), (11, true)] [] follows (by rw [List.append_nil]) (List.Perm.refl _) (by kernel_rfl) ?_
     refine dyX rfl (yq_move rfl) rfl <| ?_
     refine dyX rfl (yq_move rfl) rfl <| ?_
     refine dyX rfl (yq_move rfl) rfl <| ?_
     refine dyX rfl (yq_slice3 (nhi := n) rfl (slOkL _) rfl rfl (by rw [hxl]; exact hnl)) rfl <| ?_
     refine dyX rfl (yq_ldO rfl rfl) rfl <| ?_
     refine dyX rfl (yq_move rfl) rfl <| ?_
     refine dyX rfl (yq_move rfl) rfl <| ?_
     refine dyX rfl (yq_slice (nlo := n) (nhi := xs.length) rfl (slOkL _) rfl hxl.symm trivial hnl (by omega)) rfl <| ?_
     refine dfX rfl (tf_row rfl rfl rfl rfl rfl rfl rfl) FDok.nil rfl <| ?_
     intro w3
     refine dcX rfl (td_appendZ (w := w3) rfl (by repeat (first | exact .hd .. | apply BRemD.tl)) (.sl rfl (slOkLd _ _ _)) rfl (by simp; omega) rfl rfl) FDok.nil rfl <| ?_
     refine dcX rfl (td_appendCZ rfl (slOkLt _ _) (.sl rfl (slOkLi _ _ _ _)) (by simp) rfl (by simp; omega) rfl rfl) FDok.nil rfl <| ?_
     refine dyX rfl (yq_assign rfl) rfl <| ?_
     refine outX0 <| onX <| outX0 <| dnX <| ?_
     simp only [List.nil_append, List.append_nil, List.cons_append]
     refine sd_region <| tY (yq_add64 rfl rfl) rfl <| tM rfl rfl <| sd_end <| ?_
     refine sd_selO [] (by decide) rfl ?_
     simp only [pickL, zf1, zf2, zf3, zf4]
     exact sd_again ⟨ys, k + 1⟩ (by dsimp only; exact hinv) (by dsimp only; omega) (by repeat (first | exact .nil | refine .cons rfl ?_ | refine .cons' rfl (by first | (simp [vI]; done) | (rw [hys]; simp [hxl]; exact ⟨rfl, by rw [List.take_of_length_le (by simp)]⟩)) ?_)) rfl rfl
   ·
    have hnew : ∀ h : n < xs.length, xs[n] ≠ m := fun h => absurd h (by omega)
    obtain ⟨ys, hys⟩ : ∃ ys, ys = xs.take n ++ m :: xs.drop n := ⟨_, rfl⟩
    have hinv : Cst c (k + 1) ys := hS.ins hk hyes (by rw [← hm, canonIns_new hnx hnew, hys]) (by rw [hys]; simp; omega)
    refine dysX rfl rfl rfl rfl rfl <| dysX rfl rfl rfl rfl rfl <| dysX rfl rfl rfl rfl rfl <| dysX rfl rfl rfl rfl rfl <| dysX rfl rfl rfl rfl rfl <| dcsX rfl rfl rfl rfl rfl FDok.nil rfl <| ?_
    refine dysX rfl rfl rfl rfl rfl <| ?_
    refine dyX rfl (yq_pickF rfl rfl) rfl <| ?_
    refine outX0 <| onX <| outX0 <| dnX <| ?_
    simp only [List.nil_append, List.append_nil, List.cons_append]
    refine sd_condF rfl <| sd_skipc <| ?_
    refine drX (own0 := _) (own1 := []) (bs0 := []) (bs1 := _) [] [(0, true), (1, true), (2, true), (3, true), (4, true), (6, true), (7, true), (8, true), (5, false), (9, false), (10, false), (11, true)] [] follows (by rw [List.append_nil]) (List.Perm.refl _) (by kernel_rfl) ?_
    refine dyX rfl (yq_move rfl) rfl <| ?_
    refine dyX rfl (yq_move rfl) rfl <| ?_
    refine dyX rfl (yq_move rfl) rfl <| ?_
    refine dyX rfl (yq_slice3 (nhi := n) rfl (slOkL _) rfl rfl (by rw [hxl]; exact hnl)) rfl <| ?_
    refine dyX rfl (yq_ldO rfl rfl) rfl <| ?_
    refine dyX rfl (yq_move rfl) rfl <| ?_
    refine dyX rfl (yq_move rfl) rfl <| ?_
    refine dyX rfl (yq_slice (nlo := n) (nhi := xs.length) rfl (slOkL _) rfl hxl.symm trivial hnl (by omega)) rfl <| ?_
    refine dfX rfl (tf_row rfl rfl rfl rfl rfl rfl rfl) FDok.nil rfl <| ?_
    intro w4
    refine dcX rfl (td_appendZ (w := w4) rfl (by repeat (first | exact .hd .. | apply BRemD.tl)) (.sl rfl (slOkLd _ _ _)) rfl (by simp; omega) rfl rfl) FDok.nil rfl <| ?_
    refine dcX rfl (td_appendCZ rfl (slOkLt _ _) (.sl rfl (slOkLi _ _ _ _)) (by simp) rfl (by simp; omega) rfl rfl) FDok.nil rfl <| ?_
    refine dyX rfl (yq_assign rfl) rfl <| ?_
    refine outX0 <| onX <| outX0 <| dnX <| ?_
    simp only [List.nil_append, List.append_nil, List.cons_append]
    refine sd_region <| tY (yq_add64 rfl rfl) rfl <| tM rfl rfl <| sd_end <| ?_
    refine sd_selO [] (by decide) rfl ?_
    simp only [pickL, zf1, zf2, zf3, zf4]
    exact sd_again ⟨ys, k + 1⟩ (by dsimp only; exact hinv) (by dsimp only; omega) (by repeat (first | exact .nil | refine .cons rfl ?_ | refine .cons' rfl (by first | (simp [vI]; done) | (rw [hys]; simp [hxl]; exact ⟨rfl, by rw [List.take_of_length_le (by simp)]⟩)) ?_)) rfl rfl
 ·
  have hfin : canonL c = xs := hS.done (by have := hS.le; omega)
  refine sd_exit <| sd_ts <| sd_te <| sd_inBlock_eq <| qR <| tM rfl rfl <| tM rfl rfl <| tY (yq_len rfl) rfl <| tY (yq_eql rfl rfl) rfl <| tM rfl rfl <| ?_
  refine sd_caseP 71 rfl (fun hg71 => ?_) (fun hg71 => ?_)
  ·
   refine tS rfl rfl rfl rfl <| tS rfl rfl rfl rfl <| tS rfl rfl rfl rfl <| tY (yq_pickT rfl rfl) rfl <| tA rfl rfl <| tA rfl rfl <| sd_end <| sd_ret <| ?_
   exact sd_doneX true (.tmp rfl (.tmp rfl .nil)) (by rw [hfin]; rfl)
  ·
   refine tYg rfl rfl (yq_move rfl) rfl <| tYg rfl rfl (yq_len rfl) rfl <| tYg rfl rfl (yq_gtr rfl rfl) rfl <| tY (yq_pickF rfl rfl) rfl <| tA rfl rfl <| tA rfl rfl <| ?_
   refine sd_end <| sd_ret <| ?_
   exact sd_doneX (decide ((0 : Int) < (((xs.map eL).length : Nat) : Int))) (.tmp rfl (.tmp rfl .nil)) (by rw [hfin]; rfl)
end Go.Sx
end

section
set_option maxRecDepth 100000
namespace Go.Sx
open Go Go.Proofs
theorem canonIns_len (out : List LnQ) (l : LnQ) : (canonIns out l).length ≤ out.length + 1 := by
 unfold canonIns
 split
 · omega
 · simp; omega
theorem canonF_len (c : List LnQ) : ∀ (t out : List LnQ), (canonF c t out).length ≤ out.length + t.length
 | [], out => by simp [canonF]
 | l :: t, out => by
   rw [canonF]
   refine Nat.le_trans (canonF_len c t _) ?_
   have := canonIns_len out l
   split <;> simp <;> omega
theorem canonL_len (c : List LnQ) : (canonL c).length ≤ c.length := Nat.le_trans (canonF_len c c []) (by simp)
theorem q_Canon' {GB : Gh} {ds : List DV} {c : List LnQ} (h : ds = c.map eL) (hc : ∀ m ∈ c, LB m) (hok : ∀ m ∈ c, m.ok) (hn : c.length ≤ 1000) : PX GB Tryz.prog 28 [.sl ds] Bool (fun b => .tp [.sl ((canonL c).map eL), vB b]) := by subst h; exact q_Canon hc hok hn
theorem lb_can {c : List LnQ} (h : ∀ m ∈ c, LB m) : ∀ m ∈ canonL c, LB m := fun m hm => h m (mem_canonL.1 hm).1
theorem ok_can {c : List LnQ} (h : ∀ m ∈ c, m.ok) : ∀ m ∈ canonL c, m.ok := fun m hm => h m (mem_canonL.1 hm).1
theorem q_with {GB : Gh} {c : List LnQ} {l : LnQ} (hc : ∀ m ∈ c, LB m) (hok : ∀ m ∈ c, m.ok) (hn : c.length ≤ 900) (hl : LB l) (hlo : l.ok) : PF GB Tryz.prog 55 [.sl (c.map eL), eL l] (.sl ((canonL (c ++ [l])).map eL)) := by
 refine PF.intro Tryz.func55 rfl rfl Tryz.ntmps55 rfl ?_
 intro C
 have hcl := mapL_len c
 refine qR <| tF (tf_box rfl rfl rfl) <| ?_
 intro b1
 refine tA rfl rfl <| sd_end <| ?_
 refine sd_cut (Unit) (fun _ => [(5, .d (.sl ((canonL (c ++ [l])).map eL)))]) (fun _ => []) (fun _ => []) (fun _ => True) ?_ ?_
 ·
  refine drN (own0 := _) (own1 := []) (bs0 := []) (bs1 := _) [] (.q 1 (.q 3 (.c 0 (.c 2 (.z [(4, false), (5, false), (6, false), (7, true), (8, true), (9, true), (10, true), (11, true)]) (.a 4 (.z [(2, false), (5, false), (6, false), (7, true), (8, true), (9, true), (10, true), (11, true)]))) (.a 4 (.z [(0, false), (2, false), (5, false), (6, false), (7, true), (8, true), (9, true), (10, true), (11, true)]))))) 34 [] follows (by rw [List.append_nil]) (List.Perm.refl _) (by kernel_rfl) ?_
  refine dyN rfl (yq_move rfl) rfl <| ?_
  refine dyN rfl (yq_ldO rfl rfl) rfl <| ?_
  refine dfkN rfl (tf_row0 rfl) FDok.nil rfl ?_ ?_
  ·
   intro w2
   refine dfkN rfl (tf_append (w := w2) rfl (by repeat (first | exact .hd .. | apply BRemD.tl)) (.sl rfl (slOkL _)) rfl (by rw [hcl]; show (0 + c.length) * _ ≤ _; omega) rfl rfl) FDok.nil rfl ?_ ?_
   ·
    intro w3
    refine zN <| ?_
    refine dcX rfl (td_rowF rfl rfl rfl rfl rfl rfl rfl) FDok.nil rfl <| ?_
    refine dcX rfl (td_appendZ (w := w3) rfl (by repeat (first | exact .hd .. | apply BRemD.tl)) (.sl rfl (slOkL [_])) rfl (by simp only [List.nil_append, List.length_cons, List.length_nil]; rw [hcl]; omega) rfl rfl) FDok.nil rfl <| ?_
    refine dfX rfl (tf_callX rfl rfl (q_Canon' (c := c ++ [l]) (by rw [List.map_append]; rfl) (lb_app hc hl) (ok_app hok hlo) (by simp; omega)) rfl) FDok.nil rfl <| ?_
    rintro bb4; try dsimp only
    refine dyX rfl (yq_move rfl) rfl <| ?_
    refine dyX rfl (yq_ext rfl rfl) rfl <| ?_
    refine dyX rfl (yq_ext rfl rfl) rfl <| ?_
    refine dyX rfl (yq_assign rfl) rfl <| ?_
    refine dyX rfl (yq_assign rfl) rfl <| ?_
    refine outX0 <| onX <| outX0 <| dnX <| ?_
    simp only [List.nil_append, List.append_nil, List.cons_append]
    refine sd_selO [] (by decide) rfl ?_
    simp only [pickL, zf1, zf2, zf3, zf4]
    exact sd_at () trivial (by repeat (first | exact .nil | refine .cons rfl ?_ | refine .cons' rfl (by first | (simp [vI]; done) | (congr 3; omega) | (simp [vI]; omega)) ?_)) rfl rfl
   ·
    refine dcN rfl (td_rowF rfl rfl rfl rfl rfl rfl rfl) FDok.nil rfl <| zN <| ?_
    refine dfX rfl (tf_append (w := w2) rfl (by repeat (first | exact .hd .. | apply BRemD.tl)) (.sl rfl (slOkL _)) rfl (by rw [hcl]; show (0 + c.length) * _ ≤ _; omega) rfl rfl) FDok.nil rfl <| ?_
    intro w5
    refine dcX rfl (td_appendZ (w := w5) rfl (by repeat (first | exact .hd .. | apply BRemD.tl)) (.sl rfl (slOkL [_])) rfl (by simp only [List.nil_append, List.length_cons, List.length_nil]; rw [hcl]; omega) rfl rfl) FDok.nil rfl <| ?_
    refine dfX rfl (tf_callX rfl rfl (q_Canon' (c := c ++ [l]) (by rw [List.map_append]; rfl) (lb_app hc hl) (ok_app hok hlo) (by simp; omega)) rfl) FDok.nil rfl <| ?_
    rintro bb6; try dsimp only
    refine dyX rfl (yq_move rfl) rfl <| ?_
    refine dyX rfl (yq_ext rfl rfl) rfl <| ?_
    refine dyX rfl (yq_ext rfl rfl) rfl <| ?_
    refine dyX rfl (yq_assign rfl) rfl <| ?_
    refine dyX rfl (yq_assign rfl) rfl <| ?_
    refine outX0 <| onX <| outX0 <| dnX <| ?_
    simp only [List.nil_append, List.append_nil, List.cons_append]
    refine sd_selO [] (by decide) rfl ?_
    simp only [pickL, zf1, zf2, zf3, zf4]
    exact sd_at () trivial (by repeat (first | exact .nil | refine .cons rfl ?_ | refine .cons' rfl (by first | (simp [vI]; done) | (congr 3; omega) | (simp [vI]; omega)) ?_)) rfl rfl
  ·
   refine dcN rfl (td_rowF rfl rfl rfl rfl rfl rfl rfl) FDok.nil rfl <| zN <| ?_
   refine dfX rfl (tf_row0 rfl) FDok.nil rfl <| ?_
   intro w7
   refine dfX rfl (tf_append (w := w7) rfl (by repeat (first | exact .hd .. | apply BRemD.tl)) (.sl rfl (slOkL _)) rfl (by rw [hcl]; show (0 + c.length) * _ ≤ _; omega) rfl rfl) FDok.nil rfl <| ?_
   intro w8
   refine dcX rfl (td_appendZ (w := w8) rfl (by repeat (first | exact .hd .. | apply BRemD.tl)) (.sl rfl (slOkL [_])) rfl (by simp only [List.nil_append, List.length_cons, List.length_nil]; rw [hcl]; omega) rfl rfl) FDok.nil rfl <| ?_
   refine dfX rfl (tf_callX rfl rfl (q_Canon' (c := c ++ [l]) (by rw [List.map_append]; rfl) (lb_app hc hl) (ok_app hok hlo) (by simp; omega)) rfl) FDok.nil rfl <| ?_
   rintro bb9; try dsimp only
   refine dyX rfl (yq_move rfl) rfl <| ?_
   refine dyX rfl (yq_ext rfl rfl) rfl <| ?_
   refine dyX rfl (yq_ext rfl rfl) rfl <| ?_
   refine dyX rfl (yq_assign rfl) rfl <| ?_
   refine dyX rfl (yq_assign rfl) rfl <| ?_
   refine outX0 <| onX <| outX0 <| dnX <| ?_
   simp only [List.nil_append, List.append_nil, List.cons_append]
   refine sd_selO [] (by decide) rfl ?_
   simp only [pickL, zf1, zf2, zf3, zf4]
   exact sd_at () trivial (by repeat (first | exact .nil | refine .cons rfl ?_ | refine .cons' rfl (by first | (simp [vI]; done) | (congr 3; omega) | (simp [vI]; omega)) ?_)) rfl rfl
 rintro _ _
 refine qR <| tM rfl rfl <| tA rfl rfl <| sd_end <| sd_ret <| ?_
 exact sd_done (.tmp rfl .nil) rfl
theorem q_join_n {GB : Gh} {l l1 : LnQ} {x y u : Tr} : PF GB Tryz.prog 54 [eL l, eT (.node l1 x y), eT u] (eT (.node l (.node l1 x y) u)) := by
 refine PF.intro Tryz.func54 rfl rfl Tryz.ntmps54 rfl ?_
 intro C
 refine qR <| tF (tf_box rfl rfl rfl) <| ?_
 intro b1
 refine tA rfl rfl <| sd_end <| sd_seq <| sd_seq <| ?_
 refine drX (own0 := _) (own1 := []) (bs0 := []) (bs1 := _) [] [(0, true), (1, true), (2, true), (3, true), (4, true), (5, true), (6, true), (7, true), (8, true), (9, true), (10, true), (11, true), (12, true), (13, true), (14, true), (15, true), (16, true), (17, true), (18, true), (19, true), (20, true)] [] follows (by rw [List.append_nil]) (List.Perm.refl _) (by kernel_rfl) ?_
 refine dyX rfl (yq_move rfl) rfl <| ?_
 refine dyX rfl (yq_nilT rfl) rfl <| ?_
 refine dyX rfl (yq_faE rfl rfl) rfl <| ?_
 refine dyX rfl (yq_ldE1 rfl rfl) rfl <| ?_
 refine dyX rfl (yq_move rfl) rfl <| dysX rfl rfl rfl rfl rfl <| dysX rfl rfl rfl rfl rfl <| dysX rfl rfl rfl rfl rfl <| dysX rfl rfl rfl rfl rfl <| ?_
 refine dyX rfl (yq_pickF rfl rfl) rfl <| ?_
 refine dyX rfl (yq_move rfl) rfl <| dysX rfl rfl rfl rfl rfl <| dysX rfl rfl rfl rfl rfl <| dysX rfl rfl rfl rfl rfl <| dysX rfl rfl rfl rfl rfl <| dysX rfl rfl rfl rfl rfl <| dysX rfl rfl rfl rfl rfl <| ?_
 refine dysX rfl rfl rfl rfl rfl <| dysX rfl rfl rfl rfl rfl <| dysX rfl rfl rfl rfl rfl <| ?_
 refine dyX rfl (yq_pickF rfl rfl) rfl <| ?_
 refine outX0 <| onX <| outX0 <| dnX <| ?_
 simp only [List.nil_append, List.append_nil, List.cons_append]
 refine sd_condF rfl <| sd_skipc <| qR <| tY (yq_ldO rfl rfl) rfl <| tM rfl rfl <| tM rfl rfl <| tY (yq_build rfl) rfl <| tC (td_boxF rfl rfl rfl) <| ?_
 refine tA rfl rfl <| sd_end <| sd_ret <| ?_
 exact sd_done (.tmp rfl .nil) rfl
theorem q_join_ln {GB : Gh} {l l1 : LnQ} {x y : Tr} {p : Bool} : PF GB Tryz.prog 54 [eL l, eT (.leaf p), eT (.node l1 x y)] (eT (.node l (.leaf p) (.node l1 x y))) := by
 refine PF.intro Tryz.func54 rfl rfl Tryz.ntmps54 rfl ?_
 intro C
 refine qR <| tF (tf_box rfl rfl rfl) <| ?_
 intro b1
 refine tA rfl rfl <| sd_end <| sd_seq <| sd_seq <| ?_
 refine drX (own0 := _) (own1 := []) (bs0 := []) (bs1 := _) [] [(0, true), (1, true), (2, true), (3, true), (4, true), (5, true), (6, true), (7, true), (8, true), (9, true), (10, true), (11, true), (12, true), (13, true), (14, true), (15, true), (16, true), (17, true), (18, true), (19, true), (20, true)] [] follows (by rw [List.append_nil]) (List.Perm.refl _) (by kernel_rfl) ?_
 refine dyX rfl (yq_move rfl) rfl <| ?_
 refine dyX rfl (yq_nilT rfl) rfl <| ?_
 refine dyX rfl (yq_faE rfl rfl) rfl <| ?_
 refine dyX rfl (yq_ldE1 rfl rfl) rfl <| ?_
 refine dyX rfl (yq_move rfl) rfl <| ?_
 refine dygX rfl rfl rfl (yq_move rfl) rfl <| ?_
 refine dygX rfl rfl rfl (yq_nilT rfl) rfl <| ?_
 refine dygX rfl rfl rfl (yq_faE rfl rfl) rfl <| ?_
 refine dygX rfl rfl rfl (yq_ldE1 rfl rfl) rfl <| ?_
 refine dyX rfl (yq_pickT rfl rfl) rfl <| ?_
 refine dyX rfl (yq_move rfl) rfl <| dysX rfl rfl rfl rfl rfl <| dysX rfl rfl rfl rfl rfl <| dysX rfl rfl rfl rfl rfl <| dysX rfl rfl rfl rfl rfl <| dysX rfl rfl rfl rfl rfl <| dysX rfl rfl rfl rfl rfl <| ?_
 refine dysX rfl rfl rfl rfl rfl <| dysX rfl rfl rfl rfl rfl <| dysX rfl rfl rfl rfl rfl <| ?_
 refine dyX rfl (yq_pickF rfl rfl) rfl <| ?_
 refine outX0 <| onX <| outX0 <| dnX <| ?_
 simp only [List.nil_append, List.append_nil, List.cons_append]
 refine sd_condF rfl <| sd_skipc <| qR <| tY (yq_ldO rfl rfl) rfl <| tM rfl rfl <| tM rfl rfl <| tY (yq_build rfl) rfl <| tC (td_boxF rfl rfl rfl) <| ?_
 refine tA rfl rfl <| sd_end <| sd_ret <| ?_
 exact sd_done (.tmp rfl .nil) rfl
theorem q_join_ll {GB : Gh} {l : LnQ} {p q : Bool} : PF GB Tryz.prog 54 [eL l, eT (.leaf p), eT (.leaf q)] (eT (Tr.joinQ l (.leaf p) (.leaf q))) := by
 refine PF.intro Tryz.func54 rfl rfl Tryz.ntmps54 rfl ?_
 intro C
 refine qR <| tF (tf_box rfl rfl rfl) <| ?_
 intro b1
 refine tA rfl rfl <| sd_end <| sd_seq <| sd_seq <| ?_
 refine drX (own0 := _) (own1 := []) (bs0 := []) (bs1 := _) [] [(0, true), (1, true), (2, true), (3, true), (4, true), (5, true), (6, true), (7, true), (8, true), (9, true), (10, true), (11, true), (12, true), (13, true), (14, true), (15, true), (16, true), (17, true), (18, true), (19, true), (20, true)] [] follows (by rw [List.append_nil]) (List.Perm.refl _) (by kernel_rfl) ?_
 refine dyX rfl (yq_move rfl) rfl <| ?_
 refine dyX rfl (yq_nilT rfl) rfl <| ?_
 refine dyX rfl (yq_faE rfl rfl) rfl <| ?_
 refine dyX rfl (yq_ldE1 rfl rfl) rfl <| ?_
 refine dyX rfl (yq_move rfl) rfl <| ?_
 refine dygX rfl rfl rfl (yq_move rfl) rfl <| ?_
 refine dygX rfl rfl rfl (yq_nilT rfl) rfl <| ?_
 refine dygX rfl rfl rfl (yq_faE rfl rfl) rfl <| ?_
 refine dygX rfl rfl rfl (yq_ldE1 rfl rfl) rfl <| ?_
 refine dyX rfl (yq_pickT rfl rfl) rfl <| ?_
 refine dyX rfl (yq_move rfl) rfl <| ?_
 refine dygX rfl rfl rfl (yq_move rfl) rfl <| ?_
 refine dygX rfl rfl rfl (yq_nilT rfl) rfl <| ?_
 refine dygX rfl rfl rfl (yq_faE rfl rfl) rfl <| ?_
 refine dygX rfl rfl rfl (yq_ldE1 rfl rfl) rfl <| ?_
 refine dygX rfl rfl rfl (yq_move rfl) rfl <| ?_
 refine dygX rfl rfl rfl (yq_nilT rfl) rfl <| ?_
 refine dygX rfl rfl rfl (yq_faE rfl rfl) rfl <| ?_
 refine dygX rfl rfl rfl (yq_ldE1 rfl rfl) rfl <| ?_
 refine dygX rfl rfl rfl (yq_eqB rfl rfl) rfl <| ?_
 refine dyX rfl (yq_pickT rfl rfl) rfl <| ?_
 refine outX0 <| onX <| outX0 <| dnX <| ?_
 simp only [List.nil_append, List.append_nil, List.cons_append]
 refine sd_condP rfl (fun hc27 => ?_) (fun hc27 => ?_)
 ·
  refine qR <| tM rfl rfl <| tA rfl rfl <| sd_end <| sd_ret <| ?_
  exact sd_done (.tmp rfl .nil) (by rw [show Tr.joinQ l (.leaf p) (.leaf q) = .leaf p by simp [Tr.joinQ, Tr.isLeaf, Tr.code, hc27]]; rfl)
 ·
  refine sd_skipc <| qR <| tY (yq_ldO rfl rfl) rfl <| tM rfl rfl <| tM rfl rfl <| tY (yq_build rfl) rfl <| tC (td_boxF rfl rfl rfl) <| tA rfl rfl <| ?_
  refine sd_end <| sd_ret <| ?_
  exact sd_done (.tmp rfl .nil) (by rw [show Tr.joinQ l (.leaf p) (.leaf q) = .node l (.leaf p) (.leaf q) by simp [Tr.joinQ, Tr.isLeaf, Tr.code, hc27]]; rfl)
theorem q_join {GB : Gh} {l : LnQ} : ∀ {x y : Tr}, PF GB Tryz.prog 54 [eL l, eT x, eT y] (eT (Tr.joinQ l x y))
 | .leaf _, .leaf _ => q_join_ll
 | .leaf _, .node .. => q_join_ln
 | .node .., _ => q_join_n
theorem q_RRestrict_leaf {GB : Gh} {b : Bool} {c : List LnQ} : PF GB Tryz.prog 17 [eT (.leaf b), .sl (c.map eL)] (eT (Tr.restrictL (.leaf b) c)) := by
 refine PF.intro Tryz.func17 rfl rfl Tryz.ntmps17 rfl ?_
 intro C
 refine qR <| tA rfl rfl <| sd_end <| sd_seq <| qR <| tM rfl rfl <| tY (yq_nilT rfl) rfl <| tY (yq_faE rfl rfl) rfl <| tY (yq_ldE1 rfl rfl) rfl <| ?_
 refine sd_end <| sd_condT rfl <| qR <| tM rfl rfl <| tA rfl rfl <| sd_end <| sd_ret <| ?_
 exact sd_done (.tmp rfl .nil) rfl
theorem q_RRestrict_node {GB : Gh} {l : LnQ} {x y : Tr} {c : List LnQ} (hl : LB l) (hlo : l.ok) (hc : ∀ m ∈ c, LB m) (hok : ∀ m ∈ c, m.ok) (hn : c.length + (Tr.node l x y).depth ≤ 900) (ihx : ∀ {c : List LnQ}, (∀ m ∈ c, LB m) → (∀ m ∈ c, m.ok) → c.length + x.depth ≤ 900 → PF GB Tryz.prog 17 [eT x, .sl (c.map eL)] (eT (Tr.restrictL x c))) (ihy : ∀ {c : List LnQ}, (∀ m ∈ c, LB m) → (∀ m ∈ c, m.ok) → c.length + y.depth ≤ 900 → PF GB Tryz.prog 17 [eT y, .sl (c.map eL)] (eT (Tr.restrictL y c))) : PF GB Tryz.prog 17 [eT (.node l x y), .sl (c.map eL)] (eT (Tr.restrictL (.node l x y) c)) := by
 refine PF.intro Tryz.func17 rfl rfl Tryz.ntmps17 rfl ?_
 intro C
 have hdp : (Tr.node l x y).depth = 1 + Nat.max x.depth y.depth := rfl
 have hdx : x.depth ≤ Nat.max x.depth y.depth := Nat.le_max_left _ _
 have hdy : y.depth ≤ Nat.max x.depth y.depth := Nat.le_max_right _ _
 have hca := canonL_len (c ++ [l])
 have hcb := canonL_len (c ++ [l.rev])
 rw [List.length_append, List.length_singleton] at hca hcb
 refine qR <| tA rfl rfl <| sd_end <| sd_seq <| qR <| tM rfl rfl <| tY (yq_nilT rfl) rfl <| tY (yq_faE rfl rfl) rfl <| tY (yq_ldE1 rfl rfl) rfl <| ?_
 refine sd_end <| sd_condF rfl <| sd_skipc <| sd_seq <| qR <| tM rfl rfl <| tM rfl rfl <| tY (yq_nilT rfl) rfl <| tY (yq_faE rfl rfl) rfl <| tY (yq_ldE rfl rfl) rfl <| ?_
 refine tC (td_call rfl rfl (q_Place (c := c) (l := l) hc hok (by omega) hl hlo) rfl) <| sd_end <| sd_block <| qR <| tY (yq_eql rfl rfl) rfl <| tA rfl rfl <| ?_
 refine sd_end <| ?_
 refine sd_condP rfl (fun hc16 => ?_) (fun hc16 => ?_)
 ·
  refine qR <| tM rfl rfl <| tY (yq_nilT rfl) rfl <| tY (yq_faE rfl rfl) rfl <| tY (yq_ldE1 rfl rfl) rfl <| tM rfl rfl <| tC (td_call rfl rfl (ihx hc hok (by omega)) rfl) <| ?_
  refine tA rfl rfl <| sd_end <| sd_ret <| ?_
  exact sd_done (.tmp rfl .nil) (by rw [Tr.restrictL, if_pos hc16]; rfl)
 ·
  refine qR <| tY (yq_eql rfl rfl) rfl <| tA rfl rfl <| sd_end <| ?_
  refine sd_condP rfl (fun hc24 => ?_) (fun hc24 => ?_)
  ·
   refine qR <| tM rfl rfl <| tY (yq_nilT rfl) rfl <| tY (yq_faE rfl rfl) rfl <| tY (yq_ldE1 rfl rfl) rfl <| tM rfl rfl <| tC (td_call rfl rfl (ihy hc hok (by omega)) rfl) <| ?_
   refine tA rfl rfl <| sd_end <| sd_ret <| ?_
   exact sd_done (.tmp rfl .nil) (by rw [Tr.restrictL, if_neg hc16, if_pos hc24]; rfl)
  ·
   refine sd_skipc <| sd_seq <| ?_
   refine drX (own0 := _) (own1 := []) (bs0 := []) (bs1 := _) [] [(0, true), (1, true), (2, true), (3, true), (4, true), (5, true), (6, true), (7, true), (8, true), (9, true), (10, true), (11, true), (12, true), (15, true), (16, true), (17, true), (18, true), (19, true), (20, true), (21, true), (22, true), (23, true), (13, false), (14, false), (24, false), (25, false), (26, false), (27, false), (28, true)] [] follows (by rw [List.append_nil]) (List.Perm.refl _) (by kernel_rfl) ?_
   refine dyX rfl (yq_move rfl) rfl <| ?_
   refine dyX rfl (yq_nilT rfl) rfl <| ?_
   refine dyX rfl (yq_faE rfl rfl) rfl <| ?_
   refine dyX rfl (yq_ldE rfl rfl) rfl <| ?_
   refine dyX rfl (yq_move rfl) rfl <| ?_
   refine dyX rfl (yq_nilT rfl) rfl <| ?_
   refine dyX rfl (yq_faE rfl rfl) rfl <| ?_
   refine dyX rfl (yq_ldE1 rfl rfl) rfl <| ?_
   refine dyX rfl (yq_move rfl) rfl <| ?_
   refine dyX rfl (yq_move rfl) rfl <| ?_
   refine dyX rfl (yq_nilT rfl) rfl <| ?_
   refine dyX rfl (yq_faE rfl rfl) rfl <| ?_
   refine dyX rfl (yq_ldE rfl rfl) rfl <| ?_
   refine dyX rfl (yq_move rfl) rfl <| ?_
   refine dyX rfl (yq_nilT rfl) rfl <| ?_
   refine dyX rfl (yq_faE rfl rfl) rfl <| ?_
   refine dyX rfl (yq_ldE1 rfl rfl) rfl <| ?_
   refine dyX rfl (yq_move rfl) rfl <| ?_
   refine dyX rfl (yq_move rfl) rfl <| ?_
   refine dyX rfl (yq_nilT rfl) rfl <| ?_
   refine dyX rfl (yq_faE rfl rfl) rfl <| ?_
   refine dyX rfl (yq_ldE rfl rfl) rfl <| ?_
   refine dcX rfl (td_call rfl rfl (q_with (c := c) (l := l) hc hok (by omega) hl hlo) rfl) FDok.nil rfl <| ?_
   refine dcX rfl (td_call rfl rfl (ihx (c := canonL (c ++ [l])) (lb_can (lb_app hc hl)) (ok_can (ok_app hok hlo)) (by omega)) rfl) FDok.nil rfl <| ?_
   refine dcX rfl (td_call rfl rfl (q_sRev' (l := l) hl.bl) rfl) FDok.nil rfl <| ?_
   refine dcX rfl (td_call rfl rfl (q_with (c := c) (l := l.rev) hc hok (by omega) hl.rev hlo.rev) rfl) FDok.nil rfl <| ?_
   refine dcX rfl (td_call rfl rfl (ihy (c := canonL (c ++ [l.rev])) (lb_can (lb_app hc hl.rev)) (ok_can (ok_app hok hlo.rev)) (by omega)) rfl) FDok.nil rfl <| ?_
   refine dcX rfl (td_call rfl rfl (q_join) rfl) FDok.nil rfl <| ?_
   refine dyX rfl (yq_assign rfl) rfl <| ?_
   refine outX0 <| onX <| outX0 <| dnX <| ?_
   simp only [List.nil_append, List.append_nil, List.cons_append]
   refine sd_ret <| ?_
   exact sd_done (.tmp rfl .nil) (by rw [Tr.restrictL, if_neg hc16, if_neg hc24]; rfl)
theorem q_RRestrict {GB : Gh} : ∀ {t : Tr} {c : List LnQ}, t.all LB → t.all LnQ.ok → (∀ m ∈ c, LB m) → (∀ m ∈ c, m.ok) → c.length + t.depth ≤ 900 → PF GB Tryz.prog 17 [eT t, .sl (c.map eL)] (eT (Tr.restrictL t c))
 | .leaf _, _, _, _, _, _, _ => q_RRestrict_leaf
 | .node l x y, c, hb, ho, hc, hok, hn => q_RRestrict_node hb.1 ho.1 hc hok hn (fun h1 h2 h3 => q_RRestrict hb.2.1 ho.2.1 h1 h2 h3) (fun h1 h2 h3 => q_RRestrict hb.2.2 ho.2.2 h1 h2 h3)
end Go.Sx
end

section
set_option maxRecDepth 100000
namespace Go.Sx
open Go Go.Proofs
theorem reduce_readN {k n : Nat} (hk1 : 1 ≤ k) (hk : k ≤ 100000000) {A G : Gh} {x : SV} {t : Tr} (hx : IsNs k A x (t.wr 0)) [GL A G] (hok : t.all LnQ.ok) (hs : t.size ≤ 65536) (hd : t.depth + n ≤ 1024) :
  Fn Tryz.prog 46 [.agg ⟨[.int .i64 (t.num 0), .slice x.a x.n x.c]⟩, .int .i64 (n : Int)] G (fun v G' => ∃ p, v = .tuple #[.pointer p, .nilIface] ∧ IsT k G' t p) := by
 refine Fn.intro Tryz.func46 rfl rfl Tryz.ntmps46 rfl ?_
 intro C _ _
 refine sR <| ?_
 refine sc (ch_box rfl rfl ?_)
 intro b1
 refine sa rfl rfl <| sa rfl rfl <| st_end <| sR <| slo rfl rfl rfl <| ?_
 refine sc (ch_call rfl rfl (T_Of hk1 hk hx hok hs) rfl ?_)
 rintro _ G2 _ ⟨p, rfl, hp⟩
 refine sm rfl rfl <| sx rfl rfl rfl <| sx rfl rfl rfl <| sa rfl rfl <| sa rfl rfl <| st_end <| st_seq <| st_block <| sR <| sm rfl rfl <| sy (yd_not rfl) rfl <| sa rfl rfl <| st_end <| ?_
 refine st_condF rfl <| sR <| sm rfl rfl <| ?_
 refine sc (ch_call rfl rfl (T_Depth hp (by omega)) rfl ?_)
 rintro _ G3 _ rfl
 refine sm rfl rfl <| sy (yd_add64 rfl rfl) rfl <| sy (yd_gtr rfl rfl) rfl <| sa rfl rfl <| st_end <| ?_
 refine st_condP rfl (fun hc => absurd hc (by omega)) (fun _ => ?_)
 refine st_skipc <| sR <| sm rfl rfl <| sa rfl rfl <| ?_
 refine sa rfl rfl <| st_end <| st_ret <| ?_
 exact st_done (.tmp rfl (.tmp rfl .nil)) ⟨p, rfl, hp.up⟩
set_option maxHeartbeats 1000000 in
theorem reduce_Split {k : Nat} (hk1 : 1 ≤ k) (hk : k ≤ 100000000) {A B G : Gh} {x : SV} {t : Tr} {m : LI} {l : LnQ} (hx : IsNs k A x (t.wr 0)) (hm : IsLI k B m l) [GL A G] [GL B G] (hok : t.all LnQ.ok) (hl : l.ok)
  (hs : t.size ≤ 65536) (hd : t.depth + 1 ≤ 1024) (hsz : (t.restrict (clipC [] l)).size ≤ 1000000) (hsz2 : (t.restrict (clipC [] l.rev)).size ≤ 1000000) :
  Fn Tryz.prog 12 [.agg ⟨[.int .i64 (t.num 0), .slice x.a x.n x.c]⟩, m.val] G (fun v G' => ∃ y z : SV, v = .tuple #[.agg ⟨[.int .i64 ((t.restrict (clipC [] l)).num 0), .slice y.a y.n y.c]⟩, .agg ⟨[.int .i64 ((t.restrict (clipC [] l.rev)).num 0), .slice z.a z.n z.c]⟩, .nilIface] ∧ IsNs k G' y ((t.restrict (clipC [] l)).wr 0) ∧ IsNs k G' z ((t.restrict (clipC [] l.rev)).wr 0)) := by
 have hcl := clipC_len [] l
 have hcr := clipC_len [] l.rev
 simp only [List.length_nil, Nat.zero_add] at hcl hcr
 obtain ⟨ma, mb, mc⟩ := m
 obtain ⟨h1, h2, h3⟩ := hm
 refine Fn.intro Tryz.func12 rfl rfl Tryz.ntmps12 rfl ?_
 intro C _ _
 refine sR <| ?_
 refine sc (ch_box rfl rfl ?_)
 intro b1
 refine sc (ch_box rfl rfl ?_)
 intro b2
 refine sc (ch_alloc rfl ?_)
 intro b3
 refine sc (ch_alloc rfl ?_)
 intro b4
 refine sa rfl rfl <| st_end <| sR <| slo rfl rfl rfl <| ?_
 refine sc (ch_call rfl rfl (geo_LnOfQ h1 h2 h3 hl hk1 hk) rfl ?_)
 rintro _ G5 _ ⟨z, rfl, hz⟩
 refine sm rfl rfl <| sx rfl rfl rfl <| sx rfl rfl rfl <| ?_
 refine sc (ch_alloc rfl ?_)
 intro b6
 refine sc (ch_storeN (cs' := [.int .i64 z.a.n, .int .i64 z.a.d, .pointer z.a.p, .int .i64 z.b.n, .int .i64 z.b.d, .pointer z.b.p, .int .i64 z.c.n, .int .i64 z.c.d, .pointer z.c.p]) rfl rfl rfl (.hd ..) rfl (nb rfl) rfl rfl ?_)
 refine sa rfl rfl <| st_end <| st_seq <| sR <| sm rfl rfl <| sy (yd_not rfl) rfl <| st_end <| st_condF rfl <| st_skipc <| sR <| slo rfl rfl rfl <| ?_
 refine sc (ch_call rfl rfl (reduce_readN (n := 1) hk1 hk hx hok hs hd) rfl ?_)
 rintro _ G7 _ ⟨p, rfl, hp⟩
 refine sm rfl rfl <| sx rfl rfl rfl <| sx rfl rfl rfl <| sa rfl rfl <| sa rfl rfl <| st_end <| st_seq <| sR <| sm rfl rfl <| sy (yd_neN (by simp) rfl) rfl <| st_end <| st_condF rfl <| ?_
 refine st_skipc <| sR <| slo rfl rfl rfl <| ?_
 refine sc (ch_call rfl rfl (Cell_Divide (x := ⟨none, 0, 0⟩) (IsC.nil k G7) hz hk (by simp)) rfl ?_)
 rintro _ G8 _ ⟨y1, y2, rfl, hy1, hy2⟩
 have hn1 := hy1.len
 have hn2 := hy2.len
 refine sm rfl rfl <| sx rfl rfl rfl <| sx rfl rfl rfl <| sx rfl rfl rfl <| sx rfl rfl rfl <| sa rfl rfl <| sa rfl rfl <| sa rfl rfl <| sa rfl rfl <| st_end <| sR <| sm rfl rfl <| ?_
 refine sm rfl rfl <| ?_
 refine sc (ch_call rfl rfl (T_Restrict hk hp hy1 (by omega)) rfl ?_)
 rintro _ G9 _ ⟨p1, rfl, hp1⟩
 refine sc (ch_call rfl rfl (T_API hk hp1 hsz) rfl ?_)
 rintro _ G10 _ ⟨w1, rfl, hw1⟩
 refine sm rfl rfl <| sm rfl rfl <| ?_
 refine sc (ch_call rfl rfl (T_Restrict hk hp hy2 (by omega)) rfl ?_)
 rintro _ G11 _ ⟨p2, rfl, hp2⟩
 refine sc (ch_call rfl rfl (T_API hk hp2 hsz2) rfl ?_)
 rintro _ G12 _ ⟨w2, rfl, hw2⟩
 refine sc (chS rfl rfl rfl (nb rfl) rfl rfl ?_)
 refine sc (chS rfl rfl rfl (nb rfl) rfl rfl ?_)
 refine sa rfl rfl <| st_end <| st_ret <| ?_
 exact st_done (.agg rfl ii ii rfl (.agg rfl ii ii rfl (.tmp rfl .nil))) ⟨w1, w2, rfl, hw1.up, hw2⟩
end Go.Sx
end

section
set_option maxRecDepth 100000
namespace Go.Sx
open Go Go.Proofs
theorem q_Split {GB : Gh} {t : Tr} {l : LnQ} (hb : t.all (fun l => BL l 32)) (hok : t.all LnQ.ok) (hl : BL l 32) (hlo : l.ok) (hs : t.size ≤ 65536) (hd : t.depth + 1 ≤ 1024) :
  PF GB Tryz.prog 12 [eA t, eL l] (.tp [eA (t.restrict (clipC [] l)), eA (t.restrict (clipC [] l.rev)), .v .nilIface]) := by
 intro G vs hg hv
 obtain ⟨v, m, rfl, h1, hv⟩ := isl_cons.1 hv
 obtain ⟨v2, m, rfl, h2, hv⟩ := isl_cons.1 hv
 rw [isl_nil] at hv; subst hv
 obtain ⟨x, rfl, hx⟩ := isA_of (Tr.all_wr 0 hb) h1
 obtain ⟨a, b, c, rfl, ha, hb1, hc⟩ := isL_of hl h2
 have z1 := Tr.restrict_size t (clipC [] l)
 have z2 := Tr.restrict_size t (clipC [] l.rev)
 refine (reduce_Split (m := ⟨a, b, c⟩) (by decide) (by decide) hx ⟨ha, hb1, hc⟩ hok hlo hs hd (by omega) (by omega)).mono ?_
 rintro _ G' hG ⟨y, z, rfl, hy, hz⟩
 exact is_tp.2 ⟨_, rfl, .cons (isA_to hy) (.cons (isA_to hz) (.cons (is_v.2 rfl) .nil))⟩
theorem Tr.all_imp {p q : LnQ → Prop} (h : ∀ l, p l → q l) : ∀ {t : Tr}, t.all p → t.all q
 | .leaf _, _ => trivial
 | .node .., ⟨a, b, c⟩ => ⟨h _ a, Tr.all_imp h b, Tr.all_imp h c⟩
theorem q_TSameT {GB : Gh} {s t : Tr} (hs : s.all (fun l => BL l 32)) (h : t = s) (hn : s.size ≤ 1000000) : PF GB Tryz.prog 16 [eA s, eA t] (.v (.bool true)) := by
 subst h
 have := q_TSame (GB := GB) hs hs hn
 rw [decide_eq_true (⟨rfl, rfl⟩ : _ ∧ _)] at this
 exact this
theorem split_eq {t : Tr} {l : LnQ} (h : t.all LnQ.ok) (hl : l.ok) : t.restrictL [l] = t.restrict (clipC [] l) := by
 obtain ⟨g, i⟩ := clip_good GoodC.nil hl (show clipB [] l = true from rfl)
 refine Tr.restrictL_eq t [l] _ h (by simpa using hl) g fun p => ?_
 rw [i]
 unfold InL InD
 simp
set_option maxHeartbeats 2000000 in
theorem q_ReduceSplits {GB : Gh} {es0 : List Int} (hb : es0.length ≤ 1125899906842624) : PF GB Tryz.prog 3 [.sl (es0.map vI)] (.v (.bool true)) := by
 refine PF.intro Tryz.func3 rfl rfl Tryz.ntmps3 rfl ?_
 intro C
 refine qR <| tA rfl rfl <| sd_end <| qR <| tM rfl rfl <| tF (tf_callN rfl rfl (q_New hb) rfl) <| ?_
 rintro ⟨⟨es, hes⟩, b1⟩; try dsimp only
 refine tA rfl rfl <| sd_end <| qR <| tM rfl rfl <| tF (tf_callMX rfl rfl (q_Tree (a := 0) (d := 4) hes (Nat.zero_le _) (by decide)) (by repeat (first | exact .hd .. | apply OSp.tl)) rfl) <| ?_
 rintro ⟨⟨t, a⟩, hd, hok, hbl, ha⟩; try simp only [List.cons_append, List.nil_append]
 dsimp only at hd hok hbl ha
 have hsz := Tr.size_lt t
 have hp4 : (2 : Nat) ^ t.depth ≤ 2 ^ 4 := Nat.pow_le_pow_right (by decide) hd
 have hp5 : (2 : Nat) ^ 4 = 16 := rfl
 refine tM rfl rfl <| tF (tf_callMX rfl rfl (q_L hes ha) (by repeat (first | exact .hd .. | apply OSp.tl)) rfl) <| ?_
 rintro ⟨⟨m, a1⟩, hm, ha1⟩; try simp only [List.cons_append, List.nil_append]
 dsimp only at hm ha1
 have hmb : LB m := ⟨hm.bl⟩
 have hlb : t.all LB := Tr.all_imp (fun _ h => ⟨h⟩) hbl
 have e1 := split_eq hok hm.ok
 have e2 := split_eq hok hm.ok.rev
 have ab := Tr.restrict_all _ t (clipC [] m) hbl
 have ab2 := Tr.restrict_all _ t (clipC [] m.rev) hbl
 have z1 := Tr.restrict_size t (clipC [] m)
 have z2 := Tr.restrict_size t (clipC [] m.rev)
 refine tF (tf_alloc rfl) <| ?_
 intro b2
 refine tA rfl rfl <| tC (tdS rfl rfl rfl rfl rfl rfl) <| ?_
 refine sd_end <| sd_seq <| ?_
 refine drX (own0 := _) (own1 := []) (bs0 := []) (bs1 := _) [⟨9, 6, 36, .agg ⟨[.int .i64 0, .slice none 0 0]⟩⟩, ⟨10, 7, 36, .agg ⟨[.int .i64 0, .slice none 0 0]⟩⟩] [(0, true), (2, true), (1, false), (3, false), (4, false), (5, true), (6, true), (7, true), (8, true)] [(11, false), (12, false), (13, true)] follows (by rw [List.append_nil]) (List.Perm.refl _) (by kernel_rfl) ?_
 refine dyX rfl (yq_move rfl) rfl <| ?_
 refine dyX rfl (yq_ldO rfl rfl) rfl <| ?_
 refine dcX rfl (td_call rfl rfl (q_Write (t := t) hbl (by omega)) rfl) (by exact ⟨List.forall_mem_cons.2 ⟨⟨_, _, _, rfl, rfl⟩, List.forall_mem_cons.2 ⟨⟨_, _, _, rfl, rfl⟩, List.forall_mem_nil _⟩⟩, List.forall_mem_cons.2 ⟨inferInstance, List.forall_mem_cons.2 ⟨inferInstance, List.forall_mem_nil _⟩⟩, by decide, by decide⟩) rfl <| ?_
 refine dcX rfl (td_call rfl rfl (q_ToL (l := m) hm.bl) rfl) (by exact ⟨List.forall_mem_cons.2 ⟨⟨_, _, _, rfl, rfl⟩, List.forall_mem_cons.2 ⟨⟨_, _, _, rfl, rfl⟩, List.forall_mem_nil _⟩⟩, List.forall_mem_cons.2 ⟨inferInstance, List.forall_mem_cons.2 ⟨inferInstance, List.forall_mem_nil _⟩⟩, by decide, by decide⟩) rfl <| ?_
 refine dcX rfl (td_call rfl rfl (q_Split (t := t) (l := m) hbl hok hm.bl hm.ok (by omega) (by omega)) rfl) (by exact ⟨List.forall_mem_cons.2 ⟨⟨_, _, _, rfl, rfl⟩, List.forall_mem_cons.2 ⟨⟨_, _, _, rfl, rfl⟩, List.forall_mem_nil _⟩⟩, List.forall_mem_cons.2 ⟨inferInstance, List.forall_mem_cons.2 ⟨inferInstance, List.forall_mem_nil _⟩⟩, by decide, by decide⟩) rfl <| ?_
 refine dyX rfl (yq_move rfl) rfl <| ?_
 refine dyX rfl (yq_ext rfl rfl) rfl <| ?_
 refine dyX rfl (yq_ext rfl rfl) rfl <| ?_
 refine dyX rfl (yq_ext rfl rfl) rfl <| ?_
 refine outX2 ⟨(inferInstance : TyZD Tryz.prog 36 _ _).iz, ⟨(inferInstance : TyZD Tryz.prog 36 _ _).iz, trivial⟩⟩ (by exact ⟨List.forall_mem_cons.2 ⟨⟨_, _, _, rfl, rfl⟩, List.forall_mem_cons.2 ⟨⟨_, _, _, rfl, rfl⟩, List.forall_mem_nil _⟩⟩, List.forall_mem_cons.2 ⟨inferInstance, List.forall_mem_cons.2 ⟨inferInstance, List.forall_mem_nil _⟩⟩, by decide, by decide⟩) rfl (fun b3 b4 => ?_)
 simp only [List.cons_append, List.nil_append]
 refine onX <| ?_
 refine dcX rfl (tdS rfl rfl rfl rfl rfl rfl) FDok.nil rfl <| ?_
 refine dcX rfl (tdS rfl rfl rfl rfl rfl rfl) FDok.nil rfl <| ?_
 refine dyX rfl (yq_assign rfl) rfl <| outX0 <| dnX <| ?_
 simp only [List.nil_append, List.append_nil, List.cons_append]
 refine sd_seq <| ?_
 refine drX (own0 := _) (own1 := []) (bs0 := []) (bs1 := _) [] [(0, false), (1, true), (2, true), (3, true), (4, true), (5, true), (6, true), (7, true), (8, true), (9, false), (10, false), (11, false), (12, false), (13, true), (14, true), (15, true), (16, true), (17, true), (18, false), (19, false), (20, false), (21, false), (22, false), (23, true), (24, true)] [] follows (by rw [List.append_nil]) (List.Perm.refl _) (by kernel_rfl) ?_
 refine dcX rfl (td_call rfl rfl (q_known17) rfl) FDok.nil rfl <| ?_
 refine dyX rfl (yq_move rfl) rfl <| ?_
 refine dygX rfl rfl rfl (yq_move rfl) rfl <| ?_
 refine dygX rfl rfl rfl (yq_eqN0 rfl) rfl <| ?_
 refine dyX rfl (yq_pickT rfl rfl) rfl <| ?_
 refine dyX rfl (yq_move rfl) rfl <| ?_
 refine dygX rfl rfl rfl (yq_ldO rfl rfl) rfl <| ?_
 refine dygX rfl rfl rfl (yq_move rfl) rfl <| ?_
 refine dygX rfl rfl rfl (yq_ldO rfl rfl) rfl <| ?_
 refine dcgX rfl rfl rfl (td_rowF rfl rfl rfl rfl rfl rfl rfl) FDok.nil rfl <| ?_
 refine dcgX rfl rfl rfl (td_call rfl rfl (q_RRestrict (t := t) (c := [m]) hlb hok (by simpa using hmb) (by simpa using hm.ok) (by simp; omega)) rfl) FDok.nil rfl <| ?_
 refine dcgX rfl rfl rfl (td_call rfl rfl (q_Write (t := t.restrictL [m]) (by rw [e1]; exact ab) (by rw [e1]; omega)) rfl) FDok.nil rfl <| ?_
 refine dcgX rfl rfl rfl (td_call rfl rfl (q_TSameT (s := t.restrict (clipC [] m)) (t := t.restrictL [m]) ab e1 (by omega)) rfl) FDok.nil rfl <| ?_
 refine dyX rfl (yq_pickT rfl rfl) rfl <| ?_
 refine dyX rfl (yq_move rfl) rfl <| ?_
 refine dygX rfl rfl rfl (yq_ldO rfl rfl) rfl <| ?_
 refine dygX rfl rfl rfl (yq_move rfl) rfl <| ?_
 refine dygX rfl rfl rfl (yq_ldO rfl rfl) rfl <| ?_
 refine dcgX rfl rfl rfl (td_call rfl rfl (q_sRev' (l := m) hm.bl) rfl) FDok.nil rfl <| ?_
 refine dcgX rfl rfl rfl (td_rowF rfl rfl rfl rfl rfl rfl rfl) FDok.nil rfl <| ?_
 refine dcgX rfl rfl rfl (td_call rfl rfl (q_RRestrict (t := t) (c := [m.rev]) hlb hok (by simpa using hmb.rev) (by simpa using hm.ok.rev) (by simp; omega)) rfl) FDok.nil rfl <| ?_
 refine dcgX rfl rfl rfl (td_call rfl rfl (q_Write (t := t.restrictL [m.rev]) (by rw [e2]; exact ab2) (by rw [e2]; omega)) rfl) FDok.nil rfl <| ?_
 refine dcgX rfl rfl rfl (td_call rfl rfl (q_TSameT (s := t.restrict (clipC [] m.rev)) (t := t.restrictL [m.rev]) ab2 e2 (by omega)) rfl) FDok.nil rfl <| ?_
 refine dyX rfl (yq_pickT rfl rfl) rfl <| ?_
 refine dyX rfl (yq_assign rfl) rfl <| ?_
 refine outX0 <| onX <| outX0 <| dnX <| ?_
 simp only [List.nil_append, List.append_nil, List.cons_append]
 refine sd_ret <| ?_
 exact sd_done (.tmp rfl .nil) rfl
end Go.Sx
end

section
set_option maxRecDepth 100000
namespace Go.Sx
open Go Go.Proofs Go.ChangeShapes Go.WideShapes Go.ChangeAt Go.RowKit
def GW (w : World) : Gh := fun b => match w.heap[b]? with | some (.cells cs _ _) => some cs.toList | _ => none
theorem GW.sub {w : World} {b : Nat} {cs : List Value} (h : GW w b = some cs) : ∃ ty fz, w.heap[b]? = some (.cells ⟨cs⟩ ty fz) := by
 unfold GW at h
 split at h
 · rename_i c t f e
   cases h
   exact ⟨t, f, by rw [e]⟩
 · cases h
theorem GW.of_cell {w : World} {b off : Nat} {v : Value} (h : w.cell? ⟨b, off, none⟩ = some v) : ∃ cs, GW w b = some cs ∧ cs[off]? = some v := by
 unfold World.cell? at h
 unfold GW
 split at h
 · rename_i c t f e
   simp only at e
   refine ⟨c.toList, by rw [e], ?_⟩
   simpa using h
 all_goals first | (rename_i e; cases h) | cases h
theorem HRel.below {w w' : World} {G G' : Gh} {own : List Own} (h : HRel ⟨w, G, []⟩ own G' w') : Below w.heap.size w w' :=
 ⟨h.os, h.tape, h.output, h.size, fun k hk => h.keep k hk (by simp)⟩
theorem isLs_vI {G : Gh} : ∀ es : List Int, IsLs G (es.map vI) (es.map fun n => Value.int .i64 n)
 | [] => .nil
 | n :: t => .cons (is_v.2 rfl) (isLs_vI t)
theorem open_vI {base : Nat} {H : Type} {enc : TypeId × Value → H} {P : Program} {w : World} {t e : TypeId} {v : Value} {d : DataW H} {ps : List MemPlace} (ht : P.underlying t = some (.slice e)) (he : P.underlying e = some (.int .i64)) (hc : P.cellsOf e = 1)
   (hv : Value.okWide P w .any base t v) (h : DataW.Trod enc P w 0 (fun _ => true) true t v d ps) :
   ∃ es : List Int, Is (GW w) (.sl (es.map vI)) v ∧ (d = .nil ∧ es = [] ∨ ∃ sp, d = .slice (lits .i64 es) sp) ∧ (∀ n ∈ es, (Lit.int .i64 n).wf = true) := by
 obtain ⟨a0, len, cap, rfl⟩ := okWide_slice ht hv
 obtain ⟨fuel, hf⟩ := h
 rcases open_ints ht he hc hf with ⟨hcs, hx⟩ | ⟨a, len', cap', zs, hcs, _, hl, hm, hz, hx, hcell, hwz⟩
 · simp [Value.cells] at hcs
   obtain ⟨rfl, rfl, rfl⟩ := hcs
   simp only [Prod.mk.injEq] at hx
   exact ⟨[], is_sl.2 ⟨0, ⟨none, 0, 0⟩, [], rfl, IsSl.nil _ 0, .nil⟩, .inl ⟨hx.1, rfl⟩, by simp⟩
 · simp [Value.cells] at hcs
   obtain ⟨rfl, rfl, rfl⟩ := hcs
   simp only [Prod.mk.injEq] at hx
   simp only [if_true] at hz
   refine ⟨zs.take len, is_sl.2 ⟨1, ⟨some a, len, cap⟩, (zs.take len).map fun n => Value.int .i64 n, rfl, ⟨by simp; omega, hl, ?_⟩, isLs_vI _⟩, .inr ⟨_, hx.1⟩, fun n hn => hwz n (List.mem_of_mem_take hn)⟩
   by_cases h0 : len = 0
   · exact .inl (by simp [h0])
   · right
     obtain ⟨b, off, spot⟩ := a
     have hspot : spot = none := by simpa [Addr.add] using World.cell?_spot (hcell 0 (by omega))
     subst hspot
     have c0 : ∀ i, i < zs.length → w.cell? ⟨b, off + i, none⟩ = some (.int .i64 (zs.getD i 0)) := fun i hi => by
       have := hcell i hi
       rwa [Go.WideShapes.add_plain] at this
     obtain ⟨cs, hcs, _⟩ := GW.of_cell (by simpa using c0 0 (by omega))
     refine ⟨b, off, cs, rfl, hcs, fun i hi => ?_⟩
     simp only [List.length_map, List.length_take] at hi
     obtain ⟨cs', hcs', hi'⟩ := GW.of_cell (c0 i (by omega))
     rw [hcs] at hcs'
     cases hcs'
     rw [Nat.mul_one, takeL_one.2 hi']
     simp [cellsL, List.getD, List.getElem?_eq_getElem (show i < zs.length by omega)]
end Go.Sx
end

section
set_option maxRecDepth 100000
namespace Go.Proofs.YtkijgpopaaknfaaGreatDoor.reduceSplits
open Go.ChangeShapes Go.WideShapes Go.ChangeAt Go.RowKit Go.Sx
theorem own : ownKnob Tryz.prog.godebug = none := by kernel_rfl
theorem laidOut : laidOutB Tryz.prog = true := by kernel_rfl
theorem cellsI : Tryz.prog.cellsOf 3 = 1 := by kernel_rfl
theorem bytesI : Tryz.prog.bytesOf 3 = 8 := by kernel_rfl
theorem door_met (os : Os) (args : Array Value) : laidMetH Tryz.prog Rows.reduceSplitsRow.laid ((World.doorLaid Tryz.prog 66 os).forCall (fun _ _ => 0) ⟨#[], args, []⟩).memory :=
 laidMetH_of_parts3 (fuel := 8) (laidMet_of_run' 8 (by kernel_rfl) (by kernel_rfl)) (by kernel_rfl) (by kernel_rfl)
theorem contract (H : Type) (enc : TypeId × Value → H) (W : World) (base : Nat) (args : Array Value) (ds gs : List (DataW H)) (before : List MemPlace)
   (hval : ∀ (j : Nat) t v, Tryz.f3.params[j]? = some t → args[j]? = some v → Value.okWide Tryz.prog W .any base t v)
   (hW : DataW.Whole enc Tryz.prog Tryz.f3.params.toList Rows.reduceSplitsSpec.vars false W args.toList ds gs before)
   (hz : (DataW.weightsEach Tryz.prog (Tryz.f3.params.toList ++ (OpenSpec.ofChange Rows.reduceSplitsSpec).bare.plain.varTypes Tryz.prog) (ds ++ gs)).all (· ≤ reachBytes) = true) :
   Calls Tryz.prog 3 args W fun e W' => ∃ v, e = .returned v ∧ Rows.reduceSplitsSpec.post enc Tryz.prog Tryz.f3 false true false false W args v W' := by
 have hW' := hW
 obtain ⟨p, q, hA0, hV, rfl, _, _⟩ := hW
 have hA : DataW.TrodAll enc Tryz.prog W 0 (fun _ => true) true Tryz.f3.params.toList args.toList ds p := hA0
 rw [Tryz.params3] at hA hval hz
 obtain ⟨v0, d0, hargs, rfl, h0⟩ := trodAll_one hA
 obtain rfl : args = #[v0] := by cases args; simp_all
 obtain ⟨rfl, rfl⟩ := trodVars_none hV
 clear hA0
 simp only [List.append_nil] at hW'
 have hlt : ∀ x ∈ p, x.block < W.heap.size := fun x hx => by simpa using hW'.lt x hx
 obtain ⟨es, hI, hd, _⟩ := open_vI Tryz.underlying22 Tryz.underlying3 cellsI (hval 0 22 v0 rfl rfl) h0
 have hb : es.length ≤ 1125899906842624 := by
   rcases hd with ⟨rfl, rfl⟩ | ⟨sp, rfl⟩
   · exact Nat.zero_le _
   · have := sized_slice hz (j := 0) (t := 22) (e := 3) rfl rfl Tryz.underlying22
     rw [bytesI] at this
     have hr := reachBytes_lt
     have hl : (lits (H := H) .i64 es).length = es.length := by simp [lits]
     rw [hl] at this
     omega
 have hf := (q_ReduceSplits (GB := GW W) hb) (GW W) [v0] (GLe.refl _) (.cons hI .nil)
 refine (hf.run W (fun b cs hg => GW.sub hg)).mono fun e W' ⟨v, G', he, hr, hv⟩ => ?_
 rw [is_v] at hv
 subst hv
 subst he
 have hn := hr.below
 exact ⟨_, rfl, ⟨_, _, _, [], _, [], hW', trodAll_mk1 (shut_bool Tryz.underlying4 _), trodAll_mk1 (Below.trod laidOut (by kernel_rfl) (of_decide_eq_true (by kernel_rfl)) h0 hn hlt), rfl, hn.frame _, fun h => by cases h⟩⟩
theorem reads (os : Os) {H : Type} (enc : TypeId × Value → H) : ∃ places, DataW.whole enc Tryz.prog ((World.doorLaid Tryz.prog 66 os).forCall (fun _ _ => 0) ⟨#[], #[.slice none 0 0], []⟩).memory Tryz.f3.params.toList Rows.reduceSplitsSpec.vars false #[Value.slice none 0 0].toList 8 = some ([.nil], [], places) :=
 ⟨[], by kernel_rfl⟩
theorem lifted (os : Os) (started : os.Started) (H : Type) (enc : TypeId × Value → H) (F : Stop.Interp) :
  ReturnsInHanded {} Tryz.checked os 3 .any ((OpenSpec.ofChange Rows.reduceSplitsSpec).preRow enc Tryz.prog Tryz.f3 Rows.reduceSplitsRow.domain false Rows.reduceSplitsRow.laid) (((OpenSpec.ofChange Rows.reduceSplitsSpec).at F).post enc Tryz.prog Tryz.f3 false true false false) := by
 obtain ⟨places, hx⟩ := reads os enc
 refine returnsInHanded_of_row (C := Tryz.checked) (s := OpenSpec.ofChange Rows.reduceSplitsSpec) own started (by kernel_rfl) Tryz.func3
  (witness_row_atRef (enc := enc) (C := Tryz.checked) false (World.doorLaid Tryz.prog 66 os) #[.slice none 0 0] rfl (by kernel_rfl) (by kernel_rfl) (by kernel_rfl)
   (OpenSpec.preRow_of_cond 8 hx (by kernel_rfl) (fun k hk => by cases hk) (by kernel_rfl) (door_met os _))) ?_
 intro W base args ds gs before hval hW _ _ hz _ _ _
 exact contract H enc W base args ds gs before hval hW hz
theorem said : Rows.ReduceSplitsSaid :=
 OpenClaim.holds_of_cond 3 Tryz.f3 rfl rfl rfl rfl rfl rfl rfl ⟨rfl, rfl, rfl, rfl, rfl⟩ rfl rfl rfl rfl rfl (by kernel_rfl) Tryz.func3 (by kernel_rfl)
  (of_decide_eq_true (by kernel_rfl)) (by unfold Func.isWrapper; first | (rw [if_pos (by decide +kernel)]; kernel_rfl) | (rw [if_neg (by decide +kernel)]; exact ⟨rfl, rfl⟩))
  (fun os started H enc _ F => by rw [OpenClaim.pre_eq_preRow]; exact lifted os started H enc F)
theorem plain (f : FuncId) (fn : Func) (hf : Tryz.pinned.checked.prog.funcNamed "bspregion/bspregionlaw17.ReduceSplits" = some f) (hfn : Tryz.pinned.checked.prog.funcs[f]? = some fn) :
  true = Tryz.pinned.checked.prog.looks [] ∧ ∀ (j : Nat) t, fn.params[j]? = some t → Tryz.pinned.checked.prog.wantsStandIn t = false := by
 obtain rfl : f = 3 := Option.some.inj ((show Tryz.prog.funcNamed "bspregion/bspregionlaw17.ReduceSplits" = some 3 by kernel_rfl).symm.trans hf) |>.symm
 obtain rfl : fn = Tryz.f3 := (Option.some.inj (Tryz.func3.symm.trans hfn)).symm
 refine ⟨by kernel_rfl, fun j t ht => ?_⟩
 rw [Tryz.params3] at ht
 obtain rfl : t = 22 := by simpa using Array.mem_of_getElem? ht
 exact (show Tryz.prog.wantsStandIn 22 = false by kernel_rfl)
theorem card : Rows.ReduceSplitsCardSaid :=
 Claim7.holds_tied_plain_at .later [] _ _ _ _ said (fun _ h => by cases h) (by kernel_rfl) (fun _ h => by cases h) reduceSplits_row_tie rfl ⟨rfl, rfl⟩ (by kernel_rfl) rfl plain (by kernel_rfl)
#print axioms card
end Go.Proofs.YtkijgpopaaknfaaGreatDoor.reduceSplits
end
