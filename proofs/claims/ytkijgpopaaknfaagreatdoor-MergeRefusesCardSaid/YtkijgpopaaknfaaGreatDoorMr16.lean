/-
  The law MergeRefuses holds: it answers true at every input and leaves its argument as it was.
-/
import Derived.Test.YtkijgpopaaknfaaGreatDoorMr15
import Derived.Test.YtkijgpopaaknfaaGreatDoorCards
import Derived.Test.YtkijgpopaaknfaaGreatDoorTie
import Derived.WalkKit
import Derived.ProofKit
import Derived.OpenShut
import Derived.Deep.DeepHandedRow
import Derived.Deep.DeepWitnessRowRef
import Derived.LaidMore
import Derived.Lib.LaidTab
import Derived.SizedLaws
import Derived.Stop.LaidErr
import Derived.MakeChecks
set_option linter.unusedSimpArgs false
set_option linter.unusedVariables false
section
set_option maxRecDepth 100000
namespace Go.Sx
open Go Go.Proofs
theorem tm_rng (a : Int) : -4 < a.tmod 4 ∧ a.tmod 4 < 4 := by
 refine ⟨?_, Int.tmod_lt_of_pos a (by decide)⟩
 have := Int.lt_tmod_of_pos a (b := 4) (by decide)
 omega
theorem op_rng (a : Int) : 1 ≤ 1 + (a.tmod 4 + 4).tmod 4 ∧ 1 + (a.tmod 4 + 4).tmod 4 ≤ 4 := by
 have h := tm_rng a
 rw [Int.tmod_eq_emod_of_nonneg (by omega)]
 omega
structure RL.wd (r : RL) : Prop where
 a : DOk r.da
 b : DOk r.db
 c : DOk r.dc
theorem RL.sm_of {r : RL} (h : r.wd) (k : r.smB 3 = true) : r.sm := by
 unfold RL.smB Sx.smB at k
 simp at k
 exact ⟨⟨h.a, by omega⟩, ⟨h.b, by omega⟩, ⟨h.c, by omega⟩⟩
theorem mapR_get {ns : List RN} {k : Nat} {n : RN} (h : ns[k]? = some n) : (ns.map RN.d)[((k : Nat) : Int).toNat]? = some n.d := by
 rw [Int.toNat_natCast, List.getElem?_map, h]; rfl
theorem pred_nat (m : Nat) : (((m + 1 : Nat) : Int) - 1).toNat = m := by omega
theorem lnN_get (m : Nat) : ((lnN (m + 1)).map eN)[(((m + 1 : Nat) : Int) - 1).toNat]? = some (eN ⟨l00, (m : Int) + 1, -1⟩) := by
 rw [pred_nat, lnN_succ, List.map_append, List.getElem?_append_right (by rw [List.length_map, lnN_len]; exact Nat.le_refl _), List.length_map, lnN_len, Nat.sub_self]
 rfl
theorem lnN_set (m : Nat) : ((lnN (m + 1)).map eN).set (((m + 1 : Nat) : Int) - 1).toNat (eN ⟨l00, -2, -1⟩) = ((chain (m + 1)).wr 0).map eN := by
 rw [pred_nat, ← long_eq, List.map_set]
section
variable {GB : Gh} {ai al ae : Addr} (hE : EG GB ai al ae) {ns : List RN} {rt : Int} (hs : ∀ n ∈ ns, n.g.sm) (hn : ns.length ≤ 5)
include hE hs hn
theorem q19_cN (h : ofQ ns rt = none) : PF GB Tryz.prog 34 [eRT rt ns] (.tp [trZ, eErr ai]) := by
 have := p_MCompl hE (r1 := rt) hs (by omega); rw [h] at this; exact this
theorem q19_cS {t : Tr} (h : ofQ ns rt = some t) : PF GB Tryz.prog 34 [eRT rt ns] (.tp [eA t.compl, .v .nilIface]) := by
 have := p_MCompl hE (r1 := rt) hs (by omega); rw [h] at this; exact this
theorem q19_mN {op : Int} (h : ofQ ns rt = none) : PF GB Tryz.prog 35 [vI op, .ag [vI (-2), .sl []], eRT rt ns] (.tp [trZ, eErr ai]) := by
 have := p_MMerge hE (op := op) (r1 := -2) (n1 := []) (fun n h => by cases h) (by decide) (r2 := rt) hs (by omega); rw [h] at this; exact this
theorem q19_mS {op : Int} {t : Tr} (ho : 1 ≤ op ∧ op ≤ 4) (h : ofQ ns rt = some t) : ∃ u, PF GB Tryz.prog 35 [vI op, .ag [vI (-2), .sl []], eRT rt ns] (.tp [eA u, .v .nilIface]) := by
 have := p_MMerge hE (op := op) (r1 := -2) (n1 := []) (fun n h => by cases h) (by decide) (r2 := rt) hs (by omega)
 have hg := ofQ_good hs h
 have hd := t.depth_size
 have hm := Tr.mergeQ_size op t (.leaf true) []
 have e : limQ op (.leaf true) t = some ((Tr.leaf true).mergeQ op t []) := by
  unfold limQ
  have h0 : (Tr.leaf true).depth = 0 := rfl
  have h1 : (Tr.leaf true).size = 0 := rfl
  rw [h1] at hm
  rw [if_neg (by omega), if_neg (by omega)]
 rw [h, show ofQ [] (-2) = some (.leaf true) from rfl, mergeX, if_pos ho, e] at this
 exact ⟨_, this⟩
theorem q19_aN {op : Int} (h : ofQ ns rt = none) : PF GB Tryz.prog 36 [vI op, .sl [eRT rt ns]] (.tp [trZ, eErr ai]) := by
 have := p_MAll hE (op := op) (ts := [(rt, ns)]) (fun x hx => by rw [List.mem_singleton] at hx; subst hx; exact ⟨hs, by show ns.length ≤ _; omega⟩) (by simp)
 rw [show allX ai al ae op [(rt, ns)] = .inr ai by unfold allX goodK; simp [TIn.q, h]] at this
 exact this
theorem q19_aS {op : Int} {t : Tr} (ho : 1 ≤ op ∧ op ≤ 4) (h : ofQ ns rt = some t) : PF GB Tryz.prog 36 [vI op, .sl [eRT rt ns]] (.tp [eA (t.restrict []), .v .nilIface]) := by
 have := p_MAll hE (op := op) (ts := [(rt, ns)]) (fun x hx => by rw [List.mem_singleton] at hx; subst hx; exact ⟨hs, by show ns.length ≤ _; omega⟩) (by simp)
 have hg := ofQ_good hs h
 have hd := t.depth_size
 have hg1 : goodK op [(rt, ns)] = true := by unfold goodK; simp [TIn.q, h, ho.1, ho.2]
 rw [show allX ai al ae op [(rt, ns)] = .inl (t.restrict []) by
  unfold allX
  rw [if_pos hg1, show [(rt, ns)].filterMap TIn.q = [t] by simp [TIn.q, h]]
  simp only
  rw [if_neg (by omega)]; rfl] at this
 exact this
end
theorem q19_lN {GB : Gh} {ai al ae : Addr} (hE : EG GB ai al ae) {op : Int} {m : Nat} (ho : 1 ≤ op ∧ op ≤ 4) (hm : m < 60000) (h : 1024 < 2 * (m + 1)) : PF GB Tryz.prog 35 [vI op, eA (chain (m + 1)), eA (chain (m + 1))] (.tp [trZ, eErr al]) := by
 have := p_MMergeA hE ho (chain_gd (m + 1)) (chain_gd (m + 1)) (by rw [chain_size]; omega) (by rw [chain_size]; omega)
 rw [chain_lim op (Nat.succ_pos m), if_pos h] at this; exact this
theorem q19_lS {GB : Gh} {ai al ae : Addr} (hE : EG GB ai al ae) {op : Int} {m : Nat} (ho : 1 ≤ op ∧ op ≤ 4) (hm : m < 60000) (h : ¬ 1024 < 2 * (m + 1)) : ∃ u, PF GB Tryz.prog 35 [vI op, eA (chain (m + 1)), eA (chain (m + 1))] (.tp [eA u, .v .nilIface]) := by
 have := p_MMergeA hE ho (chain_gd (m + 1)) (chain_gd (m + 1)) (by rw [chain_size]; omega) (by rw [chain_size]; omega)
 rw [chain_lim op (Nat.succ_pos m), if_neg h] at this; exact ⟨_, this⟩
set_option maxHeartbeats 4000000 in
theorem q_MergeRefuses {GB : Gh} {ai al ae : Addr} (hE : EG GB ai al ae) {ns : List RN} {rt op : Int} {more : Nat} (hw : ∀ n ∈ ns, n.g.wd) (hn : ns.length ≤ 9223372036854775807) (hop : -9223372036854775808 ≤ op ∧ op < 9223372036854775808) (hmo : more < 256) : PF GB Tryz.prog 8 [eRT rt ns, vI op, .v (.int .u8 (more : Nat))] (.v (.bool true)) := by
 have hm := map_len RN.d ns
 have htm := tm_rng op
 obtain ⟨o2, ho2⟩ : ∃ o, o = 1 + (op.tmod 4 + 4).tmod 4 := ⟨_, rfl⟩
 have ho : 1 ≤ o2 ∧ o2 ≤ 4 := ho2 ▸ op_rng op
 have htm2 := tm_rng (op.tmod 4 + 4)
 refine fn (fu := ⟨12⟩) Tryz.func8 rfl rfl Tryz.ntmps8 rfl rfl (fun C => ?_)
 refine eqF 26 (.d (vI (ns.length : Nat))) rfl (by rw [hm] <;> rfl) ?_
 refine gx rfl <| ?_
 refine br (fu2 := ⟨8⟩) rfl rfl rfl (fun hc27 => ?_) (fun hc27 => ?_)
 ·
  refine cl rfl (q_known19 hE) rfl <| ?_
  exact rz rfl rfl
 ·
  refine eqF 31 (.d (vI (ns.length : Nat))) rfl (by rw [hm] <;> rfl) ?_
  refine gx rfl <| ?_
  refine lp (X := Nat) (fun k => [(32, .d (vI (k : Nat)))]) (fun k => []) (fun k => k ≤ ns.length ∧ ∀ n ∈ ns.take k, n.g.sm) (fun k => ns.length - k) 0 rfl ⟨Nat.zero_le _, fun n h => by simp at h⟩ (fun _ => rfl) (fun k hk => ?_)
  obtain ⟨h1, h2⟩ := hk
  refine br (fu2 := ⟨12⟩) rfl rfl rfl (fun hc33 => ?_) (fun hc33 => ?_)
  ·
   obtain ⟨n0, hn0⟩ : ∃ s, ns[k]? = some s := ⟨_, List.getElem?_eq_getElem (by omega)⟩
   refine ix _ rfl (mapR_get hn0) rfl <| rf rfl rfl <| cl rfl (q_SmallL (n := 3) (ls := [n0.g]) (by simp)) rfl <| ?_
   refine bb rfl rfl rfl (fun hc40 => ?_) (fun hc40 => ?_)
   ·
    refine cl rfl (q_known19 hE) rfl <| ?_
    exact rz rfl rfl
   ·
    exact at_ (k + 1) ⟨⟨by omega, fun n' hn' => by rw [List.take_add_one, hn0] at hn'; rcases List.mem_append.1 hn' with h | h; exact h2 n' h; simp at h; subst h; exact RL.sm_of (hw n' (List.mem_of_getElem? hn0)) (by unfold rlB at hc40; simpa using hc40)⟩, (by omega)⟩
  ·
   have hsm : ∀ n ∈ ns, n.g.sm := fun n h => h2 n (by rw [List.take_of_length_le (by omega)]; exact h)
   have h5 : ns.length ≤ 5 := by omega
   obtain ⟨p, hp, hpt⟩ := q_ReadQ (rt := rt) hsm (by omega)
   refine eqF 47 (.d (vI o2)) rfl (by rw [ho2] <;> rfl) ?_
   refine gx rfl <| ?_
   rcases hq : ofQ ns rt with _ | t
   ·
    have hp0 : PF GB Tryz.prog 33 [eRT rt ns] (.tp [p, vB false]) := by have := hp GB; rw [hq] at this; exact this
    refine cl (fu := ⟨3⟩) rfl hp0 rfl <| ?_
    refine kbF 52 rfl ?_
    refine gx rfl <| cl rfl (q19_cN hE hsm h5 hq) rfl <| cl rfl (q19_mN hE hsm h5 hq) rfl <| rf rfl rfl <| cl (fu := ⟨14⟩) rfl (q19_aN hE hsm h5 hq) rfl <| knF (fu := ⟨4⟩) rfl rfl rfl <| ?_
    refine knF (fu := ⟨5⟩) rfl rfl rfl <| knF rfl rfl rfl <| gl rfl hE.ErrInvalid rfl <| cl (fu := ⟨0⟩) rfl p_IsS rfl <| ?_
    refine kbT 94 rfl ?_
    refine gx rfl <| gl rfl hE.ErrInvalid rfl <| cl (fu := ⟨0⟩) rfl p_IsS rfl <| ?_
    refine kbT 99 rfl ?_
    refine gx rfl <| gl rfl hE.ErrInvalid rfl <| cl (fu := ⟨0⟩) rfl p_IsS rfl <| ?_
    refine kbT 105 rfl ?_
    refine gx (fu := ⟨13⟩) rfl <| ?_
    refine eqF 111 (.d (.v (.int .u8 ((more % 4 : Nat) : Int)))) rfl (by rw [Int.tmod_eq_emod_of_nonneg (by omega)] <;> rfl) ?_
    refine gx (fu := ⟨2⟩) rfl <| ?_
    obtain ⟨m, hm'⟩ : ∃ m, 511 + more % 4 = m + 1 := ⟨510 + more % 4, by omega⟩
    refine eqF 113 (.d (vI (m + 1 : Nat))) rfl (by rw [← hm'] <;> rfl) ?_
    refine gx rfl <| cl rfl (q_Xy (m := 0) (n := 0) (by decide) (by decide)) rfl <| cl rfl (q_Xy (m := 1) (n := 0) (by decide) (by decide)) rfl <| cl (fu := ⟨2⟩) rfl (q_Through (m := 0) (n := 0) (m' := 1) (n' := 0) (by decide) (by decide) (by decide) (by decide) (by decide)) rfl <| ?_
    refine eqF 118 (.d (eL l00)) rfl (by rw [l00_eq]) ?_
    refine gx (fu := ⟨8⟩) rfl <| bz 60 8 [vI 0] [] rfl rfl rfl <| ?_
    refine lp (X := Nat) (fun i => [(21, .d (vI (i : Nat))), (20, .ov 20 0)]) (fun i => [(20, some (.o 36 [.d (vI 0), .rw 120] true)), (120, some (.b 60 8 ((lnN i).map eN) true))]) (fun i => i ≤ m + 1) (fun i => m + 1 - i) 0 rfl (Nat.zero_le _) (fun _ => rfl) (fun i hk => ?_)
    have hll : ((lnN i).map eN).length = i := by rw [List.length_map, lnN_len]
    have hl2 := lnN_len i
    refine br rfl rfl rfl (fun hc123 => ?_) (fun hc123 => ?_)
    ·
     refine cl rfl (q_ToL (l := l00) l00_lb.bl) rfl <| rf rfl rfl <| ap (hv := by simp only [allP]; exact ⟨by kernel_rfl, by omega⟩) ((lnN (i + 1)).map eN) rfl (show (lnN i).map eN ++ [eN ⟨l00, (i : Int) + 1, -1⟩] = _ by rw [lnN_succ, List.map_append]; rfl) (slOkN [⟨l00, (i : Int) + 1, -1⟩]) rfl <| ?_
     refine rnE 134 120 rfl ?_
     exact at_ (i + 1) ⟨(by omega), (by omega)⟩
    ·
     obtain rfl : i = m + 1 := by omega
     have hlm : ((lnN (m + 1)).map eN).length = m + 1 := by rw [List.length_map, lnN_len]
     refine sb (fu := ⟨0⟩) (eN ⟨l00, (m : Int) + 1, -1⟩) (((chain (m + 1)).wr 0).map eN) rfl (lnN_get m) rfl (lnN_set m) rfl <| fz 120 rfl rfl <| ?_
     by_cases hb : 1024 < 2 * (m + 1)
     ·
      refine cl rfl (q19_lN hE ho (by omega) hb) rfl <| cl (fu := ⟨0⟩) rfl (q_known19 hE) rfl <| ?_
      refine kbT 149 rfl ?_
      refine gx (fu := ⟨3⟩) rfl <| knT rfl (by show some (decide _) = some true; rw [decide_eq_true (by omega)]) rfl <| gl rfl hE.ErrLimit rfl <| cl (fu := ⟨0⟩) rfl p_IsS rfl <| ?_
      refine kbT 156 rfl ?_
      refine gx (fu := ⟨0⟩) rfl <| knT (fu := ⟨4⟩) rfl rfl rfl <| knT rfl (by show some (decide _) = some true; rw [decide_eq_true (by omega)]) rfl <| ?_
      exact rz rfl rfl
     ·
      obtain ⟨w, hw⟩ := q19_lS hE ho (by omega) hb
      refine cl rfl hw rfl <| cl (fu := ⟨0⟩) rfl (q_known19 hE) rfl <| ?_
      refine kbT 149 rfl ?_
      refine gx (fu := ⟨3⟩) rfl <| knF rfl (by show some (decide _) = some false; rw [decide_eq_false (by omega)]) rfl <| gl rfl hE.ErrLimit rfl <| cl (fu := ⟨0⟩) rfl p_IsN rfl <| ?_
      refine kbF 156 rfl ?_
      refine gx (fu := ⟨0⟩) rfl <| knT (fu := ⟨4⟩) rfl rfl rfl <| knF rfl (by show some (decide _) = some false; rw [decide_eq_false (by omega)]) rfl <| ?_
      exact rz rfl rfl
   ·
    have hp0 : PF GB Tryz.prog 33 [eRT rt ns] (.tp [p, vB true]) := by have := hp GB; rw [hq] at this; exact this
    obtain ⟨u, hu⟩ := q19_mS hE hsm h5 ho hq
    refine cl (fu := ⟨3⟩) rfl hp0 rfl <| ?_
    refine kbT 52 rfl ?_
    refine gx rfl <| cl rfl (q19_cS hE hsm h5 hq) rfl <| cl rfl hu rfl <| rf rfl rfl <| cl (fu := ⟨14⟩) rfl (q19_aS hE hsm h5 ho hq) rfl <| knF (fu := ⟨4⟩) rfl rfl rfl <| ?_
    refine knF (fu := ⟨5⟩) rfl rfl rfl <| knF (fu := ⟨32⟩) rfl rfl rfl <| ?_
    refine eqF 111 (.d (.v (.int .u8 ((more % 4 : Nat) : Int)))) rfl (by rw [Int.tmod_eq_emod_of_nonneg (by omega)] <;> rfl) ?_
    refine gx (fu := ⟨2⟩) rfl <| ?_
    obtain ⟨m, hm'⟩ : ∃ m, 511 + more % 4 = m + 1 := ⟨510 + more % 4, by omega⟩
    refine eqF 113 (.d (vI (m + 1 : Nat))) rfl (by rw [← hm'] <;> rfl) ?_
    refine gx rfl <| cl rfl (q_Xy (m := 0) (n := 0) (by decide) (by decide)) rfl <| cl rfl (q_Xy (m := 1) (n := 0) (by decide) (by decide)) rfl <| cl (fu := ⟨2⟩) rfl (q_Through (m := 0) (n := 0) (m' := 1) (n' := 0) (by decide) (by decide) (by decide) (by decide) (by decide)) rfl <| ?_
    refine eqF 118 (.d (eL l00)) rfl (by rw [l00_eq]) ?_
    refine gx (fu := ⟨8⟩) rfl <| bz 60 8 [vI 0] [] rfl rfl rfl <| ?_
    refine lp (X := Nat) (fun i => [(21, .d (vI (i : Nat))), (20, .ov 20 0)]) (fun i => [(20, some (.o 36 [.d (vI 0), .rw 120] true)), (120, some (.b 60 8 ((lnN i).map eN) true))]) (fun i => i ≤ m + 1) (fun i => m + 1 - i) 0 rfl (Nat.zero_le _) (fun _ => rfl) (fun i hk => ?_)
    have hll : ((lnN i).map eN).length = i := by rw [List.length_map, lnN_len]
    have hl2 := lnN_len i
    refine br rfl rfl rfl (fun hc123 => ?_) (fun hc123 => ?_)
    ·
     refine cl rfl (q_ToL (l := l00) l00_lb.bl) rfl <| rf rfl rfl <| ap (hv := by simp only [allP]; exact ⟨by kernel_rfl, by omega⟩) ((lnN (i + 1)).map eN) rfl (show (lnN i).map eN ++ [eN ⟨l00, (i : Int) + 1, -1⟩] = _ by rw [lnN_succ, List.map_append]; rfl) (slOkN [⟨l00, (i : Int) + 1, -1⟩]) rfl <| ?_
     refine rnE 134 120 rfl ?_
     exact at_ (i + 1) ⟨(by omega), (by omega)⟩
    ·
     obtain rfl : i = m + 1 := by omega
     have hlm : ((lnN (m + 1)).map eN).length = m + 1 := by rw [List.length_map, lnN_len]
     refine sb (fu := ⟨0⟩) (eN ⟨l00, (m : Int) + 1, -1⟩) (((chain (m + 1)).wr 0).map eN) rfl (lnN_get m) rfl (lnN_set m) rfl <| fz 120 rfl rfl <| ?_
     by_cases hb : 1024 < 2 * (m + 1)
     ·
      refine cl rfl (q19_lN hE ho (by omega) hb) rfl <| cl (fu := ⟨0⟩) rfl (q_known19 hE) rfl <| ?_
      refine kbT 149 rfl ?_
      refine gx (fu := ⟨3⟩) rfl <| knT rfl (by show some (decide _) = some true; rw [decide_eq_true (by omega)]) rfl <| gl rfl hE.ErrLimit rfl <| cl (fu := ⟨0⟩) rfl p_IsS rfl <| ?_
      refine kbT 156 rfl ?_
      refine gx (fu := ⟨0⟩) rfl <| knT (fu := ⟨4⟩) rfl rfl rfl <| knT rfl (by show some (decide _) = some true; rw [decide_eq_true (by omega)]) rfl <| ?_
      exact rz rfl rfl
     ·
      obtain ⟨w, hw⟩ := q19_lS hE ho (by omega) hb
      refine cl rfl hw rfl <| cl (fu := ⟨0⟩) rfl (q_known19 hE) rfl <| ?_
      refine kbT 149 rfl ?_
      refine gx (fu := ⟨3⟩) rfl <| knF rfl (by show some (decide _) = some false; rw [decide_eq_false (by omega)]) rfl <| gl rfl hE.ErrLimit rfl <| cl (fu := ⟨0⟩) rfl p_IsN rfl <| ?_
      refine kbF 156 rfl ?_
      refine gx (fu := ⟨0⟩) rfl <| knT (fu := ⟨4⟩) rfl rfl rfl <| knF rfl (by show some (decide _) = some false; rw [decide_eq_false (by omega)]) rfl <| ?_
      exact rz rfl rfl
end Go.Sx
end

section
set_option maxRecDepth 100000
namespace Go.Sx
open Go Go.Proofs Go.ChangeShapes Go.WideShapes Go.ChangeAt Go.RowKit
def GW (w : World) : Gh := fun b => match w.heap[b]? with | some (.cells cs _ _) => some cs.toList | _ => none
theorem GW.sub {w : World} {b : Nat} {cs : List Value} (h : GW w b = some cs) : ∃ ty fz, w.heap[b]? = some (.cells ⟨cs⟩ ty fz) := by
 unfold GW at h
 split at h
 · rename_i c t f e
   cases h
   exact ⟨t, f, by rw [e]⟩
 · cases h
theorem GW.of_cell {w : World} {b off : Nat} {v : Value} (h : w.cell? ⟨b, off, none⟩ = some v) : ∃ cs, GW w b = some cs ∧ cs[off]? = some v := by
 unfold World.cell? at h
 unfold GW
 split at h
 · rename_i c t f e
   simp only at e
   refine ⟨c.toList, by rw [e], ?_⟩
   simpa using h
 all_goals first | (rename_i e; cases h) | cases h
theorem HRel.below {w w' : World} {G G' : Gh} {own : List Own} (h : HRel ⟨w, G, []⟩ own G' w') : Below w.heap.size w w' :=
 ⟨h.os, h.tape, h.output, h.size, fun k hk => h.keep k hk (by simp)⟩
end Go.Sx
end

section
set_option maxRecDepth 100000
namespace Go.Sx
open Go Go.Proofs Go.ChangeShapes Go.WideShapes Go.ChangeAt Go.RowKit
inductive CSh where
 | b
 | i (k : IntKind)
 | sl (ag : Bool) (l : List CSh)
mutual
def Fit : CSh → DV → Prop
 | .b, d => ∃ b, d = .v (.bool b)
 | .i k, d => ∃ n, d = .v (.int k n) ∧ (Lit.int k n).wf = true
 | .sl ag l, d => ∃ m : List DV, d = .sl m ∧ m.length ≤ maxLen ∧ ∀ x ∈ m, ∃ ys, FitL l ys ∧ ((ag = true ∧ x = .ag ys) ∨ (ag = false ∧ ys = [x]))
def FitL : List CSh → List DV → Prop
 | [], ds => ds = []
 | s :: l, ds => ∃ d t, ds = d :: t ∧ Fit s d ∧ FitL l t
end
theorem fit_b {d : DV} : Fit .b d ↔ ∃ b, d = .v (.bool b) := by simp only [Fit]
theorem fit_i {k : IntKind} {d : DV} : Fit (.i k) d ↔ ∃ n, d = .v (.int k n) ∧ (Lit.int k n).wf = true := by simp only [Fit]
theorem fit_sl {ag : Bool} {l : List CSh} {d : DV} : Fit (.sl ag l) d ↔ ∃ m : List DV, d = .sl m ∧ m.length ≤ maxLen ∧ ∀ x ∈ m, ∃ ys, FitL l ys ∧ ((ag = true ∧ x = .ag ys) ∨ (ag = false ∧ ys = [x])) := by simp only [Fit]
theorem fitL_nil {ds : List DV} : FitL [] ds ↔ ds = [] := by simp only [FitL]
theorem fitL_cons {s : CSh} {l : List CSh} {ds : List DV} : FitL (s :: l) ds ↔ ∃ d t, ds = d :: t ∧ Fit s d ∧ FitL l t := by simp only [FitL]
theorem fitL_app : ∀ {a b : List CSh} {x y : List DV}, FitL a x → FitL b y → FitL (a ++ b) (x ++ y)
 | [], b, x, y, h, k => by rw [fitL_nil] at h; subst h; exact k
 | s :: l, b, x, y, h, k => by
   obtain ⟨d, t, rfl, h1, h2⟩ := fitL_cons.1 h
   exact fitL_cons.2 ⟨d, t ++ y, rfl, h1, fitL_app h2 k⟩
def flatF (r : TypeId → Option (Bool × List CSh)) (P : Program) : List Field → Nat → Option (List CSh)
 | [], _ => some []
 | f :: fs, o => match r f.type with
   | some (_, l) => if f.offset = o ∧ P.cellsOf f.type = l.length then (flatF r P fs (o + l.length)).map (l ++ ·) else none
   | none => none
def flatT (P : Program) : Nat → TypeId → Option (Bool × List CSh)
 | 0, _ => none
 | n + 1, t => match P.underlying t with
   | some .bool => some (false, [.b])
   | some (.int k) => some (false, [.i k])
   | some (.slice e) => match flatT P n e with
     | some (a, l) => if P.cellsOf e = l.length ∧ 0 < l.length then some (false, [.sl a l]) else none
     | none => none
   | some (.struct fs) => match flatF (flatT P n) P fs.toList 0 with
     | some l => if P.cellsOf t = l.length then some (true, l) else none
     | none => none
   | _ => none
theorem isLs_app {G : Gh} : ∀ {a b : List DV} {x y : List Value}, IsLs G a x → IsLs G b y → IsLs G (a ++ b) (x ++ y)
 | [], b, x, y, h, k => by rw [isl_nil] at h; subst h; exact k
 | s :: l, b, x, y, h, k => by
   obtain ⟨d, t, rfl, h1, h2⟩ := isl_cons.1 h
   exact isl_cons.2 ⟨d, t ++ y, rfl, h1, isLs_app h2 k⟩
theorem fitL_len {G : Gh} : ∀ {l : List CSh} {ds : List DV} {cs : List Value}, FitL l ds → IsLs G ds cs → cs.length = l.length
 | [], ds, cs, h, k => by rw [fitL_nil] at h; subst h; rw [isl_nil] at k; subst k; rfl
 | s :: l, ds, cs, h, k => by
   obtain ⟨d, t, rfl, h1, h2⟩ := fitL_cons.1 h
   obtain ⟨y, n, rfl, k1, k2⟩ := isl_cons.1 k
   simp [fitL_len h2 k2]
section
variable {H : Type} {enc : TypeId × Value → H} {P : Program} {w : World}
theorem open_fields {n : Nat} {r : TypeId → Option (Bool × List CSh)} {tr : TypeId → List Value → Prop}
   (ih : ∀ t a l cs, r t = some (a, l) → tr t cs → ∃ ds, FitL l ds ∧ IsLs (GW w) ds cs) {cs : List Value} :
   ∀ (fs : List Field) (o : Nat) (l : List CSh), flatF r P fs o = some l → (∀ (i : Nat) (f : Field), fs[i]? = some f → tr f.type ((cs.drop f.offset).take (P.cellsOf f.type))) → cs.length = o + l.length →
     ∃ ds, FitL l ds ∧ IsLs (GW w) ds (cs.drop o)
 | [], o, l, h, _, hl => by
   cases h
   refine ⟨[], fitL_nil.2 rfl, isl_nil.2 ?_⟩
   simp at hl
   simp [hl]
 | f :: fs, o, l, h, hc, hl => by
   unfold flatF at h
   split at h
   · rename_i a l1 hr
     split at h
     · rename_i hk
       obtain ⟨h1, h2⟩ := hk
       simp only [Option.map_eq_some_iff] at h
       obtain ⟨l2, h3, rfl⟩ := h
       rw [List.length_append] at hl
       obtain ⟨ds1, f1, i1⟩ := ih _ _ _ _ hr (hc 0 f rfl)
       obtain ⟨ds2, f2, i2⟩ := open_fields (n := n) ih fs (o + l1.length) l2 h3 (fun i g hg => hc (i + 1) g hg) (by omega)
       refine ⟨ds1 ++ ds2, fitL_app f1 f2, ?_⟩
       rw [h1, h2] at i1
       have e : cs.drop o = (cs.drop o).take l1.length ++ cs.drop (o + l1.length) := by
         rw [← List.drop_drop, List.take_append_drop]
       rw [e]
       exact isLs_app i1 i2
     · cases h
   · cases h
theorem exists_list {α β : Type} {p : Nat → α → β → Prop} : ∀ (l : List α) (k : Nat), (∀ (i : Nat) a, l[i]? = some a → ∃ b, p (k + i) a b) → ∃ m : List β, m.length = l.length ∧ ∀ (i : Nat) a, l[i]? = some a → ∃ b, m[i]? = some b ∧ p (k + i) a b
 | [], k, _ => ⟨[], rfl, fun i a h => by simp at h⟩
 | a :: l, k, h => by
   obtain ⟨b, hb⟩ := h 0 a rfl
   obtain ⟨m, hm, hm2⟩ := exists_list l (k + 1) (fun i c hc => by have := h (i + 1) c hc; rwa [show k + (i + 1) = k + 1 + i by omega] at this)
   refine ⟨b :: m, by simp [hm], fun i c hc => ?_⟩
   cases i with
   | zero => simp at hc; subst hc; exact ⟨b, rfl, hb⟩
   | succ i => obtain ⟨d, h1, h2⟩ := hm2 i c hc; exact ⟨d, h1, by rwa [show k + (i + 1) = k + 1 + i by omega]⟩
theorem isLs_of : ∀ {G : Gh} (m : List DV) (es : List Value), m.length = es.length → (∀ (i : Nat) d e, m[i]? = some d → es[i]? = some e → Is G d e) → IsLs G m es
 | G, [], [], _, _ => isl_nil.2 rfl
 | G, d :: m, e :: es, hl, h => isl_cons.2 ⟨e, es, rfl, h 0 d e rfl rfl, isLs_of m es (by simpa using hl) (fun i a b ha hb => h (i + 1) a b ha hb)⟩
theorem takeL_mk {cs m : List Value} {o k : Nat} (hl : m.length = k) (h : ∀ i, i < k → cs[o + i]? = m[i]?) (ho : o + k ≤ cs.length) : takeL cs o k = some m := by
 rw [takeL_of _ _ _ ho]
 congr 1
 apply List.ext_getElem?
 intro i
 by_cases hi : i < k
 · rw [List.getElem?_take_of_lt hi, List.getElem?_drop]; exact h i hi
 · rw [List.getElem?_eq_none (by simp; omega), List.getElem?_eq_none (by omega)]
theorem open_cells : ∀ (n : Nat) (t : TypeId) (a : Bool) (l : List CSh) (cs : List Value) (fuel : Nat) (x : DataW H × List MemPlace), flatT P n t = some (a, l) → DataW.trod enc P w 0 (fun _ => true) true fuel t cs = some x → ∃ ds, FitL l ds ∧ IsLs (GW w) ds cs
 | 0, _, _, _, _, _, _, h, _ => by cases h
 | n + 1, t, a, l, cs, fuel, x, h, hx => by
   unfold flatT at h
   split at h
   · rename_i ht
     cases h
     obtain ⟨b, rfl, _⟩ := DataW.trod_bool ht hx
     exact ⟨[.v (.bool b)], fitL_cons.2 ⟨_, _, rfl, fit_b.2 ⟨b, rfl⟩, fitL_nil.2 rfl⟩, isl_cons.2 ⟨_, _, rfl, is_v.2 rfl, isl_nil.2 rfl⟩⟩
   · rename_i k ht
     cases h
     obtain ⟨b, rfl, _, hw⟩ := DataW.trod_int ht hx
     exact ⟨[.v (.int k b)], fitL_cons.2 ⟨_, _, rfl, fit_i.2 ⟨b, rfl, hw⟩, fitL_nil.2 rfl⟩, isl_cons.2 ⟨_, _, rfl, is_v.2 rfl, isl_nil.2 rfl⟩⟩
   · rename_i e ht
     split at h
     · rename_i a1 l1 h1
       split at h
       · rename_i hk
         cases h
         obtain ⟨hk1, hk2⟩ := hk
         rcases DataW.trod_slice ht hx with ⟨rfl, _⟩ | ⟨ad, len, cap, elems, rest, f, _, rfl, _, _, hlc, hcm, hlen, hel, _, _⟩
         · exact ⟨[.sl []], fitL_cons.2 ⟨_, _, rfl, fit_sl.2 ⟨[], rfl, Nat.zero_le _, fun x hx => by cases hx⟩, fitL_nil.2 rfl⟩, isl_cons.2 ⟨_, _, rfl, is_sl.2 ⟨0, ⟨none, 0, 0⟩, [], rfl, .nil _ 0, isl_nil.2 rfl⟩, isl_nil.2 rfl⟩⟩
         · have each : ∀ (i : Nat) (y : DataW H × List MemPlace), elems[i]? = some y → ∃ p : DV × Value, (∃ ys, FitL l1 ys ∧ ((a1 = true ∧ p.1 = .ag ys) ∨ (a1 = false ∧ ys = [p.1]))) ∧ Is (GW w) p.1 p.2 ∧ (∃ es, w.cells? 0 (ad.add ((0 + i) * l1.length)) l1.length = some es ∧ es.length = l1.length ∧ cellsL p.2 = es) := by
             intro i y hy
             have hi : i < len := by rw [← hlen]; exact (List.getElem?_eq_some_iff.1 hy).1
             have hE := hel i hi
             rw [hy, Option.bind_eq_some_iff, hk1] at hE
             obtain ⟨es, he1, he2⟩ := hE
             obtain ⟨ds, hd1, hd2⟩ := open_cells n e a1 l1 es f y h1 he2
             have hlen1 := fitL_len hd1 hd2
             rw [show 0 + i = i by omega]
             cases a1 with
             | true => exact ⟨(.ag ds, .agg ⟨es⟩), ⟨ds, hd1, .inl ⟨rfl, rfl⟩⟩, is_ag.2 ⟨es, rfl, hd2⟩, es, he1, hlen1, rfl⟩
             | false =>
               have hone : ∃ s, l1 = [s] := by
                 cases n with
                 | zero => cases h1
                 | succ n =>
                   unfold flatT at h1
                   split at h1
                   · cases h1; exact ⟨_, rfl⟩
                   · cases h1; exact ⟨_, rfl⟩
                   · split at h1
                     · split at h1 <;> cases h1; exact ⟨_, rfl⟩
                     · cases h1
                   · split at h1
                     · split at h1 <;> cases h1
                     · cases h1
                   · cases h1
               obtain ⟨s, rfl⟩ := hone
               obtain ⟨d, t', rfl, hd3, hd4⟩ := fitL_cons.1 hd1
               rw [fitL_nil] at hd4; subst hd4
               obtain ⟨c, t', rfl, hd5, hd6⟩ := isl_cons.1 hd2
               rw [isl_nil] at hd6; subst hd6
               refine ⟨(d, c), ⟨[d], hd1, .inr ⟨rfl, rfl⟩⟩, hd5, [c], he1, rfl, ?_⟩
               cases s with
               | b => obtain ⟨b, rfl⟩ := fit_b.1 hd3; rw [is_v] at hd5; subst hd5; rfl
               | i k => obtain ⟨b, rfl, _⟩ := fit_i.1 hd3; rw [is_v] at hd5; subst hd5; rfl
               | sl a2 l2 => obtain ⟨m, rfl, _⟩ := fit_sl.1 hd3; obtain ⟨_, _, _, rfl, _⟩ := is_sl.1 hd5; rfl
           obtain ⟨ps, hpl, hps⟩ := exists_list (p := fun i _ (p : DV × Value) => (∃ ys, FitL l1 ys ∧ ((a1 = true ∧ p.1 = .ag ys) ∨ (a1 = false ∧ ys = [p.1]))) ∧ Is (GW w) p.1 p.2 ∧ (∃ es, w.cells? 0 (ad.add (i * l1.length)) l1.length = some es ∧ es.length = l1.length ∧ cellsL p.2 = es)) elems 0 each
           have get : ∀ (i : Nat) p, ps[i]? = some p → (∃ ys, FitL l1 ys ∧ ((a1 = true ∧ p.1 = .ag ys) ∨ (a1 = false ∧ ys = [p.1]))) ∧ Is (GW w) p.1 p.2 ∧ (∃ es, w.cells? 0 (ad.add (i * l1.length)) l1.length = some es ∧ es.length = l1.length ∧ cellsL p.2 = es) := by
             intro i p hp
             have hi : i < elems.length := by rw [← hpl]; exact (List.getElem?_eq_some_iff.1 hp).1
             obtain ⟨b, hb1, hb2⟩ := hps i elems[i] (List.getElem?_eq_getElem hi)
             rw [hp] at hb1; cases hb1
             rwa [show 0 + i = i by omega] at hb2
           refine ⟨[.sl (ps.map (·.1))], fitL_cons.2 ⟨_, _, rfl, fit_sl.2 ⟨_, rfl, by rw [List.length_map, hpl, hlen]; omega, fun x hx => ?_⟩, fitL_nil.2 rfl⟩, isl_cons.2 ⟨_, _, rfl, is_sl.2 ⟨l1.length, ⟨some ad, len, cap⟩, ps.map (·.2), rfl, ⟨by rw [List.length_map, hpl, hlen], hlc, ?_⟩, ?_⟩, isl_nil.2 rfl⟩⟩
           · obtain ⟨p, hp, rfl⟩ := List.mem_map.1 hx
             obtain ⟨i, hi⟩ := List.getElem?_of_mem hp
             exact (get i p hi).1
           · by_cases h0 : len = 0
             · left; rw [List.map_eq_nil_iff]; exact List.eq_nil_of_length_eq_zero (by omega)
             · right
               obtain ⟨b, off, spot⟩ := ad
               have cell : ∀ i, i < len → ∀ j, j < l1.length → ∃ p, ps[i]? = some p ∧ (cellsL p.2).length = l1.length ∧ w.cell? (((⟨b, off, spot⟩ : Addr).add (i * l1.length)).add j) = (cellsL p.2)[j]? := by
                 intro i hi j hj
                 have hp : ps[i]? = some ps[i] := List.getElem?_eq_getElem (by omega)
                 obtain ⟨_, _, es, h1, h2, h3⟩ := get i _ hp
                 exact ⟨_, hp, by rw [h3, h2], by rw [(World.cells?_some h1).2.2 j hj, h3]⟩
               have val : ∀ i, i < len → ∀ j, j < l1.length → ∃ p v, ps[i]? = some p ∧ (cellsL p.2)[j]? = some v ∧ w.cell? (((⟨b, off, spot⟩ : Addr).add (i * l1.length)).add j) = some v := by
                 intro i hi j hj
                 obtain ⟨p, hp, h1, h2⟩ := cell i hi j hj
                 exact ⟨p, (cellsL p.2)[j], hp, List.getElem?_eq_getElem (by omega), by rw [h2]; exact List.getElem?_eq_getElem (by omega)⟩
               have hspot : spot = none := by
                 obtain ⟨p, v, _, _, h1⟩ := val 0 (by omega) 0 hk2
                 have := World.cell?_spot h1
                 unfold Addr.add at this
                 simpa using this
               subst hspot
               simp only [Go.WideShapes.add_plain] at val
               obtain ⟨_, v0, _, _, h00⟩ := val 0 (by omega) 0 hk2
               obtain ⟨cs, hcs, _⟩ := GW.of_cell h00
               refine ⟨b, off, cs, rfl, hcs, fun i hi => ?_⟩
               simp only [List.length_map] at hi
               have hp : ps[i]? = some ps[i] := List.getElem?_eq_getElem (by omega)
               obtain ⟨_, _, es, h1, h2, h3⟩ := get i _ hp
               have got : ∀ j, j < l1.length → ∃ v, (cellsL ps[i].2)[j]? = some v ∧ cs[off + i * l1.length + j]? = some v := by
                 intro j hj
                 obtain ⟨p, v, hp', hv1, hv2⟩ := val i (by omega) j hj
                 rw [hp] at hp'; cases hp'
                 obtain ⟨cs', hcs', hc'⟩ := GW.of_cell hv2
                 rw [hcs] at hcs'; cases hcs'
                 exact ⟨v, hv1, hc'⟩
               rw [List.getElem_map]
               refine takeL_mk (by rw [h3, h2]) (fun j hj => ?_) ?_
               · obtain ⟨v, hv1, hv2⟩ := got j hj
                 rw [hv1, hv2]
               · obtain ⟨v, hv1, hv2⟩ := got (l1.length - 1) (by omega)
                 have := (List.getElem?_eq_some_iff.1 hv2).1
                 omega
           · refine isLs_of _ _ (by simp) (fun i d e hd he => ?_)
             rw [List.getElem?_map] at hd he
             cases hp : ps[i]? with
             | none => rw [hp] at hd; cases hd
             | some p => rw [hp] at hd he; cases hd; cases he; exact (get i p hp).2.1
       · cases h
     · cases h
   · rename_i fs ht
     split at h <;> try (cases h; done)
     rename_i l' h1
     split at h <;> cases h
     rename_i hcz
     obtain ⟨xs, m, _, _, hcl, hxl, hE⟩ := DataW.trod_struct ht hx
     have := open_fields (n := n) (w := w) (cs := cs) (tr := fun t cs => ∃ x, DataW.trod enc P w 0 (fun _ => true) true m t cs = some x) (fun t a l cs h ⟨x, hx⟩ => open_cells n t a l cs m x h hx) fs.toList 0 l h1 (fun i f hf => by
       have hf' : fs[i]? = some f := by simpa using hf
       have hi : i < xs.length := by rw [hxl]; exact (Array.getElem?_eq_some_iff.1 hf').1
       exact ⟨xs[i], by rw [hE i f hf', List.getElem?_eq_getElem hi]⟩) ?_
     · simpa using this
     · omega
   · cases h
end
theorem fit_ds {d : DV} (h : Fit (.sl false [.i .u32]) d) : ∃ ds : List Nat, d = dLi ds ∧ DOk ds := by
 obtain ⟨m, rfl, _, hm⟩ := fit_sl.1 h
 have : ∃ ds : List Nat, m = ds.map dU ∧ DOk ds := by
   clear h
   induction m with
   | nil => exact ⟨[], rfl, fun d hd => by cases hd⟩
   | cons x m ih =>
     obtain ⟨ds, rfl, hd⟩ := ih (by rename_i q; simp at q; omega) (fun y hy => hm y (List.mem_cons_of_mem _ hy))
     obtain ⟨ys, hy, ⟨h0, _⟩ | ⟨_, rfl⟩⟩ := hm x List.mem_cons_self
     · cases h0
     · obtain ⟨d, t, e, h1, h2⟩ := fitL_cons.1 hy
       cases e
       obtain ⟨n, rfl, hw⟩ := fit_i.1 h1
       have h3 : 0 ≤ n ∧ n < 4294967296 := by
         simp only [Lit.wf, Bool.and_eq_true, decide_eq_true_eq] at hw
         have e1 : IntKind.u32.min = 0 := rfl
         have e2 : IntKind.u32.max = 4294967295 := rfl
         omega
       refine ⟨n.toNat :: ds, ?_, fun d hd' => ?_⟩
       · rw [List.map_cons]; congr 1; unfold dU; congr 2; omega
       · rcases List.mem_cons.1 hd' with rfl | hd'
         · omega
         · exact hd d hd'
 obtain ⟨ds, rfl, hd⟩ := this
 exact ⟨ds, rfl, hd⟩
def shI : List CSh := [.b, .sl false [.i .u32]]
def shL : List CSh := shI ++ (shI ++ shI)
theorem fit_I {l : List CSh} {ds : List DV} (h : FitL (shI ++ l) ds) : ∃ (b : Bool) (n : List Nat) (t : List DV), ds = .v (.bool b) :: dLi n :: t ∧ DOk n ∧ FitL l t := by
 obtain ⟨d, t, rfl, h1, h2⟩ := fitL_cons.1 h
 obtain ⟨d2, t2, rfl, h3, h4⟩ := fitL_cons.1 h2
 obtain ⟨b, rfl⟩ := fit_b.1 h1
 obtain ⟨n, rfl, hn⟩ := fit_ds h3
 exact ⟨b, n, t2, rfl, hn, h4⟩
theorem fit_L {l : List CSh} {ds : List DV} (h : FitL (shL ++ l) ds) : ∃ (r : RL) (t : List DV), ds = [.v (.bool r.na), dLi r.da, .v (.bool r.nb), dLi r.db, .v (.bool r.nc), dLi r.dc] ++ t ∧ (DOk r.da ∧ DOk r.db ∧ DOk r.dc) ∧ FitL l t := by
 unfold shL at h
 rw [List.append_assoc, List.append_assoc] at h
 obtain ⟨a, x, t, rfl, h1, h⟩ := fit_I h
 obtain ⟨b, y, t, rfl, h2, h⟩ := fit_I h
 obtain ⟨c, z, t, rfl, h3, h⟩ := fit_I h
 exact ⟨⟨a, x, b, y, c, z⟩, t, rfl, ⟨h1, h2, h3⟩, h⟩
theorem fit_map {α : Type} {ag : Bool} {l : List CSh} {d : DV} {f : α → DV} {p : α → Prop} (h : Fit (.sl ag l) d) (k : ∀ x ys, FitL l ys → ((ag = true ∧ x = DV.ag ys) ∨ (ag = false ∧ ys = [x])) → ∃ a, x = f a ∧ p a) : ∃ xs : List α, d = .sl (xs.map f) ∧ xs.length ≤ maxLen ∧ ∀ a ∈ xs, p a := by
 obtain ⟨m, rfl, hl, hm⟩ := fit_sl.1 h
 have : ∃ xs : List α, m = xs.map f ∧ ∀ a ∈ xs, p a := by
   clear h hl
   induction m with
   | nil => exact ⟨[], rfl, fun a ha => by cases ha⟩
   | cons x m ih =>
     obtain ⟨xs, rfl, ha⟩ := ih (fun y hy => hm y (List.mem_cons_of_mem _ hy))
     obtain ⟨ys, hy, hx⟩ := hm x List.mem_cons_self
     obtain ⟨a, rfl, hp⟩ := k x ys hy hx
     exact ⟨a :: xs, rfl, fun b hb => by rcases List.mem_cons.1 hb with rfl | hb; exact hp; exact ha b hb⟩
 obtain ⟨xs, rfl, ha⟩ := this
 exact ⟨xs, rfl, by simpa using hl, ha⟩
theorem es_star : "*" ++ "errors.errorString" = "*errors.errorString" := by decide
theorem es_row (u : TypeId) (h : Tryz.prog.typeName? 3 u = some "*errors.errorString") : u = 309 :=
 typeName_ptr_named (nm := "errors.errorString") (by rw [es_star]; kernel_rfl) (by kernel_rfl) (by decide) u (by rw [es_star]; exact h)
theorem sent_of {W : World} {n : String} {g : Nat} {text : List UInt8} {r : List (String × DataW Unit)} (h : laidMet Tryz.prog ((n, .iface "*errors.errorString" (.ptr (.agg [.lit (.string text)]))) :: r) W) (hg : Tryz.prog.globalNamed n = some g) (ht : (Tryz.prog.globals[g]?).map (·.type) = some 38) :
   ∃ a, GW W g = some [.iface 309 (.pointer (some a))] := by
 obtain ⟨a, s, hv, _⟩ := laid_sentinel h hg ht Tryz.underlying38 es_row Tryz.underlying309 Tryz.underlying334 rfl rfl Tryz.underlying9 (by kernel_rfl) (by kernel_rfl)
 refine ⟨a, ?_⟩
 unfold World.var? at hv
 rw [hg, Option.bind_some] at hv
 unfold GW
 split at hv
 · rename_i c t f e
   rw [e]; cases hv; rfl
 · cases hv
theorem laid_plain {W : World} {l : List (String × DataW Unit)} (h : laidMetH Tryz.prog l W) (hp : (l.all fun x => x.2.handleName?.isNone) = true) : laidMet Tryz.prog l W := by rwa [Go.MakeChecks.laidMetH_plain _ _ _ hp] at h
end Go.Sx
end

section
set_option maxRecDepth 100000
namespace Go.Proofs.YtkijgpopaaknfaaGreatDoor.mergeRefuses
open Go.ChangeShapes Go.WideShapes Go.ChangeAt Go.RowKit Go.Sx
theorem own : ownKnob Tryz.prog.godebug = none := by kernel_rfl
theorem laidOut : laidOutB Tryz.prog = true := by kernel_rfl
theorem door_met (os : Os) (args : Array Value) : laidMetH Tryz.prog Rows.mergeRefusesRow.laid ((World.doorLaid Tryz.prog 66 os).forCall (fun _ _ => 0) ⟨#[], args, []⟩).memory :=
 laidMetH_of_parts3 (fuel := 8) (laidMet_of_run' 8 (by kernel_rfl) (by kernel_rfl)) (by kernel_rfl) (by kernel_rfl)
theorem flat_Tree : flatT Tryz.prog 8 36 = some (true, [.i .i64, .sl true (shL ++ [.i .i64, .i .i64])]) := by kernel_rfl
theorem wf_i64 {n : Int} (h : (Lit.int .i64 n).wf = true) : -9223372036854775808 ≤ n ∧ n < 9223372036854775808 := by
 simp only [Lit.wf, Bool.and_eq_true, decide_eq_true_eq] at h
 have e1 : IntKind.i64.min = -9223372036854775808 := rfl
 have e2 : IntKind.i64.max = 9223372036854775807 := rfl
 omega
theorem wf_u8 {n : Int} (h : (Lit.int .u8 n).wf = true) : 0 ≤ n ∧ n < 256 := by
 simp only [Lit.wf, Bool.and_eq_true, decide_eq_true_eq] at h
 have e1 : IntKind.u8.min = 0 := rfl
 have e2 : IntKind.u8.max = 255 := rfl
 omega
theorem open_Tree {H : Type} {enc : TypeId × Value → H} {base : Nat} {W : World} {v : Value} {d : DataW H} {ps : List MemPlace} (hv : Value.okWide Tryz.prog W .any base 36 v) (h : DataW.Trod enc Tryz.prog W 0 (fun _ => true) true 36 v d ps) :
   ∃ (rt : Int) (ns : List RN), Is (GW W) (eRT rt ns) v ∧ (∀ n ∈ ns, n.g.wd) ∧ ns.length ≤ 9223372036854775807 := by
 simp only [Value.okWide, Tryz.underlying36] at hv
 obtain ⟨⟨cs⟩, rfl, _, _⟩ := hv
 obtain ⟨fuel, hf⟩ := h
 obtain ⟨ds, h1, h2⟩ := open_cells 8 _ _ _ _ fuel _ flat_Tree hf
 obtain ⟨x, t, rfl, h3, h4⟩ := fitL_cons.1 h1
 obtain ⟨y, t, rfl, h5, h6⟩ := fitL_cons.1 h4
 rw [fitL_nil] at h6; subst h6
 obtain ⟨rt, rfl, _⟩ := fit_i.1 h3
 obtain ⟨ns, rfl, hl, hn⟩ := fit_map (f := RN.d) (p := fun n => n.g.wd) h5 (fun x ys hy hx => by
   rcases hx with ⟨_, rfl⟩ | ⟨h0, _⟩
   · obtain ⟨r, t, rfl, ⟨k1, k2, k3⟩, k4⟩ := fit_L hy
     obtain ⟨a, t, rfl, ha, k5⟩ := fitL_cons.1 k4
     obtain ⟨b, t, rfl, hb, k6⟩ := fitL_cons.1 k5
     rw [fitL_nil] at k6; subst k6
     obtain ⟨l, rfl, _⟩ := fit_i.1 ha
     obtain ⟨q, rfl, _⟩ := fit_i.1 hb
     exact ⟨⟨r, l, q⟩, rfl, ⟨k1, k2, k3⟩⟩
   · cases h0)
 exact ⟨rt, ns, is_ag.2 ⟨cs, rfl, h2⟩, hn, by unfold maxLen at hl; omega⟩
theorem eg_of {W : World} (h : laidMetH Tryz.prog Rows.mergeRefusesRow.laid W) : ∃ ai al ae, EG (GW W) ai al ae := by
 have h1 := laid_plain h rfl
 obtain ⟨ai, hi⟩ := sent_of (g := 1) h1 (by kernel_rfl) (by kernel_rfl)
 obtain ⟨ae, he⟩ := sent_of (g := 0) h1.tail (by kernel_rfl) (by kernel_rfl)
 obtain ⟨al, hl⟩ := sent_of (g := 2) h1.tail.tail (by kernel_rfl) (by kernel_rfl)
 exact ⟨ai, al, ae, hi, hl, he⟩
theorem contract (H : Type) (enc : TypeId × Value → H) (W : World) (base : Nat) (args : Array Value) (ds gs : List (DataW H)) (before : List MemPlace)
  (hval : ∀ (j : Nat) t v, Tryz.f8.params[j]? = some t → args[j]? = some v → Value.okWide Tryz.prog W .any base t v)
  (hW : DataW.Whole enc Tryz.prog Tryz.f8.params.toList Rows.mergeRefusesSpec.vars false W args.toList ds gs before) (hlaid : laidMetH Tryz.prog Rows.mergeRefusesRow.laid W) :
  Calls Tryz.prog 8 args W fun e W' => ∃ v, e = .returned v ∧ Rows.mergeRefusesSpec.post enc Tryz.prog Tryz.f8 false true false false W args v W' := by
 have hW' := hW
 obtain ⟨p, q, hA0, hV, rfl, _, _⟩ := hW
 have hA : DataW.TrodAll enc Tryz.prog W 0 (fun _ => true) true Tryz.f8.params.toList args.toList ds p := hA0
 rw [Tryz.params8] at hA hval
 obtain ⟨v0, v1, v2, d0, d1, d2, p0, p1, p2, hargs, rfl, rfl, h0, h1, h2⟩ := trodAll_three hA
 subst hargs
 obtain ⟨rfl, rfl⟩ := trodVars_none hV
 obtain ⟨n, rfl, rfl, rfl, wn⟩ := open_int Tryz.underlying3 (hval 1 3 v1 rfl rfl) h1
 obtain ⟨m, rfl, rfl, rfl, wm⟩ := open_int Tryz.underlying5 (hval 2 5 v2 rfl rfl) h2
 clear hA0
 simp only [List.append_nil] at hW'
 have hlt : ∀ x ∈ p0, x.block < W.heap.size := fun x hx => by simpa using hW'.lt x hx
 obtain ⟨rt, ns, hI, hwd, hl⟩ := open_Tree (hval 0 36 v0 rfl rfl) h0
 obtain ⟨ai, al, ae, hE⟩ := eg_of hlaid
 have hm := wf_u8 wm
 obtain ⟨k, rfl⟩ : ∃ k : Nat, m = k := ⟨m.toNat, by omega⟩
 have hf := (q_MergeRefuses hE (rt := rt) (op := n) (more := k) hwd hl (wf_i64 wn) (by omega)) (GW W) [v0, .int .i64 n, .int .u8 k] (GLe.refl _) (.cons hI (.cons (is_v.2 rfl) (.cons (is_v.2 rfl) .nil)))
 refine (hf.run W (fun b cs hg => GW.sub hg)).mono fun e W' ⟨v, G', he, hr, hv⟩ => ?_
 rw [is_v] at hv
 subst hv
 subst he
 have hn := hr.below
 have t2 := trodAll_mk3 (Below.trod laidOut (by kernel_rfl) (of_decide_eq_true (by kernel_rfl)) h0 hn hlt) (shut_int Tryz.underlying3 wn) (shut_int Tryz.underlying5 wm)
 simp only [List.append_nil] at t2
 exact ⟨_, rfl, ⟨_, _, _, [], _, [], hW', trodAll_mk1 (shut_bool Tryz.underlying4 _), t2, rfl, hn.frame _, fun h => by cases h⟩⟩
theorem reads (os : Os) {H : Type} (enc : TypeId × Value → H) : ∃ places, DataW.whole enc Tryz.prog ((World.doorLaid Tryz.prog 66 os).forCall (fun _ _ => 0) ⟨#[], #[.agg #[.int .i64 0, .slice none 0 0], .int .i64 0, .int .u8 0], []⟩).memory Tryz.f8.params.toList Rows.mergeRefusesSpec.vars false #[Value.agg #[.int .i64 0, .slice none 0 0], .int .i64 0, .int .u8 0].toList 8 = some ([.agg [.lit (.int .i64 0), .nil], .lit (.int .i64 0), .lit (.int .u8 0)], [], places) :=
 ⟨[], by kernel_rfl⟩
theorem lifted (os : Os) (started : os.Started) (H : Type) (enc : TypeId × Value → H) (F : Stop.Interp) :
  ReturnsInHanded {} Tryz.checked os 8 .any ((OpenSpec.ofChange Rows.mergeRefusesSpec).preRow enc Tryz.prog Tryz.f8 Rows.mergeRefusesRow.domain false Rows.mergeRefusesRow.laid) (((OpenSpec.ofChange Rows.mergeRefusesSpec).at F).post enc Tryz.prog Tryz.f8 false true false false) := by
 obtain ⟨places, hx⟩ := reads os enc
 refine returnsInHanded_of_row (C := Tryz.checked) (s := OpenSpec.ofChange Rows.mergeRefusesSpec) own started (by kernel_rfl) Tryz.func8
  (witness_row_atRef (enc := enc) (C := Tryz.checked) false (World.doorLaid Tryz.prog 66 os) #[.agg #[.int .i64 0, .slice none 0 0], .int .i64 0, .int .u8 0] rfl (by kernel_rfl) (by kernel_rfl) (by kernel_rfl)
   (OpenSpec.preRow_of_cond 8 hx (by kernel_rfl) (fun k hk => by cases hk) (by kernel_rfl) (door_met os _))) ?_
 intro W base args ds gs before hval hW _ _ _ hlaid _ _
 exact contract H enc W base args ds gs before hval hW hlaid
theorem said : Rows.MergeRefusesSaid :=
 OpenClaim.holds_of_cond 8 Tryz.f8 rfl rfl rfl rfl rfl rfl rfl ⟨rfl, rfl, rfl, rfl, rfl⟩ rfl rfl rfl rfl rfl (by kernel_rfl) Tryz.func8 (by kernel_rfl)
  (of_decide_eq_true (by kernel_rfl)) (by unfold Func.isWrapper; first | (rw [if_pos (by decide +kernel)]; kernel_rfl) | (rw [if_neg (by decide +kernel)]; exact ⟨rfl, rfl⟩))
  (fun os started H enc _ F => by rw [OpenClaim.pre_eq_preRow]; exact lifted os started H enc F)
theorem plain (f : FuncId) (fn : Func) (hf : Tryz.pinned.checked.prog.funcNamed "bspregion/bspregionlaw19.MergeRefuses" = some f) (hfn : Tryz.pinned.checked.prog.funcs[f]? = some fn) :
   true = Tryz.pinned.checked.prog.looks [] ∧ ∀ (j : Nat) t, fn.params[j]? = some t → Tryz.pinned.checked.prog.wantsStandIn t = false := by
 obtain rfl : f = 8 := Option.some.inj ((show Tryz.prog.funcNamed "bspregion/bspregionlaw19.MergeRefuses" = some 8 by kernel_rfl).symm.trans hf) |>.symm
 obtain rfl : fn = Tryz.f8 := (Option.some.inj (Tryz.func8.symm.trans hfn)).symm
 refine ⟨by kernel_rfl, fun j t ht => ?_⟩
 rw [Tryz.params8] at ht
 have hm := Array.mem_of_getElem? ht
 simp only [List.mem_toArray, List.mem_cons, List.not_mem_nil, or_false] at hm
 rcases hm with rfl | rfl | rfl
 · exact (show Tryz.prog.wantsStandIn 36 = false by kernel_rfl)
 · exact (show Tryz.prog.wantsStandIn 3 = false by kernel_rfl)
 · exact (show Tryz.prog.wantsStandIn 5 = false by kernel_rfl)
theorem card : Rows.MergeRefusesCardSaid :=
 Claim7.holds_tied_plain_at .later [] _ _ _ _ said (fun _ h => by cases h) (by kernel_rfl) (fun _ h => by cases h) mergeRefuses_row_tie rfl ⟨rfl, rfl⟩ (by kernel_rfl) rfl plain (by kernel_rfl)
#print axioms card
end Go.Proofs.YtkijgpopaaknfaaGreatDoor.mergeRefuses
end
