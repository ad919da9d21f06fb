/-
  The law ReduceCells holds: it answers true at every input and leaves its argument as it was.
-/
import Derived.Test.YtkijgpopaaknfaaGreatDoorMa15
import Derived.Test.YtkijgpopaaknfaaGreatDoorCards
import Derived.Test.YtkijgpopaaknfaaGreatDoorTie
import Derived.WalkKit
import Derived.ProofKit
import Derived.OpenShut
import Derived.Deep.DeepHandedRow
import Derived.Deep.DeepWitnessRowRef
import Derived.LaidMore
import Derived.Lib.LaidTab
import Derived.SizedLaws
section
set_option maxRecDepth 100000
namespace Go.Sx
open Go Go.Proofs

theorem eN_get (xs ys : List NQ) (n : NQ) : ((xs ++ (n :: ys)).map eN)[((xs.length : Nat) : Int).toNat]? = some (eN n) := by simp
theorem eN_set (xs ys : List NQ) (n m : NQ) (e : DV) (h : e = eN m) : ((xs ++ (n :: ys)).map eN).set ((xs.length : Nat) : Int).toNat e = (xs ++ (m :: ys)).map eN := by subst h; simp

theorem q_write_true {GB : Gh} {ns : List NQ} : PB GB Tryz.prog 50 (fun w => [eT (.leaf true), .v (.slice w.a w.n w.c)]) 8 60 (ns.map eN) (fun w => .tp [.v (.slice w.a w.n w.c), .v (.int .i64 (Tr.num (.leaf true) ns.length))]) ((ns ++ Tr.wr (.leaf true) ns.length).map eN) := by
  refine PB.intro Tryz.func50 rfl rfl Tryz.ntmps50 (fun _ => rfl) ?_
  intro C w0
  refine sd_bh ((ns ++ Tr.wr (.leaf true) ns.length).map eN) (by simp [Tr.wr]) ?_
  refine sd_seq <| sd_region <| tY (yq_assign rfl) rfl <| tY (yq_assign rfl) rfl <| sd_end <| sd_seq <| sd_seq <| sd_region <| tY (yq_move rfl) rfl <| tY (yq_nilT rfl) rfl <| tY (yq_faE rfl rfl) rfl <| ?_
  refine tY (yq_ldE1 rfl rfl) rfl <| sd_end <| sd_condT rfl <| sd_seq <| sd_seq <| sd_region <| tY (yq_move rfl) rfl <| tY (yq_nilT rfl) rfl <| tY (yq_faE rfl rfl) rfl <| tY (yq_ldE1 rfl rfl) rfl <| ?_
  refine sd_end <| sd_condT rfl <| sd_seq <| sd_region <| tY (yq_move rfl) rfl <| tY (yq_assign rfl) rfl <| tY (yq_assign rfl) rfl <| sd_end <| sd_ret <| ?_
  exact sd_doneB (w := w0) (.tmp rfl (.tmp rfl .nil)) rfl (by repeat (first | exact .hd .. | apply BRemD.tl))
theorem q_write_false {GB : Gh} {ns : List NQ} : PB GB Tryz.prog 50 (fun w => [eT (.leaf false), .v (.slice w.a w.n w.c)]) 8 60 (ns.map eN) (fun w => .tp [.v (.slice w.a w.n w.c), .v (.int .i64 (Tr.num (.leaf false) ns.length))]) ((ns ++ Tr.wr (.leaf false) ns.length).map eN) := by
  refine PB.intro Tryz.func50 rfl rfl Tryz.ntmps50 (fun _ => rfl) ?_
  intro C w0
  refine sd_bh ((ns ++ Tr.wr (.leaf false) ns.length).map eN) (by simp [Tr.wr]) ?_
  refine sd_seq <| sd_region <| tY (yq_assign rfl) rfl <| tY (yq_assign rfl) rfl <| sd_end <| sd_seq <| sd_seq <| sd_region <| tY (yq_move rfl) rfl <| tY (yq_nilT rfl) rfl <| tY (yq_faE rfl rfl) rfl <| ?_
  refine tY (yq_ldE1 rfl rfl) rfl <| sd_end <| sd_condT rfl <| sd_seq <| sd_seq <| sd_region <| tY (yq_move rfl) rfl <| tY (yq_nilT rfl) rfl <| tY (yq_faE rfl rfl) rfl <| tY (yq_ldE1 rfl rfl) rfl <| ?_
  refine sd_end <| sd_condF rfl <| sd_skipc <| sd_seq <| sd_region <| tY (yq_move rfl) rfl <| tY (yq_assign rfl) rfl <| tY (yq_assign rfl) rfl <| sd_end <| sd_ret <| ?_
  exact sd_doneB (w := w0) (.tmp rfl (.tmp rfl .nil)) rfl (by repeat (first | exact .hd .. | apply BRemD.tl))
theorem q_write_node {GB : Gh} {l : LnQ} {s u : Tr} {ns : List NQ} (hl : BL l 32) (hs : ns.length + (1 + s.size + u.size) ≤ 1000000) (ihs : ∀ {ns : List NQ}, ns.length + s.size ≤ 1000000 → PB GB Tryz.prog 50 (fun w => [eT s, .v (.slice w.a w.n w.c)]) 8 60 (ns.map eN) (fun w => .tp [.v (.slice w.a w.n w.c), .v (.int .i64 (Tr.num s ns.length))]) ((ns ++ Tr.wr s ns.length).map eN)) (ihu : ∀ {ns : List NQ}, ns.length + u.size ≤ 1000000 → PB GB Tryz.prog 50 (fun w => [eT u, .v (.slice w.a w.n w.c)]) 8 60 (ns.map eN) (fun w => .tp [.v (.slice w.a w.n w.c), .v (.int .i64 (Tr.num u ns.length))]) ((ns ++ Tr.wr u ns.length).map eN)) : PB GB Tryz.prog 50 (fun w => [eT (.node l s u), .v (.slice w.a w.n w.c)]) 8 60 (ns.map eN) (fun w => .tp [.v (.slice w.a w.n w.c), .v (.int .i64 (Tr.num (.node l s u) ns.length))]) ((ns ++ Tr.wr (.node l s u) ns.length).map eN) := by
  refine PB.intro Tryz.func50 rfl rfl Tryz.ntmps50 (fun _ => rfl) ?_
  intro C w0
  refine sd_seq <| sd_region <| tY (yq_assign rfl) rfl <| tY (yq_assign rfl) rfl <| sd_end <| sd_seq <| sd_seq <| sd_region <| tY (yq_move rfl) rfl <| tY (yq_nilT rfl) rfl <| tY (yq_faE rfl rfl) rfl <| ?_
  refine tY (yq_ldE1 rfl rfl) rfl <| sd_end <| sd_condF rfl <| sd_skipc <| sd_seq <| sd_region <| tY (yq_move rfl) rfl <| tY (yq_lenB rfl) rfl <| ?_
  refine sd_eq 20 (.d (.v (.int .i64 (ns.length : Nat)))) rfl (by simp) ?_
  refine tY (yq_assign rfl) rfl <| sd_end <| sd_seq <| sd_region <| tY (yq_move rfl) rfl <| tY (yq_move rfl) rfl <| tY (yq_nilT rfl) rfl <| tY (yq_faE rfl rfl) rfl <| tY (yq_ldE rfl rfl) rfl <| ?_
  refine tC (td_call rfl rfl (q_ToL hl) rfl) <| tY (yq_build rfl) rfl <| tF (tf_row rfl rfl rfl rfl rfl rfl rfl) <| ?_
  intro w1
  refine tF (tf_appendF (w := w0) rfl (by repeat (first | exact .hd .. | apply BRemD.tl)) (.bf rfl (okRow_spec rfl)) rfl (by simp only [List.length_map, List.length_cons, List.length_nil]; omega) rfl rfl) <| ?_
  intro w2
  refine sd_bh ((ns ++ [(⟨l, 0, 0⟩ : NQ)]).map eN) (by rw [List.map_append]; rfl) ?_
  refine tY (yq_assign rfl) rfl <| sd_end <| sd_seq <| sd_region <| tY (yq_assign rfl) rfl <| tY (yq_assign rfl) rfl <| sd_end <| sd_seq <| sd_region <| tY (yq_move rfl) rfl <| tY (yq_nilT rfl) rfl <| ?_
  refine tY (yq_faE rfl rfl) rfl <| tY (yq_ldE1 rfl rfl) rfl <| tY (yq_move rfl) rfl <| tF (tf_callB (w := w2) rfl rfl (ihs (ns := ns ++ [(⟨l, 0, 0⟩ : NQ)]) (by simp; omega)) (by repeat (first | exact .hd .. | apply BRemD.tl)) rfl) <| ?_
  intro w3
  refine tY (yq_move rfl) rfl <| tY (yq_ext rfl rfl) rfl <| tY (yq_ext rfl rfl) rfl <| tY (yq_assign rfl) rfl <| tY (yq_assign rfl) rfl <| sd_end <| sd_seq <| sd_region <| tY (yq_move rfl) rfl <| ?_
  refine tY (yq_nilT rfl) rfl <| tY (yq_faE rfl rfl) rfl <| tY (yq_ldE1 rfl rfl) rfl <| tY (yq_move rfl) rfl <| tF (tf_callB (w := w3) rfl rfl (ihu (ns := ns ++ [(⟨l, 0, 0⟩ : NQ)] ++ s.wr (ns ++ [(⟨l, 0, 0⟩ : NQ)]).length) (by simp [Tr.wr_len]; omega)) (by repeat (first | exact .hd .. | apply BRemD.tl)) rfl) <| ?_
  intro w4
  refine sd_bh ((ns ++ ((⟨l, 0, 0⟩ : NQ) :: (s.wr (ns.length + 1) ++ u.wr (ns.length + 1 + s.size)))).map eN) (by simp [Tr.wr_len, Nat.add_assoc, Nat.add_comm 1]) ?_
  refine tY (yq_move rfl) rfl <| tY (yq_ext rfl rfl) rfl <| tY (yq_ext rfl rfl) rfl <| tY (yq_assign rfl) rfl <| tY (yq_assign rfl) rfl <| sd_end <| sd_seq <| sd_region <| tY (yq_move rfl) rfl <| ?_
  refine tY (yq_move rfl) rfl <| tY (yq_move rfl) rfl <| tY (yq_move rfl) rfl <| tY (yq_move rfl) rfl <| tY (yq_move rfl) rfl <| tY (yq_ixB rfl rfl (by omega) (by simp; omega)) rfl <| ?_
  refine tY (yq_faB rfl) rfl <| tC (td_storeBs (d := eN ⟨l, 0, 0⟩) rfl rfl (by repeat (first | exact .hd .. | apply BRemD.tl)) (eN_get ns _ ⟨l, 0, 0⟩) rfl rfl rfl) <| ?_
  refine sd_bh ((ns ++ ((⟨l, s.num (ns.length + 1), 0⟩ : NQ) :: (s.wr (ns.length + 1) ++ u.wr (ns.length + 1 + s.size)))).map eN) (by rw [eN_set _ _ _ ⟨l, s.num (ns.length + 1), 0⟩ _ (by simp [eN, DV.cells])]) ?_
  refine tY (yq_ixB rfl rfl (by omega) (by simp; omega)) rfl <| tY (yq_faB rfl) rfl <| tC (td_storeBs (d := eN ⟨l, s.num (ns.length + 1), 0⟩) rfl rfl (by repeat (first | exact .hd .. | apply BRemD.tl)) (eN_get ns _ ⟨l, s.num (ns.length + 1), 0⟩) rfl rfl rfl) <| ?_
  refine sd_bh ((ns ++ Tr.wr (.node l s u) ns.length).map eN) (by rw [eN_set _ _ _ ⟨l, s.num (ns.length + 1), u.num (ns.length + 1 + s.size)⟩ _ (by simp [eN, DV.cells, Tr.wr_len, Nat.add_assoc, Nat.add_comm 1])]; simp [Tr.wr]) ?_
  refine sd_end <| sd_seq <| sd_region <| tY (yq_move rfl) rfl <| tY (yq_move rfl) rfl <| tY (yq_assign rfl) rfl <| tY (yq_assign rfl) rfl <| sd_end <| sd_ret <| ?_
  exact sd_doneB (w := w4) (.tmp rfl (.tmp rfl .nil)) rfl (by repeat (first | exact .hd .. | apply BRemD.tl))
theorem q_write {GB : Gh} : ∀ {t : Tr} {ns : List NQ}, t.all (fun l => BL l 32) → ns.length + t.size ≤ 1000000 → PB GB Tryz.prog 50 (fun w => [eT t, .v (.slice w.a w.n w.c)]) 8 60 (ns.map eN) (fun w => .tp [.v (.slice w.a w.n w.c), .v (.int .i64 (Tr.num t ns.length))]) ((ns ++ Tr.wr t ns.length).map eN)
  | .leaf true, ns, _, _ => q_write_true
  | .leaf false, ns, _, _ => q_write_false
  | .node l s u, ns, hb, hs => q_write_node hb.1 hs (fun h => q_write hb.2.1 h) (fun h => q_write hb.2.2 h)
theorem q_Write {GB : Gh} {t : Tr} (hb : t.all (fun l => BL l 32)) (hs : t.size ≤ 1000000) : PF GB Tryz.prog 13 [eT t] (eA t) := by
  refine PF.intro Tryz.func13 rfl rfl Tryz.ntmps13 rfl ?_
  intro C
  refine sd_seq <| sd_region <| tF (tf_alloc rfl) <| ?_
  intro b1
  refine sd_end <| sd_seq <| sd_region <| tF (tf_alloc rfl) <| ?_
  intro b2
  refine sd_end <| sd_seq <| sd_region <| tY (yq_move rfl) rfl <| ?_
  refine sd_newB 8 60 ?_
  refine tF (tf_callB (w := ⟨none, 0, 0⟩) rfl rfl (q_write (t := t) (ns := []) hb (by simpa using hs)) (by repeat (first | exact .hd .. | apply BRemD.tl)) rfl) <| ?_
  intro w3
  refine tY (yq_move rfl) rfl <| tY (yq_ext rfl rfl) rfl <| tY (yq_ext rfl rfl) rfl <| tY (yq_faP rfl) rfl <| ?_
  refine sd_freezeB [7] (w := w3) (by repeat (first | exact .hd .. | apply BRemD.tl)) (by simp only [List.forall_mem_cons, List.not_mem_nil, false_implies, implies_true, and_true]; exact rfl) ?_
  refine tC (td_store1 rfl rfl (by first | (dsimp only [DV.cells, ovD, List.set_cons_zero, List.set_cons_succ, Nat.reduceAdd, List.drop_succ_cons, List.drop_zero]; done) | exact rfl) (by repeat (first | exact .hd .. | apply OUpdD.tl)) rfl rfl rfl) <| ?_
  refine tY (yq_faP rfl) rfl <| tC (td_store1 rfl rfl (by first | (dsimp only [DV.cells, ovD, List.set_cons_zero, List.set_cons_succ, Nat.reduceAdd, List.drop_succ_cons, List.drop_zero]; done) | exact rfl) (by repeat (first | exact .hd .. | apply OUpdD.tl)) rfl rfl rfl) <| ?_
  refine sd_end <| sd_seq <| sd_region <| tY (yq_ldO rfl rfl) rfl <| tC (td_store rfl rfl (by first | (dsimp only [DV.cells, ovD, List.set_cons_zero, List.set_cons_succ, Nat.reduceAdd, List.drop_succ_cons, List.drop_zero]; done) | exact rfl) (by repeat (first | exact .hd .. | apply OUpdD.tl)) rfl rfl rfl rfl) <| ?_
  refine sd_end <| sd_ret <| ?_
  exact sd_done (.agg rfl inferInstance inferInstance rfl .nil) rfl
end Go.Sx
end

section
set_option maxRecDepth 100000
namespace Go.Sx
open Go Go.Proofs

theorem ref_Write {A G : Gh} {t : Tr} {p : Option Addr} (h : IsRT A t p) [GL A G] (hs : t.size ≤ 1000000) : Fn Tryz.prog 13 [.pointer p] G (fun v G' => ∃ x : SV, v = .agg ⟨[.int .i64 (t.num 0), .slice x.a x.n x.c]⟩ ∧ IsNs 32 G' x (t.wr 0)) :=
  (q_Write (GB := fun _ => none) (isRT_bl h) hs G _ (GLe.bot G) (.cons (isRT_to h.up) .nil)).mono fun _ _ _ k => isA_of (Tr.all_wr 0 (isRT_bl h)) k
theorem same_leaves (l : LnQ) (b : Bool) (c : CellQ) : (Tr.node l (.leaf b) (.leaf b)).restrict c = .leaf b := by
  unfold Tr.restrict
  split
  · rfl
  · split
    · rfl
    · simp [Tr.restrict, Tr.joinQ, Tr.isLeaf, Tr.code]
set_option maxHeartbeats 1000000 in
theorem law17_known {G : Gh} : Fn Tryz.prog 15 [] G (fun v _ => v = .bool true) := by
  refine Fn.intro Tryz.func15 rfl rfl Tryz.ntmps15 rfl ?_
  intro C _ _
  refine st_seq <| st_region <| sa rfl rfl <| st_end <| st_seq <| st_region <| ?_
  refine sc (ch_call rfl rfl (ref_Xy (m := 0) (n := 0) (by decide) (by decide) (by decide) (by decide)) rfl ?_)
  rintro _ G1 _ ⟨z0, w0, rfl, hz0, hw0⟩
  refine sc (ch_call rfl rfl (ref_Xy (m := 1) (n := 0) (by decide) (by decide) (by decide) (by decide)) rfl ?_)
  rintro _ G2 _ ⟨z1, w1, rfl, hz1, hw1⟩
  refine sc (ch_call rfl rfl (ref_Through hz0 hw0 hz1 hw1 (by decide) (by decide) (by decide) (by decide) (by decide)) rfl ?_)
  rintro _ G3 _ ⟨l, p, q, r, rfl, hl, hp, hq, hr⟩
  refine sm rfl rfl <| sx rfl rfl rfl <| sx rfl rfl rfl <| ?_
  refine sc (ch_alloc rfl ?_)
  intro b4
  refine sc (ch_storeN (cs' := [.bool p.neg, .slice p.a.a p.a.n p.a.c, .bool q.neg, .slice q.a.a q.a.n q.a.c, .bool r.neg, .slice r.a.a r.a.n r.a.c]) rfl rfl (by first | (dsimp only [ovw, cellsL, List.set_cons_zero, List.set_cons_succ, Nat.reduceAdd, RV.v, LV.v, PV.v, IvV.v]; done) | exact rfl) (by repeat (first | exact .hd .. | apply OUpd.tl)) rfl (Nat.le_of_ble_eq_true rfl) rfl rfl ?_)
  refine sa rfl rfl <| st_end <| st_seq <| ?_
  refine drFS [⟨b4, [.bool p.neg, .slice p.a.a p.a.n p.a.c, .bool q.neg, .slice q.a.a q.a.n q.a.c, .bool r.neg, .slice r.a.a r.a.n r.a.c], 32, true⟩] 3 36 (.agg ⟨[.int .i64 0, .slice none 0 0]⟩) (fun _ => false) 10 [(0, true), (1, false), (2, false), (3, true), (4, false), (5, false), (6, false), (7, true), (8, true), (9, true)] [(11, false), (12, true)] follows (by kernel_rfl) (fun fl => ?_)
  refine dyF rfl (fun _ => yd_load_own rfl rfl) rfl rfl ((.cons_cons _ (List.nil_sublist _))) <| ?_
  apply dcF (fl := fl) (t := 36) (z := .agg ⟨[.int .i64 0, .slice none 0 0]⟩)
  case ho => exact rfl
  case hg => exact rfl
  case hk => exact rfl
  case hd => exact rfl
  case hF => intro b; repeat (first | exact .nil | refine .cons rfl ?_)
  case hO => exact fun _ => (List.perm_append_singleton _ _).symm
  case hs => exact (.cons_cons _ (List.nil_sublist _))
  intro fl
  refine ch_call rfl rfl ref_Code rfl ?_
  rintro _ G5 _ ⟨p1, rfl, hp1⟩
  refine dr_s' (own0 := [⟨b4, [.bool p.neg, .slice p.a.a p.a.n p.a.c, .bool q.neg, .slice q.a.a q.a.n q.a.c, .bool r.neg, .slice r.a.a r.a.n r.a.c], 32, true⟩]) ((.cons_cons _ (List.nil_sublist _))) <| ?_
  apply dcF (fl := fl) (t := 36) (z := .agg ⟨[.int .i64 0, .slice none 0 0]⟩)
  case ho => exact rfl
  case hg => exact rfl
  case hk => exact rfl
  case hd => exact rfl
  case hF => intro b; repeat (first | exact .nil | refine .cons rfl ?_)
  case hO => exact fun _ => (List.perm_append_singleton _ _).symm
  case hs => exact (.cons_cons _ (List.nil_sublist _))
  intro fl
  refine ch_call rfl rfl ref_Code rfl ?_
  rintro _ G6 _ ⟨p2, rfl, hp2⟩
  refine dr_s' (own0 := [⟨b4, [.bool p.neg, .slice p.a.a p.a.n p.a.c, .bool q.neg, .slice q.a.a q.a.n q.a.c, .bool r.neg, .slice r.a.a r.a.n r.a.c], 32, true⟩]) ((.cons_cons _ (List.nil_sublist _))) <| dyF rfl (fun _ => yd_build rfl) rfl rfl ((.cons_cons _ (List.nil_sublist _))) <| ?_
  apply dcF (fl := fl) (t := 36) (z := .agg ⟨[.int .i64 0, .slice none 0 0]⟩)
  case ho => exact rfl
  case hg => exact rfl
  case hk => exact rfl
  case hd => exact rfl
  case hF => intro b; repeat (first | exact .nil | refine .cons rfl ?_)
  case hO => exact fun _ => (List.perm_append_singleton _ _).symm
  case hs => exact (.cons_cons _ (List.nil_sublist _))
  intro fl
  refine ch_box rfl rfl ?_
  intro b7
  refine st_freeze b7 (.hd ..) ?_
  intro G7 _ hfz
  have hT : IsRT G7 (.node l (.leaf true) (.leaf true)) (some ⟨b7, 0, none⟩) := ⟨b7, p, q, r, p1, p2, rfl, hfz.h, hp.up, hq.up, hr.up, hp1.up, hp2.up⟩
  refine dr_s' (own0 := [⟨b4, [.bool p.neg, .slice p.a.a p.a.n p.a.c, .bool q.neg, .slice q.a.a q.a.n q.a.c, .bool r.neg, .slice r.a.a r.a.n r.a.c], 32, true⟩]) ((.cons_cons _ (List.nil_sublist _))) <| ?_
  apply dcF (fl := fl) (t := 36) (z := .agg ⟨[.int .i64 0, .slice none 0 0]⟩)
  case ho => exact rfl
  case hg => exact rfl
  case hk => exact rfl
  case hd => exact rfl
  case hF => intro b; repeat (first | exact .nil | refine .cons rfl ?_)
  case hO => exact fun _ => (List.perm_append_singleton _ _).symm
  case hs => exact (.cons_cons _ (List.nil_sublist _))
  intro fl
  refine ch_call rfl rfl (ref_Write hT (by simp [Tr.size])) rfl ?_
  rintro _ G8 _ ⟨y1, rfl, hy1⟩
  refine dr_s' (own0 := [⟨b4, [.bool p.neg, .slice p.a.a p.a.n p.a.c, .bool q.neg, .slice q.a.a q.a.n q.a.c, .bool r.neg, .slice r.a.a r.a.n r.a.c], 32, true⟩]) ((.cons_cons _ (List.nil_sublist _))) <| ?_
  apply dcF (fl := fl) (t := 36) (z := .agg ⟨[.int .i64 0, .slice none 0 0]⟩)
  case ho => exact rfl
  case hg => exact rfl
  case hk => exact rfl
  case hd => exact rfl
  case hF => intro b; repeat (first | exact .nil | refine .cons rfl ?_)
  case hO => exact fun _ => (List.perm_append_singleton _ _).symm
  case hs => exact (.cons_cons _ (List.nil_sublist _))
  intro fl
  refine ch_call rfl rfl (reduce_Reduce (k := 32) (by decide) (by decide) hy1 ⟨hl, trivial, trivial⟩ (by simp [Tr.size]) (by simp [Tr.depth]) (by rw [same_leaves]; decide)) rfl ?_
  rintro _ G9 _ ⟨y2, rfl, hy2⟩
  rw [same_leaves] at hy2
  rw [same_leaves]
  have hn2 : y2.n = 0 := by obtain ⟨zs, h1, h2⟩ := hy2; have := h1.len; have h3 := h2.len; simp [Tr.wr] at h3; subst h3; simpa using this
  refine dr_s' (own0 := [⟨b4, [.bool p.neg, .slice p.a.a p.a.n p.a.c, .bool q.neg, .slice q.a.a q.a.n q.a.c, .bool r.neg, .slice r.a.a r.a.n r.a.c], 32, true⟩]) ((.cons_cons _ (List.nil_sublist _))) <| dyF rfl (fun _ => yd_move rfl) rfl rfl ((.cons_cons _ (List.nil_sublist _))) <| dyF rfl (fun _ => yd_extract rfl rfl) rfl rfl ((.cons_cons _ (List.nil_sublist _))) <| ?_
  refine dyF rfl (fun _ => yd_extract rfl rfl) rfl rfl ((.cons_cons _ (List.nil_sublist _))) <| ?_
  apply dF_out (fl := fl) (t := 36) (z := .agg ⟨[.int .i64 0, .slice none 0 0]⟩)
  case hk => exact rfl
  case hd => exact rfl
  case hF => intro b; repeat (first | exact .nil | refine .cons rfl ?_)
  case hO => exact fun _ => List.perm_append_singleton _ _
  case hs => exact (.cons_cons _ (List.nil_sublist _))
  intro bF
  simp only [fO, fF, List.append_nil]
  refine dc rfl rfl (ch_storeN rfl rfl (by first | (dsimp only [ovw, cellsL, List.set_cons_zero, List.set_cons_succ, Nat.reduceAdd, RV.v, LV.v, PV.v, IvV.v]; done) | exact rfl) (by repeat (first | exact .hd .. | apply OUpd.tl)) rfl (Nat.le_of_ble_eq_true rfl) rfl rfl ?_)
  refine dr_s <| dy rfl (fun _ => yd_assign rfl) rfl rfl <| dn <| st_seq <| st_region <| sm rfl rfl <| sy (yd_eqN (by simp) rfl) rfl <| sm rfl rfl <| syg rfl rfl (yd_fieldAddr rfl) rfl <| syg rfl rfl (yd_load_own1 rfl rfl) rfl <| ?_
  refine syg rfl rfl (yd_eql rfl rfl) rfl <| sy (yd_pickT rfl rfl) rfl <| sm rfl rfl <| syg rfl rfl (yd_fieldAddr rfl) rfl <| syg rfl rfl (yd_load_own1 rfl rfl) rfl <| syg rfl rfl (yd_len rfl) rfl <| ?_
  refine syg rfl rfl (yd_eql rfl rfl) rfl <| sy (yd_pickT rfl rfl) rfl <| sa rfl rfl <| st_end <| st_ret <| ?_
  exact st_done (.tmp rfl .nil) (by show Value.bool _ = _; rw [hn2]; rfl)
end Go.Sx
end

section
set_option maxRecDepth 100000
namespace Go.Sx
open Go

section
variable {P : Program} {GB : Gh} {C : Ctx} {n : Nat} {E : Ext} {fr fr' : FrF} {own own' : List OwnD} {bs bs' bs1 : List BufD} {ops : Array Oper} {Q : Exit → Act → World → Prop} {r : List Oper} {Φ : Act → World → Prop}
variable {dst : Option Nat} {t t' ty' : TypeId} {pos : String} {af : Array Edge} {gd : Option (Nat × Bool)} {x y z : Operand} {e s by_ : Nat}

/-- '&T{..}', not written any more -/
theorem td_boxF {d : DV} (hx : opD fr x = some d) (hc : d.okc = true) (hd : dstOk n dst = true) : TD P GB C n fr own bs ⟨dst, .box t x, ty', pos, af, gd⟩ (putF fr dst (.d (.pt d.cells))) own bs := by
  intro GB' E Φ hgb h G frv ov s
  obtain ⟨u, h1, h2⟩ := s.fr.opD hx
  refine ch_box (opv_app h1) hd fun b => ?_
  rw [put_app]
  refine st_freeze b (.hd ..) ?_
  intro G' hG hg
  exact h G' _ ov ⟨s.gb.trans hG.le, (s.fr.up hG.le).put (f := .d (.pt d.cells)) (is_pt.2 ⟨b, _, rfl, hg.h, (h2.cells hc).1.up hG.le⟩) _, s.ob.up hG.le⟩
/-- a row, frozen at once -/
theorem TD.froze {o : Oper} {ι : Type} {fr2 : ι → FrF} {own2 : ι → List OwnD} {bs2 : ι → List BufD} (h : TF P GB C n fr own bs o ι fr2 own2 bs2)
    (k : ∀ (GB' : Gh) (E : Ext) (Φ : Act → World → Prop) x, GLe GB GB' → SD GB' C n E fr' own' bs' Φ → SD GB' C n E (fr2 x) (own2 x) (bs2 x) Φ) : TD P GB C n fr own bs o fr' own' bs' :=
  fun GB' E Φ hgb hs => h GB' E Φ hgb fun x => k GB' E Φ x hgb hs
theorem sd_freezeE {d : Nat} {w : SV} {s : Nat} {ty : TypeId} {ds : List DV} (h : SD GB C n E ((d, .d (.sl ds)) :: fr) own bs Φ) : SD GB C n E ((d, w.f) :: fr) own (⟨w, s, ty, ds, true⟩ :: bs) Φ := by
  refine ⟨fun G frv ov st => ?_⟩
  obtain ⟨p, q, rfl, hp, B, q1, rfl, ⟨vs, hB, hv, hvs, hlo⟩, hq1⟩ := st.ob
  simp only [] at hB hv hvs
  obtain ⟨y, m, rfl, hy, hfr⟩ := st.fr
  have hy' := isF_v.1 hy
  subst hy'
  have fin : ∀ G', GLe G G' → IsSl G' s w vs → St C n (((d, .slice w.a w.n w.c) :: m) ++ E.fr) ((p ++ q1) ++ E.own) G' Φ := by
    intro G' hg hsl
    exact h G' ((d, _) :: m) (p ++ q1) ⟨st.gb.trans hg, ⟨_, m, rfl, (show IsF G' (.d (.sl ds)) (.slice w.a w.n w.c) from is_sl.2 ⟨s, w, vs, rfl, hsl, hv.up hg⟩), FrIs.up hg hfr⟩, p, q1, rfl, hp.up hg, hq1.up hg⟩
  rcases hB with ⟨e1, e2, e3⟩ | ⟨b, rest, lo', h3, h4, h5, h6, h7⟩
  · subst e1 e2 e3
    exact fin G (GLe.refl _) (IsSl.nil _ _)
  · subst h4
    have hl : lo' = true := hlo rfl _ List.mem_cons_self
    subst hl
    refine st_freeze b (cs := flatL vs ++ rest) (ty := ty) (own' := (p ++ q1) ++ E.own) ?_ ?_
    · have := (ORem.mid (o := (⟨b, flatL vs ++ rest, ty, true⟩ : Own)) (r := q1 ++ E.own) p)
      simpa [List.append_assoc] using this
    · intro G' hG hg
      refine fin G' hG.le ?_
      rw [h3]
      exact IsSl.of_flat hvs hg.h h7
theorem td_rowF {d : Nat} [hT : TySl P t e s by_] {d0 : DV} [hz : TyZE P e d0] {len : Nat} {parts : Array (Nat × Operand)} {ds : List DV} (hs : Nat.beq d0.cells.length s = true) (hb : rowD fr 0 parts.toList = some ds) (hok : okRow s ds = true) (hlen : Nat.beq parts.toList.length len = true) (hsm : Nat.ble (len * s) 1000 = true) (hs0 : Nat.blt 0 (len * s) = true) (hd : dstOk n (some d) = true) :
    TD P GB C n fr own bs ⟨some d, .buildSlice t len parts, ty', pos, af, gd⟩ ((d, .d (.sl ds)) :: fr) own bs :=
  TD.froze (tf_row hs hb hok hlen hsm hs0 hd) fun _ _ _ _ _ h => sd_freezeE h
theorem td_row0F {d : Nat} [hT : TySl P t e s by_] (hd : dstOk n (some d) = true) :
    TD P GB C n fr own bs ⟨some d, .buildSlice t 0 #[], ty', pos, af, gd⟩ ((d, .d (.sl [])) :: fr) own bs :=
  TD.froze (tf_row0 hd) fun _ _ _ _ _ h => sd_freezeE h
/-- append, the row frozen at once -/
theorem td_appendZ {d : Nat} [hT : TySl P t e s by_] [hN : TyN P t'] {d0 : DV} [hz : TyZE P e d0] {w : SV} {ds ds2 : List DV} (hx : opF fr x = some w.f) (hb : BRemD bs ⟨w, s, e, ds, true⟩ bs1) (hy : SrcD fr bs1 s y ds2)
    (hby : Nat.blt 0 by_ = true) (hbd : (ds.length + ds2.length) * by_ ≤ 140737488355328) (hzs : Nat.beq d0.cells.length s = true) (hd : dstOk n (some d) = true) :
    TD P GB C n fr own bs ⟨some d, .call ⟨.builtin .append, #[x, y], #[t, t']⟩, ty', pos, af, gd⟩ ((d, .d (.sl (ds ++ ds2))) :: fr) own bs1 :=
  TD.froze (tf_append hx hb hy hby hbd hzs hd) fun _ _ _ _ _ h => sd_freezeE h

/-! ### families of results -/
def PX (GB : Gh) (P : Program) (f : FuncId) (ds : List DV) (ι : Type) (r : ι → DV) : Prop :=
  ∀ G vs, GLe GB G → IsLs G ds vs → Fn P f vs G (fun v G' => ∃ x, Is G' (r x) v)
def PMX (GB : Gh) (P : Program) (f : FuncId) (ds : List DV) (b : Nat) (ty : TypeId) (cs : List DV) (ι : Type) (r : ι → DV) (cs' : ι → List DV) : Prop :=
  ∀ G vs m lo, GLe GB G → IsLs G ds vs → IsLs G cs m → FnM P f vs [⟨b, m, ty, lo⟩] G (fun v css G' => ∃ x, Is G' (r x) v ∧ ∃ m', css = [m'] ∧ IsLs G' (cs' x) m')
/-- A new block is handed back. -/
def PN (GB : Gh) (P : Program) (f : FuncId) (ds : List DV) (ty : TypeId) (ι : Type) (cs : ι → List DV) : Prop :=
  ∀ G vs, GLe GB G → IsLs G ds vs → FnO P f vs [] G (fun v own' G' => ∃ x b m, v = .pointer (some ⟨b, 0, none⟩) ∧ own' = [⟨b, m, ty, true⟩] ∧ IsLs G' (cs x) m)
theorem tf_callX {f : FuncId} {fo : Operand} {args : Array Operand} {tys : Array TypeId} {ds : List DV} {ι : Type} {r : ι → DV} (ho : opF fr fo = some (.d (.v (.func (.func f) #[] #[])))) (hv : opFs fr args.toList = some ds) (hF : PX GB P f ds ι r) (hd : dstOk n dst = true) :
    TF P GB C n fr own bs ⟨dst, .call ⟨.value fo, args, tys⟩, ty', pos, af, gd⟩ ι (fun x => putF fr dst (.d (r x))) (fun _ => own) (fun _ => bs) := by
  intro GB' E Φ hgb h G frv ov s
  obtain ⟨vs, h1, h2⟩ := s.fr.ops hv
  refine ch_call (opv_app (s.fr.opv ho)) (opvs_app h1) (hF G vs (hgb.trans s.gb) h2) hd ?_
  rintro v G' hG ⟨x, hK⟩
  rw [put_app]
  exact h x G' _ ov ⟨s.gb.trans hG.le, (s.fr.up hG.le).put (f := .d (r x)) hK _, s.ob.up hG.le⟩
inductive OSp : List OwnD → Nat → List DV → TypeId → Bool → List OwnD → List OwnD → Prop
  | hd (b : Nat) (cs : List DV) (ty : TypeId) (lo : Bool) (t : List OwnD) : OSp (⟨b, cs, ty, lo⟩ :: t) b cs ty lo [] t
  | tl (o : OwnD) (t : List OwnD) (b : Nat) (cs : List DV) (ty : TypeId) (lo : Bool) (L R : List OwnD) (h : OSp t b cs ty lo L R) : OSp (o :: t) b cs ty lo (o :: L) R
theorem OSp.eq {own : List OwnD} {b : Nat} {cs : List DV} {ty : TypeId} {lo : Bool} {L R : List OwnD} (h : OSp own b cs ty lo L R) : own = L ++ ⟨b, cs, ty, lo⟩ :: R := by
  induction h with
  | hd => rfl
  | tl o t b cs ty lo L R h ih => rw [ih]; rfl
theorem tf_callMX {f : FuncId} {fo : Operand} {args : Array Operand} {tys : Array TypeId} {ds : List DV} {ι : Type} {r : ι → DV} {b : Nat} {ty : TypeId} {lo : Bool} {cs : List DV} {cs' : ι → List DV} {L R : List OwnD} (ho : opF fr fo = some (.d (.v (.func (.func f) #[] #[])))) (hv : opFs fr args.toList = some ds) (hF : PMX GB P f ds b ty cs ι r cs') (hu : OSp own b cs ty lo L R) (hd : dstOk n dst = true) :
    TF P GB C n fr own bs ⟨dst, .call ⟨.value fo, args, tys⟩, ty', pos, af, gd⟩ ι (fun x => putF fr dst (.d (r x))) (fun x => L ++ ⟨b, cs' x, ty, lo⟩ :: R) (fun _ => bs) := by
  intro GB' E Φ hgb h G frv ov s
  obtain ⟨vs, h1, h2⟩ := s.fr.ops hv
  obtain ⟨p, q, rfl, hp, hq⟩ := s.ob
  have hlens : ∃ m a1 a2, p = a1 ++ ⟨b, m, ty, lo⟩ :: a2 ∧ IsLs G cs m ∧ ∀ x G' m', GLe G G' → IsLs G' (cs' x) m' → OwnsIs G' (L ++ ⟨b, cs' x, ty, lo⟩ :: R) (a1 ++ ⟨b, m', ty, lo⟩ :: a2) := by
    rw [hu.eq] at hp
    obtain ⟨a1, a2', rfl, h3, m, a2, rfl, h4, h5⟩ := hp.unapp
    exact ⟨m, a1, a2, rfl, h4, fun x G' m' hg hm' => (OwnsIs.up hg h3).app ⟨m', a2, rfl, hm', OwnsIs.up hg h5⟩⟩
  obtain ⟨m, a1, a2, rfl, hm, hk⟩ := hlens
  refine ch_callM (M := [⟨b, m, ty, lo⟩]) (rest := a1 ++ (a2 ++ (q ++ E.own))) (opv_app (s.fr.opv ho)) (opvs_app h1) ?_ (hF G vs m lo (hgb.trans s.gb) h2 hm) hd ?_
  · simp only [List.append_assoc, List.cons_append, List.nil_append]
    exact List.perm_middle
  · rintro v css G' hG _ ⟨x, hr, m', rfl, hm'⟩
    rw [put_app]
    refine st_perm (((a1 ++ ⟨b, m', ty, lo⟩ :: a2) ++ q) ++ E.own) ?_ (h x G' _ _ ⟨s.gb.trans hG.le, (s.fr.up hG.le).put (f := .d (r x)) hr _, _, _, rfl, hk x G' m' hG.le hm', hq.up hG.le⟩)
    simp only [reown, List.zip_cons_cons, List.zip_nil_right, List.map_cons, List.map_nil, List.append_assoc, List.cons_append, List.nil_append]
    exact List.perm_middle.symm
theorem tf_callN {f : FuncId} {fo : Operand} {args : Array Operand} {tys : Array TypeId} {ds : List DV} {ι : Type} {ty : TypeId} {cs : ι → List DV} (ho : opF fr fo = some (.d (.v (.func (.func f) #[] #[])))) (hv : opFs fr args.toList = some ds) (hF : PN GB P f ds ty ι cs) (hd : dstOk n dst = true) :
    TF P GB C n fr own bs ⟨dst, .call ⟨.value fo, args, tys⟩, ty', pos, af, gd⟩ (ι × Nat) (fun x => putF fr dst (.d (.v (.pointer (some ⟨x.2, 0, none⟩))))) (fun x => ⟨x.2, cs x.1, ty, true⟩ :: own) (fun _ => bs) := by
  intro GB' E Φ hgb h G frv ov s
  obtain ⟨vs, h1, h2⟩ := s.fr.ops hv
  obtain ⟨p, q, rfl, hp, hq⟩ := s.ob
  refine ch_callcO (c1 := []) (c2 := []) (M := []) (rest := (p ++ q) ++ E.own) (opv_app (s.fr.opv ho)) (opvs_app h1) (List.Perm.refl _) (by rw [List.nil_append, List.append_nil]; exact hF G vs (hgb.trans s.gb) h2) hd ?_
  rintro _ _ G' hG ⟨x, b, m, rfl, rfl, hm⟩
  rw [put_app]
  exact h (x, b) G' _ (⟨b, m, ty, true⟩ :: (p ++ q)) ⟨s.gb.trans hG.le, (s.fr.up hG.le).put (isF_v.2 rfl) _, ⟨b, m, ty, true⟩ :: p, q, rfl, ⟨m, p, rfl, hm, hp.up hG.le⟩, hq.up hG.le⟩
end
end Go.Sx
end

section
set_option maxRecDepth 100000
namespace Go.Sx
open Go Go.Proofs

theorem Tr.restrict_size : ∀ (t : Tr) (c : CellQ), (t.restrict c).size ≤ t.size
  | .leaf b, c => Nat.le_refl _
  | .node l x y, c => by
    unfold Tr.restrict
    split
    · have := x.restrict_size c; simp only [Tr.size]; omega
    · split
      · have := y.restrict_size c; simp only [Tr.size]; omega
      · have h1 := x.restrict_size (clipC c l)
        have h2 := y.restrict_size (clipC c l.rev)
        rcases Tr.joinQ_cases l (x.restrict (clipC c l)) (y.restrict (clipC c l.rev)) with ⟨h, _⟩ | ⟨h, _⟩
        · rw [h]; simp only [Tr.size]; omega
        · rw [h]; simp only [Tr.size]; omega
theorem isl_ints {G : Gh} : ∀ {ds : List Int} {es : List Value}, IsLs G (ds.map vI) es ↔ es = ds.map (Value.int .i64)
  | [], es => isl_nil
  | d :: t, es => by
    rw [List.map_cons, isl_cons]
    constructor
    · rintro ⟨y, n, rfl, h1, h2⟩
      rw [is_v.1 h1, isl_ints.1 h2]; rfl
    · rintro rfl
      exact ⟨_, _, rfl, is_v.2 rfl, isl_ints.2 rfl⟩
theorem slOkI (ds : List Int) : slOk 1 (ds.map vI) := fun d hd => by
  obtain ⟨n, _, rfl⟩ := List.mem_map.1 hd; exact ⟨rfl, rfl⟩
theorem is_ints {G : Gh} {ds : List Int} {v : Value} : Is G (.sl (ds.map vI)) v ↔ ∃ x : SV, v = .slice x.a x.n x.c ∧ IsSl G 1 x (ds.map (Value.int .i64)) := by
  rw [is_sl]
  constructor
  · rintro ⟨s, x, es, rfl, h1, h2⟩
    have := isl_ints.1 h2
    subst this
    refine ⟨x, rfl, ?_⟩
    rcases sl_stride (s := 1) h1 h2 (slOkI ds) with h | h
    · rw [h] at h1 ⊢
      exact ⟨h1.len, h1.cap, .inl rfl⟩
    · subst h; exact h1
  · rintro ⟨x, rfl, h⟩
    exact ⟨1, x, _, rfl, h, isl_ints.2 rfl⟩
theorem q_New {GB : Gh} {es : List Int} (hb : es.length ≤ 1125899906842624) : PN GB Tryz.prog 9 [.sl (es.map vI)] 93 {x : List Int // x.length ≤ 400} (fun x => [.sl (x.1.map vI), .v (.int .i64 (0 : Nat))]) := by
  intro G vs hg hv
  obtain ⟨v, m, rfl, h1, h2⟩ := isl_cons.1 hv
  rw [isl_nil] at h2; subst h2
  obtain ⟨x, rfl, hx⟩ := is_ints.1 h1
  refine (scene_New hx hb).mono ?_
  rintro _ _ G' hG ⟨b, y, es', rfl, rfl, hy, hl⟩
  exact ⟨⟨es', hl⟩, b, _, rfl, rfl, .cons (is_ints.2 ⟨y, rfl, hy⟩) (.cons (is_v.2 rfl) .nil)⟩
theorem q_Tree {GB : Gh} {es : List Int} (he : es.length ≤ 400) {a d b : Nat} (ha : a ≤ es.length) (hd : d ≤ 100) : PMX GB Tryz.prog 10 [.v (.pointer (some ⟨b, 0, none⟩)), .v (.int .i64 (d : Nat))] b 93 [.sl (es.map vI), .v (.int .i64 (a : Nat))]
    {x : Tr × Nat // x.1.depth ≤ d ∧ x.1.all LnQ.ok ∧ x.1.all (fun l => BL l 32) ∧ x.2 ≤ es.length} (fun x => eT x.1.1) (fun x => [.sl (es.map vI), .v (.int .i64 (x.1.2 : Nat))]) := by
  intro G vs m lo hg hv hm
  obtain ⟨v1, n, rfl, h1, h2⟩ := isl_cons.1 hv
  obtain ⟨v2, n, rfl, h3, h4⟩ := isl_cons.1 h2
  rw [isl_nil] at h4; subst h4
  rw [is_v.1 h1, is_v.1 h3]
  obtain ⟨u1, n, rfl, k1, k2⟩ := isl_cons.1 hm
  obtain ⟨u2, n, rfl, k3, k4⟩ := isl_cons.1 k2
  rw [isl_nil] at k4; subst k4
  rw [is_v.1 k3]
  obtain ⟨x, rfl, hx⟩ := is_ints.1 k1
  refine (Tape_Tree hx he (d := d) (lo := lo) ha hd).mono ?_
  rintro _ css G' hG _ ⟨t, p, a', rfl, hp, h5, h6, h7, rfl⟩
  have : GL G G' := ⟨hG⟩
  exact ⟨⟨(t, a'), h5, h6, isRT_bl hp, h7⟩, isRT_to hp, _, rfl, .cons (is_ints.2 ⟨x, rfl, hx.up⟩) (.cons (is_v.2 rfl) .nil)⟩
theorem q_Reduce {GB : Gh} {t : Tr} {k : Nat} (hk1 : 1 ≤ k) (hk : k ≤ 100000000) (hb : t.all (fun l => BL l k)) (hok : t.all LnQ.ok) (hs : t.size ≤ 65536) (hd : t.depth ≤ 1024) : PF GB Tryz.prog 19 [eA t] (.tp [eA (t.restrict []), .v .nilIface]) := by
  intro G vs hg hv
  obtain ⟨v, m, rfl, h1, h2⟩ := isl_cons.1 hv
  rw [isl_nil] at h2; subst h2
  obtain ⟨x, rfl, hx⟩ := isA_of (Tr.all_wr 0 hb) h1
  refine (reduce_Reduce hk1 hk hx hok hs hd (by have := Tr.restrict_size t []; omega)).mono ?_
  rintro _ G' hG ⟨y, rfl, hy⟩
  exact is_tp.2 ⟨_, rfl, .cons (isA_to hy) (.cons (is_v.2 rfl) .nil)⟩
theorem q_All {GB : Gh} {t : Tr} {k : Nat} (hk1 : 1 ≤ k) (hk : k ≤ 100000000) (hb : t.all (fun l => BL l k)) (hok : t.all LnQ.ok) (hs : t.size ≤ 65536) (hd : t.depth ≤ 1024) : PX GB Tryz.prog 20 [eA t] {w : SV × SV // w.1.n = (t.parts []).length} (fun w => .tp [.v (.slice w.1.1.a w.1.1.n w.1.1.c), .v (.slice w.1.2.a w.1.2.n w.1.2.c), .v .nilIface]) := by
  intro G vs hg hv
  obtain ⟨v, m, rfl, h1, h2⟩ := isl_cons.1 hv
  rw [isl_nil] at h2; subst h2
  obtain ⟨x, rfl, hx⟩ := isA_of (Tr.all_wr 0 hb) h1
  refine (cells_All hk1 hk hx hok hs hd).mono ?_
  rintro _ G' hG ⟨w1, w2, rfl, hw⟩
  exact ⟨⟨(w1, w2), hw⟩, is_tp.2 ⟨_, rfl, .cons (is_v.2 rfl) (.cons (is_v.2 rfl) (.cons (is_v.2 rfl) .nil))⟩⟩
theorem q_known17 {GB : Gh} : PF GB Tryz.prog 15 [] (.v (.bool true)) := fun G vs hg hv => by
  rw [isl_nil] at hv; subst hv
  exact law17_known.mono fun v G' _ h => is_v.2 h
section
variable {P : Program} {GB : Gh} {C : Ctx} {n : Nat} {fr : FrF} {own : List OwnD} {bs : List BufD}
variable {dst : Option Nat} {t t' ty' : TypeId} {pos : String} {af : Array Edge} {gd : Option (Nat × Bool)} {x y z : Operand} {e s by_ : Nat}
theorem yq_lenV [hT : TySl P t e s by_] {a : Option Addr} {m c : Nat} (hx : opF fr x = some (.d (.v (.slice a m c)))) : YD P GB C fr own bs ⟨dst, .call ⟨.builtin .len, #[x], #[t]⟩, ty', pos, af, gd⟩ (.d (.v (.int .i64 (m : Nat)))) := .of1 hx fun a => yd_len a
end
theorem mapN_get {ns : List NQ} {i : Nat} (h : i < ns.length) : (ns.map eN)[(i : Int).toNat]? = some (eN ns[i]) := by simp [h]
end Go.Sx
end

section
set_option maxRecDepth 100000
namespace Go.Sx
open Go Go.Proofs

set_option maxHeartbeats 1000000 in
theorem q_ReduceCells {GB : Gh} {es0 : List Int} (hb : es0.length ≤ 1125899906842624) : PF GB Tryz.prog 4 [.sl (es0.map vI)] (.v (.bool true)) := by
  refine PF.intro Tryz.func4 rfl rfl Tryz.ntmps4 rfl ?_
  intro C
  refine sd_seq <| sd_region <| tY (yq_assign rfl) rfl <| sd_end <| sd_seq <| sd_region <| tY (yq_move rfl) rfl <| tF (tf_callN rfl rfl (q_New hb) rfl) <| ?_
  rintro ⟨⟨es, hes⟩, b1⟩; try dsimp only
  refine tF (tf_callMX rfl rfl (q_Tree (a := 0) (d := 4) hes (Nat.zero_le _) (by decide)) (by repeat (first | exact .hd .. | apply OSp.tl)) rfl) <| ?_
  rintro ⟨⟨t, a⟩, hd, hok, hbl, ha⟩; try simp only [List.cons_append, List.nil_append]
  dsimp only at hd hok hbl ha
  have hsz := Tr.size_lt t
  have hp4 : (2 : Nat) ^ t.depth ≤ 2 ^ 4 := Nat.pow_le_pow_right (by decide) hd
  have hp5 : (2 : Nat) ^ 4 = 16 := rfl
  refine tC (td_call rfl rfl (q_Write hbl (by omega)) rfl) <| tC (td_call rfl rfl (q_Reduce (k := 32) (by decide) (by decide) hbl hok (by omega) (by omega)) rfl) <| ?_
  have hrs := Tr.restrict_size t []
  have hrd := Tr.restrict_depth t []
  refine tY (yq_move rfl) rfl <| tY (yq_ext rfl rfl) rfl <| tY (yq_ext rfl rfl) rfl <| tF (tf_alloc rfl) <| ?_
  intro b2
  refine tC (td_store rfl rfl (by first | (dsimp only [DV.cells, ovD, List.set_cons_zero, List.set_cons_succ, Nat.reduceAdd, List.drop_succ_cons, List.drop_zero]; done) | exact rfl) (by repeat (first | exact .hd .. | apply OUpdD.tl)) rfl rfl rfl rfl) <| ?_
  refine tY (yq_assign rfl) rfl <| sd_end <| sd_seq <| sd_region <| tY (yq_ldO rfl rfl) rfl <| tF (tf_callX rfl rfl (q_All (k := 32) (by decide) (by decide) (Tr.restrict_all _ t [] hbl) (Tr.restrict_all _ t [] hok) (by omega) (by omega)) rfl) <| ?_
  rintro ⟨⟨w1, w2⟩, hw⟩; try dsimp only
  have hpr := Tr.parts_restrict t []
  have hgood := Tr.good_wr _ 0 (Tr.restrict_good t [])
  have hwl := Tr.wr_len (t.restrict []) 0
  generalize t.restrict [] = T at *
  have hml : ((T.wr 0).map eN).length = (T.wr 0).length := List.length_map ..
  refine tY (yq_move rfl) rfl <| tY (yq_ext rfl rfl) rfl <| tY (yq_ext rfl rfl) rfl <| tY (yq_ext rfl rfl) rfl <| tY (yq_assign rfl) rfl <| tY (yq_assign rfl) rfl <| tY (yq_assign rfl) rfl <| ?_
  refine sd_end <| sd_seq <| sd_seq <| sd_region <| tY (yq_move rfl) rfl <| tY (yq_neN0 rfl) rfl <| tY (yq_move rfl) rfl <| tYg rfl rfl (yq_move rfl) rfl <| tYg rfl rfl (yq_neN0 rfl) rfl <| ?_
  refine tY (yq_pickF rfl rfl) rfl <| tY (yq_move rfl) rfl <| tYg rfl rfl (yq_move rfl) rfl <| tYg rfl rfl (yq_lenV rfl) rfl <| tYg rfl rfl (yq_faP rfl) rfl <| tYg rfl rfl (yq_ldO1 rfl rfl) rfl <| ?_
  refine tYg rfl rfl (yq_len rfl) rfl <| tYg rfl rfl (yq_add64 rfl rfl (by omega) (by omega)) rfl <| tYg rfl rfl (yq_neq rfl rfl) rfl <| tY (yq_pickF rfl rfl) rfl <| sd_end <| ?_
  refine sd_condP rfl (fun hc38 => ?_) (fun hc38 => ?_)
  ·
    exact absurd (by simp only [List.length_map]; dsimp only at hw; omega) hc38
  ·
    refine sd_skipc <| sd_seq <| sd_seq <| sd_region <| tY (yq_faP rfl) rfl <| tY (yq_ldO1 rfl rfl) rfl <| tY (yq_len rfl) rfl <| tY (yq_move rfl) rfl <| sd_end <| sd_block <| ?_
    refine sd_selO [] (by decide) rfl ?_
    simp only [pickL, List.filterMap_cons, List.filterMap_nil, List.getElem?_cons_zero, List.getElem?_cons_succ]
    refine sd_loop (X := Nat) (fun x => [(40, .d (.sl ((T.wr 0).map eN))), (41, .d (.v (.int .i64 ((T.wr 0).length : Nat)))), (42, .d (.v (.int .i64 (x : Nat))))]) (fun x => []) (fun x => []) (fun x => x ≤ (T.wr 0).length) (fun x => (T.wr 0).length - x) 0 (Nat.zero_le _) (by repeat (first | exact .nil | refine .cons rfl ?_ | refine .cons' rfl (by first | (simp [vI]; done) | (congr 3; omega) | (simp [vI]; omega)) ?_)) rfl rfl ?_
    rintro GB1 hGB1 i hi
    try dsimp only at *
    refine sd_seq <| sd_region <| tY (yq_lss rfl rfl) rfl <| sd_end <| sd_seq <| ?_
    refine sd_condP rfl (fun hc43 => ?_) (fun hc43 => ?_)
    ·
      refine sd_skipc <| sd_seq <| sd_block <| sd_seq <| sd_region <| tY (yq_ix rfl rfl (by omega) (mapN_get (by omega)) rfl rfl) rfl <| tY (yq_ldE rfl rfl) rfl <| tF (tf_alloc rfl) <| ?_
      intro b3
      refine tC (td_store rfl rfl (by first | (dsimp only [DV.cells, ovD, List.set_cons_zero, List.set_cons_succ, Nat.reduceAdd, List.drop_succ_cons, List.drop_zero]; done) | exact rfl) (by repeat (first | exact .hd .. | apply OUpdD.tl)) rfl rfl rfl rfl) <| ?_
      refine sd_end <| sd_seq <| sd_region <| tY (yq_faP rfl) rfl <| tY (yq_ldO1 rfl rfl) rfl <| tY (yq_lss rfl rfl) rfl <| tY (yq_move rfl) rfl <| ?_
      refine sd_caseP 49 rfl (fun hg49 => ?_) (fun hg49 => ?_)
      ·
        refine tYg rfl rfl (yq_faP rfl) rfl <| tYg rfl rfl (yq_ldO1 rfl rfl) rfl <| tYg rfl rfl (yq_faP rfl) rfl <| tYg rfl rfl (yq_ldO1 rfl rfl) rfl <| tYg rfl rfl (yq_eql rfl rfl) rfl <| tY (yq_pickT rfl rfl) rfl <| ?_
        refine sd_end <| ?_
        refine sd_condP rfl (fun hc55 => ?_) (fun hc55 => ?_)
        ·
          exact absurd ⟨hg49, hc55⟩ (hgood _ (List.getElem_mem (by omega : i < (T.wr 0).length)))
        ·
          refine sd_skipc <| sd_region <| tY (yq_add64 rfl rfl (by omega) (by omega)) rfl <| tY (yq_move rfl) rfl <| sd_end <| ?_
          refine sd_selO [] (by decide) rfl ?_
          simp only [pickL, List.filterMap_cons, List.filterMap_nil, List.getElem?_cons_zero, List.getElem?_cons_succ]
          exact sd_again (i + 1) (by omega) (by omega) (by repeat (first | exact .nil | refine .cons rfl ?_ | refine .cons' rfl (by first | (simp [vI]; done) | (congr 3; omega) | (simp [vI]; omega)) ?_)) rfl rfl
      ·
        refine tS rfl rfl rfl rfl <| tS rfl rfl rfl rfl <| tS rfl rfl rfl rfl <| tS rfl rfl rfl rfl <| tS rfl rfl rfl rfl <| tY (yq_pickF rfl rfl) rfl <| sd_end <| sd_condF rfl <| sd_skipc <| ?_
        refine sd_region <| tY (yq_add64 rfl rfl (by omega) (by omega)) rfl <| tY (yq_move rfl) rfl <| sd_end <| ?_
        refine sd_selO [] (by decide) rfl ?_
        simp only [pickL, List.filterMap_cons, List.filterMap_nil, List.getElem?_cons_zero, List.getElem?_cons_succ]
        exact sd_again (i + 1) (by omega) (by omega) (by repeat (first | exact .nil | refine .cons rfl ?_ | refine .cons' rfl (by first | (simp [vI]; done) | (congr 3; omega) | (simp [vI]; omega)) ?_)) rfl rfl
    ·
      refine sd_exit <| sd_ts <| sd_te <| sd_inBlock_eq <| sd_seq <| sd_region <| tC (td_call rfl rfl (q_known17) rfl) <| tY (yq_assign rfl) rfl <| sd_end <| sd_ret <| ?_
      exact sd_done (.tmp rfl .nil) rfl
end Go.Sx
end

section
set_option maxRecDepth 100000
namespace Go.Sx
open Go Go.Proofs Go.ChangeShapes Go.WideShapes Go.ChangeAt Go.RowKit

/-- Every block of cells that is there. -/
def GW (w : World) : Gh := fun b => match w.heap[b]? with | some (.cells cs _ _) => some cs.toList | _ => none
theorem GW.sub {w : World} {b : Nat} {cs : List Value} (h : GW w b = some cs) : ∃ ty fz, w.heap[b]? = some (.cells ⟨cs⟩ ty fz) := by
  unfold GW at h
  split at h
  · rename_i c t f e
    cases h
    exact ⟨t, f, by rw [e]⟩
  · cases h
theorem GW.of_cell {w : World} {b off : Nat} {v : Value} (h : w.cell? ⟨b, off, none⟩ = some v) : ∃ cs, GW w b = some cs ∧ cs[off]? = some v := by
  unfold World.cell? at h
  unfold GW
  split at h
  · rename_i c t f e
    simp only at e
    refine ⟨c.toList, by rw [e], ?_⟩
    simpa using h
  all_goals first | (rename_i e; cases h) | cases h
theorem HRel.below {w w' : World} {G G' : Gh} {own : List Own} (h : HRel ⟨w, G, []⟩ own G' w') : Below w.heap.size w w' :=
  ⟨h.os, h.tape, h.output, h.size, fun k hk => h.keep k hk (by simp)⟩

theorem isLs_vI {G : Gh} : ∀ es : List Int, IsLs G (es.map vI) (es.map fun n => Value.int .i64 n)
  | [] => .nil
  | n :: t => .cons (is_v.2 rfl) (isLs_vI t)

/-- A slice of integers, opened: the deep value, its length, and the datum's own length. -/
theorem open_vI {base : Nat} {H : Type} {enc : TypeId × Value → H} {P : Program} {w : World} {t e : TypeId} {v : Value} {d : DataW H} {ps : List MemPlace} (ht : P.underlying t = some (.slice e)) (he : P.underlying e = some (.int .i64)) (hc : P.cellsOf e = 1)
    (hv : Value.okWide P w .any base t v) (h : DataW.Trod enc P w 0 (fun _ => true) true t v d ps) :
    ∃ es : List Int, Is (GW w) (.sl (es.map vI)) v ∧ (d = .nil ∧ es = [] ∨ ∃ sp, d = .slice (lits .i64 es) sp) ∧ (∀ n ∈ es, (Lit.int .i64 n).wf = true) := by
  obtain ⟨a0, len, cap, rfl⟩ := okWide_slice ht hv
  obtain ⟨fuel, hf⟩ := h
  rcases open_ints ht he hc hf with ⟨hcs, hx⟩ | ⟨a, len', cap', zs, hcs, _, hl, hm, hz, hx, hcell, hwz⟩
  · simp [Value.cells] at hcs
    obtain ⟨rfl, rfl, rfl⟩ := hcs
    simp only [Prod.mk.injEq] at hx
    exact ⟨[], is_sl.2 ⟨0, ⟨none, 0, 0⟩, [], rfl, IsSl.nil _ 0, .nil⟩, .inl ⟨hx.1, rfl⟩, by simp⟩
  · simp [Value.cells] at hcs
    obtain ⟨rfl, rfl, rfl⟩ := hcs
    simp only [Prod.mk.injEq] at hx
    simp only [if_true] at hz
    refine ⟨zs.take len, is_sl.2 ⟨1, ⟨some a, len, cap⟩, (zs.take len).map fun n => Value.int .i64 n, rfl, ⟨by simp; omega, hl, ?_⟩, isLs_vI _⟩, .inr ⟨_, hx.1⟩, fun n hn => hwz n (List.mem_of_mem_take hn)⟩
    by_cases h0 : len = 0
    · exact .inl (by simp [h0])
    · right
      obtain ⟨b, off, spot⟩ := a
      have hspot : spot = none := by simpa [Addr.add] using World.cell?_spot (hcell 0 (by omega))
      subst hspot
      have c0 : ∀ i, i < zs.length → w.cell? ⟨b, off + i, none⟩ = some (.int .i64 (zs.getD i 0)) := fun i hi => by
        have := hcell i hi
        rwa [Go.WideShapes.add_plain] at this
      obtain ⟨cs, hcs, _⟩ := GW.of_cell (by simpa using c0 0 (by omega))
      refine ⟨b, off, cs, rfl, hcs, fun i hi => ?_⟩
      simp only [List.length_map, List.length_take] at hi
      obtain ⟨cs', hcs', hi'⟩ := GW.of_cell (c0 i (by omega))
      rw [hcs] at hcs'
      cases hcs'
      rw [Nat.mul_one, takeL_one.2 hi']
      simp [cellsL, List.getD, List.getElem?_eq_getElem (show i < zs.length by omega)]
end Go.Sx
end

section
set_option maxRecDepth 100000
namespace Go.Proofs.YtkijgpopaaknfaaGreatDoor.reduceCells
open Go.ChangeShapes Go.WideShapes Go.ChangeAt Go.RowKit Go.Sx

theorem own : ownKnob Tryz.prog.godebug = none := by kernel_rfl
theorem laidOut : laidOutB Tryz.prog = true := by kernel_rfl
theorem cellsI : Tryz.prog.cellsOf 3 = 1 := by kernel_rfl
theorem bytesI : Tryz.prog.bytesOf 3 = 8 := by kernel_rfl

theorem door_met (os : Os) (args : Array Value) : laidMetH Tryz.prog Rows.reduceCellsRow.laid ((World.doorLaid Tryz.prog 66 os).forCall (fun _ _ => 0) ⟨#[], args, []⟩).memory :=
  laidMetH_of_parts3 (fuel := 8) (laidMet_of_run' 8 (by kernel_rfl) (by kernel_rfl)) (by kernel_rfl) (by kernel_rfl)

theorem contract (H : Type) (enc : TypeId × Value → H) (W : World) (base : Nat) (args : Array Value) (ds gs : List (DataW H)) (before : List MemPlace)
    (hval : ∀ (j : Nat) t v, Tryz.f4.params[j]? = some t → args[j]? = some v → Value.okWide Tryz.prog W .any base t v)
    (hW : DataW.Whole enc Tryz.prog Tryz.f4.params.toList Rows.reduceCellsSpec.vars false W args.toList ds gs before)
    (hz : (DataW.weightsEach Tryz.prog (Tryz.f4.params.toList ++ (OpenSpec.ofChange Rows.reduceCellsSpec).bare.plain.varTypes Tryz.prog) (ds ++ gs)).all (· ≤ reachBytes) = true) :
    Calls Tryz.prog 4 args W fun e W' => ∃ v, e = .returned v ∧ Rows.reduceCellsSpec.post enc Tryz.prog Tryz.f4 false true false false W args v W' := by
  have hW' := hW
  obtain ⟨p, q, hA0, hV, rfl, _, _⟩ := hW
  have hA : DataW.TrodAll enc Tryz.prog W 0 (fun _ => true) true Tryz.f4.params.toList args.toList ds p := hA0
  rw [Tryz.params4] at hA hval hz
  obtain ⟨v0, d0, hargs, rfl, h0⟩ := trodAll_one hA
  obtain rfl : args = #[v0] := by cases args; simp_all
  obtain ⟨rfl, rfl⟩ := trodVars_none hV
  clear hA0
  simp only [List.append_nil] at hW'
  have hlt : ∀ x ∈ p, x.block < W.heap.size := fun x hx => by simpa using hW'.lt x hx
  obtain ⟨es, hI, hd, _⟩ := open_vI Tryz.underlying22 Tryz.underlying3 cellsI (hval 0 22 v0 rfl rfl) h0
  have hb : es.length ≤ 1125899906842624 := by
    rcases hd with ⟨rfl, rfl⟩ | ⟨sp, rfl⟩
    · exact Nat.zero_le _
    · have := sized_slice hz (j := 0) (t := 22) (e := 3) rfl rfl Tryz.underlying22
      rw [bytesI] at this
      have hr := reachBytes_lt
      have hl : (lits (H := H) .i64 es).length = es.length := by simp [lits]
      rw [hl] at this
      omega
  have hf := (q_ReduceCells (GB := GW W) hb) (GW W) [v0] (GLe.refl _) (.cons hI .nil)
  refine (hf.run W (fun b cs hg => GW.sub hg)).mono fun e W' ⟨v, G', he, hr, hv⟩ => ?_
  rw [is_v] at hv
  subst hv
  subst he
  have hn := hr.below
  exact ⟨_, rfl, ⟨_, _, _, [], _, [], hW', trodAll_mk1 (shut_bool Tryz.underlying4 _), trodAll_mk1 (Below.trod laidOut (by kernel_rfl) (of_decide_eq_true (by kernel_rfl)) h0 hn hlt), rfl, hn.frame _, fun h => by cases h⟩⟩

theorem reads (os : Os) {H : Type} (enc : TypeId × Value → H) : ∃ places, DataW.whole enc Tryz.prog ((World.doorLaid Tryz.prog 66 os).forCall (fun _ _ => 0) ⟨#[], #[.slice none 0 0], []⟩).memory Tryz.f4.params.toList Rows.reduceCellsSpec.vars false #[Value.slice none 0 0].toList 8 = some ([.nil], [], places) :=
  ⟨[], by kernel_rfl⟩

theorem lifted (os : Os) (started : os.Started) (H : Type) (enc : TypeId × Value → H) (F : Stop.Interp) :
    ReturnsInHanded {} Tryz.checked os 4 .any ((OpenSpec.ofChange Rows.reduceCellsSpec).preRow enc Tryz.prog Tryz.f4 Rows.reduceCellsRow.domain false Rows.reduceCellsRow.laid) (((OpenSpec.ofChange Rows.reduceCellsSpec).at F).post enc Tryz.prog Tryz.f4 false true false false) := by
  obtain ⟨places, hx⟩ := reads os enc
  refine returnsInHanded_of_row (C := Tryz.checked) (s := OpenSpec.ofChange Rows.reduceCellsSpec) own started (by kernel_rfl) Tryz.func4
    (witness_row_atRef (enc := enc) (C := Tryz.checked) false (World.doorLaid Tryz.prog 66 os) #[.slice none 0 0] rfl (by kernel_rfl) (by kernel_rfl) (by kernel_rfl)
      (OpenSpec.preRow_of_cond 8 hx (by kernel_rfl) (fun k hk => by cases hk) (by kernel_rfl) (door_met os _))) ?_
  intro W base args ds gs before hval hW _ _ hz _ _ _
  exact contract H enc W base args ds gs before hval hW hz

theorem said : Rows.ReduceCellsSaid :=
  OpenClaim.holds_of_cond 4 Tryz.f4 rfl rfl rfl rfl rfl rfl rfl ⟨rfl, rfl, rfl, rfl, rfl⟩ rfl rfl rfl rfl rfl (by kernel_rfl) Tryz.func4 (by kernel_rfl)
    (of_decide_eq_true (by kernel_rfl)) (by unfold Func.isWrapper; first | (rw [if_pos (by decide +kernel)]; kernel_rfl) | (rw [if_neg (by decide +kernel)]; exact ⟨rfl, rfl⟩))
    (fun os started H enc _ F => by rw [OpenClaim.pre_eq_preRow]; exact lifted os started H enc F)

theorem plain (f : FuncId) (fn : Func) (hf : Tryz.pinned.checked.prog.funcNamed "bspregion/bspregionlaw17.ReduceCells" = some f) (hfn : Tryz.pinned.checked.prog.funcs[f]? = some fn) :
    true = Tryz.pinned.checked.prog.looks [] ∧ ∀ (j : Nat) t, fn.params[j]? = some t → Tryz.pinned.checked.prog.wantsStandIn t = false := by
  obtain rfl : f = 4 := Option.some.inj ((show Tryz.prog.funcNamed "bspregion/bspregionlaw17.ReduceCells" = some 4 by kernel_rfl).symm.trans hf) |>.symm
  obtain rfl : fn = Tryz.f4 := (Option.some.inj (Tryz.func4.symm.trans hfn)).symm
  refine ⟨by kernel_rfl, fun j t ht => ?_⟩
  rw [Tryz.params4] at ht
  obtain rfl : t = 22 := by simpa using Array.mem_of_getElem? ht
  exact (show Tryz.prog.wantsStandIn 22 = false by kernel_rfl)

theorem card : Rows.ReduceCellsCardSaid :=
  Claim7.holds_tied_plain_at .later [] _ _ _ _ said (fun _ h => by cases h) (by kernel_rfl) (fun _ h => by cases h) reduceCells_row_tie rfl ⟨rfl, rfl⟩ (by kernel_rfl) rfl plain (by kernel_rfl)
#print axioms card
end Go.Proofs.YtkijgpopaaknfaaGreatDoor.reduceCells
end
