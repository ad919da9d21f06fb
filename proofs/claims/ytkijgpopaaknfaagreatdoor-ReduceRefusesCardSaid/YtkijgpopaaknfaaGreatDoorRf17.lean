/-
  The law ReduceRefuses holds: it answers true at every input and leaves its argument as it was.
-/
import Derived.Test.YtkijgpopaaknfaaGreatDoorRf16
import Derived.Test.YtkijgpopaaknfaaGreatDoorCards
import Derived.Test.YtkijgpopaaknfaaGreatDoorTie
import Derived.WalkKit
import Derived.ProofKit
import Derived.OpenShut
import Derived.Deep.DeepHandedRow
import Derived.Deep.DeepWitnessRowRef
import Derived.LaidMore
import Derived.Lib.LaidTab
import Derived.SizedLaws
import Derived.Stop.LaidErr
import Derived.MakeChecks
set_option linter.unusedSimpArgs false
set_option linter.unusedVariables false
section
set_option maxRecDepth 100000
namespace Go.Sx
open Go Go.Proofs
theorem RL.lnC (r : RL) : (r.ln = none ∧ r.nm) ∨ (r.ln = none ∧ ¬ r.nm) ∨ ∃ l, r.ln = some l := by
 cases h : r.ln with
 | some l => exact .inr (.inr ⟨l, rfl⟩)
 | none => by_cases hn : r.nm; exact .inl ⟨rfl, hn⟩; exact .inr (.inl ⟨rfl, hn⟩)
theorem RL.ln_iff {r : RL} : r.ln = none ↔ ¬ (r.nm ∧ r.l.ok) := by
 unfold RL.ln; split
 · rename_i h; simp [h]
 · rename_i h; simp [h]
theorem q_LnS {GB : Gh} {r : RL} {l : LnQ} (s : r.sm) (h : r.ln = some l) : PF GB Tryz.prog 27 [r.d] (.tp [eL l, vB true]) := by
 have := q_Ln (GB := GB) s
 have hh : r.nm ∧ r.l.ok := Decidable.not_not.1 fun e => by rw [RL.ln_iff.2 e] at h; cases h
 rw [rlD, if_pos hh.1, decide_eq_true hh] at this
 have e : r.l = l := by unfold RL.ln at h; rw [if_pos hh] at h; cases h; rfl
 rwa [e] at this
theorem q_LnZ1 {GB : Gh} {r : RL} (s : r.sm) (h : r.ln = none) (hn : r.nm) : PF GB Tryz.prog 27 [r.d] (.tp [eL r.l, vB false]) := by
 have := q_Ln (GB := GB) s
 rw [rlD, if_pos hn, decide_eq_false (RL.ln_iff.1 h)] at this; exact this
theorem q_LnZ2 {GB : Gh} {r : RL} (s : r.sm) (h : r.ln = none) (hn : ¬ r.nm) : PF GB Tryz.prog 27 [r.d] (.tp [.ag [.v (.bool false), .sl [], .v (.bool false), .sl [], .v (.bool false), .sl []], vB false]) := by
 have := q_Ln (GB := GB) s
 rw [rlD, if_neg hn, decide_eq_false (RL.ln_iff.1 h)] at this; exact this
def rlsD : Option (List LnQ) → DV
 | some ls => .tp [.sl (ls.map eL), vB true]
 | none => .tp [.sl [], vB false]
theorem q_CRead {GB : Gh} {cs : List RL} (hs : ∀ r ∈ cs, r.sm) (hn : cs.length ≤ 1000) : PF GB Tryz.prog 26 [.ag [.sl (cs.map RL.d)]] (rlsD (lnsX cs)) := by
 have hm := map_len RL.d cs
 refine fn (fu := ⟨18⟩) Tryz.func26 rfl rfl Tryz.ntmps26 rfl rfl (fun C => ?_)
 refine eqF 11 (.d (vI (cs.length : Nat))) rfl (by rw [hm] <;> rfl) ?_
 refine gx rfl <| ?_
 refine nr 4 4 32 6 rfl rfl rfl ?_
 refine lp (X := Nat) (fun k => [(12, .d (vI (k : Nat))), (4, .rw 4)]) (fun k => [(4, some (.b 32 6 (((cs.take k).filterMap RL.ln).map eL) true))]) (fun k => k ≤ cs.length ∧ (cs.take k).all (fun r => r.ln.isSome) = true) (fun k => cs.length - k) 0 rfl ⟨Nat.zero_le _, rfl⟩ (fun _ => rfl) (fun k hk => ?_)
 obtain ⟨h1, h2⟩ := hk
 have hfl := List.length_filterMap_le RL.ln (cs.take k)
 have hml := map_len eL ((cs.take k).filterMap RL.ln)
 rw [List.length_take] at hfl
 refine br (fu2 := ⟨11⟩) rfl rfl rfl (fun hc13 => ?_) (fun hc13 => ?_)
 ·
  obtain ⟨r, hx0⟩ : ∃ s, cs[k]? = some s := ⟨_, List.getElem?_eq_getElem (by omega)⟩
  have hx := hs r (List.mem_of_getElem? hx0)
  refine ix _ rfl (map_getS hx0) rfl <| ?_
  rcases RL.lnC r with ⟨hr, hrn⟩ | ⟨hr, hrn⟩ | ⟨l, hr⟩
  ·
   refine cl (fu := ⟨3⟩) rfl (q_LnZ1 hx hr hrn) rfl <| ?_
   refine kbF 20 rfl ?_
   refine gx rfl <| ?_
   exact rz rfl (by rw [lnsX_no hx0 hr]; rfl)
  ·
   refine cl (fu := ⟨3⟩) rfl (q_LnZ2 hx hr hrn) rfl <| ?_
   refine kbF 20 rfl ?_
   refine gx rfl <| ?_
   exact rz rfl (by rw [lnsX_no hx0 hr]; rfl)
  ·
   refine cl (fu := ⟨3⟩) rfl (q_LnS hx hr) rfl <| ?_
   refine kbT 20 rfl ?_
   refine gx rfl <| rf rfl rfl <| ap (((cs.take (k + 1)).filterMap RL.ln).map eL) rfl (by rw [fm_snoc hx0 hr, List.map_append]; rfl) (slOkL [l]) rfl <| ?_
   refine rnE 26 4 rfl ?_
   exact at_ (k + 1) ⟨⟨by omega, al_snoc hx0 h2 (by rw [hr]; rfl)⟩, (by omega)⟩
 ·
  obtain rfl : k = cs.length := by omega
  refine kT 31 rfl (by omega) ?_
  refine gx rfl <| ?_
  refine fzE 4 rfl ?_
  exact rz rfl (by rw [lnsX_all h2]; rfl)
theorem q_CReadS {GB : Gh} {cs : List RL} {ls : List LnQ} (hs : ∀ r ∈ cs, r.sm) (hn : cs.length ≤ 1000) (h : lnsX cs = some ls) : PF GB Tryz.prog 26 [.ag [.sl (cs.map RL.d)]] (.tp [.sl (ls.map eL), vB true]) := by
 have := q_CRead (GB := GB) hs hn; rw [h] at this; exact this
theorem q_CReadN {GB : Gh} {cs : List RL} (hs : ∀ r ∈ cs, r.sm) (hn : cs.length ≤ 1000) (h : lnsX cs = none) : PF GB Tryz.prog 26 [.ag [.sl (cs.map RL.d)]] (.tp [.sl [], vB false]) := by
 have := q_CRead (GB := GB) hs hn; rw [h] at this; exact this
section
variable {GB : Gh} {ai al ae : Addr} (hE : EG GB ai al ae)
include hE
section
variable {t : Tr} (h : t.gd) (hs : t.size ≤ 65536) (hd : t.depth ≤ 1000)
include h hs hd
theorem p_RReduceA : PF GB Tryz.prog 19 [eA t] (.tp [eA (t.restrict []), .v .nilIface]) := by
 have := p_RReduce hE (rt := t.num 0) (wr_sm h.lb) (wr_n hs) (fun u hu => by rw [ofQ_wr h.ok] at hu; cases hu; exact hd)
 rw [ofQ_wr h.ok, ← eA_RT] at this; exact this
theorem p_RRestA {cs : List RL} (hcs : ∀ r ∈ cs, r.sm) (hcn : cs.length ≤ 10) : PF GB Tryz.prog 22 [eA t, .ag [.sl (cs.map RL.d)]] (resD (restX ai ae (some t) (lnsX cs))) := by
 have := p_RRest hE (rt := t.num 0) (wr_sm h.lb) (wr_n hs) (fun u hu => by rw [ofQ_wr h.ok] at hu; cases hu; exact hd) hcs hcn
 rw [ofQ_wr h.ok, ← eA_RT] at this; exact this
theorem p_RRestN {cs : List RL} (hcs : ∀ r ∈ cs, r.sm) (hcn : cs.length ≤ 10) (hl : lnsX cs = none) : PF GB Tryz.prog 22 [eA t, .ag [.sl (cs.map RL.d)]] (.tp [trZ, eErr ai]) := by
 have := p_RRestA hE h hs hd hcs hcn; rw [hl] at this; exact this
theorem p_RRestE {cs : List RL} (hcs : ∀ r ∈ cs, r.sm) (hcn : cs.length ≤ 10) {ls : List LnQ} (hl : lnsX cs = some ls) (hc : canonQ ls [] = none) : PF GB Tryz.prog 22 [eA t, .ag [.sl (cs.map RL.d)]] (.tp [trZ, eErr ae]) := by
 have := p_RRestA hE h hs hd hcs hcn; rw [hl, restX, hc] at this; exact this
theorem p_RRestS {cs : List RL} (hcs : ∀ r ∈ cs, r.sm) (hcn : cs.length ≤ 10) {ls : List LnQ} (hl : lnsX cs = some ls) {c : CellQ} (hc : canonQ ls [] = some c) : PF GB Tryz.prog 22 [eA t, .ag [.sl (cs.map RL.d)]] (.tp [eA (t.restrict c), .v .nilIface]) := by
 have := p_RRestA hE h hs hd hcs hcn; rw [hl, restX, hc] at this; exact this
theorem p_RSplitA {r : RL} (hr : r.sm) : PF GB Tryz.prog 12 [eA t, r.d] (splD ai r.ln (some t)) := by
 have := p_RSplit hE (rt := t.num 0) (wr_sm h.lb) (wr_n hs) (fun u hu => by rw [ofQ_wr h.ok] at hu; cases hu; exact hd) hr
 rw [ofQ_wr h.ok, ← eA_RT] at this; exact this
theorem p_RSplitN {r : RL} (hr : r.sm) (hl : r.ln = none) : PF GB Tryz.prog 12 [eA t, r.d] (.tp [trZ, trZ, eErr ai]) := by
 have := p_RSplitA hE h hs hd hr; rw [hl] at this; exact this
theorem p_RSplitS {r : RL} (hr : r.sm) {l : LnQ} (hl : r.ln = some l) : PF GB Tryz.prog 12 [eA t, r.d] (.tp [eA (t.restrict (clipC [] l)), eA (t.restrict (clipC [] l.rev)), .v .nilIface]) := by
 have := p_RSplitA hE h hs hd hr; rw [hl] at this; exact this
end
theorem p_RReduceB : PF GB Tryz.prog 19 [.ag [vI 7, .sl []]] (.tp [trZ, eErr ai]) := p_RReduce hE (rt := 7) (ns := []) (fun n h => by cases h) (by decide) (fun t h => by cases h)
theorem p_RRestB : PF GB Tryz.prog 22 [.ag [vI 7, .sl []], .ag [.sl []]] (.tp [trZ, eErr ai]) := p_RRest hE (rt := 7) (ns := []) (fun n h => by cases h) (by decide) (fun t h => by cases h) (cs := []) (fun r h => by cases h) (by decide)
end
def tkn : Tr := .node l00 (.leaf true) (.leaf true)
theorem tkn_gd : tkn.gd := ⟨⟨l00_lb, trivial, trivial⟩, ⟨l00_ok, trivial, trivial⟩⟩
theorem q17_r {GB : Gh} {ai al ae : Addr} (hE : EG GB ai al ae) : PF GB Tryz.prog 19 [eA tkn] (.tp [.ag [vI (-2), .sl []], .v .nilIface]) := p_RReduceA hE tkn_gd (by decide) (by decide)
theorem q_known17 {GB : Gh} {ai al ae : Addr} (hE : EG GB ai al ae) : PF GB Tryz.prog 15 [] (.v (.bool true)) := by
 refine fn Tryz.func15 rfl rfl Tryz.ntmps15 rfl rfl (fun C => ?_)
 refine cl rfl (q_Xy (m := 0) (n := 0) (by decide) (by decide)) rfl <| cl rfl (q_Xy (m := 1) (n := 0) (by decide) (by decide)) rfl <| cl (fu := ⟨2⟩) rfl (q_Through (m := 0) (n := 0) (m' := 1) (n' := 0) (by decide) (by decide) (by decide) (by decide) (by decide)) rfl <| ?_
 refine eqF 9 (.d (eL l00)) rfl (by rw [l00_eq]) ?_
 refine gx rfl <| cl rfl q_CodeT rfl <| cl (fu := ⟨1⟩) rfl q_CodeT rfl <| bxf rfl rfl <| cl rfl (q_Write (t := tkn) tkn_gd.bl (by decide)) rfl <| cl (fu := ⟨15⟩) rfl (q17_r hE) rfl <| ?_
 refine knT (fu := ⟨5⟩) rfl rfl rfl <| knT rfl rfl rfl <| ?_
 exact rz rfl rfl
theorem canonB_iff {c : List LnQ} (hok : ∀ l ∈ c, l.ok) : canonB c = true ↔ ∃ p, InL c p := by
 rw [← inner_iff hok]
 unfold canonB innerB
 cases c with
 | nil => simp
 | cons a b =>
   rw [if_neg (by simp; omega)]
   simp only [decide_eq_true_eq, List.length_map, List.isEmpty_cons, Bool.false_or, List.any_eq_true]
   constructor
   · intro h
     obtain ⟨m, hm⟩ := List.exists_mem_of_length_pos (l := canonL (a :: b)) (by omega)
     exact ⟨m, mem_canonL.1 hm⟩
   · rintro ⟨m, hm⟩
     have := List.length_pos_of_mem (mem_canonL.2 hm)
     omega
theorem canonQ_iff {ls : List LnQ} (hok : ∀ l ∈ ls, l.ok) : (∃ c, canonQ ls [] = some c) ↔ ∃ p, InL ls p := by
 constructor
 · rintro ⟨c, hc⟩
   obtain ⟨g, h⟩ := canon_good GoodC.nil hok hc
   obtain ⟨p, hp⟩ := g.ne
   exact ⟨p, fun m hm => ((h p).1 hp).2 m hm⟩
 · rintro ⟨p, hp⟩
   exact canon_some GoodC.nil hok ⟨p, fun s hs => (by cases hs), fun l hl => hp l hl⟩
theorem canonB_N {ls : List LnQ} (hok : ∀ l ∈ ls, l.ok) (h : canonQ ls [] = none) : canonB ls = false := by
 rw [← Bool.not_eq_true, canonB_iff hok, ← canonQ_iff hok]
 rintro ⟨c, hc⟩; rw [h] at hc; cases hc
theorem canonB_S {ls : List LnQ} (hok : ∀ l ∈ ls, l.ok) {c : CellQ} (h : canonQ ls [] = some c) : canonB ls = true := (canonB_iff hok).2 ((canonQ_iff hok).1 ⟨c, h⟩)
theorem restrict_canon {t : Tr} {ls : List LnQ} (ht : t.all LnQ.ok) (hok : ∀ l ∈ ls, l.ok) {c : CellQ} (h : canonQ ls [] = some c) : t.restrictL (canonL ls) = t.restrict c := by
 obtain ⟨g, hi⟩ := canon_good GoodC.nil hok h
 have hne := (canonQ_iff hok).1 ⟨c, h⟩
 refine Tr.restrictL_eq t (canonL ls) c ht (ok_can hok) g (fun p => ?_)
 rw [hi, canonL_in hok hne]
 exact ⟨fun k => k.2, fun k => ⟨fun s hs => (by cases hs), k⟩⟩
structure RL.wd (r : RL) : Prop where
 a : DOk r.da
 b : DOk r.db
 c : DOk r.dc
theorem RL.sm_of {r : RL} (h : r.wd) (k : r.smB 3 = true) : r.sm := by
 unfold RL.smB Sx.smB at k
 simp at k
 exact ⟨⟨h.a, by omega⟩, ⟨h.b, by omega⟩, ⟨h.c, by omega⟩⟩
theorem sm_all {cs : List RL} (h : ∀ r ∈ cs, r.wd) (k : rlB 3 cs = true) : ∀ r ∈ cs, r.sm := fun r hr => by
 unfold rlB at k
 exact RL.sm_of (h r hr) (List.all_eq_true.1 k r hr)
theorem q_New3 {GB : Gh} {es0 es : List Int} (hb : es0.length ≤ 1125899906842624) (he : es = es0.take 400) : PN GB Tryz.prog 9 [.sl (es0.map vI)] 93 Unit (fun _ => [.sl (es.map vI), .v (.int .i64 (0 : Nat))]) := by
 subst he; exact q_New hb
theorem q_Tree3 {GB : Gh} {b : Nat} {es : List Int} (hes : es.length ≤ 400) {t : Tr} {a : Nat} (ht : t = (treeF es 3 0).1) (ha : a = (treeF es 3 0).2) : PM GB Tryz.prog 10 (mkP [none, some (.v (.int .i64 3))] b) b 93 [.sl (es.map vI), .v (.int .i64 (0 : Nat))] (eT t) [.sl (es.map vI), .v (.int .i64 (a : Nat))] := by
 subst ht ha; exact q_TreeT (a := 0) (d := 3) hes (Nat.zero_le _) (by decide)
theorem q_TSameR {GB : Gh} {s t : Tr} (hs : s.all (fun l => BL l 96)) (h : t = s) (hn : s.size ≤ 1000000) : PF GB Tryz.prog 16 [eA s, eA t] (.v (.bool true)) := by
 subst h
 have := q_TSame (GB := GB) hs hs hn
 rw [decide_eq_true (⟨rfl, rfl⟩ : _ ∧ _)] at this
 exact this
theorem lnsC (cs : List RL) : lnsX cs = none ∨ (∃ ls, lnsX cs = some ls ∧ canonQ ls [] = none) ∨ ∃ ls c, lnsX cs = some ls ∧ canonQ ls [] = some c := by
 cases h : lnsX cs with
 | none => exact .inl rfl
 | some ls =>
   cases hc : canonQ ls [] with
   | none => exact .inr (.inl ⟨ls, rfl, hc⟩)
   | some c => exact .inr (.inr ⟨ls, c, rfl, hc⟩)
theorem q_CanonV {GB : Gh} {ls : List LnQ} {b : Bool} (h : canonB ls = b) (hc : ∀ m ∈ ls, LB m) (hok : ∀ m ∈ ls, m.ok) (hn : ls.length ≤ 1000) : PF GB Tryz.prog 28 [.sl (ls.map eL)] (.tp [.sl ((canonL ls).map eL), vB b]) := by
 subst h; exact q_Canon hc hok hn
set_option maxHeartbeats 4000000 in
theorem q_ReduceRefuses {GB : Gh} {ai al ae : Addr} (hE : EG GB ai al ae) {es0 : List Int} {ws : List RL} {r : RL} (hb : es0.length ≤ 1125899906842624) (hw : ∀ r ∈ ws, r.wd) (hr : r.wd) (hn : ws.length ≤ 9223372036854775807) : PF GB Tryz.prog 6 [.sl (es0.map vI), .ag [.sl (ws.map RL.d)], r.d] (.v (.bool true)) := by
 have hm := map_len RL.d ws
 obtain ⟨es, hee⟩ : ∃ es, es = es0.take 400 := ⟨_, rfl⟩
 have hes : es.length ≤ 400 := by rw [hee]; simp; omega
 obtain ⟨hd, hok, hbl, -⟩ := treeF_ok (es := es) (d := 3) (Nat.zero_le es.length)
 obtain ⟨t, ht⟩ : ∃ t, t = (treeF es 3 0).1 := ⟨_, rfl⟩
 obtain ⟨a, hta⟩ : ∃ a, a = (treeF es 3 0).2 := ⟨_, rfl⟩
 rw [← ht] at hd hok hbl
 have hsz := Tr.size_lt t
 have hp4 : (2 : Nat) ^ t.depth ≤ 2 ^ 3 := Nat.pow_le_pow_right (by decide) hd
 have hp5 : (2 : Nat) ^ 3 = 8 := rfl
 have hlb : t.all LB := Tr.all_imp (fun _ h => ⟨h⟩) hbl
 have hg : t.gd := ⟨hlb, hok⟩
 refine fn (fu := ⟨13⟩) Tryz.func6 rfl rfl Tryz.ntmps6 rfl rfl (fun C => ?_)
 refine eqF 26 (.d (vI (ws.length : Nat))) rfl (by rw [hm] <;> rfl) ?_
 refine gx rfl <| ?_
 refine cs 28 rfl rfl rfl (fun hg28 => ?_) (fun hg28 => ?_)
 ·
  refine cl rfl (q_known17 hE) rfl <| ?_
  exact rz rfl rfl
 ·
  refine cl rfl (q_SmallL (n := 3) (ls := ws) (by omega)) rfl <| ?_
  refine csb 34 rfl rfl rfl (fun hg34 => ?_) (fun hg34 => ?_)
  ·
   refine cl rfl (q_known17 hE) rfl <| ?_
   exact rz rfl rfl
  ·
   refine rf rfl rfl <| cl rfl (q_SmallL (n := 3) (ls := [r]) (by simp)) rfl <| ?_
   refine bb rfl rfl rfl (fun hc39 => ?_) (fun hc39 => ?_)
   ·
    refine cl rfl (q_known17 hE) rfl <| ?_
    exact rz rfl rfl
   ·
    have hsm := sm_all hw (by simpa using hg34)
    have hrs : r.sm := sm_all (cs := [r]) (fun q hq => by rw [List.mem_singleton] at hq; subst hq; exact hr) (by simpa using hc39) r List.mem_cons_self
    have hn10 : ws.length ≤ 10 := by omega
    refine cn rfl ((q_New3 hb hee)) (fun _ => rfl) (fun _ => ?_)
    refine cm rfl (fun b => (q_Tree3 hes ht hta)) rfl <| cl rfl (q_Write (t := t) hbl (by omega)) rfl <| ?_
    rcases lnsC ws with hl | ⟨ls, hl, hc⟩ | ⟨ls, c, hl, hc⟩
    ·
     refine cl rfl (p_RRestN hE hg (by omega) (by omega) hsm hn10 hl) rfl <| cl (fu := ⟨3⟩) rfl (q_CReadN hsm (by omega) hl) rfl <| ?_
     refine kbF 55 rfl ?_
     refine gx rfl <| cl rfl (q_Write (t := t) hbl (by omega)) rfl <| ?_
     rcases RL.lnC r with ⟨hr0, hrn⟩ | ⟨hr0, hrn⟩ | ⟨l, hr0⟩
     ·
      refine cl rfl (p_RSplitN hE hg (by omega) (by omega) hrs hr0) rfl <| cl (fu := ⟨3⟩) rfl (q_LnZ1 hrs hr0 hrn) rfl <| ?_
      refine kbF 68 rfl ?_
      refine gx (fu := ⟨11⟩) rfl <| knF rfl rfl rfl <| gl rfl hE.ErrInvalid rfl <| cl (fu := ⟨0⟩) rfl p_IsS rfl <| ?_
      refine kbT 79 rfl ?_
      refine gx rfl <| cl rfl (p_RReduceB hE) rfl <| cl rfl (p_RRestB hE) rfl <| gl rfl hE.ErrInvalid rfl <| cl (fu := ⟨0⟩) rfl p_IsS rfl <| ?_
      refine kbT 97 rfl ?_
      refine gx rfl <| gl rfl hE.ErrInvalid rfl <| cl (fu := ⟨0⟩) rfl p_IsS rfl <| ?_
      refine kbT 102 rfl ?_
      refine gx rfl <| cl (fu := ⟨0⟩) rfl (q_known17 hE) rfl <| ?_
      refine kbT 107 rfl ?_
      refine gx rfl <| gl rfl hE.ErrInvalid rfl <| cl (fu := ⟨0⟩) rfl p_IsS rfl <| ?_
      refine kbT 111 rfl ?_
      refine gx (fu := ⟨5⟩) rfl <| knT rfl rfl rfl <| ?_
      exact rz rfl rfl
     ·
      refine cl rfl (p_RSplitN hE hg (by omega) (by omega) hrs hr0) rfl <| cl (fu := ⟨3⟩) rfl (q_LnZ2 hrs hr0 hrn) rfl <| ?_
      refine kbF 68 rfl ?_
      refine gx (fu := ⟨11⟩) rfl <| knF rfl rfl rfl <| gl rfl hE.ErrInvalid rfl <| cl (fu := ⟨0⟩) rfl p_IsS rfl <| ?_
      refine kbT 79 rfl ?_
      refine gx rfl <| cl rfl (p_RReduceB hE) rfl <| cl rfl (p_RRestB hE) rfl <| gl rfl hE.ErrInvalid rfl <| cl (fu := ⟨0⟩) rfl p_IsS rfl <| ?_
      refine kbT 97 rfl ?_
      refine gx rfl <| gl rfl hE.ErrInvalid rfl <| cl (fu := ⟨0⟩) rfl p_IsS rfl <| ?_
      refine kbT 102 rfl ?_
      refine gx rfl <| cl (fu := ⟨0⟩) rfl (q_known17 hE) rfl <| ?_
      refine kbT 107 rfl ?_
      refine gx rfl <| gl rfl hE.ErrInvalid rfl <| cl (fu := ⟨0⟩) rfl p_IsS rfl <| ?_
      refine kbT 111 rfl ?_
      refine gx (fu := ⟨5⟩) rfl <| knT rfl rfl rfl <| ?_
      exact rz rfl rfl
     ·
      refine cl rfl (p_RSplitS hE hg (by omega) (by omega) hrs hr0) rfl <| cl (fu := ⟨3⟩) rfl (q_LnS hrs hr0) rfl <| ?_
      refine kbT 68 rfl ?_
      refine gx (fu := ⟨11⟩) rfl <| knF rfl rfl rfl <| cl rfl (p_RReduceB hE) rfl <| cl rfl (p_RRestB hE) rfl <| gl rfl hE.ErrInvalid rfl <| cl (fu := ⟨0⟩) rfl p_IsS rfl <| ?_
      refine kbT 97 rfl ?_
      refine gx rfl <| gl rfl hE.ErrInvalid rfl <| cl (fu := ⟨0⟩) rfl p_IsS rfl <| ?_
      refine kbT 102 rfl ?_
      refine gx rfl <| cl (fu := ⟨0⟩) rfl (q_known17 hE) rfl <| ?_
      refine kbT 107 rfl ?_
      refine gx rfl <| gl rfl hE.ErrInvalid rfl <| cl (fu := ⟨0⟩) rfl p_IsS rfl <| ?_
      refine kbT 111 rfl ?_
      refine gx (fu := ⟨5⟩) rfl <| knT rfl rfl rfl <| ?_
      exact rz rfl rfl
    ·
     obtain ⟨k1, k2, k3⟩ := lnsX_ok hsm hl
     have hcb := canonB_N k2 hc
     refine cl rfl (p_RRestE hE hg (by omega) (by omega) hsm hn10 hl hc) rfl <| cl (fu := ⟨3⟩) rfl (q_CReadS hsm (by omega) hl) rfl <| ?_
     refine kbT 55 rfl ?_
     refine gx rfl <| cl rfl (q_Write (t := t) hbl (by omega)) rfl <| ?_
     rcases RL.lnC r with ⟨hr0, hrn⟩ | ⟨hr0, hrn⟩ | ⟨l, hr0⟩
     ·
      refine cl rfl (p_RSplitN hE hg (by omega) (by omega) hrs hr0) rfl <| cl (fu := ⟨3⟩) rfl (q_LnZ1 hrs hr0 hrn) rfl <| ?_
      refine kbF 68 rfl ?_
      refine gx (fu := ⟨11⟩) rfl <| knF rfl rfl rfl <| gl rfl hE.ErrInvalid rfl <| cl (fu := ⟨0⟩) rfl p_IsS rfl <| ?_
      refine kbT 79 rfl ?_
      refine gx rfl <| cl rfl (p_RReduceB hE) rfl <| cl rfl (p_RRestB hE) rfl <| gl rfl hE.ErrInvalid rfl <| cl (fu := ⟨0⟩) rfl p_IsS rfl <| ?_
      refine kbT 97 rfl ?_
      refine gx rfl <| gl rfl hE.ErrInvalid rfl <| cl (fu := ⟨0⟩) rfl p_IsS rfl <| ?_
      refine kbT 102 rfl ?_
      refine gx rfl <| cl (fu := ⟨3⟩) rfl (q_CanonV hcb k1 k2 (by omega)) rfl <| ?_
      refine kbF 123 rfl ?_
      refine gx rfl <| cl (fu := ⟨0⟩) rfl (q_known17 hE) rfl <| ?_
      refine kbT 126 rfl ?_
      refine gx rfl <| gl rfl hE.ErrEmpty rfl <| cl (fu := ⟨0⟩) rfl p_IsS rfl <| ?_
      refine kbT 130 rfl ?_
      refine gx (fu := ⟨5⟩) rfl <| knT rfl rfl rfl <| ?_
      exact rz rfl rfl
     ·
      refine cl rfl (p_RSplitN hE hg (by omega) (by omega) hrs hr0) rfl <| cl (fu := ⟨3⟩) rfl (q_LnZ2 hrs hr0 hrn) rfl <| ?_
      refine kbF 68 rfl ?_
      refine gx (fu := ⟨11⟩) rfl <| knF rfl rfl rfl <| gl rfl hE.ErrInvalid rfl <| cl (fu := ⟨0⟩) rfl p_IsS rfl <| ?_
      refine kbT 79 rfl ?_
      refine gx rfl <| cl rfl (p_RReduceB hE) rfl <| cl rfl (p_RRestB hE) rfl <| gl rfl hE.ErrInvalid rfl <| cl (fu := ⟨0⟩) rfl p_IsS rfl <| ?_
      refine kbT 97 rfl ?_
      refine gx rfl <| gl rfl hE.ErrInvalid rfl <| cl (fu := ⟨0⟩) rfl p_IsS rfl <| ?_
      refine kbT 102 rfl ?_
      refine gx rfl <| cl (fu := ⟨3⟩) rfl (q_CanonV hcb k1 k2 (by omega)) rfl <| ?_
      refine kbF 123 rfl ?_
      refine gx rfl <| cl (fu := ⟨0⟩) rfl (q_known17 hE) rfl <| ?_
      refine kbT 126 rfl ?_
      refine gx rfl <| gl rfl hE.ErrEmpty rfl <| cl (fu := ⟨0⟩) rfl p_IsS rfl <| ?_
      refine kbT 130 rfl ?_
      refine gx (fu := ⟨5⟩) rfl <| knT rfl rfl rfl <| ?_
      exact rz rfl rfl
     ·
      refine cl rfl (p_RSplitS hE hg (by omega) (by omega) hrs hr0) rfl <| cl (fu := ⟨3⟩) rfl (q_LnS hrs hr0) rfl <| ?_
      refine kbT 68 rfl ?_
      refine gx (fu := ⟨11⟩) rfl <| knF rfl rfl rfl <| cl rfl (p_RReduceB hE) rfl <| cl rfl (p_RRestB hE) rfl <| gl rfl hE.ErrInvalid rfl <| cl (fu := ⟨0⟩) rfl p_IsS rfl <| ?_
      refine kbT 97 rfl ?_
      refine gx rfl <| gl rfl hE.ErrInvalid rfl <| cl (fu := ⟨0⟩) rfl p_IsS rfl <| ?_
      refine kbT 102 rfl ?_
      refine gx rfl <| cl (fu := ⟨3⟩) rfl (q_CanonV hcb k1 k2 (by omega)) rfl <| ?_
      refine kbF 123 rfl ?_
      refine gx rfl <| cl (fu := ⟨0⟩) rfl (q_known17 hE) rfl <| ?_
      refine kbT 126 rfl ?_
      refine gx rfl <| gl rfl hE.ErrEmpty rfl <| cl (fu := ⟨0⟩) rfl p_IsS rfl <| ?_
      refine kbT 130 rfl ?_
      refine gx (fu := ⟨5⟩) rfl <| knT rfl rfl rfl <| ?_
      exact rz rfl rfl
    ·
     obtain ⟨k1, k2, k3⟩ := lnsX_ok hsm hl
     have hcb := canonB_S k2 hc
     have hRL := restrict_canon hok k2 hc
     have abC := Tr.restrict_all _ t c hbl
     have z1 := Tr.restrict_size t c
     have hcn := canonL_len ls
     refine cl rfl (p_RRestS hE hg (by omega) (by omega) hsm hn10 hl hc) rfl <| cl (fu := ⟨3⟩) rfl (q_CReadS hsm (by omega) hl) rfl <| ?_
     refine kbT 55 rfl ?_
     refine gx rfl <| cl rfl (q_Write (t := t) hbl (by omega)) rfl <| ?_
     rcases RL.lnC r with ⟨hr0, hrn⟩ | ⟨hr0, hrn⟩ | ⟨l, hr0⟩
     ·
      refine cl rfl (p_RSplitN hE hg (by omega) (by omega) hrs hr0) rfl <| cl (fu := ⟨3⟩) rfl (q_LnZ1 hrs hr0 hrn) rfl <| ?_
      refine kbF 68 rfl ?_
      refine gx (fu := ⟨11⟩) rfl <| knF rfl rfl rfl <| gl rfl hE.ErrInvalid rfl <| cl (fu := ⟨0⟩) rfl p_IsS rfl <| ?_
      refine kbT 79 rfl ?_
      refine gx rfl <| cl rfl (p_RReduceB hE) rfl <| cl rfl (p_RRestB hE) rfl <| gl rfl hE.ErrInvalid rfl <| cl (fu := ⟨0⟩) rfl p_IsS rfl <| ?_
      refine kbT 97 rfl ?_
      refine gx rfl <| gl rfl hE.ErrInvalid rfl <| cl (fu := ⟨0⟩) rfl p_IsS rfl <| ?_
      refine kbT 102 rfl ?_
      refine gx rfl <| cl (fu := ⟨3⟩) rfl (q_CanonV hcb k1 k2 (by omega)) rfl <| ?_
      refine kbT 123 rfl ?_
      refine gx rfl <| cl (fu := ⟨0⟩) rfl (q_known17 hE) rfl <| knT rfl rfl rfl <| cl rfl (q_RRestrict (t := t) (c := canonL ls) hlb hok (lb_can k1) (ok_can k2) (by omega)) rfl <| ?_
      refine cl rfl (q_Write (t := t.restrictL (canonL ls)) (by rw [hRL]; exact abC) (by rw [hRL]; omega)) rfl <| cl rfl (q_TSameR (s := t.restrict c) (t := t.restrictL (canonL ls)) abC hRL (by omega)) rfl <| ?_
      exact rz rfl rfl
     ·
      refine cl rfl (p_RSplitN hE hg (by omega) (by omega) hrs hr0) rfl <| cl (fu := ⟨3⟩) rfl (q_LnZ2 hrs hr0 hrn) rfl <| ?_
      refine kbF 68 rfl ?_
      refine gx (fu := ⟨11⟩) rfl <| knF rfl rfl rfl <| gl rfl hE.ErrInvalid rfl <| cl (fu := ⟨0⟩) rfl p_IsS rfl <| ?_
      refine kbT 79 rfl ?_
      refine gx rfl <| cl rfl (p_RReduceB hE) rfl <| cl rfl (p_RRestB hE) rfl <| gl rfl hE.ErrInvalid rfl <| cl (fu := ⟨0⟩) rfl p_IsS rfl <| ?_
      refine kbT 97 rfl ?_
      refine gx rfl <| gl rfl hE.ErrInvalid rfl <| cl (fu := ⟨0⟩) rfl p_IsS rfl <| ?_
      refine kbT 102 rfl ?_
      refine gx rfl <| cl (fu := ⟨3⟩) rfl (q_CanonV hcb k1 k2 (by omega)) rfl <| ?_
      refine kbT 123 rfl ?_
      refine gx rfl <| cl (fu := ⟨0⟩) rfl (q_known17 hE) rfl <| knT rfl rfl rfl <| cl rfl (q_RRestrict (t := t) (c := canonL ls) hlb hok (lb_can k1) (ok_can k2) (by omega)) rfl <| ?_
      refine cl rfl (q_Write (t := t.restrictL (canonL ls)) (by rw [hRL]; exact abC) (by rw [hRL]; omega)) rfl <| cl rfl (q_TSameR (s := t.restrict c) (t := t.restrictL (canonL ls)) abC hRL (by omega)) rfl <| ?_
      exact rz rfl rfl
     ·
      refine cl rfl (p_RSplitS hE hg (by omega) (by omega) hrs hr0) rfl <| cl (fu := ⟨3⟩) rfl (q_LnS hrs hr0) rfl <| ?_
      refine kbT 68 rfl ?_
      refine gx (fu := ⟨11⟩) rfl <| knF rfl rfl rfl <| cl rfl (p_RReduceB hE) rfl <| cl rfl (p_RRestB hE) rfl <| gl rfl hE.ErrInvalid rfl <| cl (fu := ⟨0⟩) rfl p_IsS rfl <| ?_
      refine kbT 97 rfl ?_
      refine gx rfl <| gl rfl hE.ErrInvalid rfl <| cl (fu := ⟨0⟩) rfl p_IsS rfl <| ?_
      refine kbT 102 rfl ?_
      refine gx rfl <| cl (fu := ⟨3⟩) rfl (q_CanonV hcb k1 k2 (by omega)) rfl <| ?_
      refine kbT 123 rfl ?_
      refine gx rfl <| cl (fu := ⟨0⟩) rfl (q_known17 hE) rfl <| knT rfl rfl rfl <| cl rfl (q_RRestrict (t := t) (c := canonL ls) hlb hok (lb_can k1) (ok_can k2) (by omega)) rfl <| ?_
      refine cl rfl (q_Write (t := t.restrictL (canonL ls)) (by rw [hRL]; exact abC) (by rw [hRL]; omega)) rfl <| cl rfl (q_TSameR (s := t.restrict c) (t := t.restrictL (canonL ls)) abC hRL (by omega)) rfl <| ?_
      exact rz rfl rfl
end Go.Sx
end

section
set_option maxRecDepth 100000
namespace Go.Sx
open Go Go.Proofs Go.ChangeShapes Go.WideShapes Go.ChangeAt Go.RowKit
def GW (w : World) : Gh := fun b => match w.heap[b]? with | some (.cells cs _ _) => some cs.toList | _ => none
theorem GW.sub {w : World} {b : Nat} {cs : List Value} (h : GW w b = some cs) : ∃ ty fz, w.heap[b]? = some (.cells ⟨cs⟩ ty fz) := by
 unfold GW at h
 split at h
 · rename_i c t f e
   cases h
   exact ⟨t, f, by rw [e]⟩
 · cases h
theorem GW.of_cell {w : World} {b off : Nat} {v : Value} (h : w.cell? ⟨b, off, none⟩ = some v) : ∃ cs, GW w b = some cs ∧ cs[off]? = some v := by
 unfold World.cell? at h
 unfold GW
 split at h
 · rename_i c t f e
   simp only at e
   refine ⟨c.toList, by rw [e], ?_⟩
   simpa using h
 all_goals first | (rename_i e; cases h) | cases h
theorem HRel.below {w w' : World} {G G' : Gh} {own : List Own} (h : HRel ⟨w, G, []⟩ own G' w') : Below w.heap.size w w' :=
 ⟨h.os, h.tape, h.output, h.size, fun k hk => h.keep k hk (by simp)⟩
theorem isLs_vI {G : Gh} : ∀ es : List Int, IsLs G (es.map vI) (es.map fun n => Value.int .i64 n)
 | [] => .nil
 | n :: t => .cons (is_v.2 rfl) (isLs_vI t)
theorem open_vI {base : Nat} {H : Type} {enc : TypeId × Value → H} {P : Program} {w : World} {t e : TypeId} {v : Value} {d : DataW H} {ps : List MemPlace} (ht : P.underlying t = some (.slice e)) (he : P.underlying e = some (.int .i64)) (hc : P.cellsOf e = 1)
   (hv : Value.okWide P w .any base t v) (h : DataW.Trod enc P w 0 (fun _ => true) true t v d ps) :
   ∃ es : List Int, Is (GW w) (.sl (es.map vI)) v ∧ (d = .nil ∧ es = [] ∨ ∃ sp, d = .slice (lits .i64 es) sp) ∧ (∀ n ∈ es, (Lit.int .i64 n).wf = true) := by
 obtain ⟨a0, len, cap, rfl⟩ := okWide_slice ht hv
 obtain ⟨fuel, hf⟩ := h
 rcases open_ints ht he hc hf with ⟨hcs, hx⟩ | ⟨a, len', cap', zs, hcs, _, hl, hm, hz, hx, hcell, hwz⟩
 · simp [Value.cells] at hcs
   obtain ⟨rfl, rfl, rfl⟩ := hcs
   simp only [Prod.mk.injEq] at hx
   exact ⟨[], is_sl.2 ⟨0, ⟨none, 0, 0⟩, [], rfl, IsSl.nil _ 0, .nil⟩, .inl ⟨hx.1, rfl⟩, by simp⟩
 · simp [Value.cells] at hcs
   obtain ⟨rfl, rfl, rfl⟩ := hcs
   simp only [Prod.mk.injEq] at hx
   simp only [if_true] at hz
   refine ⟨zs.take len, is_sl.2 ⟨1, ⟨some a, len, cap⟩, (zs.take len).map fun n => Value.int .i64 n, rfl, ⟨by simp; omega, hl, ?_⟩, isLs_vI _⟩, .inr ⟨_, hx.1⟩, fun n hn => hwz n (List.mem_of_mem_take hn)⟩
   by_cases h0 : len = 0
   · exact .inl (by simp [h0])
   · right
     obtain ⟨b, off, spot⟩ := a
     have hspot : spot = none := by simpa [Addr.add] using World.cell?_spot (hcell 0 (by omega))
     subst hspot
     have c0 : ∀ i, i < zs.length → w.cell? ⟨b, off + i, none⟩ = some (.int .i64 (zs.getD i 0)) := fun i hi => by
       have := hcell i hi
       rwa [Go.WideShapes.add_plain] at this
     obtain ⟨cs, hcs, _⟩ := GW.of_cell (by simpa using c0 0 (by omega))
     refine ⟨b, off, cs, rfl, hcs, fun i hi => ?_⟩
     simp only [List.length_map, List.length_take] at hi
     obtain ⟨cs', hcs', hi'⟩ := GW.of_cell (c0 i (by omega))
     rw [hcs] at hcs'
     cases hcs'
     rw [Nat.mul_one, takeL_one.2 hi']
     simp [cellsL, List.getD, List.getElem?_eq_getElem (show i < zs.length by omega)]
end Go.Sx
end

section
set_option maxRecDepth 100000
namespace Go.Sx
open Go Go.Proofs Go.ChangeShapes Go.WideShapes Go.ChangeAt Go.RowKit
inductive CSh where
 | b
 | i (k : IntKind)
 | sl (ag : Bool) (l : List CSh)
mutual
def Fit : CSh → DV → Prop
 | .b, d => ∃ b, d = .v (.bool b)
 | .i k, d => ∃ n, d = .v (.int k n) ∧ (Lit.int k n).wf = true
 | .sl ag l, d => ∃ m : List DV, d = .sl m ∧ m.length ≤ maxLen ∧ ∀ x ∈ m, ∃ ys, FitL l ys ∧ ((ag = true ∧ x = .ag ys) ∨ (ag = false ∧ ys = [x]))
def FitL : List CSh → List DV → Prop
 | [], ds => ds = []
 | s :: l, ds => ∃ d t, ds = d :: t ∧ Fit s d ∧ FitL l t
end
theorem fit_b {d : DV} : Fit .b d ↔ ∃ b, d = .v (.bool b) := by simp only [Fit]
theorem fit_i {k : IntKind} {d : DV} : Fit (.i k) d ↔ ∃ n, d = .v (.int k n) ∧ (Lit.int k n).wf = true := by simp only [Fit]
theorem fit_sl {ag : Bool} {l : List CSh} {d : DV} : Fit (.sl ag l) d ↔ ∃ m : List DV, d = .sl m ∧ m.length ≤ maxLen ∧ ∀ x ∈ m, ∃ ys, FitL l ys ∧ ((ag = true ∧ x = .ag ys) ∨ (ag = false ∧ ys = [x])) := by simp only [Fit]
theorem fitL_nil {ds : List DV} : FitL [] ds ↔ ds = [] := by simp only [FitL]
theorem fitL_cons {s : CSh} {l : List CSh} {ds : List DV} : FitL (s :: l) ds ↔ ∃ d t, ds = d :: t ∧ Fit s d ∧ FitL l t := by simp only [FitL]
theorem fitL_app : ∀ {a b : List CSh} {x y : List DV}, FitL a x → FitL b y → FitL (a ++ b) (x ++ y)
 | [], b, x, y, h, k => by rw [fitL_nil] at h; subst h; exact k
 | s :: l, b, x, y, h, k => by
   obtain ⟨d, t, rfl, h1, h2⟩ := fitL_cons.1 h
   exact fitL_cons.2 ⟨d, t ++ y, rfl, h1, fitL_app h2 k⟩
def flatF (r : TypeId → Option (Bool × List CSh)) (P : Program) : List Field → Nat → Option (List CSh)
 | [], _ => some []
 | f :: fs, o => match r f.type with
   | some (_, l) => if f.offset = o ∧ P.cellsOf f.type = l.length then (flatF r P fs (o + l.length)).map (l ++ ·) else none
   | none => none
def flatT (P : Program) : Nat → TypeId → Option (Bool × List CSh)
 | 0, _ => none
 | n + 1, t => match P.underlying t with
   | some .bool => some (false, [.b])
   | some (.int k) => some (false, [.i k])
   | some (.slice e) => match flatT P n e with
     | some (a, l) => if P.cellsOf e = l.length ∧ 0 < l.length then some (false, [.sl a l]) else none
     | none => none
   | some (.struct fs) => match flatF (flatT P n) P fs.toList 0 with
     | some l => if P.cellsOf t = l.length then some (true, l) else none
     | none => none
   | _ => none
theorem isLs_app {G : Gh} : ∀ {a b : List DV} {x y : List Value}, IsLs G a x → IsLs G b y → IsLs G (a ++ b) (x ++ y)
 | [], b, x, y, h, k => by rw [isl_nil] at h; subst h; exact k
 | s :: l, b, x, y, h, k => by
   obtain ⟨d, t, rfl, h1, h2⟩ := isl_cons.1 h
   exact isl_cons.2 ⟨d, t ++ y, rfl, h1, isLs_app h2 k⟩
theorem fitL_len {G : Gh} : ∀ {l : List CSh} {ds : List DV} {cs : List Value}, FitL l ds → IsLs G ds cs → cs.length = l.length
 | [], ds, cs, h, k => by rw [fitL_nil] at h; subst h; rw [isl_nil] at k; subst k; rfl
 | s :: l, ds, cs, h, k => by
   obtain ⟨d, t, rfl, h1, h2⟩ := fitL_cons.1 h
   obtain ⟨y, n, rfl, k1, k2⟩ := isl_cons.1 k
   simp [fitL_len h2 k2]
section
variable {H : Type} {enc : TypeId × Value → H} {P : Program} {w : World}
theorem open_fields {n : Nat} {r : TypeId → Option (Bool × List CSh)} {tr : TypeId → List Value → Prop}
   (ih : ∀ t a l cs, r t = some (a, l) → tr t cs → ∃ ds, FitL l ds ∧ IsLs (GW w) ds cs) {cs : List Value} :
   ∀ (fs : List Field) (o : Nat) (l : List CSh), flatF r P fs o = some l → (∀ (i : Nat) (f : Field), fs[i]? = some f → tr f.type ((cs.drop f.offset).take (P.cellsOf f.type))) → cs.length = o + l.length →
     ∃ ds, FitL l ds ∧ IsLs (GW w) ds (cs.drop o)
 | [], o, l, h, _, hl => by
   cases h
   refine ⟨[], fitL_nil.2 rfl, isl_nil.2 ?_⟩
   simp at hl
   simp [hl]
 | f :: fs, o, l, h, hc, hl => by
   unfold flatF at h
   split at h
   · rename_i a l1 hr
     split at h
     · rename_i hk
       obtain ⟨h1, h2⟩ := hk
       simp only [Option.map_eq_some_iff] at h
       obtain ⟨l2, h3, rfl⟩ := h
       rw [List.length_append] at hl
       obtain ⟨ds1, f1, i1⟩ := ih _ _ _ _ hr (hc 0 f rfl)
       obtain ⟨ds2, f2, i2⟩ := open_fields (n := n) ih fs (o + l1.length) l2 h3 (fun i g hg => hc (i + 1) g hg) (by omega)
       refine ⟨ds1 ++ ds2, fitL_app f1 f2, ?_⟩
       rw [h1, h2] at i1
       have e : cs.drop o = (cs.drop o).take l1.length ++ cs.drop (o + l1.length) := by
         rw [← List.drop_drop, List.take_append_drop]
       rw [e]
       exact isLs_app i1 i2
     · cases h
   · cases h
theorem exists_list {α β : Type} {p : Nat → α → β → Prop} : ∀ (l : List α) (k : Nat), (∀ (i : Nat) a, l[i]? = some a → ∃ b, p (k + i) a b) → ∃ m : List β, m.length = l.length ∧ ∀ (i : Nat) a, l[i]? = some a → ∃ b, m[i]? = some b ∧ p (k + i) a b
 | [], k, _ => ⟨[], rfl, fun i a h => by simp at h⟩
 | a :: l, k, h => by
   obtain ⟨b, hb⟩ := h 0 a rfl
   obtain ⟨m, hm, hm2⟩ := exists_list l (k + 1) (fun i c hc => by have := h (i + 1) c hc; rwa [show k + (i + 1) = k + 1 + i by omega] at this)
   refine ⟨b :: m, by simp [hm], fun i c hc => ?_⟩
   cases i with
   | zero => simp at hc; subst hc; exact ⟨b, rfl, hb⟩
   | succ i => obtain ⟨d, h1, h2⟩ := hm2 i c hc; exact ⟨d, h1, by rwa [show k + (i + 1) = k + 1 + i by omega]⟩
theorem isLs_of : ∀ {G : Gh} (m : List DV) (es : List Value), m.length = es.length → (∀ (i : Nat) d e, m[i]? = some d → es[i]? = some e → Is G d e) → IsLs G m es
 | G, [], [], _, _ => isl_nil.2 rfl
 | G, d :: m, e :: es, hl, h => isl_cons.2 ⟨e, es, rfl, h 0 d e rfl rfl, isLs_of m es (by simpa using hl) (fun i a b ha hb => h (i + 1) a b ha hb)⟩
theorem takeL_mk {cs m : List Value} {o k : Nat} (hl : m.length = k) (h : ∀ i, i < k → cs[o + i]? = m[i]?) (ho : o + k ≤ cs.length) : takeL cs o k = some m := by
 rw [takeL_of _ _ _ ho]
 congr 1
 apply List.ext_getElem?
 intro i
 by_cases hi : i < k
 · rw [List.getElem?_take_of_lt hi, List.getElem?_drop]; exact h i hi
 · rw [List.getElem?_eq_none (by simp; omega), List.getElem?_eq_none (by omega)]
theorem open_cells : ∀ (n : Nat) (t : TypeId) (a : Bool) (l : List CSh) (cs : List Value) (fuel : Nat) (x : DataW H × List MemPlace), flatT P n t = some (a, l) → DataW.trod enc P w 0 (fun _ => true) true fuel t cs = some x → ∃ ds, FitL l ds ∧ IsLs (GW w) ds cs
 | 0, _, _, _, _, _, _, h, _ => by cases h
 | n + 1, t, a, l, cs, fuel, x, h, hx => by
   unfold flatT at h
   split at h
   · rename_i ht
     cases h
     obtain ⟨b, rfl, _⟩ := DataW.trod_bool ht hx
     exact ⟨[.v (.bool b)], fitL_cons.2 ⟨_, _, rfl, fit_b.2 ⟨b, rfl⟩, fitL_nil.2 rfl⟩, isl_cons.2 ⟨_, _, rfl, is_v.2 rfl, isl_nil.2 rfl⟩⟩
   · rename_i k ht
     cases h
     obtain ⟨b, rfl, _, hw⟩ := DataW.trod_int ht hx
     exact ⟨[.v (.int k b)], fitL_cons.2 ⟨_, _, rfl, fit_i.2 ⟨b, rfl, hw⟩, fitL_nil.2 rfl⟩, isl_cons.2 ⟨_, _, rfl, is_v.2 rfl, isl_nil.2 rfl⟩⟩
   · rename_i e ht
     split at h
     · rename_i a1 l1 h1
       split at h
       · rename_i hk
         cases h
         obtain ⟨hk1, hk2⟩ := hk
         rcases DataW.trod_slice ht hx with ⟨rfl, _⟩ | ⟨ad, len, cap, elems, rest, f, _, rfl, _, _, hlc, hcm, hlen, hel, _, _⟩
         · exact ⟨[.sl []], fitL_cons.2 ⟨_, _, rfl, fit_sl.2 ⟨[], rfl, Nat.zero_le _, fun x hx => by cases hx⟩, fitL_nil.2 rfl⟩, isl_cons.2 ⟨_, _, rfl, is_sl.2 ⟨0, ⟨none, 0, 0⟩, [], rfl, .nil _ 0, isl_nil.2 rfl⟩, isl_nil.2 rfl⟩⟩
         · have each : ∀ (i : Nat) (y : DataW H × List MemPlace), elems[i]? = some y → ∃ p : DV × Value, (∃ ys, FitL l1 ys ∧ ((a1 = true ∧ p.1 = .ag ys) ∨ (a1 = false ∧ ys = [p.1]))) ∧ Is (GW w) p.1 p.2 ∧ (∃ es, w.cells? 0 (ad.add ((0 + i) * l1.length)) l1.length = some es ∧ es.length = l1.length ∧ cellsL p.2 = es) := by
             intro i y hy
             have hi : i < len := by rw [← hlen]; exact (List.getElem?_eq_some_iff.1 hy).1
             have hE := hel i hi
             rw [hy, Option.bind_eq_some_iff, hk1] at hE
             obtain ⟨es, he1, he2⟩ := hE
             obtain ⟨ds, hd1, hd2⟩ := open_cells n e a1 l1 es f y h1 he2
             have hlen1 := fitL_len hd1 hd2
             rw [show 0 + i = i by omega]
             cases a1 with
             | true => exact ⟨(.ag ds, .agg ⟨es⟩), ⟨ds, hd1, .inl ⟨rfl, rfl⟩⟩, is_ag.2 ⟨es, rfl, hd2⟩, es, he1, hlen1, rfl⟩
             | false =>
               have hone : ∃ s, l1 = [s] := by
                 cases n with
                 | zero => cases h1
                 | succ n =>
                   unfold flatT at h1
                   split at h1
                   · cases h1; exact ⟨_, rfl⟩
                   · cases h1; exact ⟨_, rfl⟩
                   · split at h1
                     · split at h1 <;> cases h1; exact ⟨_, rfl⟩
                     · cases h1
                   · split at h1
                     · split at h1 <;> cases h1
                     · cases h1
                   · cases h1
               obtain ⟨s, rfl⟩ := hone
               obtain ⟨d, t', rfl, hd3, hd4⟩ := fitL_cons.1 hd1
               rw [fitL_nil] at hd4; subst hd4
               obtain ⟨c, t', rfl, hd5, hd6⟩ := isl_cons.1 hd2
               rw [isl_nil] at hd6; subst hd6
               refine ⟨(d, c), ⟨[d], hd1, .inr ⟨rfl, rfl⟩⟩, hd5, [c], he1, rfl, ?_⟩
               cases s with
               | b => obtain ⟨b, rfl⟩ := fit_b.1 hd3; rw [is_v] at hd5; subst hd5; rfl
               | i k => obtain ⟨b, rfl, _⟩ := fit_i.1 hd3; rw [is_v] at hd5; subst hd5; rfl
               | sl a2 l2 => obtain ⟨m, rfl, _⟩ := fit_sl.1 hd3; obtain ⟨_, _, _, rfl, _⟩ := is_sl.1 hd5; rfl
           obtain ⟨ps, hpl, hps⟩ := exists_list (p := fun i _ (p : DV × Value) => (∃ ys, FitL l1 ys ∧ ((a1 = true ∧ p.1 = .ag ys) ∨ (a1 = false ∧ ys = [p.1]))) ∧ Is (GW w) p.1 p.2 ∧ (∃ es, w.cells? 0 (ad.add (i * l1.length)) l1.length = some es ∧ es.length = l1.length ∧ cellsL p.2 = es)) elems 0 each
           have get : ∀ (i : Nat) p, ps[i]? = some p → (∃ ys, FitL l1 ys ∧ ((a1 = true ∧ p.1 = .ag ys) ∨ (a1 = false ∧ ys = [p.1]))) ∧ Is (GW w) p.1 p.2 ∧ (∃ es, w.cells? 0 (ad.add (i * l1.length)) l1.length = some es ∧ es.length = l1.length ∧ cellsL p.2 = es) := by
             intro i p hp
             have hi : i < elems.length := by rw [← hpl]; exact (List.getElem?_eq_some_iff.1 hp).1
             obtain ⟨b, hb1, hb2⟩ := hps i elems[i] (List.getElem?_eq_getElem hi)
             rw [hp] at hb1; cases hb1
             rwa [show 0 + i = i by omega] at hb2
           refine ⟨[.sl (ps.map (·.1))], fitL_cons.2 ⟨_, _, rfl, fit_sl.2 ⟨_, rfl, by rw [List.length_map, hpl, hlen]; omega, fun x hx => ?_⟩, fitL_nil.2 rfl⟩, isl_cons.2 ⟨_, _, rfl, is_sl.2 ⟨l1.length, ⟨some ad, len, cap⟩, ps.map (·.2), rfl, ⟨by rw [List.length_map, hpl, hlen], hlc, ?_⟩, ?_⟩, isl_nil.2 rfl⟩⟩
           · obtain ⟨p, hp, rfl⟩ := List.mem_map.1 hx
             obtain ⟨i, hi⟩ := List.getElem?_of_mem hp
             exact (get i p hi).1
           · by_cases h0 : len = 0
             · left; rw [List.map_eq_nil_iff]; exact List.eq_nil_of_length_eq_zero (by omega)
             · right
               obtain ⟨b, off, spot⟩ := ad
               have cell : ∀ i, i < len → ∀ j, j < l1.length → ∃ p, ps[i]? = some p ∧ (cellsL p.2).length = l1.length ∧ w.cell? (((⟨b, off, spot⟩ : Addr).add (i * l1.length)).add j) = (cellsL p.2)[j]? := by
                 intro i hi j hj
                 have hp : ps[i]? = some ps[i] := List.getElem?_eq_getElem (by omega)
                 obtain ⟨_, _, es, h1, h2, h3⟩ := get i _ hp
                 exact ⟨_, hp, by rw [h3, h2], by rw [(World.cells?_some h1).2.2 j hj, h3]⟩
               have val : ∀ i, i < len → ∀ j, j < l1.length → ∃ p v, ps[i]? = some p ∧ (cellsL p.2)[j]? = some v ∧ w.cell? (((⟨b, off, spot⟩ : Addr).add (i * l1.length)).add j) = some v := by
                 intro i hi j hj
                 obtain ⟨p, hp, h1, h2⟩ := cell i hi j hj
                 exact ⟨p, (cellsL p.2)[j], hp, List.getElem?_eq_getElem (by omega), by rw [h2]; exact List.getElem?_eq_getElem (by omega)⟩
               have hspot : spot = none := by
                 obtain ⟨p, v, _, _, h1⟩ := val 0 (by omega) 0 hk2
                 have := World.cell?_spot h1
                 unfold Addr.add at this
                 simpa using this
               subst hspot
               simp only [Go.WideShapes.add_plain] at val
               obtain ⟨_, v0, _, _, h00⟩ := val 0 (by omega) 0 hk2
               obtain ⟨cs, hcs, _⟩ := GW.of_cell h00
               refine ⟨b, off, cs, rfl, hcs, fun i hi => ?_⟩
               simp only [List.length_map] at hi
               have hp : ps[i]? = some ps[i] := List.getElem?_eq_getElem (by omega)
               obtain ⟨_, _, es, h1, h2, h3⟩ := get i _ hp
               have got : ∀ j, j < l1.length → ∃ v, (cellsL ps[i].2)[j]? = some v ∧ cs[off + i * l1.length + j]? = some v := by
                 intro j hj
                 obtain ⟨p, v, hp', hv1, hv2⟩ := val i (by omega) j hj
                 rw [hp] at hp'; cases hp'
                 obtain ⟨cs', hcs', hc'⟩ := GW.of_cell hv2
                 rw [hcs] at hcs'; cases hcs'
                 exact ⟨v, hv1, hc'⟩
               rw [List.getElem_map]
               refine takeL_mk (by rw [h3, h2]) (fun j hj => ?_) ?_
               · obtain ⟨v, hv1, hv2⟩ := got j hj
                 rw [hv1, hv2]
               · obtain ⟨v, hv1, hv2⟩ := got (l1.length - 1) (by omega)
                 have := (List.getElem?_eq_some_iff.1 hv2).1
                 omega
           · refine isLs_of _ _ (by simp) (fun i d e hd he => ?_)
             rw [List.getElem?_map] at hd he
             cases hp : ps[i]? with
             | none => rw [hp] at hd; cases hd
             | some p => rw [hp] at hd he; cases hd; cases he; exact (get i p hp).2.1
       · cases h
     · cases h
   · rename_i fs ht
     split at h <;> try (cases h; done)
     rename_i l' h1
     split at h <;> cases h
     rename_i hcz
     obtain ⟨xs, m, _, _, hcl, hxl, hE⟩ := DataW.trod_struct ht hx
     have := open_fields (n := n) (w := w) (cs := cs) (tr := fun t cs => ∃ x, DataW.trod enc P w 0 (fun _ => true) true m t cs = some x) (fun t a l cs h ⟨x, hx⟩ => open_cells n t a l cs m x h hx) fs.toList 0 l h1 (fun i f hf => by
       have hf' : fs[i]? = some f := by simpa using hf
       have hi : i < xs.length := by rw [hxl]; exact (Array.getElem?_eq_some_iff.1 hf').1
       exact ⟨xs[i], by rw [hE i f hf', List.getElem?_eq_getElem hi]⟩) ?_
     · simpa using this
     · omega
   · cases h
end
theorem fit_ds {d : DV} (h : Fit (.sl false [.i .u32]) d) : ∃ ds : List Nat, d = dLi ds ∧ DOk ds := by
 obtain ⟨m, rfl, _, hm⟩ := fit_sl.1 h
 have : ∃ ds : List Nat, m = ds.map dU ∧ DOk ds := by
   clear h
   induction m with
   | nil => exact ⟨[], rfl, fun d hd => by cases hd⟩
   | cons x m ih =>
     obtain ⟨ds, rfl, hd⟩ := ih (by rename_i q; simp at q; omega) (fun y hy => hm y (List.mem_cons_of_mem _ hy))
     obtain ⟨ys, hy, ⟨h0, _⟩ | ⟨_, rfl⟩⟩ := hm x List.mem_cons_self
     · cases h0
     · obtain ⟨d, t, e, h1, h2⟩ := fitL_cons.1 hy
       cases e
       obtain ⟨n, rfl, hw⟩ := fit_i.1 h1
       have h3 : 0 ≤ n ∧ n < 4294967296 := by
         simp only [Lit.wf, Bool.and_eq_true, decide_eq_true_eq] at hw
         have e1 : IntKind.u32.min = 0 := rfl
         have e2 : IntKind.u32.max = 4294967295 := rfl
         omega
       refine ⟨n.toNat :: ds, ?_, fun d hd' => ?_⟩
       · rw [List.map_cons]; congr 1; unfold dU; congr 2; omega
       · rcases List.mem_cons.1 hd' with rfl | hd'
         · omega
         · exact hd d hd'
 obtain ⟨ds, rfl, hd⟩ := this
 exact ⟨ds, rfl, hd⟩
def shI : List CSh := [.b, .sl false [.i .u32]]
def shL : List CSh := shI ++ (shI ++ shI)
theorem fit_I {l : List CSh} {ds : List DV} (h : FitL (shI ++ l) ds) : ∃ (b : Bool) (n : List Nat) (t : List DV), ds = .v (.bool b) :: dLi n :: t ∧ DOk n ∧ FitL l t := by
 obtain ⟨d, t, rfl, h1, h2⟩ := fitL_cons.1 h
 obtain ⟨d2, t2, rfl, h3, h4⟩ := fitL_cons.1 h2
 obtain ⟨b, rfl⟩ := fit_b.1 h1
 obtain ⟨n, rfl, hn⟩ := fit_ds h3
 exact ⟨b, n, t2, rfl, hn, h4⟩
theorem fit_L {l : List CSh} {ds : List DV} (h : FitL (shL ++ l) ds) : ∃ (r : RL) (t : List DV), ds = [.v (.bool r.na), dLi r.da, .v (.bool r.nb), dLi r.db, .v (.bool r.nc), dLi r.dc] ++ t ∧ (DOk r.da ∧ DOk r.db ∧ DOk r.dc) ∧ FitL l t := by
 unfold shL at h
 rw [List.append_assoc, List.append_assoc] at h
 obtain ⟨a, x, t, rfl, h1, h⟩ := fit_I h
 obtain ⟨b, y, t, rfl, h2, h⟩ := fit_I h
 obtain ⟨c, z, t, rfl, h3, h⟩ := fit_I h
 exact ⟨⟨a, x, b, y, c, z⟩, t, rfl, ⟨h1, h2, h3⟩, h⟩
theorem fit_map {α : Type} {ag : Bool} {l : List CSh} {d : DV} {f : α → DV} {p : α → Prop} (h : Fit (.sl ag l) d) (k : ∀ x ys, FitL l ys → ((ag = true ∧ x = DV.ag ys) ∨ (ag = false ∧ ys = [x])) → ∃ a, x = f a ∧ p a) : ∃ xs : List α, d = .sl (xs.map f) ∧ xs.length ≤ maxLen ∧ ∀ a ∈ xs, p a := by
 obtain ⟨m, rfl, hl, hm⟩ := fit_sl.1 h
 have : ∃ xs : List α, m = xs.map f ∧ ∀ a ∈ xs, p a := by
   clear h hl
   induction m with
   | nil => exact ⟨[], rfl, fun a ha => by cases ha⟩
   | cons x m ih =>
     obtain ⟨xs, rfl, ha⟩ := ih (fun y hy => hm y (List.mem_cons_of_mem _ hy))
     obtain ⟨ys, hy, hx⟩ := hm x List.mem_cons_self
     obtain ⟨a, rfl, hp⟩ := k x ys hy hx
     exact ⟨a :: xs, rfl, fun b hb => by rcases List.mem_cons.1 hb with rfl | hb; exact hp; exact ha b hb⟩
 obtain ⟨xs, rfl, ha⟩ := this
 exact ⟨xs, rfl, by simpa using hl, ha⟩
theorem es_star : "*" ++ "errors.errorString" = "*errors.errorString" := by decide
theorem es_row (u : TypeId) (h : Tryz.prog.typeName? 3 u = some "*errors.errorString") : u = 309 :=
 typeName_ptr_named (nm := "errors.errorString") (by rw [es_star]; kernel_rfl) (by kernel_rfl) (by decide) u (by rw [es_star]; exact h)
theorem sent_of {W : World} {n : String} {g : Nat} {text : List UInt8} {r : List (String × DataW Unit)} (h : laidMet Tryz.prog ((n, .iface "*errors.errorString" (.ptr (.agg [.lit (.string text)]))) :: r) W) (hg : Tryz.prog.globalNamed n = some g) (ht : (Tryz.prog.globals[g]?).map (·.type) = some 38) :
   ∃ a, GW W g = some [.iface 309 (.pointer (some a))] := by
 obtain ⟨a, s, hv, _⟩ := laid_sentinel h hg ht Tryz.underlying38 es_row Tryz.underlying309 Tryz.underlying334 rfl rfl Tryz.underlying9 (by kernel_rfl) (by kernel_rfl)
 refine ⟨a, ?_⟩
 unfold World.var? at hv
 rw [hg, Option.bind_some] at hv
 unfold GW
 split at hv
 · rename_i c t f e
   rw [e]; cases hv; rfl
 · cases hv
theorem laid_plain {W : World} {l : List (String × DataW Unit)} (h : laidMetH Tryz.prog l W) (hp : (l.all fun x => x.2.handleName?.isNone) = true) : laidMet Tryz.prog l W := by rwa [Go.MakeChecks.laidMetH_plain _ _ _ hp] at h
end Go.Sx
end

section
set_option maxRecDepth 100000
namespace Go.Proofs.YtkijgpopaaknfaaGreatDoor.reduceRefuses
open Go.ChangeShapes Go.WideShapes Go.ChangeAt Go.RowKit Go.Sx
theorem own : ownKnob Tryz.prog.godebug = none := by kernel_rfl
theorem laidOut : laidOutB Tryz.prog = true := by kernel_rfl
theorem door_met (os : Os) (args : Array Value) : laidMetH Tryz.prog Rows.reduceRefusesRow.laid ((World.doorLaid Tryz.prog 66 os).forCall (fun _ _ => 0) ⟨#[], args, []⟩).memory :=
 laidMetH_of_parts3 (fuel := 8) (laidMet_of_run' 8 (by kernel_rfl) (by kernel_rfl)) (by kernel_rfl) (by kernel_rfl)
theorem cellsI : Tryz.prog.cellsOf 3 = 1 := by kernel_rfl
theorem bytesI : Tryz.prog.bytesOf 3 = 8 := by kernel_rfl
theorem flat_Cell : flatT Tryz.prog 8 65 = some (true, [.sl true shL]) := by kernel_rfl
theorem flat_Line : flatT Tryz.prog 8 46 = some (true, shL) := by kernel_rfl
theorem open_Line {H : Type} {enc : TypeId × Value → H} {base : Nat} {W : World} {v : Value} {d : DataW H} {ps : List MemPlace} (hv : Value.okWide Tryz.prog W .any base 46 v) (h : DataW.Trod enc Tryz.prog W 0 (fun _ => true) true 46 v d ps) :
  ∃ r : RL, Is (GW W) r.d v ∧ r.wd := by
 simp only [Value.okWide, Tryz.underlying46] at hv
 obtain ⟨⟨cs⟩, rfl, _, _⟩ := hv
 obtain ⟨fuel, hf⟩ := h
 obtain ⟨ds, h1, h2⟩ := open_cells 8 _ _ _ _ fuel _ flat_Line hf
 rw [← List.append_nil shL] at h1
 obtain ⟨r, t, rfl, ⟨k1, k2, k3⟩, k4⟩ := fit_L h1
 rw [fitL_nil] at k4; subst k4
 exact ⟨r, is_ag.2 ⟨cs, rfl, h2⟩, k1, k2, k3⟩
theorem open_Cell {H : Type} {enc : TypeId × Value → H} {base : Nat} {W : World} {v : Value} {d : DataW H} {ps : List MemPlace} (hv : Value.okWide Tryz.prog W .any base 65 v) (h : DataW.Trod enc Tryz.prog W 0 (fun _ => true) true 65 v d ps) :
   ∃ cs : List RL, Is (GW W) (.ag [.sl (cs.map RL.d)]) v ∧ (∀ r ∈ cs, r.wd) ∧ cs.length ≤ 9223372036854775807 := by
 simp only [Value.okWide, Tryz.underlying65] at hv
 obtain ⟨⟨cs⟩, rfl, _, _⟩ := hv
 obtain ⟨fuel, hf⟩ := h
 obtain ⟨ds, h1, h2⟩ := open_cells 8 _ _ _ _ fuel _ flat_Cell hf
 obtain ⟨x, t, rfl, h3, h4⟩ := fitL_cons.1 h1
 rw [fitL_nil] at h4; subst h4
 obtain ⟨rs, rfl, hl, hn⟩ := fit_map (f := RL.d) (p := fun r => r.wd) h3 (fun x ys hy hx => by
   rcases hx with ⟨_, rfl⟩ | ⟨h0, _⟩
   · rw [← List.append_nil shL] at hy
     obtain ⟨r, t, rfl, ⟨k1, k2, k3⟩, k4⟩ := fit_L hy
     rw [fitL_nil] at k4; subst k4
     exact ⟨r, rfl, ⟨k1, k2, k3⟩⟩
   · cases h0)
 exact ⟨rs, is_ag.2 ⟨cs, rfl, h2⟩, hn, by unfold maxLen at hl; omega⟩
theorem eg_of {W : World} (h : laidMetH Tryz.prog Rows.reduceRefusesRow.laid W) : ∃ ai al ae, EG (GW W) ai al ae := by
 have h1 := laid_plain h rfl
 obtain ⟨ai, hi⟩ := sent_of (g := 1) h1 (by kernel_rfl) (by kernel_rfl)
 obtain ⟨ae, he⟩ := sent_of (g := 0) h1.tail (by kernel_rfl) (by kernel_rfl)
 obtain ⟨al, hl⟩ := sent_of (g := 2) h1.tail.tail (by kernel_rfl) (by kernel_rfl)
 exact ⟨ai, al, ae, hi, hl, he⟩
theorem contract (H : Type) (enc : TypeId × Value → H) (W : World) (base : Nat) (args : Array Value) (ds gs : List (DataW H)) (before : List MemPlace)
   (hval : ∀ (j : Nat) t v, Tryz.f6.params[j]? = some t → args[j]? = some v → Value.okWide Tryz.prog W .any base t v)
   (hW : DataW.Whole enc Tryz.prog Tryz.f6.params.toList Rows.reduceRefusesSpec.vars false W args.toList ds gs before)
   (hz : (DataW.weightsEach Tryz.prog (Tryz.f6.params.toList ++ (OpenSpec.ofChange Rows.reduceRefusesSpec).bare.plain.varTypes Tryz.prog) (ds ++ gs)).all (· ≤ reachBytes) = true) (hlaid : laidMetH Tryz.prog Rows.reduceRefusesRow.laid W) :
   Calls Tryz.prog 6 args W fun e W' => ∃ v, e = .returned v ∧ Rows.reduceRefusesSpec.post enc Tryz.prog Tryz.f6 false true false false W args v W' := by
 have hW' := hW
 obtain ⟨p, q, hA0, hV, rfl, _, _⟩ := hW
 have hA : DataW.TrodAll enc Tryz.prog W 0 (fun _ => true) true Tryz.f6.params.toList args.toList ds p := hA0
 rw [Tryz.params6] at hA hval hz
 obtain ⟨v0, v1, v2, d0, d1, d2, p0, p1, p2, hargs, rfl, rfl, h0, h1, h2⟩ := trodAll_three hA
 subst hargs
 obtain ⟨rfl, rfl⟩ := trodVars_none hV
 clear hA0
 simp only [List.append_nil] at hW'
 have hlt : ∀ x ∈ p0 ++ p1 ++ p2, x.block < W.heap.size := fun x hx => by simpa using hW'.lt x hx
 obtain ⟨es, hI, hd, _⟩ := open_vI Tryz.underlying22 Tryz.underlying3 cellsI (hval 0 22 v0 rfl rfl) h0
 have hb : es.length ≤ 1125899906842624 := by
   rcases hd with ⟨rfl, rfl⟩ | ⟨sp, rfl⟩
   · exact Nat.zero_le _
   · have := sized_slice hz (j := 0) (t := 22) (e := 3) rfl rfl Tryz.underlying22
     rw [bytesI] at this
     have hr := reachBytes_lt
     have hl : (lits (H := H) .i64 es).length = es.length := by simp [lits]
     rw [hl] at this
     omega
 obtain ⟨cs, hIc, hwc, hlc⟩ := open_Cell (hval 1 65 v1 rfl rfl) h1
 obtain ⟨r, hIr, hwr⟩ := open_Line (hval 2 46 v2 rfl rfl) h2
 obtain ⟨ai, al, ae, hE⟩ := eg_of hlaid
 have hf := (q_ReduceRefuses hE hb hwc hwr hlc) (GW W) [v0, v1, v2] (GLe.refl _) (.cons hI (.cons hIc (.cons hIr .nil)))
 refine (hf.run W (fun b cs hg => GW.sub hg)).mono fun e W' ⟨v, G', he, hr, hv⟩ => ?_
 rw [is_v] at hv
 subst hv
 subst he
 have hn := hr.below
 have t2 := trodAll_mk3 (Below.trod laidOut (by kernel_rfl) (of_decide_eq_true (by kernel_rfl)) h0 hn (fun x hx => hlt x (by simp [hx]))) (Below.trod laidOut (by kernel_rfl) (of_decide_eq_true (by kernel_rfl)) h1 hn (fun x hx => hlt x (by simp [hx]))) (Below.trod laidOut (by kernel_rfl) (of_decide_eq_true (by kernel_rfl)) h2 hn (fun x hx => hlt x (by simp [hx])))
 rw [← List.append_assoc] at t2
 exact ⟨_, rfl, ⟨_, _, _, [], _, [], hW', trodAll_mk1 (shut_bool Tryz.underlying4 _), t2, rfl, hn.frame _, fun h => by cases h⟩⟩
theorem reads (os : Os) {H : Type} (enc : TypeId × Value → H) : ∃ places, DataW.whole enc Tryz.prog ((World.doorLaid Tryz.prog 66 os).forCall (fun _ _ => 0) ⟨#[], #[.slice none 0 0, .agg #[.slice none 0 0], .agg #[.bool false, .slice none 0 0, .bool false, .slice none 0 0, .bool false, .slice none 0 0]], []⟩).memory Tryz.f6.params.toList Rows.reduceRefusesSpec.vars false #[Value.slice none 0 0, .agg #[.slice none 0 0], .agg #[.bool false, .slice none 0 0, .bool false, .slice none 0 0, .bool false, .slice none 0 0]].toList 8 = some ([.nil, .agg [.nil], .agg [.agg [.lit (.bool false), .nil], .agg [.lit (.bool false), .nil], .agg [.lit (.bool false), .nil]]], [], places) :=
 ⟨[], by kernel_rfl⟩
theorem lifted (os : Os) (started : os.Started) (H : Type) (enc : TypeId × Value → H) (F : Stop.Interp) :
  ReturnsInHanded {} Tryz.checked os 6 .any ((OpenSpec.ofChange Rows.reduceRefusesSpec).preRow enc Tryz.prog Tryz.f6 Rows.reduceRefusesRow.domain false Rows.reduceRefusesRow.laid) (((OpenSpec.ofChange Rows.reduceRefusesSpec).at F).post enc Tryz.prog Tryz.f6 false true false false) := by
 obtain ⟨places, hx⟩ := reads os enc
 refine returnsInHanded_of_row (C := Tryz.checked) (s := OpenSpec.ofChange Rows.reduceRefusesSpec) own started (by kernel_rfl) Tryz.func6
  (witness_row_atRef (enc := enc) (C := Tryz.checked) false (World.doorLaid Tryz.prog 66 os) #[.slice none 0 0, .agg #[.slice none 0 0], .agg #[.bool false, .slice none 0 0, .bool false, .slice none 0 0, .bool false, .slice none 0 0]] rfl (by kernel_rfl) (by kernel_rfl) (by kernel_rfl)
   (OpenSpec.preRow_of_cond 8 hx (by kernel_rfl) (fun k hk => by cases hk) (by kernel_rfl) (door_met os _))) ?_
 intro W base args ds gs before hval hW _ _ hz hlaid _ _
 exact contract H enc W base args ds gs before hval hW hz hlaid
theorem said : Rows.ReduceRefusesSaid :=
 OpenClaim.holds_of_cond 6 Tryz.f6 rfl rfl rfl rfl rfl rfl rfl ⟨rfl, rfl, rfl, rfl, rfl⟩ rfl rfl rfl rfl rfl (by kernel_rfl) Tryz.func6 (by kernel_rfl)
  (of_decide_eq_true (by kernel_rfl)) (by unfold Func.isWrapper; first | (rw [if_pos (by decide +kernel)]; kernel_rfl) | (rw [if_neg (by decide +kernel)]; exact ⟨rfl, rfl⟩))
  (fun os started H enc _ F => by rw [OpenClaim.pre_eq_preRow]; exact lifted os started H enc F)
theorem plain (f : FuncId) (fn : Func) (hf : Tryz.pinned.checked.prog.funcNamed "bspregion/bspregionlaw17.ReduceRefuses" = some f) (hfn : Tryz.pinned.checked.prog.funcs[f]? = some fn) :
   true = Tryz.pinned.checked.prog.looks [] ∧ ∀ (j : Nat) t, fn.params[j]? = some t → Tryz.pinned.checked.prog.wantsStandIn t = false := by
 obtain rfl : f = 6 := Option.some.inj ((show Tryz.prog.funcNamed "bspregion/bspregionlaw17.ReduceRefuses" = some 6 by kernel_rfl).symm.trans hf) |>.symm
 obtain rfl : fn = Tryz.f6 := (Option.some.inj (Tryz.func6.symm.trans hfn)).symm
 refine ⟨by kernel_rfl, fun j t ht => ?_⟩
 rw [Tryz.params6] at ht
 have hm := Array.mem_of_getElem? ht
 simp only [List.mem_toArray, List.mem_cons, List.not_mem_nil, or_false] at hm
 rcases hm with rfl | rfl | rfl
 · exact (show Tryz.prog.wantsStandIn 22 = false by kernel_rfl)
 · exact (show Tryz.prog.wantsStandIn 65 = false by kernel_rfl)
 · exact (show Tryz.prog.wantsStandIn 46 = false by kernel_rfl)
theorem card : Rows.ReduceRefusesCardSaid :=
 Claim7.holds_tied_plain_at .later [] _ _ _ _ said (fun _ h => by cases h) (by kernel_rfl) (fun _ h => by cases h) reduceRefuses_row_tie rfl ⟨rfl, rfl⟩ (by kernel_rfl) rfl plain (by kernel_rfl)
#print axioms card
end Go.Proofs.YtkijgpopaaknfaaGreatDoor.reduceRefuses
end
