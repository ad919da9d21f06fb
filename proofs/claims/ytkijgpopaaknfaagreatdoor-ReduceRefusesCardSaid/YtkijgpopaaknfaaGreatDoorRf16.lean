/-
  Program: lines and cells as they come; restriction, reduction and splitting. Reference: points with integer coordinates, lines through them. Reference: what is drawn from the tape: numbers, points, lines, trees. Reference: lines and cells around a point, from the tape. Regions that draw their order, with a tree of orders. Reference: the place of a line, canonical cells, restriction. Reference: restriction of a tree. Reference: trees written for package api. Reference: the tape, trees that are the same; the program's Reduce over deep values. Reference: trees as they come. Law 19: the operations at trees of package api; the sanity check.
-/
import Derived.Test.YtkijgpopaaknfaaGreatDoorRf15
set_option linter.unusedSimpArgs false
set_option linter.unusedVariables false
section
set_option maxRecDepth 100000
namespace Go.Sx
open Go Go.Proofs
theorem p_LnOfS {GB : Gh} {r : RL} {l : LnQ} (s : r.sm) (h : r.ln = some l) : PF GB Tryz.prog 45 [r.d] (.tp [eLn l, vB true]) := by
 have := p_LnOfR (GB := GB) s; rw [h] at this; exact this
theorem p_LnOfZ {GB : Gh} {r : RL} (s : r.sm) (h : r.ln = none) : PF GB Tryz.prog 45 [r.d] (.tp [lnZ, vB false]) := by
 have := p_LnOfR (GB := GB) s; rw [h] at this; exact this
theorem RL.ln_ok {r : RL} {l : LnQ} (s : r.sm) (h : r.ln = some l) : LB l ∧ l.ok := by
 unfold RL.ln at h
 split at h
 · rename_i hh; cases h; exact ⟨RL.lb s, hh.2⟩
 · cases h
def lnsX (cs : List RL) : Option (List LnQ) := if cs.all (fun r => r.ln.isSome) then some (cs.filterMap RL.ln) else none
def lnsD : Option (List LnQ) → DV
 | some ls => .tp [.sl (ls.map eLn), vB true]
 | none => .tp [.sl [], vB false]
theorem fm_snoc {cs : List RL} {k : Nat} {r : RL} {l : LnQ} (h : cs[k]? = some r) (hl : r.ln = some l) : ((cs.take (k + 1)).filterMap RL.ln) = ((cs.take k).filterMap RL.ln) ++ [l] := by
 rw [List.take_add_one, h, List.filterMap_append]; simp [hl]
theorem al_snoc {cs : List RL} {k : Nat} {r : RL} (h : cs[k]? = some r) (ha : (cs.take k).all (fun r => r.ln.isSome) = true) (hl : r.ln.isSome = true) : (cs.take (k + 1)).all (fun r => r.ln.isSome) = true := by
 rw [List.take_add_one, h, List.all_append, ha]; simp [hl]
theorem lnsX_no {cs : List RL} {k : Nat} {r : RL} (h : cs[k]? = some r) (hl : r.ln = none) : lnsX cs = none := by
 unfold lnsX
 rw [if_neg]
 intro ha
 have := List.all_eq_true.1 ha r (List.mem_of_getElem? h)
 rw [hl] at this; cases this
theorem lnsX_all {cs : List RL} (h : (cs.take cs.length).all (fun r => r.ln.isSome) = true) : lnsX cs = some ((cs.take cs.length).filterMap RL.ln) := by
 rw [List.take_length] at *
 unfold lnsX; rw [if_pos h]
theorem lnsX_ok {cs : List RL} {ls : List LnQ} (hs : ∀ r ∈ cs, r.sm) (h : lnsX cs = some ls) : (∀ l ∈ ls, LB l) ∧ (∀ l ∈ ls, l.ok) ∧ ls.length ≤ cs.length := by
 unfold lnsX at h
 split at h
 · cases h
   refine ⟨fun l hl => ?_, fun l hl => ?_, List.length_filterMap_le _ _⟩
   · obtain ⟨r, hr, e⟩ := List.mem_filterMap.1 hl; exact (RL.ln_ok (hs r hr) e).1
   · obtain ⟨r, hr, e⟩ := List.mem_filterMap.1 hl; exact (RL.ln_ok (hs r hr) e).2
 · cases h
theorem slOkLn (ls : List LnQ) : slOk 9 (ls.map eLn) := fun d hd => by
 obtain ⟨u, _, rfl⟩ := List.mem_map.1 hd; exact ⟨rfl, rfl⟩
theorem p_LinesOf {GB : Gh} {cs : List RL} (hs : ∀ r ∈ cs, r.sm) (hn : cs.length ≤ 1000) : PF GB Tryz.prog 64 [.ag [.sl (cs.map RL.d)]] (lnsD (lnsX cs)) := by
 have hm := map_len RL.d cs
 refine fn (fu := ⟨13⟩) Tryz.func64 rfl rfl Tryz.ntmps64 rfl rfl (fun C => ?_)
 refine eqF 11 (.d (vI (cs.length : Nat))) rfl (by rw [hm] <;> rfl) ?_
 refine gx rfl <| ?_
 refine br (fu2 := ⟨13⟩) rfl rfl rfl (fun hc12 => ?_) (fun hc12 => ?_)
 ·
  exact rz rfl (absurd hc12 (by omega))
 ·
  refine eqF 15 (.d (vI (cs.length : Nat))) rfl (by rw [hm] <;> rfl) ?_
  refine gx rfl <| ?_
  refine nr 4 4 105 9 rfl rfl rfl ?_
  refine lp (X := Nat) (fun k => [(16, .d (vI (k : Nat))), (4, .rw 4)]) (fun k => [(4, some (.b 105 9 (((cs.take k).filterMap RL.ln).map eLn) true))]) (fun k => k ≤ cs.length ∧ (cs.take k).all (fun r => r.ln.isSome) = true) (fun k => cs.length - k) 0 rfl ⟨Nat.zero_le _, rfl⟩ (fun _ => rfl) (fun k hk => ?_)
  obtain ⟨h1, h2⟩ := hk
  have hfl := List.length_filterMap_le RL.ln (cs.take k)
  have hml := map_len eLn ((cs.take k).filterMap RL.ln)
  rw [List.length_take] at hfl
  refine br rfl rfl rfl (fun hc17 => ?_) (fun hc17 => ?_)
  ·
   obtain ⟨r, hx0⟩ : ∃ s, cs[k]? = some s := ⟨_, List.getElem?_eq_getElem (by omega)⟩
   have hx := hs r (List.mem_of_getElem? hx0)
   refine ix _ rfl (map_getS hx0) rfl <| ?_
   rcases hr : r.ln with _ | l
   ·
    refine cl (fu := ⟨3⟩) rfl (p_LnOfZ hx hr) rfl <| ?_
    refine kbF 24 rfl ?_
    refine gx rfl <| ?_
    exact rz rfl (by rw [lnsX_no hx0 hr]; rfl)
   ·
    refine cl (fu := ⟨3⟩) rfl (p_LnOfS hx hr) rfl <| ?_
    refine kbT 24 rfl ?_
    refine gx rfl <| rf rfl rfl <| ap (((cs.take (k + 1)).filterMap RL.ln).map eLn) rfl (by rw [fm_snoc hx0 hr, List.map_append]; rfl) (slOkLn [l]) rfl <| ?_
    refine rnE 30 4 rfl ?_
    exact at_ (k + 1) ⟨⟨by omega, al_snoc hx0 h2 (by rw [hr]; rfl)⟩, (by omega)⟩
  ·
   obtain rfl : k = cs.length := by omega
   refine fzE 4 rfl ?_
   exact rz rfl (by rw [lnsX_all h2]; rfl)
theorem p_LinesS {GB : Gh} {cs : List RL} {ls : List LnQ} (hs : ∀ r ∈ cs, r.sm) (hn : cs.length ≤ 1000) (h : lnsX cs = some ls) : PF GB Tryz.prog 64 [.ag [.sl (cs.map RL.d)]] (.tp [.sl (ls.map eLn), vB true]) := by
 have := p_LinesOf (GB := GB) hs hn; rw [h] at this; exact this
theorem p_LinesN {GB : Gh} {cs : List RL} (hs : ∀ r ∈ cs, r.sm) (hn : cs.length ≤ 1000) (h : lnsX cs = none) : PF GB Tryz.prog 64 [.ag [.sl (cs.map RL.d)]] (.tp [.sl [], vB false]) := by
 have := p_LinesOf (GB := GB) hs hn; rw [h] at this; exact this
def canD : Option CellQ → DV
 | some c => .tp [.sl (c.map eFr), vB true]
 | none => .tp [.sl [], vB false]
theorem canonQ_dr {ls : List LnQ} {c : CellQ} {k : Nat} {l : LnQ} (h : ls[k]? = some l) : canonQ (ls.drop k) c = if clipB c l then canonQ (ls.drop (k + 1)) (clipC c l) else none := by
 obtain ⟨hk, rfl⟩ := List.getElem?_eq_some_iff.1 h
 rw [List.drop_eq_getElem_cons hk, canonQ]
theorem CellOK.nil : CellOK [] := fun s hs => by cases hs
theorem p_Canon {GB : Gh} {ls : List LnQ} (hb : ∀ l ∈ ls, LB l) (ho : ∀ l ∈ ls, l.ok) (hn : ls.length ≤ 10000) : PF GB Tryz.prog 65 [.sl (ls.map eLn)] (canD (canonQ ls [])) := by
 have hm := map_len eLn ls
 refine fn (fu := ⟨25⟩) Tryz.func65 rfl rfl Tryz.ntmps65 rfl rfl (fun C => ?_)
 refine eqF 9 (.d (vI (ls.length : Nat))) rfl (by rw [hm] <;> rfl) ?_
 refine gx rfl <| ?_
 refine nlC 4 rfl ?_
 refine dvC 5 (vB true) rfl rfl ?_
 refine lp (X := CellQ × Nat) (fun ⟨c, k⟩ => [(10, .d (vI (k : Nat))), (4, .d (.sl (c.map eFr))), (5, .d (vB true))]) (fun ⟨c, k⟩ => []) (fun ⟨c, k⟩ => k ≤ ls.length ∧ CellOK c ∧ c.length ≤ k ∧ canonQ (ls.drop k) c = canonQ ls []) (fun ⟨c, k⟩ => ls.length - k) ([], 0) rfl ⟨Nat.zero_le _, CellOK.nil, Nat.le_refl _, rfl⟩ (fun _ => rfl) (fun ⟨c, k⟩ hk => ?_)
 obtain ⟨h1, h2, h3, h4⟩ := hk
 dsimp only at *
 refine br rfl rfl rfl (fun hc11 => ?_) (fun hc11 => ?_)
 ·
  obtain ⟨l, hx0⟩ : ∃ s, ls[k]? = some s := ⟨_, List.getElem?_eq_getElem (by omega)⟩
  haveI := hb l (List.mem_of_getElem? hx0)
  have hlo := ho l (List.mem_of_getElem? hx0)
  refine ix _ rfl (map_getS hx0) rfl <| cl rfl (p_Clip (c := c) (l := l) hlo h2 (by omega)) rfl <| ?_
  refine bb rfl rfl rfl (fun hc21 => ?_) (fun hc21 => ?_)
  ·
   refine bb rfl rfl rfl (fun hc24 => ?_) (fun hc24 => ?_)
   ·
    exact rz rfl (by rw [← h4, canonQ_dr hx0, if_neg (by simpa using hc21)]; rfl)
   ·
    exact rz rfl (by simp only [hc21] at hc24; simp at hc24)
  ·
   refine eqF 5 (.d (vB true)) rfl (by rw [show clipB c l = true by simpa using hc21]) ?_
   exact at_ (clipC c l, k + 1) (by dsimp only; exact ⟨⟨by omega, clip_ok (ho l (List.mem_of_getElem? hx0)) h2, by have := clipC_len c l; omega, by rw [← h4, canonQ_dr hx0, if_pos (by simpa using hc21)]⟩, (by omega)⟩)
 ·
  refine bb rfl rfl rfl (fun hc24 => ?_) (fun hc24 => ?_)
  ·
   exact rz rfl (absurd hc24 (by decide))
  ·
   exact rz rfl (by rw [← h4, List.drop_eq_nil_of_le (by omega)]; rfl)
theorem p_CanonS {GB : Gh} {ls : List LnQ} {c : CellQ} (hb : ∀ l ∈ ls, LB l) (ho : ∀ l ∈ ls, l.ok) (hn : ls.length ≤ 10000) (h : canonQ ls [] = some c) : PF GB Tryz.prog 65 [.sl (ls.map eLn)] (.tp [.sl (c.map eFr), vB true]) := by
 have := p_Canon (GB := GB) hb ho hn; rw [h] at this; exact this
theorem p_CanonN {GB : Gh} {ls : List LnQ} (hb : ∀ l ∈ ls, LB l) (ho : ∀ l ∈ ls, l.ok) (hn : ls.length ≤ 10000) (h : canonQ ls [] = none) : PF GB Tryz.prog 65 [.sl (ls.map eLn)] (.tp [.sl [], vB false]) := by
 have := p_Canon (GB := GB) hb ho hn; rw [h] at this; exact this
theorem CellOK_canon : ∀ {ls : List LnQ} {c e : CellQ}, (∀ l ∈ ls, LB l) → (∀ l ∈ ls, l.ok) → CellOK c → canonQ ls c = some e → CellOK e
 | [], c, e, _, _, hc, h => by rw [canonQ] at h; cases h; exact hc
 | l :: t, c, e, hb, ho, hc, h => by
   rw [canonQ] at h
   split at h
   · haveI := hb l List.mem_cons_self
     exact CellOK_canon (fun m hm => hb m (List.mem_cons_of_mem _ hm)) (fun m hm => ho m (List.mem_cons_of_mem _ hm)) (clip_ok (ho l List.mem_cons_self) hc) h
   · cases h
def readD (ai al : Addr) (more : Nat) : Option Tr → DV
 | none => .tp [.v (.pointer none), eErr ai]
 | some t => if 1024 < t.depth + more then .tp [.v (.pointer none), eErr al] else .tp [eU t, .v .nilIface]
theorem dep_le {t : Tr} (h : t.gd ∧ t.size ≤ 65536) : t.depth ≤ 65536 := by have := t.depth_size; omega
theorem p_RdRead {GB : Gh} {ai al ae : Addr} (hE : EG GB ai al ae) {ns : List RN} {rt : Int} (hs : ∀ n ∈ ns, n.g.sm) (hn : ns.length ≤ 65536) {more : Nat} (hmo : more ≤ 1000) : PF GB Tryz.prog 46 [eRT rt ns, vI (more : Nat)] (readD ai al more (ofQ ns rt)) := by
 refine fn Tryz.func46 rfl rfl Tryz.ntmps46 rfl rfl (fun C => ?_)
 rcases h : ofQ ns rt with _ | t
 ·
  refine cl (fu := ⟨3⟩) rfl (p_OfN hs hn h) rfl <| ?_
  refine kbF 12 rfl ?_
  refine gx rfl <| gl rfl hE.ErrInvalid rfl <| ?_
  exact rz rfl rfl
 ·
  have g := ofQ_gd hs hn h
  have hd := dep_le g
  refine cl (fu := ⟨3⟩) rfl (p_OfS hs hn h) rfl <| ?_
  refine kbT 12 rfl ?_
  refine gx rfl <| cl rfl (p_Depth (by omega)) rfl <| ?_
  refine br rfl rfl rfl (fun hc17 => ?_) (fun hc17 => ?_)
  ·
   refine gl rfl hE.ErrLimit rfl <| ?_
   exact rz rfl (by rw [readD, if_pos (by omega)]; rfl)
  ·
   exact rz rfl (by rw [readD, if_neg (by omega)]; rfl)
theorem p_RdS {GB : Gh} {ai al ae : Addr} (hE : EG GB ai al ae) {ns : List RN} {rt : Int} (hs : ∀ n ∈ ns, n.g.sm) (hn : ns.length ≤ 65536) {more : Nat} (hmo : more ≤ 1000) {t : Tr} (h : ofQ ns rt = some t) (hd : t.depth + more ≤ 1024) : PF GB Tryz.prog 46 [eRT rt ns, vI (more : Nat)] (.tp [eU t, .v .nilIface]) := by
 have := p_RdRead hE (rt := rt) hs hn hmo; rw [h, readD, if_neg (by omega)] at this; exact this
theorem p_RdN {GB : Gh} {ai al ae : Addr} (hE : EG GB ai al ae) {ns : List RN} {rt : Int} (hs : ∀ n ∈ ns, n.g.sm) (hn : ns.length ≤ 65536) {more : Nat} (hmo : more ≤ 1000) (h : ofQ ns rt = none) : PF GB Tryz.prog 46 [eRT rt ns, vI (more : Nat)] (.tp [.v (.pointer none), eErr ai]) := by
 have := p_RdRead hE (rt := rt) hs hn hmo; rw [h] at this; exact this
def optX (ai : Addr) (f : Tr → Tr) : Option Tr → Tr ⊕ Addr
 | some t => .inl (f t)
 | none => .inr ai
def restX (ai ae : Addr) : Option Tr → Option (List LnQ) → Tr ⊕ Addr
 | some t, some ls => (match canonQ ls [] with
   | some c => .inl (t.restrict c)
   | none => .inr ae)
 | _, _ => .inr ai
def splD (ai : Addr) : Option LnQ → Option Tr → DV
 | some m, some t => .tp [eA (t.restrict (clipC [] m)), eA (t.restrict (clipC [] m.rev)), .v .nilIface]
 | _, _ => .tp [trZ, trZ, eErr ai]
theorem canon_len0 {ls : List LnQ} {c : CellQ} (h : canonQ ls [] = some c) : c.length ≤ ls.length := by have := canon_len h; simpa using this
theorem p_RReduce {GB : Gh} {ai al ae : Addr} (hE : EG GB ai al ae) {ns : List RN} {rt : Int} (hs : ∀ n ∈ ns, n.g.sm) (hn : ns.length ≤ 65536) (hlim : ∀ t, ofQ ns rt = some t → t.depth ≤ 1000) : PF GB Tryz.prog 19 [eRT rt ns] (resD (optX ai (fun t => t.restrict []) (ofQ ns rt))) := by
 refine fn Tryz.func19 rfl rfl Tryz.ntmps19 rfl rfl (fun C => ?_)
 rcases h : ofQ ns rt with _ | t
 ·
  refine cl rfl (p_RdN hE hs hn (more := 0) (by decide) h) rfl <| ?_
  exact rz rfl rfl
 ·
  have g := ofQ_gd hs hn h
  have hd := hlim t h
  refine cl rfl (p_RdS hE hs hn (more := 0) (by decide) h (by omega)) rfl <| cl rfl (p_Reduce (t := t) g.1.lb g.1.ok (by omega)) rfl <| cl rfl (p_API (t := t.restrict []) (restrict_gd g.1 []).lb (by have := t.restrict_size []; omega)) rfl <| ?_
  exact rz rfl rfl
set_option maxHeartbeats 1000000 in
theorem p_RRest {GB : Gh} {ai al ae : Addr} (hE : EG GB ai al ae) {ns : List RN} {rt : Int} (hs : ∀ n ∈ ns, n.g.sm) (hn : ns.length ≤ 65536) (hlim : ∀ t, ofQ ns rt = some t → t.depth ≤ 1000) {cs : List RL} (hcs : ∀ r ∈ cs, r.sm) (hcn : cs.length ≤ 10) : PF GB Tryz.prog 22 [eRT rt ns, .ag [.sl (cs.map RL.d)]] (resD (restX ai ae (ofQ ns rt) (lnsX cs))) := by
 refine fn Tryz.func22 rfl rfl Tryz.ntmps22 rfl rfl (fun C => ?_)
 rcases h : ofQ ns rt with _ | t
 ·
  refine cl (fu := ⟨3⟩) rfl (p_OfN hs hn h) rfl <| ?_
  refine kbF 15 rfl ?_
  refine gx rfl <| ?_
  rcases hl : lnsX cs with _ | ls
  ·
   refine cl (fu := ⟨3⟩) rfl (p_LinesN hcs (by omega) hl) rfl <| ?_
   refine kbF 20 rfl ?_
   refine gx rfl <| gl rfl hE.ErrInvalid rfl <| ?_
   exact rz rfl rfl
  ·
   obtain ⟨k1, k2, k3⟩ := lnsX_ok hcs hl
   refine cl (fu := ⟨3⟩) rfl (p_LinesS hcs (by omega) hl) rfl <| ?_
   refine kbT 20 rfl ?_
   refine gx rfl <| gl rfl hE.ErrInvalid rfl <| ?_
   exact rz rfl rfl
 ·
  have g := ofQ_gd hs hn h
  have hd := dep_le g
  refine cl (fu := ⟨3⟩) rfl (p_OfS hs hn h) rfl <| ?_
  refine kbT 15 rfl ?_
  refine gx rfl <| ?_
  rcases hl : lnsX cs with _ | ls
  ·
   refine cl (fu := ⟨3⟩) rfl (p_LinesN hcs (by omega) hl) rfl <| ?_
   refine kbF 20 rfl ?_
   refine gx rfl <| gl rfl hE.ErrInvalid rfl <| ?_
   exact rz rfl rfl
  ·
   obtain ⟨k1, k2, k3⟩ := lnsX_ok hcs hl
   refine cl (fu := ⟨3⟩) rfl (p_LinesS hcs (by omega) hl) rfl <| ?_
   refine kbT 20 rfl ?_
   refine gx rfl <| ?_
   rcases hc : canonQ ls [] with _ | c
   ·
    refine cl (fu := ⟨3⟩) rfl (p_CanonN k1 k2 (by omega) hc) rfl <| ?_
    refine kbF 33 rfl ?_
    refine gx rfl <| gl rfl hE.ErrEmpty rfl <| ?_
    exact rz rfl (by rw [restX, hc]; rfl)
   ·
    have hcl := canon_len0 hc
    have hco := CellOK_canon k1 k2 CellOK.nil hc
    have hme := map_len eFr c
    have hdt := hlim t h
    refine cl (fu := ⟨3⟩) rfl (p_CanonS k1 k2 (by omega) hc) rfl <| ?_
    refine kbT 33 rfl ?_
    refine gx rfl <| cl (fu := ⟨2⟩) rfl (p_Depth (by omega)) rfl <| ?_
    refine eqF 43 (.d (vI (c.length : Nat))) rfl (by rw [hme] <;> rfl) ?_
    refine gx rfl <| ?_
    refine br rfl rfl rfl (fun hc39 => ?_) (fun hc39 => ?_)
    ·
     refine gl rfl hE.ErrLimit rfl <| ?_
     exact rz rfl (absurd hc39 (by omega))
    ·
     refine cl rfl (p_Restrict (t := t) (c := c) g.1.lb g.1.ok hco (by omega)) rfl <| cl rfl (p_API (t := t.restrict c) (restrict_gd g.1 c).lb (by have := t.restrict_size c; omega)) rfl <| ?_
     exact rz rfl (by rw [restX, hc]; rfl)
set_option maxHeartbeats 1000000 in
theorem p_RSplit {GB : Gh} {ai al ae : Addr} (hE : EG GB ai al ae) {ns : List RN} {rt : Int} (hs : ∀ n ∈ ns, n.g.sm) (hn : ns.length ≤ 65536) (hlim : ∀ t, ofQ ns rt = some t → t.depth ≤ 1000) {r : RL} (hr : r.sm) : PF GB Tryz.prog 12 [eRT rt ns, r.d] (splD ai r.ln (ofQ ns rt)) := by
 refine fn Tryz.func12 rfl rfl Tryz.ntmps12 rfl rfl (fun C => ?_)
 rcases hl : r.ln with _ | l
 ·
  refine cl (fu := ⟨3⟩) rfl (p_LnOfZ hr hl) rfl <| ?_
  refine kbF 19 rfl ?_
  refine gx rfl <| gl rfl hE.ErrInvalid rfl <| ?_
  exact rz rfl rfl
 ·
  obtain ⟨k1, k2⟩ := RL.ln_ok hr hl
  refine cl (fu := ⟨3⟩) rfl (p_LnOfS hr hl) rfl <| ?_
  refine kbT 19 rfl ?_
  refine gx rfl <| ?_
  rcases h : ofQ ns rt with _ | t
  ·
   refine cl rfl (p_RdN hE hs hn (more := 1) (by decide) h) rfl <| ?_
   exact rz rfl rfl
  ·
   have g := ofQ_gd hs hn h
   have hd := hlim t h
   refine cl rfl (p_RdS hE hs hn (more := 1) (by decide) h (by omega)) rfl <| cl rfl (p_Divide (c := []) (l := l) k2 CellOK.nil (by decide)) rfl <| cl rfl (p_Restrict (t := t) (c := clipC [] l) g.1.lb g.1.ok (clip_ok k2 CellOK.nil) (by have := clipC_len [] l; simp at this; omega)) rfl <| ?_
   refine cl rfl (p_API (t := t.restrict (clipC [] l)) (restrict_gd g.1 _).lb (by have := t.restrict_size (clipC [] l); omega)) rfl <| cl rfl (p_Restrict (t := t) (c := clipC [] l.rev) g.1.lb g.1.ok (haveI : LB l.rev := inferInstance; clip_ok (l := l.rev) k2.rev CellOK.nil) (by have := clipC_len [] l.rev; simp at this; omega)) rfl <| ?_
   refine cl rfl (p_API (t := t.restrict (clipC [] l.rev)) (restrict_gd g.1 _).lb (by have := t.restrict_size (clipC [] l.rev); omega)) rfl <| ?_
   exact rz rfl rfl
end Go.Sx
end

section
set_option maxRecDepth 100000
namespace Go.Sx
open Go Go.Proofs
theorem mkl_ok {p q r : Bool} {a b c : Nat} (h : Nat.gcd a b ≠ 0) : LnQ.ok ⟨zv p (a / Nat.gcd (Nat.gcd a b) c), zv q (b / Nat.gcd (Nat.gcd a b) c), zv r (c / Nat.gcd (Nat.gcd a b) c)⟩ := by
 have hg : 0 < Nat.gcd (Nat.gcd a b) c := Nat.gcd_pos_of_pos_left _ (Nat.pos_of_ne_zero h)
 have d0 : Nat.gcd (Nat.gcd a b) c ∣ Nat.gcd a b := Nat.gcd_dvd_left _ _
 have d1 : Nat.gcd (Nat.gcd a b) c ∣ a := Nat.dvd_trans d0 (Nat.gcd_dvd_left _ _)
 have d2 : Nat.gcd (Nat.gcd a b) c ∣ b := Nat.dvd_trans d0 (Nat.gcd_dvd_right _ _)
 have d3 : Nat.gcd (Nat.gcd a b) c ∣ c := Nat.gcd_dvd_right _ _
 refine ⟨?_, ?_⟩
 · rintro ⟨h1, h2⟩
   have h1' := congrArg Int.natAbs h1
   have h2' := congrArg Int.natAbs h2
   simp only [zv_abs, Int.natAbs_zero] at h1' h2'
   have e1 := Nat.div_mul_cancel d1
   have e2 := Nat.div_mul_cancel d2
   rw [h1', Nat.zero_mul] at e1
   rw [h2', Nat.zero_mul] at e2
   exact h (by rw [← e1, ← e2]; rfl)
 · simp only [zv_abs]
   rw [Nat.gcd_div d1 d2, Nat.gcd_div d0 d3, Nat.div_self hg]
theorem mkl_le (p : Bool) (a g : Nat) : (zv p (a / g)).natAbs ≤ a := by rw [zv_abs]; exact Nat.div_le_self ..
theorem PF.eq {GB : Gh} {P : Program} {f : FuncId} {vs : List DV} {r r' : DV} (h : PF GB P f vs r) (e : r = r') : PF GB P f vs r' := e ▸ h
def iP (m n : Int) : PtQ := ⟨(m : Rat), (n : Rat)⟩
theorem biOf {m : Int} {k : Nat} (h : m.natAbs < 2 ^ k) : BI m k := ⟨h⟩
theorem biC {m : Int} {k : Nat} (h : m.natAbs ≤ 1000) (hk : 10 ≤ k) : BI m k := ⟨Nat.lt_of_lt_of_le (show m.natAbs < 2 ^ 10 by omega) (Nat.pow_le_pow_right (by decide) hk)⟩
instance BPt.int (m n : Int) (i : Nat) [h : BI m i] [k : BI n i] : BPt (iP m n) (i + 1) := ⟨inferInstanceAs (BQ (m : Rat) (i + 1)), inferInstanceAs (BQ (n : Rat) (i + 1))⟩
theorem eQI {q : Rat} {k : Int} (h : q = (k : Rat)) : eQ q = eQ (k : Rat) := by rw [h]
theorem ePI {p : PtQ} {m n : Int} (h1 : p.x = (m : Rat)) (h2 : p.y = (n : Rat)) : eP p = eP (iP m n) := by
 obtain ⟨x, y⟩ := p
 simp only at h1 h2
 subst h1 h2
 rfl
def mkL (a b c : Int) : LnQ :=
 ⟨zv (decide (a < 0)) (a.natAbs / Nat.gcd (Nat.gcd a.natAbs b.natAbs) c.natAbs), zv (decide (b < 0)) (b.natAbs / Nat.gcd (Nat.gcd a.natAbs b.natAbs) c.natAbs), zv (decide (c < 0)) (c.natAbs / Nat.gcd (Nat.gcd a.natAbs b.natAbs) c.natAbs)⟩
theorem mkL_ok {a b c : Int} (h : ¬ (a = 0 ∧ b = 0)) : (mkL a b c).ok :=
 mkl_ok fun e => h ⟨Int.natAbs_eq_zero.1 (Nat.eq_zero_of_gcd_eq_zero_left e), Int.natAbs_eq_zero.1 (Nat.eq_zero_of_gcd_eq_zero_right e)⟩
theorem mkL_le (a b c : Int) : (mkL a b c).a.natAbs ≤ a.natAbs ∧ (mkL a b c).b.natAbs ≤ b.natAbs ∧ (mkL a b c).c.natAbs ≤ c.natAbs := ⟨mkl_le .., mkl_le .., mkl_le ..⟩
theorem q_Xy {GB : Gh} {m n : Int} (hm : m.natAbs ≤ 1000) (hn : n.natAbs ≤ 1000) : PF GB Tryz.prog 38 [.v (.int .i64 m), .v (.int .i64 n)] (eP (iP m n)) := by
 refine fn Tryz.func38 rfl rfl Tryz.ntmps38 rfl rfl (fun C => ?_)
 refine cl rfl (q_Of (n := m) (by omega) (by omega)) rfl <| cl rfl (q_Of (n := n) (by omega) (by omega)) rfl <| ?_
 exact rz rfl rfl
theorem q_AddI {GB : Gh} {m n m' n' k : Int} (hm : m.natAbs ≤ 1000) (hn : n.natAbs ≤ 1000) (hm' : m'.natAbs ≤ 1000) (hn' : n'.natAbs ≤ 1000) (hk : k.natAbs ≤ 1000) : PF GB Tryz.prog 42 [eP (iP m n), eQ (k : Rat), eP (iP m' n')] (eP (iP (m + k * m') (n + k * n'))) := by
 haveI := biC (k := 10) hm (by decide)
 haveI := biC (k := 10) hn (by decide)
 haveI := biC (k := 10) hm' (by decide)
 haveI := biC (k := 10) hn' (by decide)
 haveI := biC (k := 10) hk (by decide)
 exact PF.eq (q_PAdd (p := iP m n) (q := iP m' n') (c := (k : Rat))) (ePI (by show (m : Rat) + (k : Rat) * (m' : Rat) = _; push_cast; rfl) (by show (n : Rat) + (k : Rat) * (n' : Rat) = _; push_cast; rfl))
theorem q_SubI {GB : Gh} {m n m' n' : Int} (hm : m.natAbs ≤ 1000) (hn : n.natAbs ≤ 1000) (hm' : m'.natAbs ≤ 1000) (hn' : n'.natAbs ≤ 1000) : PF GB Tryz.prog 87 [eP (iP m n), eP (iP m' n')] (eP (iP (m - m') (n - n'))) := by
 refine fn Tryz.func87 rfl rfl Tryz.ntmps87 rfl rfl (fun C => ?_)
 refine cl rfl (q_Of (n := -1) (by decide) (by decide)) rfl <| cl rfl (q_AddI (m := m) (n := n) (m' := m') (n' := n') (k := -1) hm hn hm' hn' (by decide)) rfl <| ?_
 exact rz rfl (by rw [show m - m' = m + -1 * m' by omega, show n - n' = n + -1 * n' by omega]; rfl)
theorem q_SameI' {GB : Gh} {m n m' n' : Int} (hm : m.natAbs ≤ 1000) (hn : n.natAbs ≤ 1000) (hm' : m'.natAbs ≤ 1000) (hn' : n'.natAbs ≤ 1000) : PF GB Tryz.prog 96 [eP (iP m n), eP (iP m' n')] (.v (.bool (decide (m = m' ∧ n = n')))) := by
 haveI := biC (k := 10) hm (by decide)
 haveI := biC (k := 10) hn (by decide)
 haveI := biC (k := 10) hm' (by decide)
 haveI := biC (k := 10) hn' (by decide)
 refine fn Tryz.func96 rfl rfl Tryz.ntmps96 rfl rfl (fun C => ?_)
 refine cl rfl (q_C (a := (m : Rat)) (b := (m' : Rat))) rfl <| ?_
 refine cs 11 rfl rfl rfl (fun hg11 => ?_) (fun hg11 => ?_)
 ·
  refine cl rfl (q_C (a := (n : Rat)) (b := (n' : Rat))) rfl <| ?_
  exact rz rfl (by rw [rcmp_eq] at hg11; have e : m = m' := (by exact_mod_cast hg11); exact congrArg (fun z => DV.v (.bool z)) (decide_eq_decide.2 (by rw [rcmp_eq, Rat.intCast_inj]; simp [e])))
 ·
  exact rz rfl (by rw [rcmp_eq] at hg11; have e : ¬ m = m' := (fun e => hg11 (by rw [e])); show DV.v (.bool false) = DV.v (.bool _); rw [decide_eq_false (fun h => e h.1)])
theorem gcd_ltk {a b k : Nat} (ha : a < k) (hb : b < k) : Nat.gcd a b < k := by
 rcases Nat.eq_zero_or_pos a with rfl | p
 · simpa using hb
 · exact Nat.lt_of_le_of_lt (Nat.gcd_le_left b p) ha
set_option maxHeartbeats 1000000 in
theorem q_MakeL {GB : Gh} {a b c : Int} {i : Nat} (ha : BI a i) (hb : BI b i) (hc : BI c i) (hi : i ≤ 100000000) (h0 : ¬ (a = 0 ∧ b = 0)) : PF GB Tryz.prog 94 [eI a, eI b, eI c] (.tp [eL (mkL a b c), .v (.bool true)]) := by
 have hgn : Nat.gcd a.natAbs b.natAbs ≠ 0 := fun h => h0 ⟨Int.natAbs_eq_zero.1 (Nat.eq_zero_of_gcd_eq_zero_left h), Int.natAbs_eq_zero.1 (Nat.eq_zero_of_gcd_eq_zero_right h)⟩
 have hgp : 0 < Nat.gcd (Nat.gcd a.natAbs b.natAbs) c.natAbs := Nat.gcd_pos_of_pos_left _ (Nat.pos_of_ne_zero hgn)
 haveI hb1 : BN (Nat.gcd a.natAbs b.natAbs) i := ⟨gcd_ltk ha.h hb.h⟩
 haveI hb2 : BN (Nat.gcd (Nat.gcd a.natAbs b.natAbs) c.natAbs) i := ⟨gcd_ltk hb1.h hc.h⟩
 refine fn Tryz.func94 rfl rfl Tryz.ntmps94 rfl rfl (fun C => ?_)
 refine cl rfl (q_Common (a := a.natAbs) (b := b.natAbs) (by omega) (by omega)) rfl <| ?_
 refine br rfl rfl rfl (fun hc22 => ?_) (fun hc22 => ?_)
 ·
  exact absurd hc22 (by rw [List.length_map]; intro h; exact hgn (dg_len_zero.1 (by omega)))
 ·
  refine cl rfl (q_Common (a := Nat.gcd a.natAbs b.natAbs) (b := c.natAbs) (by omega) (by omega)) rfl <| cl rfl (q_Divide (a := a.natAbs) (b := Nat.gcd (Nat.gcd a.natAbs b.natAbs) c.natAbs) hgp (by omega) (by omega)) rfl <| ?_
  refine cl rfl (q_Divide (a := b.natAbs) (b := Nat.gcd (Nat.gcd a.natAbs b.natAbs) c.natAbs) hgp (by omega) (by omega)) rfl <| cl rfl (q_Divide (a := c.natAbs) (b := Nat.gcd (Nat.gcd a.natAbs b.natAbs) c.natAbs) hgp (by omega) (by omega)) rfl <| ?_
  refine cl rfl (q_Make (m := a.natAbs / (Nat.gcd (Nat.gcd a.natAbs b.natAbs) c.natAbs)) (neg := decide (a < 0))) rfl <| cl rfl (q_Make (m := b.natAbs / (Nat.gcd (Nat.gcd a.natAbs b.natAbs) c.natAbs)) (neg := decide (b < 0))) rfl <| ?_
  refine cl rfl (q_Make (m := c.natAbs / (Nat.gcd (Nat.gcd a.natAbs b.natAbs) c.natAbs)) (neg := decide (c < 0))) rfl <| ?_
  exact rz rfl rfl
def thrA (n n' : Int) : Int := -(n' - n)
def thrB (m m' : Int) : Int := m' - m
def thrC (m n m' n' : Int) : Int := -(thrA n n' * m + thrB m m' * n)
def thrL (m n m' n' : Int) : LnQ := mkL (thrA n n') (thrB m m') (thrC m n m' n')
theorem mul_le_mil {a b : Int} (ha : a.natAbs ≤ 2000) (hb : b.natAbs ≤ 1000) : (a * b).natAbs ≤ 2000000 := by
 rw [Int.natAbs_mul]; exact Nat.mul_le_mul ha hb
set_option maxHeartbeats 2000000 in
theorem q_Through {GB : Gh} {m n m' n' : Int} (hm : m.natAbs ≤ 1000) (hn : n.natAbs ≤ 1000) (hm' : m'.natAbs ≤ 1000) (hn' : n'.natAbs ≤ 1000) (h0 : ¬ (m = m' ∧ n = n')) : PF GB Tryz.prog 37 [eP (iP m n), eP (iP m' n')] (.tp [eL (thrL m n m' n'), .v (.bool true)]) := by
 obtain ⟨a, hA⟩ : ∃ a, a = thrA n n' := ⟨_, rfl⟩
 obtain ⟨b, hB⟩ : ∃ b, b = thrB m m' := ⟨_, rfl⟩
 have hA' : a = -(n' - n) := hA
 have hB' : b = m' - m := hB
 obtain ⟨c, hC⟩ : ∃ c, c = -(a * m + b * n) := ⟨_, rfl⟩
 have e1 := mul_le_mil (a := a) (b := m) (by omega) hm
 have e2 := mul_le_mil (a := b) (b := n) (by omega) hn
 haveI hm0 := biC (k := 10) hm (by decide)
 haveI hn0 := biC (k := 10) hn (by decide)
 haveI ha : BI a 30 := biOf (by omega)
 haveI hb : BI b 30 := biOf (by omega)
 haveI hc : BI c 30 := biOf (by omega)
 have hthr : thrL m n m' n' = mkL a b c := by rw [hC, hA, hB]; rfl
 have hne : ¬ (a = 0 ∧ b = 0) := fun h => h0 (by omega)
 refine fn Tryz.func37 rfl rfl Tryz.ntmps37 rfl rfl (fun C => ?_)
 refine cl rfl (q_SubI (m := m') (n := n') (m' := m) (n' := n) hm' hn' hm hn) rfl <| cl rfl (PF.eq (q_Opp (q := (((n' - n) : Int) : Rat))) (eQI (k := a) (by rw [hA']; push_cast; rfl))) rfl <| ?_
 refine cl rfl (PF.eq (q_Times (a := (a : Rat)) (b := (m : Rat))) (eQI (k := a * m) (by push_cast; rfl))) rfl <| cl rfl (PF.eq (by haveI : BI (m' - m) 30 := (by rw [← hB']; exact hb); exact q_Times (a := (((m' - m) : Int) : Rat)) (b := (n : Rat))) (eQI (k := b * n) (by rw [hB']; push_cast; rfl))) rfl <| ?_
 refine cl rfl (PF.eq (q_Plus (a := ((a * m : Int) : Rat)) (b := ((b * n : Int) : Rat))) (eQI (k := a * m + b * n) (by push_cast; rfl))) rfl <| cl rfl (PF.eq (q_Opp (q := ((a * m + b * n : Int) : Rat))) (eQI (k := c) (by rw [hC]; push_cast; rfl))) rfl <| ?_
 refine cl rfl (q_Den (q := (a : Rat))) rfl <| cl rfl (q_Den (q := (((m' - m) : Int) : Rat))) rfl <| cl rfl (PF.eq (q_Product (a := 1) (b := 1)) rfl) rfl <| ?_
 refine cl rfl (q_Den (q := (c : Rat))) rfl <| cl rfl (PF.eq (q_Product (a := 1) (b := 1)) rfl) rfl <| cl (fu := ⟨1⟩) rfl (q_Make (neg := false) (m := 1)) rfl <| ?_
 refine eqF 40 (.d (eQ ((1 : Int) : Rat))) rfl rfl ?_
 refine gx rfl <| cl rfl (PF.eq (q_Times (a := (a : Rat)) (b := ((1 : Int) : Rat))) (eQI (k := a) (by push_cast; grind))) rfl <| cl rfl (PF.eq (by haveI : BI (m' - m) 30 := (by rw [← hB']; exact hb); exact q_Times (a := (((m' - m) : Int) : Rat)) (b := ((1 : Int) : Rat))) (eQI (k := b) (by rw [hB']; push_cast; grind))) rfl <| ?_
 refine cl rfl (PF.eq (q_Times (a := (c : Rat)) (b := ((1 : Int) : Rat))) (eQI (k := c) (by push_cast; grind))) rfl <| cl rfl (q_MakeL (a := a) (b := b) (c := c) ha hb hc (by decide) hne) rfl <| ?_
 exact rz rfl (by rw [hthr]; rfl)
end Go.Sx
end

section
set_option maxRecDepth 100000
namespace Go.Sx
open Go Go.Proofs
theorem mapI_get {es : List Int} {a : Nat} (h : a < es.length) : (es.map vI)[(a : Int).toNat]? = some (vI es[a]) := by simp [h]
theorem eP_zeroI : eP (iP 0 0) = .ag [.v (.bool false), .sl [], .sl [], .v (.bool false), .sl [], .sl []] := by
 unfold eP iP
 simp [dN_zero, dD]
theorem thr_LT {m n p q : Int} (hm : m.natAbs ≤ 4) (hn : n.natAbs ≤ 4) (hp : p.natAbs ≤ 4) (hq : q.natAbs ≤ 4) (h : ¬ (p = 0 ∧ q = 0)) : LS (thrL m n (m + 1 * p) (n + 1 * q)) := by
 have e1 : thrA n (n + 1 * q) = -q := by unfold thrA; omega
 have e2 : thrB m (m + 1 * p) = p := by unfold thrB; omega
 have e3 : ((-q) * m).natAbs ≤ 4 * 4 := by rw [Int.natAbs_mul]; exact Nat.mul_le_mul (by omega) hm
 have e4 : (p * n).natAbs ≤ 4 * 4 := by rw [Int.natAbs_mul]; exact Nat.mul_le_mul hp hn
 have e5 : thrC m n (m + 1 * p) (n + 1 * q) = -((-q) * m + p * n) := by unfold thrC; rw [e1, e2]
 unfold thrL
 obtain ⟨k1, k2, k3⟩ := mkL_le (thrA n (n + 1 * q)) (thrB m (m + 1 * p)) (thrC m n (m + 1 * p) (n + 1 * q))
 exact ⟨mkL_ok (by rw [e1, e2]; omega), Nat.le_trans k1 (by rw [e1]; omega), Nat.le_trans k2 (by rw [e2]; omega), Nat.le_trans k3 (by rw [e5]; omega)⟩
def nextF (es : List Int) (n : Int) (a : Nat) : Nat × Nat :=
 if h : a < es.length then ((if Int.tmod es[a] n < 0 then Int.tmod es[a] n + n else Int.tmod es[a] n).toNat, a + 1) else (0, a)
theorem nextF_lt {es : List Int} {n : Int} {a : Nat} (hn : 1 ≤ n) : ((nextF es n a).1 : Int) < n := by
 unfold nextF
 split
 · rename_i h
   have q2 := Int.tmod_lt_of_pos es[a] (show 0 < n by omega)
   dsimp only
   split <;> omega
 · exact hn
theorem nextF_le {es : List Int} {n : Int} {a : Nat} (ha : a ≤ es.length) : (nextF es n a).2 ≤ es.length := by
 unfold nextF
 split
 · assumption
 · exact ha
def pF (es : List Int) (a : Nat) : (Int × Int) × Nat := ((((nextF es 9 a).1 : Int) - 4, ((nextF es 9 (nextF es 9 a).2).1 : Int) - 4), (nextF es 9 (nextF es 9 a).2).2)
theorem pF_ok {es : List Int} {a : Nat} (ha : a ≤ es.length) : (pF es a).1.1.natAbs ≤ 4 ∧ (pF es a).1.2.natAbs ≤ 4 ∧ (pF es a).2 ≤ es.length := by
 have h1 := nextF_lt (es := es) (n := 9) (a := a) (by decide)
 have h2 := nextF_lt (es := es) (n := 9) (a := (nextF es 9 a).2) (by decide)
 have h3 := nextF_le (n := 9) (nextF_le (es := es) (n := 9) ha)
 unfold pF
 exact ⟨by dsimp only; omega, by dsimp only; omega, h3⟩
def vF (es : List Int) (a : Nat) : (Int × Int) × Nat := if (pF es a).1.1 = 0 ∧ (pF es a).1.2 = 0 then ((1, 0), (pF es a).2) else pF es a
theorem vF_ok {es : List Int} {a : Nat} (ha : a ≤ es.length) : (vF es a).1.1.natAbs ≤ 4 ∧ (vF es a).1.2.natAbs ≤ 4 ∧ ¬ ((vF es a).1.1 = 0 ∧ (vF es a).1.2 = 0) ∧ (vF es a).2 ≤ es.length := by
 obtain ⟨h1, h2, h3⟩ := pF_ok ha
 unfold vF
 split
 · exact ⟨show (1 : Int).natAbs ≤ 4 by decide, show (0 : Int).natAbs ≤ 4 by decide, show ¬ ((1 : Int) = 0 ∧ (0 : Int) = 0) by decide, h3⟩
 · rename_i h; exact ⟨h1, h2, h, h3⟩
def lF (es : List Int) (a : Nat) : LnQ × Nat := (thrL (pF es a).1.1 (pF es a).1.2 ((pF es a).1.1 + 1 * (vF es (pF es a).2).1.1) ((pF es a).1.2 + 1 * (vF es (pF es a).2).1.2), (vF es (pF es a).2).2)
theorem lF_ok {es : List Int} {a : Nat} (ha : a ≤ es.length) : LS (lF es a).1 ∧ (lF es a).2 ≤ es.length := by
 obtain ⟨h1, h2, h3⟩ := pF_ok ha
 obtain ⟨k1, k2, k3, k4⟩ := vF_ok h3
 exact ⟨thr_LT h1 h2 k1 k2 k3, k4⟩
def treeF (es : List Int) : Nat → Nat → Tr × Nat
 | 0, a => (.leaf (decide (((nextF es 2 a).1 : Int) = 1)), (nextF es 2 a).2)
 | d + 1, a => if ((nextF es 4 a).1 : Int) = 0 then (.leaf (decide (((nextF es 2 (nextF es 4 a).2).1 : Int) = 1)), (nextF es 2 (nextF es 4 a).2).2) else
   (.node (lF es (nextF es 4 a).2).1 (treeF es d (lF es (nextF es 4 a).2).2).1 (treeF es d (treeF es d (lF es (nextF es 4 a).2).2).2).1, (treeF es d (treeF es d (lF es (nextF es 4 a).2).2).2).2)
theorem treeF_ok {es : List Int} : ∀ {d a : Nat}, a ≤ es.length → (treeF es d a).1.depth ≤ d ∧ (treeF es d a).1.all LnQ.ok ∧ (treeF es d a).1.all (fun l => BL l 96) ∧ (treeF es d a).2 ≤ es.length
 | 0, a, ha => ⟨Nat.zero_le _, trivial, trivial, nextF_le ha⟩
 | d + 1, a, ha => by
   have h4 := nextF_le (n := 4) ha
   unfold treeF
   split
   · exact ⟨Nat.zero_le _, trivial, trivial, nextF_le h4⟩
   · obtain ⟨hl, h5⟩ := lF_ok h4
     obtain ⟨d1, o1, b1, h6⟩ := treeF_ok (d := d) h5
     obtain ⟨d2, o2, b2, h7⟩ := treeF_ok (d := d) h6
     exact ⟨by show 1 + max _ _ ≤ _; omega, ⟨hl.ok, o1, o2⟩, ⟨hl.bl, b1, b2⟩, h7⟩
theorem q_NextT {GB : Gh} {b : Nat} {es : List Int} (hes : es.length ≤ 400) {a : Nat} (ha : a ≤ es.length) {n : Int} (hn : 1 ≤ n) (hn2 : n ≤ 1000) : PM GB Tryz.prog 39 (mkP [none, some (.v (.int .i64 n))] b) b 93 [.sl (es.map vI), .v (.int .i64 (a : Nat))] (.v (.int .i64 ((nextF es n a).1 : Nat))) [.sl (es.map vI), .v (.int .i64 ((nextF es n a).2 : Nat))] := by
 have hel : (es.map vI).length = es.length := by simp
 refine fnM Tryz.func39 rfl rfl Tryz.ntmps39 rfl rfl (fun C b m lo hmb => ?_)
 refine br rfl rfl rfl (fun hc15 => ?_) (fun hc15 => ?_)
 ·
  have hf : nextF es n a = (0, a) := by unfold nextF; rw [dif_neg (by omega)]
  exact rzM hmb rfl rfl (by rw [hf] <;> rfl) (by rw [hf] <;> rfl)
 ·
  have hal : a < es.length := by omega
  obtain ⟨e, he⟩ : ∃ e, e = es[a] := ⟨_, rfl⟩
  have q2 := Int.tmod_lt_of_pos e (show 0 < n by omega)
  have q3 : -n < Int.tmod e n := by have := Int.lt_tmod_of_pos e (show 0 < n by omega); omega
  refine ix (fu := ⟨1⟩) _ rfl (mapI_get hal) rfl <| ?_
  refine eqF 25 (.d (vI e)) rfl (by rw [he] <;> rfl) ?_
  refine gx (hv := by simp only [allP]; exact ⟨⟨by omega, by kernel_rfl⟩, by omega⟩) rfl <| ?_
  refine br rfl rfl rfl (fun hc36 => ?_) (fun hc36 => ?_)
  ·
   have hf : nextF es n a = ((Int.tmod e n + n).toNat, a + 1) := by unfold nextF; rw [dif_pos hal, ← he, if_pos hc36]
   exact rzM hmb rfl rfl (by rw [hf]; show DV.v (.int .i64 _) = DV.v (.int .i64 _); rw [Int.toNat_of_nonneg (by omega)]) (by rw [hf] <;> rfl)
  ·
   have hf : nextF es n a = ((Int.tmod e n).toNat, a + 1) := by unfold nextF; rw [dif_pos hal, ← he, if_neg hc36]
   exact rzM hmb rfl rfl (by rw [hf]; show DV.v (.int .i64 _) = DV.v (.int .i64 _); rw [Int.toNat_of_nonneg (by omega)]) (by rw [hf] <;> rfl)
theorem q_PT {GB : Gh} {b : Nat} {es : List Int} (hes : es.length ≤ 400) {a : Nat} (ha : a ≤ es.length) : PM GB Tryz.prog 41 (mkP [none] b) b 93 [.sl (es.map vI), .v (.int .i64 (a : Nat))] (eP (iP (pF es a).1.1 (pF es a).1.2)) [.sl (es.map vI), .v (.int .i64 ((pF es a).2 : Nat))] := by
 have h1 := nextF_lt (es := es) (n := 9) (a := a) (by decide)
 have h2 := nextF_lt (es := es) (n := 9) (a := (nextF es 9 a).2) (by decide)
 refine fnM Tryz.func41 rfl rfl Tryz.ntmps41 rfl rfl (fun C b m lo hmb => ?_)
 refine cm rfl (fun b => (q_NextT (n := 9) hes ha (by decide) (by decide))) rfl <| cm rfl (fun b => (q_NextT (n := 9) hes (nextF_le ha) (by decide) (by decide))) rfl <| ?_
 refine cl rfl (q_Xy (m := ((nextF es 9 a).1 : Int) - 4) (n := ((nextF es 9 (nextF es 9 a).2).1 : Int) - 4) (by omega) (by omega)) rfl <| ?_
 exact rzM hmb rfl rfl rfl rfl
theorem q_VT {GB : Gh} {b : Nat} {es : List Int} (hes : es.length ≤ 400) {a : Nat} (ha : a ≤ es.length) : PM GB Tryz.prog 44 (mkP [none] b) b 93 [.sl (es.map vI), .v (.int .i64 (a : Nat))] (eP (iP (vF es a).1.1 (vF es a).1.2)) [.sl (es.map vI), .v (.int .i64 ((vF es a).2 : Nat))] := by
 obtain ⟨hm, hn, ha1⟩ := pF_ok ha
 refine fnM Tryz.func44 rfl rfl Tryz.ntmps44 rfl rfl (fun C b m lo hmb => ?_)
 refine cm (fu := ⟨9⟩) rfl (fun b => (q_PT hes ha)) rfl <| ?_
 refine eqF 7 (.d (eP (iP 0 0))) rfl (by rw [eP_zeroI] <;> rfl) ?_
 refine gx rfl <| cl rfl (q_SameI' (m := (pF es a).1.1) (n := (pF es a).1.2) (m' := 0) (n' := 0) (by omega) (by omega) (by decide) (by decide)) rfl <| ?_
 refine bd rfl rfl rfl (fun hc8 => ?_) (fun hc8 => ?_)
 ·
  have hf : vF es a = ((1, 0), (pF es a).2) := by unfold vF; rw [if_pos hc8]
  refine cl rfl (q_Xy (m := 1) (n := 0) (by decide) (by decide)) rfl <| ?_
  exact rzM hmb rfl rfl (by rw [hf] <;> rfl) (by rw [hf])
 ·
  have hf : vF es a = pF es a := by unfold vF; rw [if_neg hc8]
  exact rzM hmb rfl rfl (by rw [hf] <;> rfl) (by rw [hf])
theorem q_LT {GB : Gh} {b : Nat} {es : List Int} (hes : es.length ≤ 400) {a : Nat} (ha : a ≤ es.length) : PM GB Tryz.prog 11 (mkP [none] b) b 93 [.sl (es.map vI), .v (.int .i64 (a : Nat))] (eL (lF es a).1) [.sl (es.map vI), .v (.int .i64 ((lF es a).2 : Nat))] := by
 obtain ⟨hm, hn, ha1⟩ := pF_ok ha
 obtain ⟨hp, hq, hz, ha2⟩ := vF_ok ha1
 refine fnM Tryz.func11 rfl rfl Tryz.ntmps11 rfl rfl (fun C b m lo hmb => ?_)
 refine cm rfl (fun b => (q_PT hes ha)) rfl <| cl rfl (q_Of (n := 1) (by decide) (by decide)) rfl <| cm rfl (fun b => (q_VT hes ha1)) rfl <| cl rfl (q_AddI (m := (pF es a).1.1) (n := (pF es a).1.2) (m' := (vF es (pF es a).2).1.1) (n' := (vF es (pF es a).2).1.2) (k := 1) (by omega) (by omega) (by omega) (by omega) (by decide)) rfl <| ?_
 refine cl rfl (q_Through (m := (pF es a).1.1) (n := (pF es a).1.2) (m' := (pF es a).1.1 + 1 * (vF es (pF es a).2).1.1) (n' := (pF es a).1.2 + 1 * (vF es (pF es a).2).1.2) (by omega) (by omega) (by omega) (by omega) (by omega)) rfl <| ?_
 exact rzM hmb rfl rfl rfl rfl
theorem q_CodeT {GB : Gh} {p : Bool} : PF GB Tryz.prog 40 [.v (.bool p)] (eT (.leaf p)) := by
 refine fn Tryz.func40 rfl rfl Tryz.ntmps40 rfl rfl (fun C => ?_)
 refine fzE 5 rfl ?_
 exact rz rfl rfl
theorem q_TreeT_zero {GB : Gh} {b : Nat} {es : List Int} (hes : es.length ≤ 400) {a : Nat} (ha : a ≤ es.length) {n : Int} (hn : n = 0) : PM GB Tryz.prog 10 (mkP [none, some (.v (.int .i64 n))] b) b 93 [.sl (es.map vI), .v (.int .i64 (a : Nat))] (eT (treeF es 0 a).1) [.sl (es.map vI), .v (.int .i64 ((treeF es 0 a).2 : Nat))] := by
 refine fnM (fu := ⟨10⟩) Tryz.func10 rfl rfl Tryz.ntmps10 rfl rfl (fun C b m lo hmb => ?_)
 refine kT 8 rfl (by omega) ?_
 refine gx rfl <| cm rfl (fun b => (q_NextT (n := 2) hes ha (by decide) (by decide))) rfl <| cl rfl (q_CodeT (p := decide (((nextF es 2 a).1 : Int) = 1))) rfl <| ?_
 exact rzM hmb rfl rfl rfl rfl
theorem q_TreeT_node {GB : Gh} {b : Nat} {es : List Int} (hes : es.length ≤ 400) {a : Nat} (ha : a ≤ es.length) {d : Nat} {n : Int} (hn : n = ((d + 1 : Nat) : Int)) (hd : d ≤ 100) (ih : ∀ {GB : Gh} {b a : Nat} {n : Int}, a ≤ es.length → n = (d : Int) → PM GB Tryz.prog 10 (mkP [none, some (.v (.int .i64 n))] b) b 93 [.sl (es.map vI), .v (.int .i64 (a : Nat))] (eT (treeF es d a).1) [.sl (es.map vI), .v (.int .i64 ((treeF es d a).2 : Nat))]) : PM GB Tryz.prog 10 (mkP [none, some (.v (.int .i64 n))] b) b 93 [.sl (es.map vI), .v (.int .i64 (a : Nat))] (eT (treeF es (d + 1) a).1) [.sl (es.map vI), .v (.int .i64 ((treeF es (d + 1) a).2 : Nat))] := by
 have h4 := nextF_le (n := 4) ha
 obtain ⟨hl, h5⟩ := lF_ok h4
 have h6 := (treeF_ok (d := d) h5).2.2.2
 refine fnM (fu := ⟨10⟩) Tryz.func10 rfl rfl Tryz.ntmps10 rfl rfl (fun C b m lo hmb => ?_)
 refine kF 8 rfl (by omega) ?_
 refine gx rfl <| cm rfl (fun b => (q_NextT (n := 4) hes ha (by decide) (by decide))) rfl <| ?_
 refine br rfl rfl rfl (fun hc13 => ?_) (fun hc13 => ?_)
 ·
  have hf : treeF es (d + 1) a = _ := if_pos hc13
  refine cm rfl (fun b => (q_NextT (n := 2) hes h4 (by decide) (by decide))) rfl <| cl rfl (q_CodeT (p := decide (((nextF es 2 (nextF es 4 a).2).1 : Int) = 1))) rfl <| ?_
  exact rzM hmb rfl rfl (by rw [hf] <;> rfl) (by rw [hf])
 ·
  have hf : treeF es (d + 1) a = _ := if_neg hc13
  refine cm rfl (fun b => (q_LT hes h4)) rfl <| cm rfl (fun b => (ih h5 (by omega))) rfl <| cm rfl (fun b => (ih h6 (by omega))) rfl <| ?_
  refine fzE 31 rfl ?_
  exact rzM hmb rfl rfl (by rw [hf] <;> rfl) (by rw [hf])
theorem q_TreeI {es : List Int} (hes : es.length ≤ 400) : ∀ {d : Nat} {GB : Gh} {b a : Nat} {n : Int}, d ≤ 100 → a ≤ es.length → n = (d : Int) → PM GB Tryz.prog 10 (mkP [none, some (.v (.int .i64 n))] b) b 93 [.sl (es.map vI), .v (.int .i64 (a : Nat))] (eT (treeF es d a).1) [.sl (es.map vI), .v (.int .i64 ((treeF es d a).2 : Nat))]
 | 0, _, _, _, _, _, ha, hn => q_TreeT_zero hes ha hn
 | d + 1, _, _, _, _, hd, ha, hn => q_TreeT_node hes ha hn (by omega) (fun h1 h2 => q_TreeI hes (by omega) h1 h2)
theorem q_TreeT {GB : Gh} {es : List Int} (hes : es.length ≤ 400) {a d b : Nat} (ha : a ≤ es.length) (hd : d ≤ 100) : PM GB Tryz.prog 10 (mkP [none, some (.v (.int .i64 (d : Nat)))] b) b 93 [.sl (es.map vI), .v (.int .i64 (a : Nat))] (eT (treeF es d a).1) [.sl (es.map vI), .v (.int .i64 ((treeF es d a).2 : Nat))] := q_TreeI (GB := GB) hes hd ha rfl
end Go.Sx
end

section
set_option maxRecDepth 100000
namespace Go.Sx
open Go Go.Proofs
def p7 : PtQ := ⟨mkRat 1 7, mkRat 1 5⟩
structure LP (l : LnQ) : Prop where
 s : LS l
 p : 0 < l.value p7
def lsR (es : List Int) : Nat → Nat → List LnQ × Nat
 | 0, a => ([], a)
 | i + 1, a => ((lF es a).1 :: (lsR es i (lF es a).2).1, (lsR es i (lF es a).2).2)
def lsF (es : List Int) (most a : Nat) : List LnQ × Nat := lsR es (nextF es ((most : Int) + 1) a).1 (nextF es ((most : Int) + 1) a).2
def flip7 (l : LnQ) : LnQ := if (l.value p7).num.sign < 0 then l.rev else l
def sideR (xs : List LnQ) (i : Nat) : List LnQ := (xs.take i).map flip7 ++ xs.drop i
def sideF (es : List Int) (a : Nat) : List LnQ × Nat := ((lsF es 3 a).1.map flip7, (lsF es 3 a).2)
end Go.Sx
end

section
set_option maxRecDepth 100000
namespace Go.Sx
open Go
inductive OT where
 | z (π : List (Nat × Bool))
 | q (i : Nat) (t : OT)
 | a (i : Nat) (t : OT)
 | c (i : Nat) (t r : OT)
def OT.sz : OT → Nat
 | .z _ => 0
 | .q _ t => t.sz + 1
 | .a _ t => t.sz + 1
 | .c _ t r => t.sz + r.sz + 1
def OT.d : OT → Nat
 | .z π => π.length
 | .q _ t => t.d + 1
 | .a _ t => t.d + 1
 | .c _ t r => Nat.max (t.d + 1) r.d
section
variable {P : Program} {ops : Array Oper} {Q : Exit → Act → World → Prop} {S : World → Prop} {π₂ : List (Nat × Bool)}
def dwN (P : Program) (ops : Array Oper) (Q : Exit → Act → World → Prop) (K : (World → Prop) → Act → World → Prop) : List Nat → OT → (World → Prop) → Act → World → Prop
 | ks, .z π, S, a, w => dwT P ops Q K ks π S a w
 | ks, .q i t, S, a, w => ∃ o v, ops[i]? = some o ∧ S w ∧ YieldsIf P ops S o v a ∧ dwN P ops Q K ks t S (a.put o.dst v) w
 | ks, .a i t, S, a, w => wpOp P ops Q i (grS S (dwN P ops Q K ks t)) a w ∧
     ∀ j, (h : j ∈ ks) → wpOp P ops Q j (grS S (dwN P ops Q K (without ks j) (.a i t))) a w
 | ks, .c i t r, S, a, w => wpOp P ops Q i (grS S (dwN P ops Q K ks t)) a w ∧ dwN P ops Q K ks r S a w ∧
     ∀ j, (h : j ∈ ks) → wpOp P ops Q j (grS S (dwN P ops Q K (without ks j) (.c i t r))) a w
termination_by ks t => ks.length + t.sz
decreasing_by
 all_goals (first | (have := without_lt h; simp only [OT.sz] at *; omega) | (simp only [OT.sz]; omega))
def orderOkN (ops : Array Oper) (fin : Nat → Bool) (π₂ : List (Nat × Bool)) : Nat → Bool → List Nat → OT → Array Bool → List Nat → Bool
 | 0, _, _, _, _, _ => false
 | n + 1, false, ks, .z π, l, _ => orderOkG ops fin π₂ n ks π l
 | _ + 1, true, _, .z _, _, _ => false
 | n + 1, false, ks, .q i t, l, _ => takeOk ops fin l i && orderOkN ops fin π₂ n false ks t (l.setIfInBounds i true) []
 | _ + 1, true, _, .q _ _, _, _ => false
 | n + 1, true, ks, .a i t, l, rs => rs.all (fun j => Nat.beq j i) && orderOkN ops fin π₂ n false ks t (l.setIfInBounds i true) []
 | n + 1, false, ks, .a i t, l, _ => !(Region.ready .any ops l).isEmpty && (Region.ready .any ops l).all (fun j => Nat.beq j i || ks.contains j) && orderOkN ops fin π₂ n false ks t (l.setIfInBounds i true) [] && ks.all fun j => orderOkN ops fin π₂ n false (without ks j) (.a i t) (l.setIfInBounds j true) []
 | n + 1, true, ks, .c i t r, l, rs => orderOkN ops fin π₂ n false ks t (l.setIfInBounds i true) [] && orderOkN ops fin π₂ n true ks r l (without rs i)
 | n + 1, false, ks, .c i t r, l, _ => !(Region.ready .any ops l).isEmpty && orderOkN ops fin π₂ n false ks t (l.setIfInBounds i true) [] && orderOkN ops fin π₂ n true ks r l (without ((Region.ready .any ops l).filter fun j => !ks.contains j) i) && ks.all fun j => orderOkN ops fin π₂ n false (without ks j) (.c i t r) (l.setIfInBounds j true) []
end
section
variable {P : Program} {GB : Gh} {C : Ctx} {n : Nat} {fr fr' : FrF} {own own' own0 own1 own1' : List OwnD} {bs bs0 bs1 bs1' : List BufD} {ops : Array Oper} {Q : Exit → Act → World → Prop} {fd : List FD} {π₂ : List (Nat × Bool)} {t r : OT}
abbrev dnK (P : Program) (ops : Array Oper) (Q : Exit → Act → World → Prop) (K : (World → Prop) → Act → World → Prop) (t : OT) : List Nat → (World → Prop) → Act → World → Prop := fun ks S => dwN P ops (NoPan Q) K ks t S
end
end Go.Sx
end

section
set_option maxRecDepth 100000
namespace Go.Sx
open Go Go.Proofs
theorem lb_app {c : List LnQ} {l : LnQ} (hc : ∀ m ∈ c, LB m) (hl : LB l) : ∀ m ∈ c ++ [l], LB m := by
 rw [List.forall_mem_append]
 exact ⟨hc, by simpa using hl⟩
theorem LB.rev {l : LnQ} (h : LB l) : LB l.rev := ⟨⟨by rw [show l.rev.a = -l.a from rfl, Int.natAbs_neg]; exact h.bl.a, by rw [show l.rev.b = -l.b from rfl, Int.natAbs_neg]; exact h.bl.b, by rw [show l.rev.c = -l.c from rfl, Int.natAbs_neg]; exact h.bl.c⟩⟩
set_option maxHeartbeats 2000000 in
theorem q_Place {GB : Gh} {c : List LnQ} {l : LnQ} (hc : ∀ m ∈ c, LB m) (hok : ∀ m ∈ c, m.ok) (hn : c.length ≤ 900) (hl : LB l) (hlo : l.ok) : PF GB Tryz.prog 53 [.sl (c.map eL), eL l] (vI (placeL c l)) := by
 have hcl := mapL_len c
 refine fn Tryz.func53 rfl rfl Tryz.ntmps53 rfl rfl (fun C => ?_)
 refine ro0 rfl rfl <| ap (c.map eL) rfl rfl (slOkL _) rfl <| rf rfl rfl <| apf ((c ++ [l]).map eL) rfl (by rw [List.map_append]; rfl) (slOkL [l]) rfl <| ?_
 refine cl rfl (q_Inner (c := c ++ [l]) (lb_app hc hl) (ok_app hok hlo) (by simp; omega)) rfl <| ro0 rfl rfl <| ap (c.map eL) rfl rfl (slOkL _) rfl <| cl rfl (q_sRev (l := l)) rfl <| ?_
 refine rf rfl rfl <| apf ((c ++ [l.rev]).map eL) rfl (by rw [List.map_append]; rfl) (slOkL [l.rev]) rfl <| cl rfl (q_Inner (c := c ++ [l.rev]) (lb_app hc hl.rev) (ok_app hok hlo.rev) (by simp; omega)) rfl <| ?_
 refine csb 31 rfl rfl rfl (fun hg31 => ?_) (fun hg31 => ?_)
 ·
  refine bb rfl rfl rfl (fun hc33 => ?_) (fun hc33 => ?_)
  ·
   exact rz rfl (by show vI 0 = vI _; congr 1; unfold placeL; simp_all)
  ·
   refine bb rfl rfl rfl (fun hc34 => ?_) (fun hc34 => ?_)
   ·
    exact rz rfl (by show vI 1 = vI _; congr 1; unfold placeL; simp_all)
   ·
    exact rz rfl (by simp [hg31] at hc34)
 ·
  refine bb rfl rfl rfl (fun hc34 => ?_) (fun hc34 => ?_)
  ·
   exact rz rfl (by simp [hg31] at hc34)
  ·
   exact rz rfl (by show vI (-1) = vI _; congr 1; unfold placeL; simp_all)
theorem takeWhile_len {α : Type} {p : α → Bool} : ∀ {xs : List α} {n : Nat}, n ≤ xs.length → (∀ j (h : j < xs.length), j < n → p xs[j] = true) → (∀ h : n < xs.length, p xs[n] = false) → (xs.takeWhile p).length = n
 | [], n, h, _, _ => by simp at h; subst h; rfl
 | x :: xs, 0, _, _, h3 => by
   have := h3 (by simp)
   simp only [List.getElem_cons_zero] at this
   simp [List.takeWhile_cons, this]
 | x :: xs, n + 1, h1, h2, h3 => by
   have hx := h2 0 (by simp) (by omega)
   simp only [List.getElem_cons_zero] at hx
   rw [List.takeWhile_cons, if_pos hx, List.length_cons]
   rw [takeWhile_len (n := n) (by simpa using h1) (fun j h hj => by have := h2 (j + 1) (by simpa using h) (by omega); simpa using this) (fun h => by have := h3 (by simpa using h); simpa using this)]
theorem angIdx_eq {xs : List LnQ} {l : LnQ} {n : Nat} (h1 : n ≤ xs.length) (h2 : ∀ j (h : j < xs.length), j < n → angleQ xs[j].dir l.dir < 0) (h3 : ∀ h : n < xs.length, ¬ angleQ xs[n].dir l.dir < 0) : angIdx xs l = n :=
 takeWhile_len h1 (fun j h hj => decide_eq_true (h2 j h hj)) (fun h => decide_eq_false (h3 h))
theorem canonIns_old {xs : List LnQ} {l : LnQ} {n : Nat} (hn : angIdx xs l = n) (h : n < xs.length) (e : xs[n] = l) : canonIns xs l = xs := by
 unfold canonIns; rw [hn, if_pos (by rw [List.getElem?_eq_getElem h, e])]
theorem canonIns_new {xs : List LnQ} {l : LnQ} {n : Nat} (hn : angIdx xs l = n) (h : ∀ h : n < xs.length, xs[n] ≠ l) : canonIns xs l = xs.take n ++ l :: xs.drop n := by
 unfold canonIns
 rw [hn, if_neg]
 intro e
 obtain ⟨h1, h2⟩ := List.getElem?_eq_some_iff.1 e
 exact h h1 h2
theorem slOkLt (xs : List LnQ) (n : Nat) : slOk 6 ((xs.map eL).take n) := fun d hd => slOkL xs d (List.mem_of_mem_take hd)
theorem slOkLd (xs : List LnQ) (n m : Nat) : slOk 6 (((xs.map eL).take n).drop m) := fun d hd => slOkL xs d (List.mem_of_mem_take (List.mem_of_mem_drop hd))
theorem slOkLi (xs : List LnQ) (n m : Nat) (l : LnQ) : slOk 6 ([eL l] ++ ((xs.map eL).take n).drop m) := fun d hd => by
 rcases List.mem_append.1 hd with h | h
 · exact slOkL [l] d h
 · exact slOkLd xs n m d h
structure Cst (c : List LnQ) (k : Nat) (xs : List LnQ) : Prop where
 le : k ≤ c.length
 f : canonF c (c.drop k) xs = canonL c
 m : ∀ m ∈ xs, m ∈ c
 n : xs.length ≤ k
theorem Cst.skip {c xs : List LnQ} {k : Nat} (h : Cst c k xs) (hk : k < c.length) (e : (partL c[k] c IvQ.all).isSome = false) : Cst c (k + 1) xs := by
 have := h.f
 rw [List.drop_eq_getElem_cons hk, canonF, e] at this
 exact ⟨hk, this, h.m, by have := h.n; omega⟩
theorem Cst.ins {c xs ys : List LnQ} {k : Nat} (h : Cst c k xs) (hk : k < c.length) (e : (partL c[k] c IvQ.all).isSome = true) (hy : canonIns xs c[k] = ys) (hl : ys.length ≤ xs.length + 1) : Cst c (k + 1) ys := by
 have := h.f
 rw [List.drop_eq_getElem_cons hk, canonF, e, if_pos rfl, hy] at this
 refine ⟨hk, this, fun m hm => ?_, by have := h.n; omega⟩
 rw [← hy] at hm
 rcases mem_canonIns.1 hm with rfl | hm
 · exact List.getElem_mem hk
 · exact h.m m hm
theorem Cst.done {c xs : List LnQ} {k : Nat} (h : Cst c k xs) (hk : k = c.length) : canonL c = xs := by
 have := h.f
 rw [hk, List.drop_length, canonF] at this
 exact this.symm
def canonB (c : List LnQ) : Bool := if (((c.map eL).length : Nat) : Int) = 0 then true else decide ((0 : Int) < ((((canonL c).map eL).length : Nat) : Int))
theorem Cst.nil (c : List LnQ) : Cst c 0 [] := ⟨Nat.zero_le _, rfl, fun m hm => absurd hm (by simp), Nat.le_refl _⟩
set_option maxHeartbeats 4000000 in
theorem q_Canon {GB : Gh} {c : List LnQ} (hc : ∀ m ∈ c, LB m) (hok : ∀ m ∈ c, m.ok) (hn : c.length ≤ 1000) : PF GB Tryz.prog 28 [.sl (c.map eL)] (.tp [.sl ((canonL c).map eL), vB (canonB c)]) := by
 have hcl := mapL_len c
 refine fn (fu := ⟨16⟩) Tryz.func28 rfl rfl Tryz.ntmps28 rfl rfl (fun C => ?_)
 refine eqF 11 (.d (vI (c.length : Nat))) rfl (by rw [hcl]; rfl) ?_
 refine gx rfl <| ?_
 refine nlC 4 rfl ?_
 refine lp (X := List LnQ × Nat) (fun ⟨xs, k⟩ => [(12, .d (vI (k : Nat))), (11, .d (vI (c.length : Nat))), (10, .d (.sl (c.map eL))), (0, .d (.sl (c.map eL))), (4, .d (.sl (xs.map eL)))]) (fun ⟨xs, k⟩ => []) (fun ⟨xs, k⟩ => Cst c k xs) (fun ⟨xs, k⟩ => c.length - k) ⟨[], 0⟩ rfl (Cst.nil c) (fun _ => rfl) (fun ⟨xs, k⟩ hk => ?_)
 try dsimp only at hk ⊢
 have hS := hk
 refine br rfl rfl rfl (fun hc13 => ?_) (fun hc13 => ?_)
 ·
  have hk : k < c.length := by omega
  obtain ⟨m, hm⟩ : ∃ m, m = c[k] := ⟨_, rfl⟩
  haveI hmb : LB m := hm ▸ hc _ (List.getElem_mem hk)
  have hmo : m.ok := hm ▸ hok _ (List.getElem_mem hk)
  have hxl := mapL_len xs
  have hxn := hS.n
  refine ix (fu := ⟨1⟩) _ rfl (mapL_get hk) rfl <| ?_
  refine eqF 16 (.d (eL m)) rfl (by rw [hm]; rfl) ?_
  refine gx rfl <| cl rfl (q_edge hc hok hn hk) rfl <| ?_
  refine bb (fu2 := ⟨8⟩) rfl rfl rfl (fun hc24 => ?_) (fun hc24 => ?_)
  ·
   have hinv : Cst c (k + 1) xs := hS.skip hk (by rw [← edgeV_snd]; simpa using hc24)
   exact at_ ⟨xs, k + 1⟩ (by dsimp only; exact ⟨hinv, (by omega)⟩)
  ·
   have hyes : (partL c[k] c IvQ.all).isSome = true := by rw [← edgeV_snd]; simpa using hc24
   refine mg (fu := ⟨6⟩) (X := Unit) (fun _ => [(12, .d (vI (k : Nat))), (11, .d (vI (c.length : Nat))), (10, .d (.sl (c.map eL))), (0, .d (.sl (c.map eL))), (4, .d (.sl (xs.map eL))), (6, .ov 6 0), (9, .d (vI (angIdx xs m : Nat)))]) (fun _ => [(6, some (.o 32 [.d ((.v (.bool (decide (m.a < 0))))), .d (dN m.a.natAbs), .d ((.v (.bool (decide (m.b < 0))))), .d (dN m.b.natAbs), .d ((.v (.bool (decide (m.c < 0))))), .d (dN m.c.natAbs)] true))]) (fun _ => True) [12, 11, 10, 0, 4, 6, 9] [6] rfl ?_ (fun _ => rfl) (fun _ _ => ?_)
   ·
    refine gx rfl <| ?_
    refine lp (fu := ⟨6⟩) (X := Nat) (fun n => [(12, .d (vI (k : Nat))), (11, .d (vI (c.length : Nat))), (10, .d (.sl (c.map eL))), (0, .d (.sl (c.map eL))), (4, .d (.sl (xs.map eL))), (6, .ov 6 0), (9, .d (vI (n : Nat)))]) (fun n => [(6, some (.o 32 [.d ((.v (.bool (decide (m.a < 0))))), .d (dN m.a.natAbs), .d ((.v (.bool (decide (m.b < 0))))), .d (dN m.b.natAbs), .d ((.v (.bool (decide (m.c < 0))))), .d (dN m.c.natAbs)] true))]) (fun n => n ≤ xs.length ∧ ∀ j (h : j < xs.length), j < n → angleQ xs[j].dir m.dir < 0) (fun n => xs.length - n) 0 rfl ⟨Nat.zero_le _, fun j _ hj => absurd hj (by omega)⟩ (fun _ => rfl) (fun n hk => ?_)
    obtain ⟨n1, n2⟩ := hk
    refine csS rfl rfl rfl rfl (fun hg28 => ?_) (fun hg28 => ?_)
    ·
     refine ix _ rfl (mapL_get (by omega)) rfl <| ?_
     haveI : LB (xs[n]'(by omega)) := hc _ (hS.m _ (List.getElem_mem _))
     refine cl rfl (q_Dir (l := xs[n]'(by omega))) rfl <| cl rfl (q_Dir (l := m)) rfl <| cl rfl (q_Angle (u := (xs[n]'(by omega)).dir) (v := m.dir)) rfl <| ?_
     refine br rfl rfl rfl (fun hc39 => ?_) (fun hc39 => ?_)
     ·
      exact at_ (n + 1) ⟨⟨by omega, fun j h hj => by by_cases q : j = n; (subst q; exact hc39); exact n2 j h (by omega)⟩, (by omega)⟩
     ·
      have hidx : angIdx xs m = n := angIdx_eq n1 n2 (fun h => hc39)
      exact at_ () trivial
    ·
     have hidx : angIdx xs m = n := angIdx_eq n1 n2 (fun h => absurd h (by omega))
     exact at_ () trivial
   ·
    obtain ⟨n, hnx⟩ : ∃ n, angIdx xs m = n := ⟨_, rfl⟩
    rw [hnx]
    have hnl : n ≤ xs.length := by rw [← hnx]; unfold angIdx; exact (List.takeWhile_sublist _).length_le
    have hcb : ∀ m ∈ xs, LB m := fun m hm => hc m (hS.m m hm)
    refine csS rfl rfl rfl rfl (fun hg45 => ?_) (fun hg45 => ?_)
    ·
     refine ix _ rfl (mapL_get (by omega)) rfl <| cl rfl (q_LCmp (l := xs[n]'(by omega)) (m := m) (hl := hcb _ (List.getElem_mem (by omega)))) rfl <| ?_
     refine br rfl rfl rfl (fun hc54 => ?_) (fun hc54 => ?_)
     ·
      have hn46 : n < xs.length := by omega
      have hinv : Cst c (k + 1) xs := hS.ins hk hyes (by rw [← hm]; exact canonIns_old hnx hn46 ((lcmp_zero _ m).1 hc54)) (by omega)
      exact at_ ⟨xs, k + 1⟩ (by dsimp only; exact ⟨hinv, (by omega)⟩)
     ·
      have hnew : ∀ h : n < xs.length, xs[n] ≠ m := fun h e => hc54 ((lcmp_zero _ m).2 e)
      obtain ⟨ys, hys⟩ : ∃ ys, ys = xs.take n ++ m :: xs.drop n := ⟨_, rfl⟩
      have hinv : Cst c (k + 1) ys := hS.ins hk hyes (by rw [← hm, canonIns_new hnx hnew, hys]) (by rw [hys]; simp; omega)
      refine s3 n _ rfl rfl rfl rfl (slOkL _) (by rw [hxl]; exact hnl) rfl <| ro rfl rfl <| sc' n xs.length _ rfl rfl (by rw [hxl]) rfl (slOkL _) hnl (by omega) rfl <| ?_
      refine ap _ rfl rfl (slOkLd _ _ _) rfl <| apf (hv := by simp only [allP]; exact ⟨by kernel_rfl, by omega⟩) (ho := fun _ => ⟨slOkLt _ _, by simp⟩) (ys.map eL) rfl (by rw [hys, List.map_append, List.map_cons, List.map_take, List.map_drop, List.take_of_length_le (l := xs.map eL) (i := xs.length) (by simp)]; rfl) (slOkLi _ _ _ _) rfl <| ?_
      exact at_ ⟨ys, k + 1⟩ (by dsimp only; exact ⟨hinv, (by omega)⟩)
    ·
     have hnew : ∀ h : n < xs.length, xs[n] ≠ m := fun h => absurd h (by omega)
     obtain ⟨ys, hys⟩ : ∃ ys, ys = xs.take n ++ m :: xs.drop n := ⟨_, rfl⟩
     have hinv : Cst c (k + 1) ys := hS.ins hk hyes (by rw [← hm, canonIns_new hnx hnew, hys]) (by rw [hys]; simp; omega)
     refine s3 n _ rfl rfl rfl rfl (slOkL _) (by rw [hxl]; exact hnl) rfl <| ro rfl rfl <| sc' n xs.length _ rfl rfl (by rw [hxl]) rfl (slOkL _) hnl (by omega) rfl <| ?_
     refine ap _ rfl rfl (slOkLd _ _ _) rfl <| apf (hv := by simp only [allP]; exact ⟨by kernel_rfl, by omega⟩) (ho := fun _ => ⟨slOkLt _ _, by simp⟩) (ys.map eL) rfl (by rw [hys, List.map_append, List.map_cons, List.map_take, List.map_drop, List.take_of_length_le (l := xs.map eL) (i := xs.length) (by simp)]; rfl) (slOkLi _ _ _ _) rfl <| ?_
     exact at_ ⟨ys, k + 1⟩ (by dsimp only; exact ⟨hinv, (by omega)⟩)
 ·
  have hfin : canonL c = xs := hS.done (by have := hS.le; omega)
  refine cs 71 rfl rfl rfl (fun hg71 => ?_) (fun hg71 => ?_)
  ·
   exact rz rfl (by rw [canonB, if_pos hg71, hfin]; rfl)
  ·
   exact rz rfl (by rw [canonB, if_neg hg71, hfin]; rfl)
end Go.Sx
end

section
set_option maxRecDepth 100000
namespace Go.Sx
open Go Go.Proofs
theorem canonIns_len (out : List LnQ) (l : LnQ) : (canonIns out l).length ≤ out.length + 1 := by
 unfold canonIns
 split
 · omega
 · simp; omega
theorem canonF_len (c : List LnQ) : ∀ (t out : List LnQ), (canonF c t out).length ≤ out.length + t.length
 | [], out => by simp [canonF]
 | l :: t, out => by
   rw [canonF]
   refine Nat.le_trans (canonF_len c t _) ?_
   have := canonIns_len out l
   split <;> simp <;> omega
theorem canonL_len (c : List LnQ) : (canonL c).length ≤ c.length := Nat.le_trans (canonF_len c c []) (by simp)
theorem lb_can {c : List LnQ} (h : ∀ m ∈ c, LB m) : ∀ m ∈ canonL c, LB m := fun m hm => h m (mem_canonL.1 hm).1
theorem ok_can {c : List LnQ} (h : ∀ m ∈ c, m.ok) : ∀ m ∈ canonL c, m.ok := fun m hm => h m (mem_canonL.1 hm).1
theorem q_with {GB : Gh} {c : List LnQ} {l : LnQ} (hc : ∀ m ∈ c, LB m) (hok : ∀ m ∈ c, m.ok) (hn : c.length ≤ 900) (hl : LB l) (hlo : l.ok) : PF GB Tryz.prog 55 [.sl (c.map eL), eL l] (.sl ((canonL (c ++ [l])).map eL)) := by
 have hcl := mapL_len c
 refine fn Tryz.func55 rfl rfl Tryz.ntmps55 rfl rfl (fun C => ?_)
 refine ro0 rfl rfl <| ap (c.map eL) rfl rfl (slOkL _) rfl <| rf rfl rfl <| apf ((c ++ [l]).map eL) rfl (by rw [List.map_append]; rfl) (slOkL [l]) rfl <| ?_
 refine cl rfl (q_Canon (c := c ++ [l]) (lb_app hc hl) (ok_app hok hlo) (by simp; omega)) rfl <| ?_
 exact rz rfl rfl
theorem q_join_n {GB : Gh} {l l1 : LnQ} {x y u : Tr} : PF GB Tryz.prog 54 [eL l, eT (.node l1 x y), eT u] (eT (.node l (.node l1 x y) u)) := by
 refine fn (fu := ⟨12⟩) Tryz.func54 rfl rfl Tryz.ntmps54 rfl rfl (fun C => ?_)
 refine knF rfl rfl rfl <| ?_
 refine fzE 33 rfl ?_
 exact rz rfl rfl
theorem q_join_ln {GB : Gh} {l l1 : LnQ} {x y : Tr} {p : Bool} : PF GB Tryz.prog 54 [eL l, eT (.leaf p), eT (.node l1 x y)] (eT (.node l (.leaf p) (.node l1 x y))) := by
 refine fn (fu := ⟨12⟩) Tryz.func54 rfl rfl Tryz.ntmps54 rfl rfl (fun C => ?_)
 refine knT (fu := ⟨4⟩) rfl rfl rfl <| knF rfl rfl rfl <| ?_
 refine fzE 33 rfl ?_
 exact rz rfl rfl
theorem q_join_ll {GB : Gh} {l : LnQ} {p q : Bool} : PF GB Tryz.prog 54 [eL l, eT (.leaf p), eT (.leaf q)] (eT (Tr.joinQ l (.leaf p) (.leaf q))) := by
 refine fn (fu := ⟨12⟩) Tryz.func54 rfl rfl Tryz.ntmps54 rfl rfl (fun C => ?_)
 refine knT (fu := ⟨4⟩) rfl rfl rfl <| knT rfl rfl rfl <| ?_
 refine bd rfl rfl rfl (fun hc27 => ?_) (fun hc27 => ?_)
 ·
  exact rz rfl (by rw [show Tr.joinQ l (.leaf p) (.leaf q) = .leaf p by simp [Tr.joinQ, Tr.isLeaf, Tr.code, hc27]]; rfl)
 ·
  refine fzE 33 rfl ?_
  exact rz rfl (by rw [show Tr.joinQ l (.leaf p) (.leaf q) = .node l (.leaf p) (.leaf q) by simp [Tr.joinQ, Tr.isLeaf, Tr.code, hc27]]; rfl)
theorem q_join {GB : Gh} {l : LnQ} : ∀ {x y : Tr}, PF GB Tryz.prog 54 [eL l, eT x, eT y] (eT (Tr.joinQ l x y))
 | .leaf _, .leaf _ => q_join_ll
 | .leaf _, .node .. => q_join_ln
 | .node .., _ => q_join_n
theorem q_RRestrict_leaf {GB : Gh} {b : Bool} {c : List LnQ} : PF GB Tryz.prog 17 [eT (.leaf b), .sl (c.map eL)] (eT (Tr.restrictL (.leaf b) c)) := by
 refine fn (fu := ⟨11⟩) Tryz.func17 rfl rfl Tryz.ntmps17 rfl rfl (fun C => ?_)
 refine knT rfl rfl rfl <| ?_
 exact rz rfl rfl
theorem q_RRestrict_node {GB : Gh} {l : LnQ} {x y : Tr} {c : List LnQ} (hl : LB l) (hlo : l.ok) (hc : ∀ m ∈ c, LB m) (hok : ∀ m ∈ c, m.ok) (hn : c.length + (Tr.node l x y).depth ≤ 900) (ihx : ∀ {c : List LnQ}, (∀ m ∈ c, LB m) → (∀ m ∈ c, m.ok) → c.length + x.depth ≤ 900 → PF GB Tryz.prog 17 [eT x, .sl (c.map eL)] (eT (Tr.restrictL x c))) (ihy : ∀ {c : List LnQ}, (∀ m ∈ c, LB m) → (∀ m ∈ c, m.ok) → c.length + y.depth ≤ 900 → PF GB Tryz.prog 17 [eT y, .sl (c.map eL)] (eT (Tr.restrictL y c))) : PF GB Tryz.prog 17 [eT (.node l x y), .sl (c.map eL)] (eT (Tr.restrictL (.node l x y) c)) := by
 have hdp : (Tr.node l x y).depth = 1 + Nat.max x.depth y.depth := rfl
 have hdx : x.depth ≤ Nat.max x.depth y.depth := Nat.le_max_left _ _
 have hdy : y.depth ≤ Nat.max x.depth y.depth := Nat.le_max_right _ _
 have hca := canonL_len (c ++ [l])
 have hcb := canonL_len (c ++ [l.rev])
 rw [List.length_append, List.length_singleton] at hca hcb
 refine fn (fu := ⟨11⟩) Tryz.func17 rfl rfl Tryz.ntmps17 rfl rfl (fun C => ?_)
 refine knF rfl rfl rfl <| cl rfl (q_Place (c := c) (l := l) hc hok (by omega) hl hlo) rfl <| ?_
 refine br rfl rfl rfl (fun hc16 => ?_) (fun hc16 => ?_)
 ·
  refine cl rfl (ihx hc hok (by omega)) rfl <| ?_
  exact rz rfl (by rw [Tr.restrictL, if_pos hc16]; rfl)
 ·
  refine br rfl rfl rfl (fun hc24 => ?_) (fun hc24 => ?_)
  ·
   refine cl rfl (ihy hc hok (by omega)) rfl <| ?_
   exact rz rfl (by rw [Tr.restrictL, if_neg hc16, if_pos hc24]; rfl)
  ·
   refine cl rfl (q_with (c := c) (l := l) hc hok (by omega) hl hlo) rfl <| cl rfl (ihx (c := canonL (c ++ [l])) (lb_can (lb_app hc hl)) (ok_can (ok_app hok hlo)) (by omega)) rfl <| ?_
   refine cl rfl (q_sRev (l := l)) rfl <| cl rfl (q_with (c := c) (l := l.rev) hc hok (by omega) hl.rev hlo.rev) rfl <| cl rfl (ihy (c := canonL (c ++ [l.rev])) (lb_can (lb_app hc hl.rev)) (ok_can (ok_app hok hlo.rev)) (by omega)) rfl <| ?_
   refine cl rfl q_join rfl <| ?_
   exact rz rfl (by rw [Tr.restrictL, if_neg hc16, if_neg hc24]; rfl)
theorem q_RRestrict {GB : Gh} : ∀ {t : Tr} {c : List LnQ}, t.all LB → t.all LnQ.ok → (∀ m ∈ c, LB m) → (∀ m ∈ c, m.ok) → c.length + t.depth ≤ 900 → PF GB Tryz.prog 17 [eT t, .sl (c.map eL)] (eT (Tr.restrictL t c))
 | .leaf _, _, _, _, _, _, _ => q_RRestrict_leaf
 | .node l x y, c, hb, ho, hc, hok, hn => q_RRestrict_node hb.1 ho.1 hc hok hn (fun h1 h2 h3 => q_RRestrict hb.2.1 ho.2.1 h1 h2 h3) (fun h1 h2 h3 => q_RRestrict hb.2.2 ho.2.2 h1 h2 h3)
end Go.Sx
end

section
set_option maxRecDepth 100000
namespace Go.Sx
open Go Go.Proofs
theorem eN_get (xs ys : List NQ) (n : NQ) : ((xs ++ (n :: ys)).map eN)[((xs.length : Nat) : Int).toNat]? = some (eN n) := by simp
theorem eN_set (xs ys : List NQ) (n m : NQ) (e : DV) (h : e = eN m) : ((xs ++ (n :: ys)).map eN).set ((xs.length : Nat) : Int).toNat e = (xs ++ (m :: ys)).map eN := by subst h; simp
theorem q_write_true {GB : Gh} {ns : List NQ} : PB GB Tryz.prog 50 (fun w => [eT (.leaf true), .v (.slice w.a w.n w.c)]) 8 60 (ns.map eN) (fun w => .tp [.v (.slice w.a w.n w.c), .v (.int .i64 (Tr.num (.leaf true) ns.length))]) ((ns ++ Tr.wr (.leaf true) ns.length).map eN) := by
 refine PB.intro Tryz.func50 rfl rfl Tryz.ntmps50 (fun _ => rfl) ?_
 intro C w0
 refine sd_bh ((ns ++ Tr.wr (.leaf true) ns.length).map eN) (by simp [Tr.wr]) ?_
 refine qR <| tA rfl rfl <| tA rfl rfl <| sd_end <| sd_seq <| qR <| tM rfl rfl <| tY (yq_nilT rfl) rfl <| tY (yq_faE rfl rfl) rfl <| ?_
 refine tY (yq_ldE1 rfl rfl) rfl <| sd_end <| sd_condT rfl <| sd_seq <| qR <| tM rfl rfl <| tY (yq_nilT rfl) rfl <| tY (yq_faE rfl rfl) rfl <| tY (yq_ldE1 rfl rfl) rfl <| ?_
 refine sd_end <| sd_condT rfl <| qR <| tM rfl rfl <| tA rfl rfl <| tA rfl rfl <| sd_end <| sd_ret <| ?_
 exact sd_doneB (w := w0) (.tmp rfl (.tmp rfl .nil)) rfl (by repeat (first | exact .hd .. | apply BRemD.tl))
theorem q_write_false {GB : Gh} {ns : List NQ} : PB GB Tryz.prog 50 (fun w => [eT (.leaf false), .v (.slice w.a w.n w.c)]) 8 60 (ns.map eN) (fun w => .tp [.v (.slice w.a w.n w.c), .v (.int .i64 (Tr.num (.leaf false) ns.length))]) ((ns ++ Tr.wr (.leaf false) ns.length).map eN) := by
 refine PB.intro Tryz.func50 rfl rfl Tryz.ntmps50 (fun _ => rfl) ?_
 intro C w0
 refine sd_bh ((ns ++ Tr.wr (.leaf false) ns.length).map eN) (by simp [Tr.wr]) ?_
 refine qR <| tA rfl rfl <| tA rfl rfl <| sd_end <| sd_seq <| qR <| tM rfl rfl <| tY (yq_nilT rfl) rfl <| tY (yq_faE rfl rfl) rfl <| ?_
 refine tY (yq_ldE1 rfl rfl) rfl <| sd_end <| sd_condT rfl <| sd_seq <| qR <| tM rfl rfl <| tY (yq_nilT rfl) rfl <| tY (yq_faE rfl rfl) rfl <| tY (yq_ldE1 rfl rfl) rfl <| ?_
 refine sd_end <| sd_condF rfl <| sd_skipc <| qR <| tM rfl rfl <| tA rfl rfl <| tA rfl rfl <| sd_end <| sd_ret <| ?_
 exact sd_doneB (w := w0) (.tmp rfl (.tmp rfl .nil)) rfl (by repeat (first | exact .hd .. | apply BRemD.tl))
theorem q_write_node {GB : Gh} {l : LnQ} {s u : Tr} {ns : List NQ} (hl : BL l 96) (hs : ns.length + (1 + s.size + u.size) ≤ 1000000) (ihs : ∀ {ns : List NQ}, ns.length + s.size ≤ 1000000 → PB GB Tryz.prog 50 (fun w => [eT s, .v (.slice w.a w.n w.c)]) 8 60 (ns.map eN) (fun w => .tp [.v (.slice w.a w.n w.c), .v (.int .i64 (Tr.num s ns.length))]) ((ns ++ Tr.wr s ns.length).map eN)) (ihu : ∀ {ns : List NQ}, ns.length + u.size ≤ 1000000 → PB GB Tryz.prog 50 (fun w => [eT u, .v (.slice w.a w.n w.c)]) 8 60 (ns.map eN) (fun w => .tp [.v (.slice w.a w.n w.c), .v (.int .i64 (Tr.num u ns.length))]) ((ns ++ Tr.wr u ns.length).map eN)) : PB GB Tryz.prog 50 (fun w => [eT (.node l s u), .v (.slice w.a w.n w.c)]) 8 60 (ns.map eN) (fun w => .tp [.v (.slice w.a w.n w.c), .v (.int .i64 (Tr.num (.node l s u) ns.length))]) ((ns ++ Tr.wr (.node l s u) ns.length).map eN) := by
 refine PB.intro Tryz.func50 rfl rfl Tryz.ntmps50 (fun _ => rfl) ?_
 intro C w0
 refine qR <| tA rfl rfl <| tA rfl rfl <| sd_end <| sd_seq <| qR <| tM rfl rfl <| tY (yq_nilT rfl) rfl <| tY (yq_faE rfl rfl) rfl <| ?_
 refine tY (yq_ldE1 rfl rfl) rfl <| sd_end <| sd_condF rfl <| sd_skipc <| qR <| tM rfl rfl <| tY (yq_lenB rfl) rfl <| ?_
 refine sd_eq 20 (.d (.v (.int .i64 (ns.length : Nat)))) rfl (by simp) ?_
 refine tA rfl rfl <| sd_end <| qR <| tM rfl rfl <| tM rfl rfl <| tY (yq_nilT rfl) rfl <| tY (yq_faE rfl rfl) rfl <| tY (yq_ldE rfl rfl) rfl <| ?_
 refine tC (td_call rfl rfl (q_ToL hl) rfl) <| tY (yq_build rfl) rfl <| tF (tf_row rfl rfl rfl rfl rfl rfl rfl) <| ?_
 intro w1
 refine tF (tf_appendF (w := w0) rfl (by repeat (first | exact .hd .. | apply BRemD.tl)) (.bf rfl (okRow_spec rfl)) rfl (by simp only [List.length_map, List.length_cons, List.length_nil]; omega) rfl rfl) <| ?_
 intro w2
 refine sd_bh ((ns ++ [(⟨l, 0, 0⟩ : NQ)]).map eN) (by rw [List.map_append]; rfl) ?_
 refine tA rfl rfl <| sd_end <| qR <| tA rfl rfl <| tA rfl rfl <| sd_end <| qR <| tM rfl rfl <| tY (yq_nilT rfl) rfl <| ?_
 refine tY (yq_faE rfl rfl) rfl <| tY (yq_ldE1 rfl rfl) rfl <| tM rfl rfl <| tF (tf_callB (w := w2) rfl rfl (ihs (ns := ns ++ [(⟨l, 0, 0⟩ : NQ)]) (by simp; omega)) (by repeat (first | exact .hd .. | apply BRemD.tl)) rfl) <| ?_
 intro w3
 refine tM rfl rfl <| tY (yq_ext rfl rfl) rfl <| tY (yq_ext rfl rfl) rfl <| tA rfl rfl <| tA rfl rfl <| sd_end <| qR <| tM rfl rfl <| ?_
 refine tY (yq_nilT rfl) rfl <| tY (yq_faE rfl rfl) rfl <| tY (yq_ldE1 rfl rfl) rfl <| tM rfl rfl <| tF (tf_callB (w := w3) rfl rfl (ihu (ns := ns ++ [(⟨l, 0, 0⟩ : NQ)] ++ s.wr (ns ++ [(⟨l, 0, 0⟩ : NQ)]).length) (by simp [Tr.wr_len]; omega)) (by repeat (first | exact .hd .. | apply BRemD.tl)) rfl) <| ?_
 intro w4
 refine sd_bh ((ns ++ ((⟨l, 0, 0⟩ : NQ) :: (s.wr (ns.length + 1) ++ u.wr (ns.length + 1 + s.size)))).map eN) (by simp [Tr.wr_len, Nat.add_assoc, Nat.add_comm 1]) ?_
 refine tM rfl rfl <| tY (yq_ext rfl rfl) rfl <| tY (yq_ext rfl rfl) rfl <| tA rfl rfl <| tA rfl rfl <| sd_end <| qR <| tM rfl rfl <| ?_
 refine tM rfl rfl <| tM rfl rfl <| tM rfl rfl <| tM rfl rfl <| tM rfl rfl <| tY (yq_ixB rfl rfl (by omega) (by simp; omega)) rfl <| ?_
 refine tY (yq_faB rfl) rfl <| tC (td_storeBs (d := eN ⟨l, 0, 0⟩) rfl rfl (by repeat (first | exact .hd .. | apply BRemD.tl)) (eN_get ns _ ⟨l, 0, 0⟩) rfl rfl rfl) <| ?_
 refine sd_bh ((ns ++ ((⟨l, s.num (ns.length + 1), 0⟩ : NQ) :: (s.wr (ns.length + 1) ++ u.wr (ns.length + 1 + s.size)))).map eN) (by rw [eN_set _ _ _ ⟨l, s.num (ns.length + 1), 0⟩ _ (by simp [eN, DV.cells])]) ?_
 refine tY (yq_ixB rfl rfl (by omega) (by simp; omega)) rfl <| tY (yq_faB rfl) rfl <| tC (td_storeBs (d := eN ⟨l, s.num (ns.length + 1), 0⟩) rfl rfl (by repeat (first | exact .hd .. | apply BRemD.tl)) (eN_get ns _ ⟨l, s.num (ns.length + 1), 0⟩) rfl rfl rfl) <| ?_
 refine sd_bh ((ns ++ Tr.wr (.node l s u) ns.length).map eN) (by rw [eN_set _ _ _ ⟨l, s.num (ns.length + 1), u.num (ns.length + 1 + s.size)⟩ _ (by simp [eN, DV.cells, Tr.wr_len, Nat.add_assoc, Nat.add_comm 1])]; simp [Tr.wr]) ?_
 refine sd_end <| qR <| tM rfl rfl <| tM rfl rfl <| tA rfl rfl <| tA rfl rfl <| sd_end <| sd_ret <| ?_
 exact sd_doneB (w := w4) (.tmp rfl (.tmp rfl .nil)) rfl (by repeat (first | exact .hd .. | apply BRemD.tl))
theorem q_write {GB : Gh} : ∀ {t : Tr} {ns : List NQ}, t.all (fun l => BL l 96) → ns.length + t.size ≤ 1000000 → PB GB Tryz.prog 50 (fun w => [eT t, .v (.slice w.a w.n w.c)]) 8 60 (ns.map eN) (fun w => .tp [.v (.slice w.a w.n w.c), .v (.int .i64 (Tr.num t ns.length))]) ((ns ++ Tr.wr t ns.length).map eN)
 | .leaf true, ns, _, _ => q_write_true
 | .leaf false, ns, _, _ => q_write_false
 | .node l s u, ns, hb, hs => q_write_node hb.1 hs (fun h => q_write hb.2.1 h) (fun h => q_write hb.2.2 h)
theorem q_Write {GB : Gh} {t : Tr} (hb : t.all (fun l => BL l 96)) (hs : t.size ≤ 1000000) : PF GB Tryz.prog 13 [eT t] (eA t) := by
 refine PF.intro Tryz.func13 rfl rfl Tryz.ntmps13 rfl ?_
 intro C
 refine qR <| tF (tf_alloc rfl) <| ?_
 intro b1
 refine sd_end <| qR <| tF (tf_alloc rfl) <| ?_
 intro b2
 refine sd_end <| qR <| tM rfl rfl <| ?_
 refine sd_newB 8 60 ?_
 refine tF (tf_callB (w := ⟨none, 0, 0⟩) rfl rfl (q_write (t := t) (ns := []) hb (by simpa using hs)) (by repeat (first | exact .hd .. | apply BRemD.tl)) rfl) <| ?_
 intro w3
 refine tM rfl rfl <| tY (yq_ext rfl rfl) rfl <| tY (yq_ext rfl rfl) rfl <| tY (yq_faP rfl) rfl <| ?_
 refine sd_freezeB [7] (w := w3) (by repeat (first | exact .hd .. | apply BRemD.tl)) (by simp only [List.forall_mem_cons, List.not_mem_nil, false_implies, implies_true, and_true]; exact rfl) ?_
 refine tC (td_store1 rfl rfl (by first | (dsimp only [DV.cells, ovD, zs1, zs2, Nat.reduceAdd, zs3, zs4]; done) | exact rfl) (by repeat (first | exact .hd .. | apply OUpdD.tl)) rfl rfl rfl) <| ?_
 refine tY (yq_faP rfl) rfl <| tC (td_store1 rfl rfl (by first | (dsimp only [DV.cells, ovD, zs1, zs2, Nat.reduceAdd, zs3, zs4]; done) | exact rfl) (by repeat (first | exact .hd .. | apply OUpdD.tl)) rfl rfl rfl) <| ?_
 refine sd_end <| qR <| tY (yq_ldO rfl rfl) rfl <| tC (tdS rfl rfl rfl rfl rfl rfl) <| ?_
 refine sd_end <| sd_ret <| ?_
 exact sd_done (.agg rfl ii ii rfl .nil) rfl
end Go.Sx
end

section
set_option maxRecDepth 100000
namespace Go.Sx
open Go Go.Proofs
theorem slOkI (ds : List Int) : slOk 1 (ds.map vI) := fun d hd => by
 obtain ⟨n, _, rfl⟩ := List.mem_map.1 hd; exact ⟨rfl, rfl⟩
theorem mapN_get {ns : List NQ} {i : Nat} (h : i < ns.length) : (ns.map eN)[(i : Int).toNat]? = some (eN ns[i]) := by simp [h]
theorem mapN_len (ns : List NQ) : (ns.map eN).length = ns.length := List.length_map ..
theorem same_list {ns ms : List NQ} (hl : ns.length = ms.length) (h : ∀ j (h1 : j < ns.length) (h2 : j < ms.length), ns[j] = ms[j]) : ns = ms := List.ext_getElem hl h
theorem take_400 (es : List Int) : (es.map vI).take (min es.length 400) = (es.take 400).map vI := by
 rw [List.map_take]
 rcases Nat.le_total es.length 400 with h | h
 · rw [Nat.min_eq_left h, List.take_of_length_le (by simp), List.take_of_length_le (by simpa using h)]
 · rw [Nat.min_eq_right h]
theorem q_New {GB : Gh} {es : List Int} (hb : es.length ≤ 1125899906842624) : PN GB Tryz.prog 9 [.sl (es.map vI)] 93 Unit (fun _ => [.sl ((es.take 400).map vI), .v (.int .i64 (0 : Nat))]) := by
 have hel : (es.map vI).length = es.length := by simp
 refine fnN Tryz.func9 rfl rfl Tryz.ntmps9 rfl rfl (fun C hmb => ?_)
 refine sc' 0 (min es.length 400) ((es.take 400).map vI) rfl rfl (by rw [hel]; show (if _ then _ else _ : Int) = _; split <;> omega) (take_400 es) (slOkI _) (by omega) (by omega) rfl <| ?_
 exact rzN () rfl rfl rfl rfl rfl
theorem q_TSame {GB : Gh} {s t : Tr} (hs : s.all (fun l => BL l 96)) (ht : t.all (fun l => BL l 96)) (hn : s.size ≤ 1000000) : PF GB Tryz.prog 16 [eA s, eA t] (vB (decide (s.num 0 = t.num 0 ∧ s.wr 0 = t.wr 0))) := by
 have hbs := Tr.all_wr 0 hs
 have hbt := Tr.all_wr 0 ht
 have hsl := s.wr_len 0
 have hls := mapN_len (s.wr 0)
 have hlt := mapN_len (t.wr 0)
 unfold eA
 generalize hns : s.wr 0 = ns at *
 generalize hms : t.wr 0 = ms at *
 generalize ha : s.num 0 = a at *
 generalize hb : t.num 0 = b at *
 refine fn Tryz.func16 rfl rfl Tryz.ntmps16 rfl rfl (fun C => ?_)
 refine cs 13 rfl rfl rfl (fun hg13 => ?_) (fun hg13 => ?_)
 ·
  exact rz rfl (by first | (rw [decide_eq_true (⟨Decidable.not_not.1 hg13, same_list (by omega) (fun j p q => h2 j p q (by omega))⟩ : a = b ∧ ns = ms)]; rfl) | (rw [decide_eq_false (fun e : a = b ∧ ns = ms => by obtain ⟨e1, e2⟩ := e; subst e2; first | exact hg13 e1 | exact hc21 rfl | exact hg40 rfl | exact hg47 rfl | (simp at hc54))]; rfl))
 ·
  refine br (fu2 := ⟨8⟩) rfl rfl rfl (fun hc21 => ?_) (fun hc21 => ?_)
  ·
   exact rz rfl (by first | (rw [decide_eq_true (⟨Decidable.not_not.1 hg13, same_list (by omega) (fun j p q => h2 j p q (by omega))⟩ : a = b ∧ ns = ms)]; rfl) | (rw [decide_eq_false (fun e : a = b ∧ ns = ms => by obtain ⟨e1, e2⟩ := e; subst e2; first | exact hg13 e1 | exact hc21 rfl | exact hg40 rfl | exact hg47 rfl | (simp at hc54))]; rfl))
  ·
   refine eqF 24 (.d (vI (ns.length : Nat))) rfl (by rw [hls] <;> rfl) ?_
   refine gx rfl <| ?_
   refine lp (X := Nat) (fun i => [(25, .d (vI (i : Nat)))]) (fun i => []) (fun i => i ≤ ns.length ∧ ∀ j (h1 : j < ns.length) (h2 : j < ms.length), j < i → ns[j] = ms[j]) (fun i => ns.length - i) 0 rfl ⟨Nat.zero_le _, fun j _ _ hj => absurd hj (by omega)⟩ (fun _ => rfl) (fun i hk => ?_)
   obtain ⟨h1, h2⟩ := hk
   have hi2 : i < ns.length → i < ms.length := fun h => by omega
   refine br rfl rfl rfl (fun hc26 => ?_) (fun hc26 => ?_)
   ·
    refine ix _ rfl (mapN_get (by omega)) rfl <| ix _ rfl (mapN_get (by omega)) rfl <| ?_
    refine cs 40 rfl rfl rfl (fun hg40 => ?_) (fun hg40 => ?_)
    ·
     exact rz rfl (by first | (rw [decide_eq_true (⟨Decidable.not_not.1 hg13, same_list (by omega) (fun j p q => h2 j p q (by omega))⟩ : a = b ∧ ns = ms)]; rfl) | (rw [decide_eq_false (fun e : a = b ∧ ns = ms => by obtain ⟨e1, e2⟩ := e; subst e2; first | exact hg13 e1 | exact hc21 rfl | exact hg40 rfl | exact hg47 rfl | (simp at hc54))]; rfl))
    ·
     refine cs 47 rfl rfl rfl (fun hg47 => ?_) (fun hg47 => ?_)
     ·
      exact rz rfl (by first | (rw [decide_eq_true (⟨Decidable.not_not.1 hg13, same_list (by omega) (fun j p q => h2 j p q (by omega))⟩ : a = b ∧ ns = ms)]; rfl) | (rw [decide_eq_false (fun e : a = b ∧ ns = ms => by obtain ⟨e1, e2⟩ := e; subst e2; first | exact hg13 e1 | exact hc21 rfl | exact hg40 rfl | exact hg47 rfl | (simp at hc54))]; rfl))
     ·
      refine cl rfl (q_SameL (l := (ns[i]'(by omega)).l) (m := (ms[i]'(by omega)).l) (hbs _ (List.getElem_mem (by omega))) (hbt _ (List.getElem_mem (by omega)))) rfl <| ?_
      refine bb rfl rfl rfl (fun hc54 => ?_) (fun hc54 => ?_)
      ·
       exact rz rfl (by first | (rw [decide_eq_true (⟨Decidable.not_not.1 hg13, same_list (by omega) (fun j p q => h2 j p q (by omega))⟩ : a = b ∧ ns = ms)]; rfl) | (rw [decide_eq_false (fun e : a = b ∧ ns = ms => by obtain ⟨e1, e2⟩ := e; subst e2; first | exact hg13 e1 | exact hc21 rfl | exact hg40 rfl | exact hg47 rfl | (simp at hc54))]; rfl))
      ·
       exact at_ (i + 1) ⟨⟨by omega, fun j p q hj => by by_cases e : j = i; (subst e; exact NQ.ext' (by simpa using hc54) (Decidable.not_not.1 hg40) (Decidable.not_not.1 hg47)); exact h2 j p q (by omega)⟩, (by omega)⟩
   ·
    exact rz rfl (by first | (rw [decide_eq_true (⟨Decidable.not_not.1 hg13, same_list (by omega) (fun j p q => h2 j p q (by omega))⟩ : a = b ∧ ns = ms)]; rfl) | (rw [decide_eq_false (fun e : a = b ∧ ns = ms => by obtain ⟨e1, e2⟩ := e; subst e2; first | exact hg13 e1 | exact hc21 rfl | exact hg40 rfl | exact hg47 rfl | (simp at hc54))]; rfl))
end Go.Sx
end

section
set_option maxRecDepth 100000
namespace Go.Sx
open Go Go.Proofs
def nilP : DV := .v (.pointer none)
def cTd (l : LnQ) (p q : DV) : List DV := [.v (.bool false), .v (.bool false), .v (.bool (decide (l.a < 0))), dN l.a.natAbs, .v (.bool (decide (l.b < 0))), dN l.b.natAbs, .v (.bool (decide (l.c < 0))), dN l.c.natAbs, p, q]
inductive RF (ns : List RN) : Int → (Nat → Bool) → DV → Bool → (Nat → Bool) → Prop where
 | leaf (b : Bool) (f : Nat → Bool) : RF ns (leafCode b) f (eT (.leaf b)) true f
 | bad (rt : Int) (f : Nat → Bool) (h1 : rt ≠ -1) (h2 : rt ≠ -2) (h : rt < 0 ∨ (ns.length : Int) ≤ rt ∨ (∃ k : Nat, rt = k ∧ k < ns.length ∧ f k = true)) : RF ns rt f nilP false f
 | line (k : Nat) (n : RN) (f : Nat → Bool) (h : ns[k]? = some n) (hf : f k = false) (hl : n.g.ln = none) : RF ns (k : Int) f nilP false (setF f k)
 | left (k : Nat) (n : RN) (l : LnQ) (f f2 : Nat → Bool) (p : DV) (h : ns[k]? = some n) (hf : f k = false) (hl : n.g.ln = some l) (h1 : RF ns n.l (setF f k) p false f2) : RF ns (k : Int) f nilP false f2
 | node (k : Nat) (n : RN) (l : LnQ) (f f2 f3 : Nat → Bool) (p q : DV) (ok : Bool) (h : ns[k]? = some n) (hf : f k = false) (hl : n.g.ln = some l) (h1 : RF ns n.l (setF f k) p true f2) (h2 : RF ns n.r f2 q ok f3) : RF ns (k : Int) f (.pt (cTd l p q)) ok f3
def allK (n : Nat) (f : Nat → Bool) : Bool := (List.range n).all f
end Go.Sx
end

section
set_option maxRecDepth 100000
namespace Go.Sx
open Go Go.Proofs
theorem Tr.all_imp {p q : LnQ → Prop} (h : ∀ l, p l → q l) : ∀ {t : Tr}, t.all p → t.all q
 | .leaf _, _ => trivial
 | .node _ _ _, ⟨h0, h1, h2⟩ => ⟨h _ h0, Tr.all_imp h h1, Tr.all_imp h h2⟩
theorem Tr.gd.bl {t : Tr} (h : t.gd) : t.all (fun l => BL l 96) := Tr.all_imp (fun _ h => h.bl) h.lb
theorem wr_n {t : Tr} (hs : t.size ≤ 65536) : ((t.wr 0).map RN.of).length ≤ 65536 := by rw [List.length_map, t.wr_len]; exact hs
def l00 : LnQ := ⟨0, 1, 0⟩
def t00 : Tr := .node l00 (.leaf true) (.leaf false)
theorem l00_eq : thrL 0 0 1 0 = l00 := by kernel_rfl
theorem l00_lb : LB l00 := ⟨⟨by decide, by decide, by decide⟩⟩
theorem l00_ok : l00.ok := by decide
end Go.Sx
end
