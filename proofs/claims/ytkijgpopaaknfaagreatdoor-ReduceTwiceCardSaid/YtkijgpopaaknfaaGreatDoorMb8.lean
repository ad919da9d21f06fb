/-
  Drawn regions with several allocs that may come at any time. Package geo: Sample, Cut, Cmp, Equal, half, Angle. Package geo: cells; part, Place. Package geo: Place, the order of sides, binary search. Binary search and insertion in rows of sides. Insertion into a row of sides.
-/
import Derived.Test.YtkijgpopaaknfaaGreatDoorMb7
section
set_option maxRecDepth 100000
namespace Go.Sx
open Go

section
variable {P : Program} {ops : Array Oper} {Q : Exit → Act → World → Prop} {S : World → Prop} {fin : Nat → Bool} {π₂ : List (Nat × Bool)}

def without (l : List Nat) (k : Nat) : List Nat := l.filter fun j => !Nat.beq j k
theorem without_lt {l : List Nat} {k : Nat} (h : k ∈ l) : (without l k).length < l.length := by
  unfold without
  rw [List.length_filter_lt_length_iff_exists]
  exact ⟨k, h, by simp⟩
def orderOkG (ops : Array Oper) (fin : Nat → Bool) (π₂ : List (Nat × Bool)) : Nat → List Nat → List (Nat × Bool) → Array Bool → Bool
  | 0, _, _, _ => false
  | _ + 1, [], [], listed => orderOk ops fin π₂ listed
  | n + 1, k :: ks, [], listed => !(Region.ready .any ops listed).isEmpty && (Region.ready .any ops listed).all (fun j => (k :: ks).contains j) && (k :: ks).all fun j => orderOkG ops fin π₂ n (without (k :: ks) j) [] (listed.setIfInBounds j true)
  | n + 1, ks, (i, true) :: r, listed => takeOk ops fin listed i && orderOkG ops fin π₂ n ks r (listed.setIfInBounds i true)
  | n + 1, ks, (i, false) :: r, listed => !(Region.ready .any ops listed).isEmpty && (Region.ready .any ops listed).all (fun j => Nat.beq j i || ks.contains j) && orderOkG ops fin π₂ n ks r (listed.setIfInBounds i true) && ks.all fun j => orderOkG ops fin π₂ n (without ks j) ((i, false) :: r) (listed.setIfInBounds j true)
def dwG (P : Program) (ops : Array Oper) (Q : Exit → Act → World → Prop) (S : World → Prop) (fin : Nat → Bool) (π₂ : List (Nat × Bool)) : List Nat → List (Nat × Bool) → Act → World → Prop
  | [], [], a, w => dwL P ops Q S fin π₂ a w
  | k :: ks, [], a, w => ∀ j, (h : j ∈ k :: ks) → wpOp P ops Q j (fun a' w' => (fin j = true ∨ S w') ∧ dwG P ops Q S fin π₂ (without (k :: ks) j) [] a' w') a w
  | ks, (i, true) :: r, a, w => ∃ o v, ops[i]? = some o ∧ S w ∧ YieldsIf P ops S o v a ∧ dwG P ops Q S fin π₂ ks r (a.put o.dst v) w
  | ks, (i, false) :: r, a, w => wpOp P ops Q i (fun a' w' => (fin i = true ∨ S w') ∧ dwG P ops Q S fin π₂ ks r a' w') a w ∧
      ∀ j, (h : j ∈ ks) → wpOp P ops Q j (fun a' w' => (fin j = true ∨ S w') ∧ dwG P ops Q S fin π₂ (without ks j) ((i, false) :: r) a' w') a w
termination_by ks π => ks.length + π.length
decreasing_by
  all_goals (first | (have := without_lt h; simp only [List.length_cons, List.length_nil] at *; omega) | (simp only [List.length_cons]; omega))

theorem wpAnyZ_of_orderG (hQ : ∀ c a d v w, Q (.panic c) (Act.put a d v) w → Q (.panic c) a w) : ∀ (n : Nat) (ks : List Nat) (π : List (Nat × Bool)) (listed : Array Bool) (a : Act) (w : World), orderOkG ops fin π₂ n ks π listed = true → dwG P ops Q S fin π₂ ks π a w → ∀ fuel, ks.length + π.length + π₂.length ≤ fuel → wpAnyZ P ops Q S fin fuel listed a w
  | 0, ks, π, listed, a, w, ho, h, fuel, hf => by simp [orderOkG] at ho
  | n + 1, [], [], listed, a, w, ho, h, fuel, hf => by
    rw [dwG] at h
    simp only [orderOkG] at ho
    exact wpAnyZ_of_order hQ π₂ _ _ _ ho h fuel (by simpa using hf)
  | n + 1, k :: ks, [], listed, a, w, ho, h, 0, hf => by simp at hf
  | n + 1, k :: ks, [], listed, a, w, ho, h, fuel + 1, hf => by
    rw [dwG] at h
    simp only [orderOkG, Bool.and_eq_true, List.all_eq_true, Bool.not_eq_true'] at ho
    obtain ⟨⟨h1, h2⟩, h3⟩ := ho
    refine ⟨fun h0 => by rw [h0] at h1; simp at h1, fun j hj => ?_⟩
    have hjk : j ∈ k :: ks := by have := h2 j hj; simpa using this
    exact wpOp_mono (fun a' w' h' => ⟨h'.1, wpAnyZ_of_orderG hQ n _ _ _ _ _ (h3 j hjk) h'.2 fuel (by have := without_lt hjk; simp only [List.length_cons, List.length_nil] at *; omega)⟩) (h j hjk)
  | n + 1, ks, (i, true) :: r, listed, a, w, ho, h, 0, hf => by simp at hf
  | n + 1, ks, (i, true) :: r, listed, a, w, ho, h, fuel + 1, hf => by
    rw [dwG] at h
    obtain ⟨o, v, hoi, hS, hy, hk⟩ := h
    simp only [orderOkG, takeOk, Bool.and_eq_true] at ho
    obtain ⟨⟨⟨⟨h1, h2⟩, h3⟩, h4⟩, h5⟩ := ho
    obtain ⟨h6, h7⟩ := finOk_spec h4
    exact wpAnyZ_first hoi (Region.noSelect_spec h1) (fun c a w => hQ c a _ _ w) h6 h7 fuel listed a w (Region.free_spec hoi h2) (by simpa using h3) hy hS
      (wpAnyZ_of_orderG hQ n _ _ _ _ _ h5 hk fuel (by simp only [List.length_cons] at hf; omega))
  | n + 1, ks, (i, false) :: r, listed, a, w, ho, h, 0, hf => by simp at hf
  | n + 1, ks, (i, false) :: r, listed, a, w, ho, h, fuel + 1, hf => by
    rw [dwG] at h
    simp only [orderOkG, Bool.and_eq_true, List.all_eq_true, Bool.not_eq_true'] at ho
    obtain ⟨⟨⟨h1, h2⟩, h3⟩, h4⟩ := ho
    refine ⟨fun h0 => by rw [h0] at h1; simp at h1, fun j hj => ?_⟩
    have := h2 j hj
    simp only [Bool.or_eq_true] at this
    rcases this with e | e
    · replace e := Nat.eq_of_beq_eq_true e
      subst e
      exact wpOp_mono (fun a' w' h' => ⟨h'.1, wpAnyZ_of_orderG hQ n _ _ _ _ _ h3 h'.2 fuel (by simp only [List.length_cons] at hf; omega)⟩) h.1
    · have hjk : j ∈ ks := by simpa using e
      exact wpOp_mono (fun a' w' h' => ⟨h'.1, wpAnyZ_of_orderG hQ n _ _ _ _ _ (h4 j hjk) h'.2 fuel (by have := without_lt hjk; simp only [List.length_cons] at *; omega)⟩) (h.2 j hjk)
end

/-- An alloc that may come at any time: its number, slot, type, zero value. -/
structure FD where
  k : Nat
  d : Nat
  t : TypeId
  z : Value
abbrev Fs := Nat → Option Nat
def fFs : List FD → Fs → Fr
  | [], _ => []
  | f :: r, fs => fF f.d (fs f.k) ++ fFs r fs
def fOs : List FD → Fs → List Own
  | [], _ => []
  | f :: r, fs => fO f.t f.z (fs f.k) ++ fOs r fs
def pend (fd : List FD) (fs : Fs) : List Nat := (fd.filter fun f => (fs f.k).isNone).map (·.k)
def updF (fs : Fs) (k b : Nat) : Fs := fun j => if j = k then some b else fs j
theorem pend_upd (fs : Fs) (k b : Nat) : ∀ fd : List FD, pend fd (updF fs k b) = without (pend fd fs) k
  | [] => rfl
  | f :: r => by
    have ih := pend_upd fs k b r
    unfold pend without at *
    simp only [List.filter_cons]
    by_cases h : f.k = k
    · have e1 : (updF fs k b f.k).isNone = false := by simp [updF, h]
      rw [e1]
      simp only [Bool.false_eq_true, if_false]
      split
      · rw [List.map_cons, List.filter_cons, ih]
        simp [h]
      · exact ih
    · have e1 : updF fs k b f.k = fs f.k := by simp [updF, h]
      rw [e1]
      split
      · rw [List.map_cons, List.map_cons, List.filter_cons, ih]
        have : Nat.beq f.k k = false := by
          cases hb : Nat.beq f.k k with
          | false => rfl
          | true => exact absurd (Nat.eq_of_beq_eq_true hb) h
        simp [this]
      · exact ih
theorem look_app (x y : Fr) (j : Nat) : look (x ++ y) j = match look x j with | some v => some v | none => look y j := by
  induction x with
  | nil => rfl
  | cons e t ih =>
    obtain ⟨k, v⟩ := e
    rw [List.cons_append, look_cons, look_cons]
    split
    · rfl
    · exact ih
theorem look_fFs_upd {fs : Fs} {k b : Nat} (hk : fs k = none) {j : Nat} {v : Value} : ∀ fd : List FD, look (fFs fd (updF fs k b)) j = some v → (∃ f ∈ fd, f.k = k ∧ f.d = j ∧ v = .pointer (some ⟨b, 0, none⟩)) ∨ look (fFs fd fs) j = some v
  | [], h => by cases h
  | f :: r, h => by
    simp only [fFs] at h ⊢
    by_cases e : f.k = k
    · have e1 : updF fs k b f.k = some b := by simp [updF, e]
      have e2 : fs f.k = none := by rw [e]; exact hk
      rw [e1] at h
      rw [e2]
      simp only [fF, List.cons_append, List.nil_append, look_cons] at h ⊢
      split at h
      · rename_i hd; cases h
        exact .inl ⟨f, List.mem_cons_self, e, hd, rfl⟩
      · rcases look_fFs_upd hk r h with ⟨f', hf', h'⟩ | h'
        · exact .inl ⟨f', List.mem_cons_of_mem _ hf', h'⟩
        · exact .inr h'
    · have e1 : updF fs k b f.k = fs f.k := by simp [updF, e]
      rw [e1] at h
      rw [look_app] at h ⊢
      cases hl : look (fF f.d (fs f.k)) j with
      | some u => rw [hl] at h; exact .inr h
      | none =>
        rw [hl] at h
        rcases look_fFs_upd hk r h with ⟨f', hf', h'⟩ | h'
        · exact .inl ⟨f', List.mem_cons_of_mem _ hf', h'⟩
        · exact .inr h'
theorem look_fFs {fs : Fs} {j : Nat} {v : Value} : ∀ fd : List FD, look (fFs fd fs) j = some v → ∃ g ∈ fd, g.d = j ∧ (fs g.k).isSome = true
  | [], h => by cases h
  | f :: r, h => by
    simp only [fFs] at h
    rw [look_app] at h
    cases hb : fs f.k with
    | none =>
      rw [hb] at h
      obtain ⟨g, hg, h1⟩ := look_fFs r h
      exact ⟨g, List.mem_cons_of_mem _ hg, h1⟩
    | some b =>
      rw [hb] at h
      simp only [fF, look_cons] at h
      by_cases e : f.d = j
      · exact ⟨f, List.mem_cons_self, e, by rw [hb]; rfl⟩
      · rw [if_neg e] at h
        obtain ⟨g, hg, h1⟩ := look_fFs r h
        exact ⟨g, List.mem_cons_of_mem _ hg, h1⟩
theorem fOs_upd_not (fs : Fs) (k b : Nat) : ∀ fd : List FD, (∀ f ∈ fd, f.k ≠ k) → fOs fd (updF fs k b) = fOs fd fs
  | [], _ => rfl
  | f :: r, h => by
    simp only [fOs]
    rw [fOs_upd_not fs k b r (fun f hf => h f (List.mem_cons_of_mem _ hf)), show updF fs k b f.k = fs f.k by simp [updF, h f List.mem_cons_self]]
theorem fOs_upd {fs : Fs} {b : Nat} : ∀ (fd : List FD) (f : FD), f ∈ fd → fs f.k = none → (fd.map (·.k)).Nodup → (⟨b, cellsL f.z, f.t, true⟩ :: fOs fd fs).Perm (fOs fd (updF fs f.k b))
  | [], f, h, _, _ => by cases h
  | g :: r, f, h, hk, hn => by
    simp only [List.map_cons, List.nodup_cons] at hn
    rcases List.mem_cons.1 h with e | e
    · subst e
      simp only [fOs]
      rw [fOs_upd_not fs f.k b r (fun g hg e => hn.1 (e ▸ List.mem_map.2 ⟨g, hg, rfl⟩)), hk, show updF fs f.k b f.k = some b by simp [updF]]
      exact List.Perm.refl _
    · have hne : g.k ≠ f.k := fun e' => hn.1 (e' ▸ List.mem_map.2 ⟨f, e, rfl⟩)
      simp only [fOs]
      rw [show updF fs f.k b g.k = fs g.k by simp [updF, hne]]
      exact List.Perm.trans List.perm_middle.symm (List.Perm.append_left _ (fOs_upd r f e hk hn.2))

structure FDok (P : Program) (ops : Array Oper) (n : Nat) (fd : List FD) : Prop where
  op : ∀ f ∈ fd, ∃ ty' pos af, ops[f.k]? = some ⟨some f.d, .alloc f.t, ty', pos, af, none⟩ ∧ dstOk n (some f.d) = true
  z : ∀ f ∈ fd, TyZ P f.t f.z
  nd : (fd.map (·.k)).Nodup
  dd : ∀ f ∈ fd, ∀ g ∈ fd, f.d = g.d → f.k = g.k

section
variable {P : Program} {C : Ctx} {n : Nat} {fr : Fr} {own own0 : List Own} {G G0 : Gh} {ops : Array Oper} {Q : Exit → Act → World → Prop} {fin : Nat → Bool} {π π₂ : List (Nat × Bool)} {fd : List FD}

/-- What is left of a region: some allocs to come at any time, the others done. -/
def dwH (P : Program) (ops : Array Oper) (Q : Exit → Act → World → Prop) (S : World → Prop) (fin : Nat → Bool) (π₂ : List (Nat × Bool)) (fd : List FD) (fs : Fs) (π : List (Nat × Bool)) : Act → World → Prop := dwG P ops Q S fin π₂ (pend fd fs) π

/-- One of the allocs happens. -/
theorem alloc_G (hok : FDok P ops n fd) (hfr : (fd.all fun f => (look fr f.d).isNone) = true) (hs : own0.Sublist own) [hl : GL G0 G] {Φ : List Nat → Act → World → Prop} {fs : Fs} {j : Nat} (hj : j ∈ pend fd fs)
    (h : ∀ b, St C n (fr ++ fFs fd (updF fs j b)) (own ++ fOs fd (updF fs j b)) G (Φ (pend fd (updF fs j b)))) :
    St C n (fr ++ fFs fd fs) (own ++ fOs fd fs) G (wpOp P ops (NoPan Q) j (fun a w => (fin j = true ∨ HS C own0 G0 w) ∧ Φ (without (pend fd fs) j) a w)) := by
  unfold pend at hj
  obtain ⟨f, hf, rfl⟩ := List.mem_map.1 hj
  obtain ⟨hf1, hf2⟩ := List.mem_filter.1 hf
  have hnone : fs f.k = none := by simpa using hf2
  obtain ⟨ty', pos, af, hop, hd⟩ := hok.op f hf1
  have hz := hok.z f hf1
  intro a w rl
  unfold wpOp
  simp only [hop, Region.wanted, if_true]
  refine .inl (ch_alloc (own := own ++ fOs fd fs) (fr := fr ++ fFs fd fs) (z := f.z) hd (fun b => ?_) a w _ rl)
  have hs' : SubL own0 (⟨b, cellsL f.z, f.t, true⟩ :: (own ++ fOs fd fs)) := ⟨(hs.trans (List.sublist_append_left _ _)).cons _⟩
  refine dr_s ?_
  rw [← pend_upd fs f.k b fd]
  refine st_frame _ ?_ (st_perm _ ?_ (h b))
  · intro k v hk
    rw [look_app] at hk
    show look ((f.d, _) :: (fr ++ fFs fd fs)) k = some v
    rw [look_cons]
    have hfd : ∀ g ∈ fd, look fr g.d = none := fun g hg => by have := List.all_eq_true.1 hfr g hg; simpa using this
    split
    · rename_i e
      subst e
      rw [hfd f hf1] at hk
      simp only at hk
      rcases look_fFs_upd hnone fd hk with ⟨g, hg, hgk, hgd, hv⟩ | h'
      · rw [hv]
      · obtain ⟨g, hg, hgd, hgs⟩ := look_fFs fd h'
        rw [hok.dd g hg f hf1 hgd, hnone] at hgs
        cases hgs
    · rename_i e
      rw [look_app]
      cases hl' : look fr k with
      | some u => rw [hl'] at hk; exact hk
      | none =>
        rw [hl'] at hk
        simp only at hk ⊢
        rcases look_fFs_upd hnone fd hk with ⟨g, hg, hgk, hgd, hv⟩ | h'
        · obtain ⟨_, _, _, hop', _⟩ := hok.op g hg
          rw [hgk, hop] at hop'
          have e3 : f.d = g.d := by
            have := congrArg (Option.map (·.dst)) hop'
            simpa using this
          exact absurd (e3.trans hgd) e
        · exact h'
  · exact (List.perm_middle.symm).trans (List.Perm.append_left _ (fOs_upd fd f hf1 hnone hok.nd))

theorem drG (fd : List FD) (fin : Nat → Bool) (π π₂ : List (Nat × Bool)) {id : Nat} (hm : P.follows .mixedOrders = true)
    (ho : (orderOkG ops fin π₂ (fd.length + π.length + 1) (fd.map (·.k)) π (Array.replicate ops.size false) && Nat.ble (fd.length + π.length + π₂.length) ops.size) = true)
    (h : ∀ fs : Fs, St C n (fr ++ fFs fd fs) (own ++ fOs fd fs) G (dwH P ops (NoPan Q) (HS C own G) fin π₂ fd fs π)) : St C n fr own G ((Code.region id ops true).wp P Q) := by
  simp only [Bool.and_eq_true] at ho
  have e0 : ∀ fd : List FD, fFs fd (fun _ => none) = [] ∧ fOs fd (fun _ => none) = [] ∧ pend fd (fun _ => none) = fd.map (·.k) := by
    intro fd
    induction fd with
    | nil => exact ⟨rfl, rfl, rfl⟩
    | cons f r ih => exact ⟨by simp [fFs, fF, ih.1], by simp [fOs, fO, ih.2.1], by simp [pend, List.filter_eq_self.2]⟩
  have h0 := h (fun _ => none)
  rw [(e0 fd).1, (e0 fd).2.1, List.append_nil, List.append_nil] at h0
  unfold dwH at h0
  rw [(e0 fd).2.2] at h0
  exact dr_region fin hm fun a w rl => wpAnyZ_of_orderG (fun _ _ _ _ _ h => h) _ _ π _ a w ho.1 (h0 a w rl) _ (by have := ho.2; simp at this ⊢; omega)
theorem FrOk.left {x y : Fr} {a : Act} (h : FrOk (x ++ y) a) : FrOk x a := fun k v hk => h k v (by rw [look_app, hk])
theorem dyG {fs : Fs} {i : Nat} {o : Oper} {v : Value} (ho : ops[i]? = some o) (hy : ∀ G' : Gh, [GE G0 G'] → Yd P C fr own0 G' o v) (hg : o.guard = none) (hd : dstOk n o.dst = true) (hs : own0.Sublist own) [hl : GL G0 G]
    (h : St C n (put fr o.dst v ++ fFs fd fs) (own ++ fOs fd fs) G (dwH P ops (NoPan Q) (HS C own0 G0) fin π₂ fd fs π)) : St C n (fr ++ fFs fd fs) (own ++ fOs fd fs) G (dwH P ops (NoPan Q) (HS C own0 G0) fin π₂ fd fs ((i, true) :: π)) := by
  intro a w rl
  unfold dwH
  rw [dwG]
  refine ⟨o, v, ho, ⟨G, hl.le, rl.h.drop (hs.trans (List.sublist_append_left _ _))⟩, .inl ⟨by simp [Region.wanted, hg], fun w' ⟨G', hle, hr⟩ => @hy G' ⟨hle⟩ a w' rl.fr.left hr⟩, ?_⟩
  refine h _ _ ?_
  have := rl.put v hd
  cases hdst : o.dst with
  | none => rw [hdst] at this; exact this
  | some d => rw [hdst] at this; exact this
theorem dcG {i : Nat} {o : Oper} (hok : FDok P ops n fd) (hfr : (fd.all fun f => (look fr f.d).isNone) = true) (ho : ops[i]? = some o) (hg : o.guard = none) (hs : own0.Sublist own) [hl : GL G0 G]
    (hc : ∀ fs, Ch P C n (fr ++ fFs fd fs) (own ++ fOs fd fs) G o (fun a w => (fin i = true ∨ HS C own0 G0 w) ∧ dwH P ops (NoPan Q) (HS C own0 G0) fin π₂ fd fs π a w)) :
    ∀ (m : Nat) (fs : Fs), (pend fd fs).length ≤ m → St C n (fr ++ fFs fd fs) (own ++ fOs fd fs) G (dwH P ops (NoPan Q) (HS C own0 G0) fin π₂ fd fs ((i, false) :: π))
  | m, fs, hm => by
    intro a w rl
    unfold dwH
    rw [dwG]
    refine ⟨?_, fun j hj => ?_⟩
    · unfold wpOp
      simp only [ho, Region.wanted, hg, if_true]
      exact .inl (hc fs a w _ rl)
    · refine alloc_G (Φ := fun l => dwG P ops (NoPan Q) (HS C own0 G0) fin π₂ l ((i, false) :: π)) hok hfr hs hj (fun b => ?_) a w rl
      have hlt := without_lt hj
      rw [← pend_upd fs j b fd] at hlt
      cases m with
      | zero => omega
      | succ m => exact dcG hok hfr ho hg hs hc m (updF fs j b) (by omega)
theorem dcG' {i : Nat} {o : Oper} (hok : FDok P ops n fd) (hfr : (fd.all fun f => (look fr f.d).isNone) = true) (ho : ops[i]? = some o) (hg : o.guard = none) (hs : own0.Sublist own) [hl : GL G0 G] (fs : Fs)
    (hc : ∀ fs, Ch P C n (fr ++ fFs fd fs) (own ++ fOs fd fs) G o (fun a w => (fin i = true ∨ HS C own0 G0 w) ∧ dwH P ops (NoPan Q) (HS C own0 G0) fin π₂ fd fs π a w)) :
    St C n (fr ++ fFs fd fs) (own ++ fOs fd fs) G (dwH P ops (NoPan Q) (HS C own0 G0) fin π₂ fd fs ((i, false) :: π)) := dcG hok hfr ho hg hs hc _ fs (Nat.le_refl _)
/-- behind an operation that came up alone -/
theorem dr_g {b : Bool} {fs : Fs} {d : Nat} {v : Value} {Φ : Act → World → Prop} (hs : own0.Sublist own) [hl : GL G0 G] (h : St C n (put fr (some d) v ++ fFs fd fs) (own ++ fOs fd fs) G Φ) :
    St C n (put (fr ++ fFs fd fs) (some d) v) (own ++ fOs fd fs) G (fun a w => (b = true ∨ HS C own0 G0 w) ∧ Φ a w) :=
  fun a w rl => ⟨.inr ⟨G, hl.le, rl.h.drop (hs.trans (List.sublist_append_left _ _))⟩, h a w rl⟩
/-- The allocs are done. -/
theorem dG_out (hok : FDok P ops n fd) (hfr : (fd.all fun f => (look fr f.d).isNone) = true) (hs : own0.Sublist own) [hl : GL G0 G]
    (h : ∀ fs, pend fd fs = [] → St C n (fr ++ fFs fd fs) (own ++ fOs fd fs) G (dwL P ops (NoPan Q) (HS C own0 G0) fin π₂)) :
    ∀ (m : Nat) (fs : Fs), (pend fd fs).length ≤ m → St C n (fr ++ fFs fd fs) (own ++ fOs fd fs) G (dwH P ops (NoPan Q) (HS C own0 G0) fin π₂ fd fs [])
  | m, fs, hm => by
    intro a w rl
    unfold dwH
    cases hp : pend fd fs with
    | nil => rw [dwG]; exact h fs hp a w rl
    | cons k ks =>
      rw [dwG]
      intro j hj
      rw [← hp] at hj
      have := alloc_G (own0 := own0) (G0 := G0) (Φ := fun l => dwG P ops (NoPan Q) (HS C own0 G0) fin π₂ l []) (Q := Q) (fin := fin) hok hfr hs hj (fun b => by
        have hlt := without_lt hj
        rw [← pend_upd fs j b fd] at hlt
        cases m with
        | zero => omega
        | succ m => exact dG_out hok hfr hs h m (updF fs j b) (by omega)) a w rl
      rw [hp] at this
      exact this
/-- two of them -/
theorem dG_out2 {k1 d1 k2 d2 : Nat} {t1 t2 : TypeId} {z1 z2 : Value} (hok : FDok P ops n [⟨k1, d1, t1, z1⟩, ⟨k2, d2, t2, z2⟩]) (hfr : ([⟨k1, d1, t1, z1⟩, ⟨k2, d2, t2, z2⟩].all fun f : FD => (look fr f.d).isNone) = true) (hs : own0.Sublist own) [hl : GL G0 G] (fs : Fs)
    (h : ∀ b1 b2, St C n ((d1, .pointer (some ⟨b1, 0, none⟩)) :: (d2, .pointer (some ⟨b2, 0, none⟩)) :: fr) (⟨b1, cellsL z1, t1, true⟩ :: ⟨b2, cellsL z2, t2, true⟩ :: own) G (dwL P ops (NoPan Q) (HS C own0 G0) fin π₂)) :
    St C n (fr ++ fFs [⟨k1, d1, t1, z1⟩, ⟨k2, d2, t2, z2⟩] fs) (own ++ fOs [⟨k1, d1, t1, z1⟩, ⟨k2, d2, t2, z2⟩] fs) G (dwH P ops (NoPan Q) (HS C own0 G0) fin π₂ [⟨k1, d1, t1, z1⟩, ⟨k2, d2, t2, z2⟩] fs []) := by
  refine @dG_out P C n fr own own0 G G0 ops Q fin π₂ _ hok hfr hs hl (fun fs hp => ?_) _ fs (Nat.le_refl _)
  cases h1 : fs k1 with
  | none => simp [pend, h1] at hp
  | some b1 =>
    cases h2 : fs k2 with
    | none => simp [pend, h1, h2] at hp
    | some b2 =>
      have e1 : fFs [⟨k1, d1, t1, z1⟩, ⟨k2, d2, t2, z2⟩] fs = [(d1, .pointer (some ⟨b1, 0, none⟩)), (d2, .pointer (some ⟨b2, 0, none⟩))] := by simp [fFs, h1, h2, fF]
      have e2 : fOs [⟨k1, d1, t1, z1⟩, ⟨k2, d2, t2, z2⟩] fs = [⟨b1, cellsL z1, t1, true⟩, ⟨b2, cellsL z2, t2, true⟩] := by simp [fOs, h1, h2, fO]
      rw [e1, e2]
      simp only [List.all_cons, List.all_nil, Bool.and_true, Bool.and_eq_true, Option.isNone_iff_eq_none] at hfr
      refine st_frame _ ?_ (st_perm _ ?_ (h b1 b2))
      · intro k v hk
        rw [look_cons, look_cons] at hk
        rw [look_app]
        split at hk
        · rename_i e; subst e; rw [hfr.1]; cases hk; simp [look_cons]
        · rename_i hne
          split at hk
          · rename_i e; subst e; rw [hfr.2]; cases hk; simp [look_cons, hne]
          · rw [hk]
      · exact List.perm_append_comm
end
end Go.Sx
end

section
set_option maxRecDepth 100000
namespace Go.Sx
open Go Go.Proofs

theorem Iv_Sample {A G : Gh} {z : IvV} {v : IvQ} {k : Nat} (h : IsIv k A z v) [GL A G] (hk : 2 * k + 3 ≤ 1099511627774) :
    Fn Tryz.prog 188 [.agg ⟨[.int .i64 z.lo.n, .int .i64 z.lo.d, .pointer z.lo.p, .int .i64 z.hi.n, .int .i64 z.hi.d, .pointer z.hi.p, .bool z.nl, .bool z.nh]⟩] G (fun u G' => ∃ x : RV, u = x.v ∧ IsR (2 * k + 3) G' x v.sample) := by
  have hk1 := h.lo.k1
  obtain ⟨hlo, hhi, h1, h2⟩ := h
  obtain ⟨zlo, zhi, znl, znh⟩ := z
  obtain ⟨lo, hi, nl, nh⟩ := v
  simp only [] at hlo hhi h1 h2
  subst h1 h2
  refine Fn.intro Tryz.func188 rfl rfl Tryz.ntmps188 rfl ?_
  intro C _ _
  cases znl
  case true =>
    cases znh
    case true =>
      refine st_seq <| st_region <| ?_
      refine sc (ch_box rfl rfl ?_)
      intro b1
      refine sc (ch_alloc rfl ?_)
      intro b2
      refine st_end <| st_seq <| st_block <| st_seq <| st_region <| sf rfl rfl <| slo1 rfl rfl rfl <| sm rfl rfl <| syg rfl rfl (yd_fieldAddr rfl) rfl <| syg rfl rfl (yd_load_own1 rfl rfl) rfl <| sy (yd_pickT rfl rfl) rfl <| ?_
      refine sa rfl rfl <| st_end <| st_condT rfl <| st_seq <| st_region <| sy (yd_build rfl) rfl <| ?_
      refine sc (ch_storeN rfl rfl (by first | (dsimp only [ovw, cellsL, List.set_cons_zero, List.set_cons_succ, Nat.reduceAdd, RV.v, LV.v, PV.v, IvV.v]; done) | exact rfl) (by repeat (first | exact .hd .. | apply OUpd.tl)) rfl (Nat.le_of_ble_eq_true rfl) rfl rfl ?_)
      refine st_end <| st_ret <| ?_
      exact st_done (.agg rfl inferInstance inferInstance rfl .nil) ⟨⟨0, 0, none⟩, rfl, IsR.zero (by omega)⟩
    refine st_seq <| st_region <| ?_
    refine sc (ch_box rfl rfl ?_)
    intro b1
    refine sc (ch_alloc rfl ?_)
    intro b2
    refine st_end <| st_seq <| st_block <| st_seq <| st_region <| sf rfl rfl <| slo1 rfl rfl rfl <| sm rfl rfl <| syg rfl rfl (yd_fieldAddr rfl) rfl <| syg rfl rfl (yd_load_own1 rfl rfl) rfl <| sy (yd_pickT rfl rfl) rfl <| ?_
    refine sa rfl rfl <| st_end <| st_condF rfl <| st_seq <| st_region <| sf rfl rfl <| slo1 rfl rfl rfl <| sa rfl rfl <| st_end <| st_condT rfl <| st_seq <| dr (fun i => Nat.beq i 4) [(0, true), (1, true), (2, false), (3, false), (4, false)] follows (by kernel_rfl) <| ?_
    refine dy rfl (fun _ => yd_fieldAddr rfl) rfl rfl <| dy rfl (fun _ => yd_load_own rfl rfl) rfl rfl <| ?_
    refine dc rfl rfl (ch_call rfl rfl (frac_Int (k := k) (n := 1) (by decide) (by decide) (by show 1 < 2 ^ k; exact Nat.one_lt_two_pow (by omega)) hk1 (by omega)) rfl ?_)
    rintro _ G3 _ ⟨z, rfl, hz⟩
    refine dr_s <| ?_
    refine dc rfl rfl (ch_call rfl rfl (R_Sub hhi hz (by omega)) rfl ?_)
    rintro _ G4 _ ⟨x5, rfl, h6⟩
    refine dr_s <| ?_
    refine dc rfl rfl (ch_storeN rfl rfl (by first | (dsimp only [ovw, cellsL, List.set_cons_zero, List.set_cons_succ, Nat.reduceAdd, RV.v, LV.v, PV.v, IvV.v]; done) | exact rfl) (by repeat (first | exact .hd .. | apply OUpd.tl)) rfl (Nat.le_of_ble_eq_true rfl) rfl rfl ?_)
    refine dr_f rfl <| dn <| st_ret <| ?_
    exact st_done (.agg rfl inferInstance inferInstance rfl .nil) ⟨_, rfl, IsR.mono' (by assumption) (by omega)⟩
  cases znh
  case true =>
    refine st_seq <| st_region <| ?_
    refine sc (ch_box rfl rfl ?_)
    intro b1
    refine sc (ch_alloc rfl ?_)
    intro b2
    refine st_end <| st_seq <| st_block <| st_seq <| st_region <| sf rfl rfl <| slo1 rfl rfl rfl <| sm rfl rfl <| ss rfl rfl rfl rfl <| ss rfl rfl rfl rfl <| sy (yd_pickF rfl rfl) rfl <| sa rfl rfl <| ?_
    refine st_end <| st_condF rfl <| st_seq <| st_region <| sf rfl rfl <| slo1 rfl rfl rfl <| sa rfl rfl <| st_end <| st_condF rfl <| st_seq <| st_region <| sf rfl rfl <| slo1 rfl rfl rfl <| sa rfl rfl <| ?_
    refine st_end <| st_condT rfl <| st_seq <| dr (fun i => Nat.beq i 4) [(0, true), (1, true), (2, false), (3, false), (4, false)] follows (by kernel_rfl) <| dy rfl (fun _ => yd_fieldAddr rfl) rfl rfl <| ?_
    refine dy rfl (fun _ => yd_load_own rfl rfl) rfl rfl <| ?_
    refine dc rfl rfl (ch_call rfl rfl (frac_Int (k := k) (n := 1) (by decide) (by decide) (by show 1 < 2 ^ k; exact Nat.one_lt_two_pow (by omega)) hk1 (by omega)) rfl ?_)
    rintro _ G3 _ ⟨z, rfl, hz⟩
    refine dr_s <| ?_
    refine dc rfl rfl (ch_call rfl rfl (R_Add hlo hz (by omega)) rfl ?_)
    rintro _ G4 _ ⟨x5, rfl, h6⟩
    refine dr_s <| ?_
    refine dc rfl rfl (ch_storeN rfl rfl (by first | (dsimp only [ovw, cellsL, List.set_cons_zero, List.set_cons_succ, Nat.reduceAdd, RV.v, LV.v, PV.v, IvV.v]; done) | exact rfl) (by repeat (first | exact .hd .. | apply OUpd.tl)) rfl (Nat.le_of_ble_eq_true rfl) rfl rfl ?_)
    refine dr_f rfl <| dn <| st_ret <| ?_
    exact st_done (.agg rfl inferInstance inferInstance rfl .nil) ⟨_, rfl, IsR.mono' (by assumption) (by omega)⟩
  refine st_seq <| st_region <| ?_
  refine sc (ch_box rfl rfl ?_)
  intro b1
  refine sc (ch_alloc rfl ?_)
  intro b2
  refine st_end <| st_seq <| st_block <| st_seq <| st_region <| sf rfl rfl <| slo1 rfl rfl rfl <| sm rfl rfl <| ss rfl rfl rfl rfl <| ss rfl rfl rfl rfl <| sy (yd_pickF rfl rfl) rfl <| sa rfl rfl <| ?_
  refine st_end <| st_condF rfl <| st_seq <| st_region <| sf rfl rfl <| slo1 rfl rfl rfl <| sa rfl rfl <| st_end <| st_condF rfl <| st_seq <| st_region <| sf rfl rfl <| slo1 rfl rfl rfl <| sa rfl rfl <| ?_
  refine st_end <| st_condF rfl <| st_skipc <| st_seq <| st_region <| sf rfl rfl <| slo rfl rfl rfl <| sf rfl rfl <| slo rfl rfl rfl <| ?_
  refine sc (ch_call rfl rfl (R_Add hlo hhi (by omega)) rfl ?_)
  rintro _ G3 _ ⟨x4, rfl, h5⟩
  refine sc (ch_call rfl rfl (R_Half ‹_› (by omega)) rfl ?_)
  rintro _ G6 _ ⟨x7, rfl, h8⟩
  refine sc (ch_storeN rfl rfl (by first | (dsimp only [ovw, cellsL, List.set_cons_zero, List.set_cons_succ, Nat.reduceAdd, RV.v, LV.v, PV.v, IvV.v]; done) | exact rfl) (by repeat (first | exact .hd .. | apply OUpd.tl)) rfl (Nat.le_of_ble_eq_true rfl) rfl rfl ?_)
  refine st_end <| st_ret <| ?_
  exact st_done (.agg rfl inferInstance inferInstance rfl .nil) ⟨_, rfl, IsR.mono' (by assumption) (by omega)⟩
theorem sign_cases (n : Int) : Int.sign n = 0 ∨ Int.sign n = 1 ∨ Int.sign n = -1 := by
  rcases Int.lt_trichotomy n 0 with h | h | h
  · exact .inr (.inr (Int.sign_eq_neg_one_of_neg h))
  · subst h; exact .inl rfl
  · exact .inr (.inl (Int.sign_eq_one_of_pos h))
set_option maxHeartbeats 2000000 in
theorem Ln_Cut {A B D G : Gh} {z1 z3 : LV} {z2 : IvV} {l m : LnQ} {v : IvQ} {k : Nat} (hl : IsL k A z1 l) (hv : IsIv (25 * k + 6) B z2 v) (hm : IsL k D z3 m) [GL A G] [GL B G] [GL D G] (hk : k ≤ 1073741824) :
    Fn Tryz.prog 151 [.agg ⟨[.int .i64 z1.a.n, .int .i64 z1.a.d, .pointer z1.a.p, .int .i64 z1.b.n, .int .i64 z1.b.d, .pointer z1.b.p, .int .i64 z1.c.n, .int .i64 z1.c.d, .pointer z1.c.p]⟩, .agg ⟨[.int .i64 z2.lo.n, .int .i64 z2.lo.d, .pointer z2.lo.p, .int .i64 z2.hi.n, .int .i64 z2.hi.d, .pointer z2.hi.p, .bool z2.nl, .bool z2.nh]⟩, .agg ⟨[.int .i64 z3.a.n, .int .i64 z3.a.d, .pointer z3.a.p, .int .i64 z3.b.n, .int .i64 z3.b.d, .pointer z3.b.p, .int .i64 z3.c.n, .int .i64 z3.c.d, .pointer z3.c.p]⟩] G (fun u G' => ∃ x : IvV, u = .tuple #[x.v, .bool (l.cutB v m)] ∧ IsIv (25 * k + 6) G' x (l.cutV v m)) := by
  refine Fn.intro Tryz.func151 rfl rfl Tryz.ntmps151 rfl ?_
  intro C _ _
  refine st_seq <| st_region <| ?_
  refine sc (ch_box rfl rfl ?_)
  intro b1
  refine sc (ch_box rfl rfl ?_)
  intro b2
  refine sc (ch_box rfl rfl ?_)
  intro b3
  refine sc (ch_alloc rfl ?_)
  intro b4
  refine sa rfl rfl <| st_end <| st_seq <| ?_
  refine drG [⟨9, 8, 103, .agg ⟨[.int .i64 0, .int .i64 0, .pointer none]⟩⟩, ⟨10, 9, 103, .agg ⟨[.int .i64 0, .int .i64 0, .pointer none]⟩⟩] (fun _ => false) [(0, true), (2, true), (5, true), (6, true), (1, false), (3, false), (4, false), (7, false), (8, false)] [(11, false), (12, false)] follows (by kernel_rfl) (fun fs => ?_)
  refine dyG rfl (fun _ => yd_load_own rfl rfl) rfl rfl (List.Sublist.refl _) <| dyG rfl (fun _ => yd_load_own rfl rfl) rfl rfl (List.Sublist.refl _) <| dyG rfl (fun _ => yd_load_own rfl rfl) rfl rfl (List.Sublist.refl _) <| ?_
  refine dyG rfl (fun _ => yd_load_own rfl rfl) rfl rfl (List.Sublist.refl _) <| ?_
  refine dcG' (by exact ⟨List.forall_mem_cons.2 ⟨⟨_, _, _, rfl, rfl⟩, List.forall_mem_cons.2 ⟨⟨_, _, _, rfl, rfl⟩, List.forall_mem_nil _⟩⟩, List.forall_mem_cons.2 ⟨inferInstance, List.forall_mem_cons.2 ⟨inferInstance, List.forall_mem_nil _⟩⟩, by decide, by decide⟩) rfl rfl rfl (List.Sublist.refl _) _ (fun fs => ?_)
  refine ch_call rfl rfl (Ln_Normal hm) rfl ?_
  rintro _ G5 _ ⟨x6, rfl, h7⟩
  refine dr_g (List.Sublist.refl _) ?_
  refine dcG' (by exact ⟨List.forall_mem_cons.2 ⟨⟨_, _, _, rfl, rfl⟩, List.forall_mem_cons.2 ⟨⟨_, _, _, rfl, rfl⟩, List.forall_mem_nil _⟩⟩, List.forall_mem_cons.2 ⟨inferInstance, List.forall_mem_cons.2 ⟨inferInstance, List.forall_mem_nil _⟩⟩, by decide, by decide⟩) rfl rfl rfl (List.Sublist.refl _) _ (fun fs => ?_)
  refine ch_call rfl rfl (Ln_Dir hl (by omega)) rfl ?_
  rintro _ G8 _ ⟨x9, rfl, h10⟩
  refine dr_g (List.Sublist.refl _) ?_
  refine dcG' (by exact ⟨List.forall_mem_cons.2 ⟨⟨_, _, _, rfl, rfl⟩, List.forall_mem_cons.2 ⟨⟨_, _, _, rfl, rfl⟩, List.forall_mem_nil _⟩⟩, List.forall_mem_cons.2 ⟨inferInstance, List.forall_mem_cons.2 ⟨inferInstance, List.forall_mem_nil _⟩⟩, by decide, by decide⟩) rfl rfl rfl (List.Sublist.refl _) _ (fun fs => ?_)
  refine ch_call rfl rfl (Pt_Dot h7 h10 (by omega)) rfl ?_
  rintro _ G11 _ ⟨x12, rfl, h13⟩
  refine dr_g (List.Sublist.refl _) ?_
  refine dcG' (by exact ⟨List.forall_mem_cons.2 ⟨⟨_, _, _, rfl, rfl⟩, List.forall_mem_cons.2 ⟨⟨_, _, _, rfl, rfl⟩, List.forall_mem_nil _⟩⟩, List.forall_mem_cons.2 ⟨inferInstance, List.forall_mem_cons.2 ⟨inferInstance, List.forall_mem_nil _⟩⟩, by decide, by decide⟩) rfl rfl rfl (List.Sublist.refl _) _ (fun fs => ?_)
  refine ch_call rfl rfl (Ln_Base hl (by omega)) rfl ?_
  rintro _ G14 _ ⟨x15, rfl, h16⟩
  refine dr_g (List.Sublist.refl _) ?_
  refine dcG' (by exact ⟨List.forall_mem_cons.2 ⟨⟨_, _, _, rfl, rfl⟩, List.forall_mem_cons.2 ⟨⟨_, _, _, rfl, rfl⟩, List.forall_mem_nil _⟩⟩, List.forall_mem_cons.2 ⟨inferInstance, List.forall_mem_cons.2 ⟨inferInstance, List.forall_mem_nil _⟩⟩, by decide, by decide⟩) rfl rfl rfl (List.Sublist.refl _) _ (fun fs => ?_)
  refine ch_call rfl rfl (Ln_Value hm h16 (by omega)) rfl ?_
  rintro _ G17 _ ⟨x18, rfl, h19⟩
  refine dr_g (List.Sublist.refl _) ?_
  refine dG_out2 (by exact ⟨List.forall_mem_cons.2 ⟨⟨_, _, _, rfl, rfl⟩, List.forall_mem_cons.2 ⟨⟨_, _, _, rfl, rfl⟩, List.forall_mem_nil _⟩⟩, List.forall_mem_cons.2 ⟨inferInstance, List.forall_mem_cons.2 ⟨inferInstance, List.forall_mem_nil _⟩⟩, by decide, by decide⟩) rfl (List.Sublist.refl _) _ (fun b20 b21 => ?_)
  refine dc rfl rfl (ch_storeN rfl rfl (by first | (dsimp only [ovw, cellsL, List.set_cons_zero, List.set_cons_succ, Nat.reduceAdd, RV.v, LV.v, PV.v, IvV.v]; done) | exact rfl) (by repeat (first | exact .hd .. | apply OUpd.tl)) rfl (Nat.le_of_ble_eq_true rfl) rfl rfl ?_)
  refine dr_s <| ?_
  refine dc rfl rfl (ch_storeN rfl rfl (by first | (dsimp only [ovw, cellsL, List.set_cons_zero, List.set_cons_succ, Nat.reduceAdd, RV.v, LV.v, PV.v, IvV.v]; done) | exact rfl) (by repeat (first | exact .hd .. | apply OUpd.tl)) rfl (Nat.le_of_ble_eq_true rfl) rfl rfl ?_)
  refine dr_s <| dn <| st_seq <| st_seq <| st_region <| slo rfl rfl rfl <| ?_
  refine sc (ch_call rfl rfl (R_Sign h13 (by omega)) rfl ?_)
  rintro _ G22 _ rfl
  refine st_end <| st_block <| st_seq <| st_region <| sy (yd_eql rfl rfl) rfl <| sa rfl rfl <| st_end <| ?_
  refine st_condP rfl (fun hc0 => ?_) (fun hc0 => ?_) -- slot 21
  · -- yes
    refine st_seq <| dr0 (b := b4) (fun _ => false) [(0, true), (1, true), (2, false), (3, true), (4, false), (5, true)] follows (by repeat (first | exact .hd .. | apply ORem.tl)) (by kernel_rfl) <| ?_
    refine dy rfl (fun _ => yd_load_own rfl rfl) rfl rfl <| dy rfl (fun _ => yd_load_own rfl rfl) rfl rfl <| ?_
    refine dc rfl rfl (ch_call rfl rfl (R_Sign h19 (by omega)) rfl ?_)
    rintro _ G23 _ rfl
    refine dr_s <| dy rfl (fun _ => yd_gtr rfl rfl) rfl rfl <| ?_
    refine dc rfl rfl (ch_storeN rfl rfl (by first | (dsimp only [ovw, cellsL, List.set_cons_zero, List.set_cons_succ, Nat.reduceAdd, RV.v, LV.v, PV.v, IvV.v]; done) | exact rfl) (by repeat (first | exact .hd .. | apply OUpd.tl)) rfl (Nat.le_of_ble_eq_true rfl) rfl rfl ?_)
    refine dr_s <| dy rfl (fun _ => yd_assign rfl) rfl rfl <| dn <| st_ret <| ?_
    have e1 : l.cutV v m = v := if_pos hc0
    have e2 : l.cutB v m = decide (0 < Int.sign (l.cutC m).num) := if_pos hc0
    rw [e2, e1]
    exact st_done (.agg rfl inferInstance inferInstance rfl (.tmp rfl .nil)) ⟨z2, rfl, hv.up⟩
  refine st_seq <| st_region <| sy (yd_eql rfl rfl) rfl <| sa rfl rfl <| st_end <| ?_
  refine st_condP rfl (fun hc1 => ?_) (fun hc1 => ?_) -- slot 27
  · -- yes
    refine st_seq <| dr0 (b := b4) (fun _ => false) [(0, true), (1, true), (2, true), (3, false), (4, false), (5, true), (6, false), (7, true), (8, true), (9, false), (10, true)] follows (by repeat (first | exact .hd .. | apply ORem.tl)) (by kernel_rfl) <| ?_
    refine dy rfl (fun _ => yd_load_own rfl rfl) rfl rfl <| dy rfl (fun _ => yd_load_own rfl rfl) rfl rfl <| dy rfl (fun _ => yd_load_own rfl rfl) rfl rfl <| ?_
    refine dc rfl rfl (ch_call rfl rfl (R_Quo h19 h13 (by omega)) rfl ?_)
    rintro _ G24 _ ⟨x25, rfl, h26⟩
    refine dr_s <| ?_
    refine dc rfl rfl (ch_call rfl rfl (R_Neg h26 (by omega)) rfl ?_)
    rintro _ G27 _ ⟨x28, rfl, h29⟩
    refine dr_s <| dy rfl (fun _ => yd_build rfl) rfl rfl <| ?_
    refine dc rfl rfl (ch_call rfl rfl (Iv_Meet (k2 := 25 * k + 6) (z2 := ⟨x28, ⟨0, 0, none⟩, false, true⟩) (w := ⟨-(l.cutC m / l.cutK m), 0, false, true⟩) hv ⟨h29.mono' (by omega), IsR.zero (by omega), rfl, rfl⟩ (by omega)) rfl ?_)
    rintro _ G30 _ ⟨y, rfl, hy⟩
    refine dr_s <| dy rfl (fun _ => yd_extract rfl rfl) rfl rfl <| dy rfl (fun _ => yd_extract rfl rfl) rfl rfl <| ?_
    refine dc rfl rfl (ch_storeN rfl rfl (by first | (dsimp only [ovw, cellsL, List.set_cons_zero, List.set_cons_succ, Nat.reduceAdd, RV.v, LV.v, PV.v, IvV.v]; done) | exact rfl) (by repeat (first | exact .hd .. | apply OUpd.tl)) rfl (Nat.le_of_ble_eq_true rfl) rfl rfl ?_)
    refine dr_s <| dy rfl (fun _ => yd_assign rfl) rfl rfl <| dn <| st_ret <| ?_
    have e1 : l.cutV v m = v.meet ⟨-(l.cutC m / l.cutK m), 0, false, true⟩ := (if_neg hc0).trans (if_pos hc1)
    have e2 : l.cutB v m = !(l.cutV v m).empty := if_neg hc0
    rw [e2, e1]
    exact st_done (.agg rfl inferInstance inferInstance rfl (.tmp rfl .nil)) ⟨y, rfl, hy.mono' (by omega)⟩
  refine st_skipc <| st_seq <| dr0 (b := b4) (fun _ => false) [(0, true), (1, true), (2, true), (3, false), (4, false), (5, true), (6, false), (7, true), (8, true), (9, false), (10, true)] follows (by repeat (first | exact .hd .. | apply ORem.tl)) (by kernel_rfl) <| ?_
  refine dy rfl (fun _ => yd_load_own rfl rfl) rfl rfl <| dy rfl (fun _ => yd_load_own rfl rfl) rfl rfl <| dy rfl (fun _ => yd_load_own rfl rfl) rfl rfl <| ?_
  refine dc rfl rfl (ch_call rfl rfl (R_Quo h19 h13 (by omega)) rfl ?_)
  rintro _ G31 _ ⟨x32, rfl, h33⟩
  refine dr_s <| ?_
  refine dc rfl rfl (ch_call rfl rfl (R_Neg h33 (by omega)) rfl ?_)
  rintro _ G34 _ ⟨x35, rfl, h36⟩
  refine dr_s <| dy rfl (fun _ => yd_build rfl) rfl rfl <| ?_
  refine dc rfl rfl (ch_call rfl rfl (Iv_Meet (k2 := 25 * k + 6) (z2 := ⟨⟨0, 0, none⟩, x35, true, false⟩) (w := ⟨0, -(l.cutC m / l.cutK m), true, false⟩) hv ⟨IsR.zero (by omega), h36.mono' (by omega), rfl, rfl⟩ (by omega)) rfl ?_)
  rintro _ G37 _ ⟨y, rfl, hy⟩
  refine dr_s <| dy rfl (fun _ => yd_extract rfl rfl) rfl rfl <| dy rfl (fun _ => yd_extract rfl rfl) rfl rfl <| ?_
  refine dc rfl rfl (ch_storeN rfl rfl (by first | (dsimp only [ovw, cellsL, List.set_cons_zero, List.set_cons_succ, Nat.reduceAdd, RV.v, LV.v, PV.v, IvV.v]; done) | exact rfl) (by repeat (first | exact .hd .. | apply OUpd.tl)) rfl (Nat.le_of_ble_eq_true rfl) rfl rfl ?_)
  refine dr_s <| dy rfl (fun _ => yd_assign rfl) rfl rfl <| dn <| st_ret <| ?_
  have e1 : l.cutV v m = v.meet ⟨0, -(l.cutC m / l.cutK m), true, false⟩ := (if_neg hc0).trans (if_neg hc1)
  have e2 : l.cutB v m = !(l.cutV v m).empty := if_neg hc0
  rw [e2, e1]
  exact st_done (.agg rfl inferInstance inferInstance rfl (.tmp rfl .nil)) ⟨y, rfl, hy.mono' (by omega)⟩
def orQ : List Int → Int
  | [] => 0
  | x :: t => if x ≠ 0 then x else orQ t
theorem cmp_Or {A G : Gh} {x : SV} {es : List Int} (h : IsSl A 1 x (es.map (Value.int .i64))) [GL A G] (hb : es.length ≤ 1125899906842624) :
    Fn Tryz.prog 205 [.slice x.a x.n x.c] G (fun v _ => v = .int .i64 (orQ es)) := by
  have hlen : x.n = es.length := by simpa using h.len
  obtain ⟨xa, xn, xc⟩ := x
  simp only [] at hlen
  subst hlen
  refine Fn.intro Tryz.func205 rfl rfl Tryz.ntmps205 rfl ?_
  intro C _ _
  refine st_seq <| st_region <| sa rfl rfl <| st_end <| st_seq <| st_region <| sa rfl rfl <| st_end <| st_seq <| st_seq <| st_region <| sm rfl rfl <| slen rfl rfl <| sm rfl rfl <| st_end <| st_block <| ?_
  refine st_loop (X := Nat) (fun k => [(8, .int .i64 k), (7, .int .i64 es.length), (6, .slice xa es.length xc), (3, .int .i64 0)]) (fun _ => []) (fun k _ => k ≤ es.length ∧ orQ (es.drop k) = orQ es) (fun k => es.length - k) 0 ⟨Nat.zero_le _, rfl⟩ (.cons rfl (.cons rfl (.cons rfl (.cons rfl .nil)))) rfl ?_
  rintro k Gx _ ⟨hk, ht⟩
  refine st_seq <| st_region <| sy (yd_lss rfl rfl) rfl <| st_end <| st_seq <| ?_
  refine st_condE rfl (fun hc => ?_) (fun hc => ?_) -- slot 9
  · refine st_exit <| st_te <| st_te <| st_inBlock_eq <| st_seq <| st_region <| sm rfl rfl <| sa rfl rfl <| st_end <| st_ret <| ?_
    refine st_done (.tmp rfl .nil) ?_
    rw [← ht, List.drop_eq_nil_of_le (by omega)]
    rfl
  have hk1 : k < es.length := by omega
  have hd : es.drop k = es[k] :: es.drop (k + 1) := List.drop_eq_getElem_cons hk1
  refine st_skipc <| st_seq <| st_block <| st_seq <| st_region <| sy (yd_ix (z := ⟨xa, es.length, xc⟩) h rfl rfl (by omega) (by show (k : Int) < (es.length : Int); omega)) rfl <| ?_
  rw [Int.toNat_natCast]
  refine sy (yd_ldS (i := k) (v := .int .i64 es[k]) h rfl (by simp [hk1]) rfl) rfl <| sa rfl rfl <| st_end <| st_seq <| st_region <| sm rfl rfl <| ?_
  refine sm rfl rfl <| sy (yd_neq rfl rfl) rfl <| st_end <| ?_
  refine st_condP rfl (fun hc1 => ?_) (fun hc1 => ?_) -- slot 14
  · refine st_seq <| st_region <| sm rfl rfl <| sa rfl rfl <| st_end <| st_ret <| ?_
    refine st_done (.tmp rfl .nil) ?_
    rw [← ht, hd, orQ, if_pos hc1]
    rfl
  refine st_skipc <| st_region <| sy (yd_add64 rfl rfl (by omega) (by omega)) rfl <| sm rfl rfl <| st_end <| ?_
  exact st_again (k + 1) ⟨hk1, by rw [← ht, hd, orQ, if_neg hc1]⟩ (by omega) (.cons rfl (.cons rfl (.cons rfl (.cons rfl .nil)))) rfl
def cmpQ (l m : LnQ) : Int := orQ [rcmp l.a m.a, rcmp l.b m.b, rcmp l.c m.c]
theorem cmpQ_eq (l m : LnQ) : cmpQ l m = 0 ↔ l = m := by
  have h1 := rcmp_eq (l.a : Rat) m.a
  have h2 := rcmp_eq (l.b : Rat) m.b
  have h3 := rcmp_eq (l.c : Rat) m.c
  rw [Rat.intCast_inj] at h1 h2 h3
  obtain ⟨a, b, c⟩ := l
  obtain ⟨a', b', c'⟩ := m
  simp only [cmpQ, orQ, LnQ.mk.injEq] at *
  rw [← h1, ← h2, ← h3]
  split
  · rename_i h; simp [h]
  · rename_i h
    split
    · rename_i h2; simp [h2]
    · rename_i h2
      simp only [ne_eq, Decidable.not_not] at h h2
      simp only [h, h2, true_and]
      split <;> simp_all
theorem Ln_Cmp {A B G : Gh} {z1 z2 : LV} {l m : LnQ} {k1 k2 : Nat} (hl : IsL k1 A z1 l) (hm : IsL k2 B z2 m) [GL A G] [GL B G] (hk : k1 + k2 + 1 ≤ 1099511627776)  :
    Fn Tryz.prog 169 [.agg ⟨[.int .i64 z1.a.n, .int .i64 z1.a.d, .pointer z1.a.p, .int .i64 z1.b.n, .int .i64 z1.b.d, .pointer z1.b.p, .int .i64 z1.c.n, .int .i64 z1.c.d, .pointer z1.c.p]⟩, .agg ⟨[.int .i64 z2.a.n, .int .i64 z2.a.d, .pointer z2.a.p, .int .i64 z2.b.n, .int .i64 z2.b.d, .pointer z2.b.p, .int .i64 z2.c.n, .int .i64 z2.c.d, .pointer z2.c.p]⟩] G (fun v _ => v = .int .i64 (cmpQ l m)) := by
  refine Fn.intro Tryz.func169 rfl rfl Tryz.ntmps169 rfl ?_
  intro C _ _
  refine st_seq <| st_region <| ?_
  refine sc (ch_box rfl rfl ?_)
  intro b1
  refine sc (ch_box rfl rfl ?_)
  intro b2
  refine sa rfl rfl <| st_end <| st_seq <| dr (fun _ => false) [(0, true), (1, true), (2, true), (3, true), (5, true), (6, true), (7, true), (8, true), (10, true), (11, true), (12, true), (13, true), (4, false), (9, false), (14, false), (15, false), (16, false), (17, true)] follows (by kernel_rfl) <| ?_
  refine dy rfl (fun _ => yd_fieldAddr rfl) rfl rfl <| dy rfl (fun _ => yd_load_own rfl rfl) rfl rfl <| dy rfl (fun _ => yd_fieldAddr rfl) rfl rfl <| dy rfl (fun _ => yd_load_own rfl rfl) rfl rfl <| ?_
  refine dy rfl (fun _ => yd_fieldAddr rfl) rfl rfl <| dy rfl (fun _ => yd_load_own rfl rfl) rfl rfl <| dy rfl (fun _ => yd_fieldAddr rfl) rfl rfl <| dy rfl (fun _ => yd_load_own rfl rfl) rfl rfl <| ?_
  refine dy rfl (fun _ => yd_fieldAddr rfl) rfl rfl <| dy rfl (fun _ => yd_load_own rfl rfl) rfl rfl <| dy rfl (fun _ => yd_fieldAddr rfl) rfl rfl <| dy rfl (fun _ => yd_load_own rfl rfl) rfl rfl <| ?_
  refine dc rfl rfl (ch_call rfl rfl (R_Cmp hl.a hm.a (by omega)) rfl ?_)
  rintro _ G3 _ rfl
  refine dr_s <| ?_
  refine dc rfl rfl (ch_call rfl rfl (R_Cmp hl.b hm.b (by omega)) rfl ?_)
  rintro _ G4 _ rfl
  refine dr_s <| ?_
  refine dc rfl rfl (ch_call rfl rfl (R_Cmp hl.c hm.c (by omega)) rfl ?_)
  rintro _ G5 _ rfl
  refine dr_s <| ?_
  refine dc rfl rfl (ch_slice (by rfl) (by rfl) (by rfl) (by rfl) rfl ?_)
  intro b6
  refine dr_s <| ?_
  refine st_freeze b6 (.hd ..) ?_
  intro G8 _ hfz
  have hsl : IsSl G8 1 ⟨some ⟨b6, 0, none⟩, 3, 3⟩ ([rcmp l.a m.a, rcmp l.b m.b, rcmp l.c m.c].map (Value.int .i64)) := ⟨rfl, Nat.le_refl _, .inr ⟨b6, 0, _, rfl, hfz.h, fun i hi => by
    match i, hi with
    | 0, _ => rfl
    | 1, _ => rfl
    | 2, _ => rfl⟩⟩
  refine dc rfl rfl (ch_call rfl rfl (cmp_Or (es := [rcmp l.a m.a, rcmp l.b m.b, rcmp l.c m.c]) hsl (Nat.le_of_ble_eq_true rfl)) rfl ?_)
  rintro _ G7 _ rfl
  refine dr_s <| dy rfl (fun _ => yd_assign rfl) rfl rfl <| dn <| st_ret <| ?_
  exact st_done (.tmp rfl .nil) rfl
theorem Ln_Equal {A B G : Gh} {z1 z2 : LV} {l m : LnQ} {k1 k2 : Nat} (hl : IsL k1 A z1 l) (hm : IsL k2 B z2 m) [GL A G] [GL B G] (hk : k1 + k2 + 1 ≤ 1099511627776)  :
    Fn Tryz.prog 132 [.agg ⟨[.int .i64 z1.a.n, .int .i64 z1.a.d, .pointer z1.a.p, .int .i64 z1.b.n, .int .i64 z1.b.d, .pointer z1.b.p, .int .i64 z1.c.n, .int .i64 z1.c.d, .pointer z1.c.p]⟩, .agg ⟨[.int .i64 z2.a.n, .int .i64 z2.a.d, .pointer z2.a.p, .int .i64 z2.b.n, .int .i64 z2.b.d, .pointer z2.b.p, .int .i64 z2.c.n, .int .i64 z2.c.d, .pointer z2.c.p]⟩] G (fun v _ => v = .bool (decide (l = m))) := by
  refine Fn.intro Tryz.func132 rfl rfl Tryz.ntmps132 rfl ?_
  intro C _ _
  refine st_seq <| st_region <| ?_
  refine sc (ch_box rfl rfl ?_)
  intro b1
  refine sc (ch_box rfl rfl ?_)
  intro b2
  refine sa rfl rfl <| st_end <| st_seq <| st_region <| slo rfl rfl rfl <| slo rfl rfl rfl <| ?_
  refine sc (ch_call rfl rfl (Ln_Cmp hl hm hk) rfl ?_)
  rintro _ G3 _ rfl
  refine sy (yd_eql rfl rfl) rfl <| sa rfl rfl <| st_end <| st_ret <| ?_
  exact st_done (.tmp rfl .nil) (by show Value.bool (decide (cmpQ l m = 0)) = _; rw [decide_eq_decide.2 (cmpQ_eq l m)])
theorem Pt_half {A G : Gh} {z : PV} {p : PtQ} {k : Nat} (h : IsP k A z p) [GL A G] (hk : k ≤ 1099511627776) :
    Fn Tryz.prog 195 [.agg ⟨[.int .i64 z.x.n, .int .i64 z.x.d, .pointer z.x.p, .int .i64 z.y.n, .int .i64 z.y.d, .pointer z.y.p]⟩] G (fun v _ => v = .int .i64 p.half) := by
  obtain ⟨hx, hy⟩ := h
  refine Fn.intro Tryz.func195 rfl rfl Tryz.ntmps195 rfl ?_
  intro C _ _
  refine st_seq <| st_region <| ?_
  refine sc (ch_box rfl rfl ?_)
  intro b1
  refine sa rfl rfl <| st_end <| st_seq <| st_seq <| st_region <| sf rfl rfl <| slo rfl rfl rfl <| ?_
  refine sc (ch_call rfl rfl (R_Sign hy (by omega)) rfl ?_)
  rintro _ G2 _ rfl
  refine sa rfl rfl <| st_end <| st_block <| st_seq <| st_region <| sm rfl rfl <| sy (yd_gtr rfl rfl) rfl <| sm rfl rfl <| ?_
  refine st_caseP 10 rfl (fun hg => ?_) (fun hg => ?_)
  · -- slot 10 yes
    refine ss rfl rfl rfl rfl <| ss rfl rfl rfl rfl <| ss rfl rfl rfl rfl <| ssu rfl rfl rfl <| ssu rfl rfl rfl <| ssu rfl rfl rfl <| ssu rfl rfl rfl <| ss rfl rfl rfl rfl <| sy (yd_pickT rfl rfl) rfl <| ?_
    refine sa rfl rfl <| st_end <| st_condT rfl <| st_seq <| st_region <| sa rfl rfl <| st_end <| st_ret <| ?_
    exact st_done (.tmp rfl .nil) (by show Value.int .i64 _ = .int .i64 (PtQ.half p); congr 1; unfold PtQ.half; split <;> (try split) <;> first | rfl | omega)
  refine syg rfl rfl (yd_move rfl) rfl <| syg rfl rfl (yd_eql rfl rfl) rfl <| syg rfl rfl (yd_move rfl) rfl <| ?_
  refine st_caseP 13 rfl (fun hg => ?_) (fun hg => ?_)
  · -- slot 13 yes
    refine syg rfl rfl (yd_fieldAddr rfl) rfl <| syg rfl rfl (yd_load_own rfl rfl) rfl <| ?_
    refine st_chg rfl rfl rfl (ch_call rfl rfl (R_Sign hx (by omega)) rfl ?_)
    rintro _ G3 _ rfl
    refine syg rfl rfl (yd_gtr rfl rfl) rfl <| syg rfl rfl (yd_pickT rfl rfl) rfl <| sy (yd_pickF rfl rfl) rfl <| sa rfl rfl <| st_end <| ?_
    refine st_condP rfl (fun hc => ?_) (fun hc => ?_) -- slot 7
    · -- yes
      refine st_seq <| st_region <| sa rfl rfl <| st_end <| st_ret <| ?_
      exact st_done (.tmp rfl .nil) (by show Value.int .i64 _ = .int .i64 (PtQ.half p); congr 1; unfold PtQ.half; split <;> (try split) <;> first | rfl | omega)
    refine st_seq <| st_region <| sm rfl rfl <| sy (yd_lss rfl rfl) rfl <| sm rfl rfl <| ?_
    refine st_caseP 23 rfl (fun hg => ?_) (fun hg => ?_)
    · -- slot 23 yes
      refine ss rfl rfl rfl rfl <| ss rfl rfl rfl rfl <| ss rfl rfl rfl rfl <| ss rfl rfl rfl rfl <| sy (yd_pickT rfl rfl) rfl <| sa rfl rfl <| st_end <| st_condT rfl <| st_seq <| st_region <| sa rfl rfl <| ?_
      refine st_end <| st_ret <| ?_
      exact st_done (.tmp rfl .nil) (by show Value.int .i64 _ = .int .i64 (PtQ.half p); congr 1; unfold PtQ.half; split <;> (try split) <;> first | rfl | omega)
    refine syg rfl rfl (yd_fieldAddr rfl) rfl <| syg rfl rfl (yd_load_own rfl rfl) rfl <| ?_
    refine st_chg rfl rfl rfl (ch_call rfl rfl (R_Sign hx (by omega)) rfl ?_)
    rintro _ G4 _ rfl
    refine syg rfl rfl (yd_lss rfl rfl) rfl <| sy (yd_pickF rfl rfl) rfl <| sa rfl rfl <| st_end <| ?_
    refine st_condP rfl (fun hc => ?_) (fun hc => ?_) -- slot 20
    · -- yes
      refine st_seq <| st_region <| sa rfl rfl <| st_end <| st_ret <| ?_
      exact st_done (.tmp rfl .nil) (by show Value.int .i64 _ = .int .i64 (PtQ.half p); congr 1; unfold PtQ.half; split <;> (try split) <;> first | rfl | omega)
    refine st_skipc <| st_seq <| st_region <| sa rfl rfl <| st_end <| st_ret <| ?_
    exact st_done (.tmp rfl .nil) (by show Value.int .i64 _ = .int .i64 (PtQ.half p); congr 1; unfold PtQ.half; split <;> (try split) <;> first | rfl | omega)
  refine ss rfl rfl rfl rfl <| ss rfl rfl rfl rfl <| ss rfl rfl rfl rfl <| ss rfl rfl rfl rfl <| syg rfl rfl (yd_pickF rfl rfl) rfl <| sy (yd_pickF rfl rfl) rfl <| sa rfl rfl <| st_end <| st_condF rfl <| ?_
  refine st_seq <| st_region <| sm rfl rfl <| sy (yd_lss rfl rfl) rfl <| sm rfl rfl <| ?_
  refine st_caseP 23 rfl (fun hg => ?_) (fun hg => ?_)
  · -- slot 23 yes
    refine ss rfl rfl rfl rfl <| ss rfl rfl rfl rfl <| ss rfl rfl rfl rfl <| ss rfl rfl rfl rfl <| sy (yd_pickT rfl rfl) rfl <| sa rfl rfl <| st_end <| st_condT rfl <| st_seq <| st_region <| sa rfl rfl <| ?_
    refine st_end <| st_ret <| ?_
    exact st_done (.tmp rfl .nil) (by show Value.int .i64 _ = .int .i64 (PtQ.half p); congr 1; unfold PtQ.half; split <;> (try split) <;> first | rfl | omega)
  refine syg rfl rfl (yd_fieldAddr rfl) rfl <| syg rfl rfl (yd_load_own rfl rfl) rfl <| ?_
  refine st_chg rfl rfl rfl (ch_call rfl rfl (R_Sign hx (by omega)) rfl ?_)
  rintro _ G5 _ rfl
  refine syg rfl rfl (yd_lss rfl rfl) rfl <| sy (yd_pickF rfl rfl) rfl <| sa rfl rfl <| st_end <| ?_
  refine st_condP rfl (fun hc => ?_) (fun hc => ?_) -- slot 20
  · -- yes
    refine st_seq <| st_region <| sa rfl rfl <| st_end <| st_ret <| ?_
    exact st_done (.tmp rfl .nil) (by show Value.int .i64 _ = .int .i64 (PtQ.half p); congr 1; unfold PtQ.half; split <;> (try split) <;> first | rfl | omega)
  refine st_skipc <| st_seq <| st_region <| sa rfl rfl <| st_end <| st_ret <| ?_
  exact st_done (.tmp rfl .nil) (by show Value.int .i64 _ = .int .i64 (PtQ.half p); congr 1; unfold PtQ.half; split <;> (try split) <;> first | rfl | omega)
theorem geo_Angle {A B G : Gh} {z1 z2 : PV} {p q : PtQ} {k1 k2 : Nat} (hp : IsP k1 A z1 p) (hq : IsP k2 B z2 q) [GL A G] [GL B G] (hk : k1 + k2 ≤ 137438953472) :
    Fn Tryz.prog 154 [.agg ⟨[.int .i64 z1.x.n, .int .i64 z1.x.d, .pointer z1.x.p, .int .i64 z1.y.n, .int .i64 z1.y.d, .pointer z1.y.p]⟩, .agg ⟨[.int .i64 z2.x.n, .int .i64 z2.x.d, .pointer z2.x.p, .int .i64 z2.y.n, .int .i64 z2.y.d, .pointer z2.y.p]⟩] G (fun v _ => v = .int .i64 (angleQ p q)) := by
  refine Fn.intro Tryz.func154 rfl rfl Tryz.ntmps154 rfl ?_
  intro C _ _
  refine st_seq <| st_region <| ?_
  refine sc (ch_box rfl rfl ?_)
  intro b1
  refine sc (ch_box rfl rfl ?_)
  intro b2
  refine sa rfl rfl <| st_end <| st_seq <| st_seq <| dr (fun _ => false) [(0, true), (2, true), (1, false), (3, false), (4, true), (5, true)] follows (by kernel_rfl) <| dy rfl (fun _ => yd_load_own rfl rfl) rfl rfl <| ?_
  refine dy rfl (fun _ => yd_load_own rfl rfl) rfl rfl <| ?_
  refine dc rfl rfl (ch_call rfl rfl (Pt_half hp (by omega)) rfl ?_)
  rintro _ G3 _ rfl
  refine dr_s <| ?_
  refine dc rfl rfl (ch_call rfl rfl (Pt_half hq (by omega)) rfl ?_)
  rintro _ G4 _ rfl
  refine dr_s <| dy rfl (fun _ => yd_assign rfl) rfl rfl <| dy rfl (fun _ => yd_assign rfl) rfl rfl <| dn <| st_block <| st_seq <| st_region <| sm rfl rfl <| sm rfl rfl <| sy (yd_lss rfl rfl) rfl <| ?_
  refine sa rfl rfl <| st_end <| ?_
  refine st_condP rfl (fun hc0 => ?_) (fun hc0 => ?_) -- slot 11
  · -- yes
    refine st_seq <| st_region <| sa rfl rfl <| st_end <| st_ret <| ?_
    exact st_done (.tmp rfl .nil) (by rw [angleQ, if_pos hc0]; rfl)
  refine st_seq <| st_region <| sm rfl rfl <| sm rfl rfl <| sy (yd_gtr rfl rfl) rfl <| sa rfl rfl <| st_end <| ?_
  refine st_condP rfl (fun hc1 => ?_) (fun hc1 => ?_) -- slot 15
  · -- yes
    refine st_seq <| st_region <| sa rfl rfl <| st_end <| st_ret <| ?_
    exact st_done (.tmp rfl .nil) (by rw [angleQ, if_neg hc0, if_pos hc1]; rfl)
  refine st_skipc <| st_seq <| st_region <| slo rfl rfl rfl <| slo rfl rfl rfl <| ?_
  refine sc (ch_call rfl rfl (Pt_Cross hp hq (by omega)) rfl ?_)
  rintro _ G5 _ ⟨x6, rfl, h7⟩
  refine sc (ch_call rfl rfl (R_Sign ‹_› (by omega)) rfl ?_)
  rintro _ G8 _ rfl
  refine sy (yd_neg rfl) rfl <| sa rfl rfl <| st_end <| st_ret <| ?_
  exact st_done (.tmp rfl .nil) (by rw [angleQ, if_neg hc0, if_neg hc1]; rcases sign_cases (p.cross q).num with h | h | h <;> (show Value.int .i64 (IntKind.i64.wrap (0 - (p.cross q).num.sign)) = _; rw [h]; rfl))
end Go.Sx
end

section
set_option maxRecDepth 100000
namespace Go.Sx
open Go Go.Proofs

structure FrV where
  l : LV
  v : IvV
def FrV.val (z : FrV) : Value := .agg ⟨[.int .i64 z.l.a.n, .int .i64 z.l.a.d, .pointer z.l.a.p, .int .i64 z.l.b.n, .int .i64 z.l.b.d, .pointer z.l.b.p, .int .i64 z.l.c.n, .int .i64 z.l.c.d, .pointer z.l.c.p, .int .i64 z.v.lo.n, .int .i64 z.v.lo.d, .pointer z.v.lo.p, .int .i64 z.v.hi.n, .int .i64 z.v.hi.d, .pointer z.v.hi.p, .bool z.v.nl, .bool z.v.nh]⟩
structure IsFr (k : Nat) (G : Gh) (z : FrV) (f : FrQ) : Prop where
  l : IsL k G z.l f.l
  v : IsIv (25 * k + 6) G z.v f.v
theorem IsFr.up {k : Nat} {A G : Gh} {z : FrV} {f : FrQ} (h : IsFr k A z f) [GL A G] : IsFr k G z f := ⟨h.l.up, h.v.up⟩
/-- Two lists, place by place. -/
inductive All2 {α β : Type} (R : α → β → Prop) : List α → List β → Prop
  | nil : All2 R [] []
  | cons {a b us bs} (h : R a b) (t : All2 R us bs) : All2 R (a :: us) (b :: bs)
theorem All2.len {α β : Type} {R : α → β → Prop} {us : List α} {bs : List β} (h : All2 R us bs) : us.length = bs.length := by
  induction h with
  | nil => rfl
  | cons _ _ ih => simp [ih]
theorem All2.imp {α β : Type} {R S : α → β → Prop} {us : List α} {bs : List β} (h : All2 R us bs) (k : ∀ a b, R a b → S a b) : All2 S us bs := by
  induction h with
  | nil => exact .nil
  | cons h _ ih => exact .cons (k _ _ h) ih
theorem All2.get {α β : Type} {R : α → β → Prop} {us : List α} {bs : List β} (h : All2 R us bs) {i : Nat} {b : β} (hi : bs[i]? = some b) : ∃ a, us[i]? = some a ∧ R a b := by
  induction h generalizing i with
  | nil => simp at hi
  | @cons a b' us bs h t ih =>
    cases i with
    | zero => simp at hi; subst hi; exact ⟨a, rfl, h⟩
    | succ i => simpa using ih (i := i) (by simpa using hi)
theorem All2.app {α β : Type} {R : α → β → Prop} {us us' : List α} {bs bs' : List β} (h : All2 R us bs) (k : All2 R us' bs') : All2 R (us ++ us') (bs ++ bs') := by
  induction h with
  | nil => exact k
  | cons h _ ih => exact .cons h ih
theorem All2.take {α β : Type} {R : α → β → Prop} {us : List α} {bs : List β} (h : All2 R us bs) (i : Nat) : All2 R (us.take i) (bs.take i) := by
  induction h generalizing i with
  | nil => simp; exact .nil
  | cons h _ ih =>
    cases i with
    | zero => exact .nil
    | succ i => exact .cons h (ih i)
theorem All2.drop {α β : Type} {R : α → β → Prop} {us : List α} {bs : List β} (h : All2 R us bs) (i : Nat) : All2 R (us.drop i) (bs.drop i) := by
  induction h generalizing i with
  | nil => simp; exact .nil
  | cons h t ih =>
    cases i with
    | zero => exact .cons h t
    | succ i => exact ih i
/-- A cell in memory. -/
structure IsC (k : Nat) (G : Gh) (x : SV) (c : CellQ) : Prop where
  ex : ∃ fs : List FrV, IsSl G 17 x (fs.map FrV.val) ∧ All2 (IsFr k G) fs c
theorem IsC.up {k : Nat} {A G : Gh} {x : SV} {c : CellQ} (h : IsC k A x c) [GL A G] : IsC k G x c := by
  obtain ⟨fs, h1, h2⟩ := h.ex
  exact ⟨fs, h1.up, h2.imp fun _ _ h => h.up⟩
theorem IsC.len {k : Nat} {G : Gh} {x : SV} {c : CellQ} (h : IsC k G x c) : x.n = c.length := by
  obtain ⟨fs, h1, h2⟩ := h.ex
  rw [h1.len, List.length_map, h2.len]
theorem IsC.nil (k : Nat) (G : Gh) : IsC k G ⟨none, 0, 0⟩ [] := ⟨[], .nil G 17, .nil⟩

theorem partV_drop (l : LnQ) {c : CellQ} {i : Nat} (hi : i < c.length) (v : IvQ) : partV l (c.drop i) v = if l.cutB v c[i].l then partV l (c.drop (i + 1)) (l.cutV v c[i].l) else none := by
  rw [List.drop_eq_getElem_cons hi]; rfl
set_option maxHeartbeats 1000000 in
theorem Cell_part {A B G : Gh} {x : SV} {z : LV} {c : CellQ} {l : LnQ} {k : Nat} (hx : IsC k A x c) (hl : IsL k B z l) [GL A G] [GL B G] (hk : k ≤ 100000000) (hb : c.length ≤ 1125899906842624) :
    Fn Tryz.prog 149 [.slice x.a x.n x.c, .agg ⟨[.int .i64 z.a.n, .int .i64 z.a.d, .pointer z.a.p, .int .i64 z.b.n, .int .i64 z.b.d, .pointer z.b.p, .int .i64 z.c.n, .int .i64 z.c.d, .pointer z.c.p]⟩] G (fun u G' =>
      (partQ c l = none ∧ u = .tuple #[IvV.v ⟨⟨0, 0, none⟩, ⟨0, 0, none⟩, false, false⟩, .bool false]) ∨ ∃ v y, partQ c l = some v ∧ u = .tuple #[IvV.v y, .bool true] ∧ IsIv (25 * k + 6) G' y v) := by
  have hlen := hx.len
  obtain ⟨fs, hs, hfs⟩ := hx.ex
  obtain ⟨xa, xn, xc⟩ := x
  simp only [] at hlen
  subst hlen
  have h1 : 1 ≤ k := hl.a.k1
  refine Fn.intro Tryz.func149 rfl rfl Tryz.ntmps149 rfl ?_
  intro C _ _
  refine st_seq <| st_region <| ?_
  refine sc (ch_box rfl rfl ?_)
  intro b1
  refine sc (ch_alloc rfl ?_)
  intro b2
  refine sa rfl rfl <| st_end <| st_seq <| st_region <| ?_
  refine sc (ch_call rfl rfl geo_All rfl ?_)
  rintro _ G3 _ rfl
  refine sc (ch_alloc rfl ?_)
  intro b4
  refine sc (ch_storeN rfl rfl (by first | (dsimp only [ovw, cellsL, List.set_cons_zero, List.set_cons_succ, Nat.reduceAdd, RV.v, LV.v, PV.v, IvV.v, FrV.val]; done) | exact rfl) (by repeat (first | exact .hd .. | apply OUpd.tl)) rfl (Nat.le_of_ble_eq_true rfl) rfl rfl ?_)
  refine sa rfl rfl <| st_end <| st_seq <| st_seq <| st_region <| sm rfl rfl <| slen rfl rfl <| sm rfl rfl <| st_end <| st_block <| ?_
  refine st_loop (X := Nat × IvV × IvQ) (fun q => [(13, .int .i64 q.1), (12, .int .i64 c.length), (11, .slice xa c.length xc), (3, .pointer (some ⟨b1, 0, none⟩)), (6, .pointer (some ⟨b4, 0, none⟩)), (4, .pointer (some ⟨b2, 0, none⟩))])
    (fun q => [⟨b4, [.int .i64 q.2.1.lo.n, .int .i64 q.2.1.lo.d, .pointer q.2.1.lo.p, .int .i64 q.2.1.hi.n, .int .i64 q.2.1.hi.d, .pointer q.2.1.hi.p, .bool q.2.1.nl, .bool q.2.1.nh], 194, true⟩, ⟨b2, [.int .i64 0, .int .i64 0, .pointer none, .int .i64 0, .int .i64 0, .pointer none, .bool false, .bool false], 194, true⟩, ⟨b1, [.int .i64 z.a.n, .int .i64 z.a.d, .pointer z.a.p, .int .i64 z.b.n, .int .i64 z.b.d, .pointer z.b.p, .int .i64 z.c.n, .int .i64 z.c.d, .pointer z.c.p], 105, true⟩])
    (fun q G => q.1 ≤ c.length ∧ IsIv (25 * k + 6) G q.2.1 q.2.2 ∧ partV l (c.drop q.1) q.2.2 = partQ c l) (fun q => c.length - q.1) (0, ⟨⟨0, 0, none⟩, ⟨0, 0, none⟩, true, true⟩, IvQ.all)
    ⟨Nat.zero_le _, ⟨IsR.zero (by omega), IsR.zero (by omega), rfl, rfl⟩, rfl⟩ (.cons rfl (.cons rfl (.cons rfl (.cons rfl (.cons rfl (.cons rfl .nil)))))) rfl ?_
  rintro ⟨i, y, v⟩ Gx _ ⟨hi, hv, hp⟩
  simp only [] at hi hv hp
  refine st_seq <| st_region <| sy (yd_lss rfl rfl) rfl <| st_end <| st_seq <| ?_
  refine st_condE rfl (fun hc => ?_) (fun hc => ?_) -- slot 14
  · refine st_exit <| st_te <| st_te <| st_inBlock_eq <| st_seq <| st_region <| slo rfl rfl rfl <| ?_
    refine sc (ch_storeN rfl rfl (by first | (dsimp only [ovw, cellsL, List.set_cons_zero, List.set_cons_succ, Nat.reduceAdd, RV.v, LV.v, PV.v, IvV.v, FrV.val]; done) | exact rfl) (by repeat (first | exact .hd .. | apply OUpd.tl)) rfl (Nat.le_of_ble_eq_true rfl) rfl rfl ?_)
    refine sa rfl rfl <| st_end <| st_ret <| ?_
    rw [List.drop_eq_nil_of_le (by omega)] at hp
    exact st_done (.agg rfl inferInstance inferInstance rfl (.tmp rfl .nil)) (.inr ⟨v, y, hp.symm, rfl, hv⟩)
  have hi1 : i < c.length := by omega
  obtain ⟨f, hf, hff⟩ := hfs.get (List.getElem?_eq_getElem hi1)
  have hfi : (fs.map FrV.val)[i]? = some (.agg ⟨[.int .i64 f.l.a.n, .int .i64 f.l.a.d, .pointer f.l.a.p, .int .i64 f.l.b.n, .int .i64 f.l.b.d, .pointer f.l.b.p, .int .i64 f.l.c.n, .int .i64 f.l.c.d, .pointer f.l.c.p, .int .i64 f.v.lo.n, .int .i64 f.v.lo.d, .pointer f.v.lo.p, .int .i64 f.v.hi.n, .int .i64 f.v.hi.d, .pointer f.v.hi.p, .bool f.v.nl, .bool f.v.nh]⟩) := by rw [List.getElem?_map, hf]; rfl
  refine st_skipc <| st_seq <| st_block <| st_seq <| st_region <| sy (yd_ix (z := ⟨xa, c.length, xc⟩) hs rfl rfl (by omega) (by show (i : Int) < (c.length : Int); omega)) rfl <| ?_
  rw [Int.toNat_natCast]
  refine sy (yd_ldA (i := i) hs rfl (by rw [List.length_map, hfs.len]; exact hi1) hfi) rfl <| ?_
  refine sc (ch_alloc rfl ?_)
  intro b5
  refine sc (ch_storeN rfl rfl (by first | (dsimp only [ovw, cellsL, List.set_cons_zero, List.set_cons_succ, Nat.reduceAdd, RV.v, LV.v, PV.v, IvV.v, FrV.val]; done) | exact rfl) (by repeat (first | exact .hd .. | apply OUpd.tl)) rfl (Nat.le_of_ble_eq_true rfl) rfl rfl ?_)
  refine st_end <| st_seq <| st_region <| slo rfl rfl rfl <| slo rfl rfl rfl <| sf rfl rfl <| slo rfl rfl rfl <| ?_
  refine sc (ch_call rfl rfl (Ln_Cut hl hv hff.l (by omega)) rfl ?_)
  rintro _ G6 _ ⟨y', rfl, hy⟩
  refine sm rfl rfl <| sx rfl rfl rfl <| sx rfl rfl rfl <| ?_
  refine sc (ch_storeN rfl rfl (by first | (dsimp only [ovw, cellsL, List.set_cons_zero, List.set_cons_succ, Nat.reduceAdd, RV.v, LV.v, PV.v, IvV.v, FrV.val]; done) | exact rfl) (by repeat (first | exact .hd .. | apply OUpd.tl)) rfl (Nat.le_of_ble_eq_true rfl) rfl rfl ?_)
  refine sa rfl rfl <| st_end <| st_seq <| st_region <| sm rfl rfl <| sy (yd_not rfl) rfl <| st_end <| ?_
  have hpd := partV_drop l hi1 v
  refine st_condB rfl (fun hc1 => ?_) (fun hc1 => ?_) -- slot 26
  · refine st_seq <| st_region <| sy (yd_build rfl) rfl <| ?_
    refine sc (ch_storeN rfl rfl (by first | (dsimp only [ovw, cellsL, List.set_cons_zero, List.set_cons_succ, Nat.reduceAdd, RV.v, LV.v, PV.v, IvV.v, FrV.val]; done) | exact rfl) (by repeat (first | exact .hd .. | apply OUpd.tl)) rfl (Nat.le_of_ble_eq_true rfl) rfl rfl ?_)
    refine sa rfl rfl <| st_end <| st_ret <| ?_
    refine st_done (.agg rfl inferInstance inferInstance rfl (.tmp rfl .nil)) (.inl ⟨?_, rfl⟩)
    rw [← hp, hpd, if_neg (by simpa using hc1)]
  refine st_skipc <| st_region <| sy (yd_add64 rfl rfl (by omega) (by omega)) rfl <| sm rfl rfl <| st_end <| ?_
  refine st_drop _ (List.sublist_cons_self _ _) ?_
  exact st_again (i + 1, y', l.cutV v c[i].l) ⟨hi1, hy, by rw [← hp, hpd, if_pos (by simpa using hc1)]⟩ (by show c.length - (i + 1) < c.length - i; omega) (.cons rfl (.cons rfl (.cons rfl (.cons rfl (.cons rfl (.cons rfl .nil)))))) rfl
end Go.Sx
end

section
set_option maxRecDepth 100000
namespace Go.Sx
open Go Go.Proofs

set_option maxHeartbeats 1000000 in
theorem Cell_Place {A B G : Gh} {x : SV} {z : LV} {c : CellQ} {l : LnQ} {k : Nat} (hx : IsC k A x c) (hl : IsL k B z l) [GL A G] [GL B G] (hk : k ≤ 100000000) (hb : c.length ≤ 1125899906842624) :
    Fn Tryz.prog 150 [.slice x.a x.n x.c, .agg ⟨[.int .i64 z.a.n, .int .i64 z.a.d, .pointer z.a.p, .int .i64 z.b.n, .int .i64 z.b.d, .pointer z.b.p, .int .i64 z.c.n, .int .i64 z.c.d, .pointer z.c.p]⟩] G (fun u _ => u = .int .i64 (placeQ c l)) := by
  have hpart : ∀ {G : Gh} [GL A G] [GL B G], Fn Tryz.prog 149 [.slice x.a x.n x.c, .agg ⟨[.int .i64 z.a.n, .int .i64 z.a.d, .pointer z.a.p, .int .i64 z.b.n, .int .i64 z.b.d, .pointer z.b.p, .int .i64 z.c.n, .int .i64 z.c.d, .pointer z.c.p]⟩] G _ := fun {G} _ _ => Cell_part (G := G) hx hl hk hb
  have hlen := hx.len
  obtain ⟨fs, hs, hfs⟩ := hx.ex
  obtain ⟨xa, xn, xc⟩ := x
  simp only [] at hlen
  subst hlen
  have h1 : 1 ≤ k := hl.a.k1
  refine Fn.intro Tryz.func150 rfl rfl Tryz.ntmps150 rfl ?_
  intro C _ _
  refine st_seq <| st_region <| ?_
  refine sc (ch_box rfl rfl ?_)
  intro b1
  refine sa rfl rfl <| st_end <| st_seq <| st_seq <| st_region <| sm rfl rfl <| slo rfl rfl rfl <| ?_
  refine sc (ch_call rfl rfl hpart rfl ?_)
  rintro _ G2 _ (⟨hn, rfl⟩ | ⟨v, y, hv, rfl, hy⟩)
  case inr =>
    refine sm rfl rfl <| sx rfl rfl rfl <| sx rfl rfl rfl <| ?_
    refine sc (ch_alloc rfl ?_)
    intro b3
    refine sc (ch_storeN rfl rfl (by first | (dsimp only [ovw, cellsL, List.set_cons_zero, List.set_cons_succ, Nat.reduceAdd, RV.v, LV.v, PV.v, IvV.v, FrV.val]; done) | exact rfl) (by repeat (first | exact .hd .. | apply OUpd.tl)) rfl (Nat.le_of_ble_eq_true rfl) rfl rfl ?_)
    refine sa rfl rfl <| st_end <| st_seq <| st_region <| sm rfl rfl <| st_end <| st_condT rfl <| ?_
    refine st_seq <| st_region <| sa rfl rfl <| st_end <| st_ret <| ?_
    exact st_done (.tmp rfl .nil) (by rw [placeQ, hv]; rfl)
  refine sm rfl rfl <| sx rfl rfl rfl <| sx rfl rfl rfl <| ?_
  refine sc (ch_alloc rfl ?_)
  intro b3
  refine sc (ch_storeN rfl rfl (by first | (dsimp only [ovw, cellsL, List.set_cons_zero, List.set_cons_succ, Nat.reduceAdd, RV.v, LV.v, PV.v, IvV.v, FrV.val]; done) | exact rfl) (by repeat (first | exact .hd .. | apply OUpd.tl)) rfl (Nat.le_of_ble_eq_true rfl) rfl rfl ?_)
  refine sa rfl rfl <| st_end <| st_seq <| st_region <| sm rfl rfl <| st_end <| st_condF rfl <| ?_
  have hpq : placeQ c l = placeV l c := by rw [placeQ, hn]; rfl
  rw [hpq]
  refine st_skipc <| st_seq <| st_seq <| st_region <| sm rfl rfl <| slen rfl rfl <| sm rfl rfl <| st_end <| st_block <| ?_
  refine st_loop (X := Nat) (fun q => [(19, .int .i64 q), (18, .int .i64 c.length), (17, .slice xa c.length xc), (3, .pointer (some ⟨b1, 0, none⟩))])
    (fun q => [⟨b3, [.int .i64 0, .int .i64 0, .pointer none, .int .i64 0, .int .i64 0, .pointer none, .bool false, .bool false], 194, true⟩, ⟨b1, [.int .i64 z.a.n, .int .i64 z.a.d, .pointer z.a.p, .int .i64 z.b.n, .int .i64 z.b.d, .pointer z.b.p, .int .i64 z.c.n, .int .i64 z.c.d, .pointer z.c.p], 105, true⟩])
    (fun q G => q ≤ c.length ∧ placeV l (c.drop q) = placeV l c) (fun q => c.length - q) 0
    ⟨Nat.zero_le _, rfl⟩ (.cons rfl (.cons rfl (.cons rfl (.cons rfl .nil)))) rfl ?_
  rintro i Gx _ ⟨hi, hp⟩
  refine st_seq <| st_region <| sy (yd_lss rfl rfl) rfl <| st_end <| st_seq <| ?_
  refine st_condE rfl (fun hc => ?_) (fun hc => ?_) -- slot 20
  · refine st_exit <| st_te <| st_te <| st_inBlock_eq <| st_seq <| st_region <| sa rfl rfl <| st_end <| st_ret <| ?_
    rw [List.drop_eq_nil_of_le (by omega)] at hp
    exact st_done (.tmp rfl .nil) (by rw [← hp]; rfl)
  have hi1 : i < c.length := by omega
  obtain ⟨f, hf, hff⟩ := hfs.get (List.getElem?_eq_getElem hi1)
  have hfi : (fs.map FrV.val)[i]? = some (.agg ⟨[.int .i64 f.l.a.n, .int .i64 f.l.a.d, .pointer f.l.a.p, .int .i64 f.l.b.n, .int .i64 f.l.b.d, .pointer f.l.b.p, .int .i64 f.l.c.n, .int .i64 f.l.c.d, .pointer f.l.c.p, .int .i64 f.v.lo.n, .int .i64 f.v.lo.d, .pointer f.v.lo.p, .int .i64 f.v.hi.n, .int .i64 f.v.hi.d, .pointer f.v.hi.p, .bool f.v.nl, .bool f.v.nh]⟩) := by rw [List.getElem?_map, hf]; rfl
  rw [List.drop_eq_getElem_cons hi1] at hp
  refine st_skipc <| st_seq <| st_block <| st_seq <| st_region <| sy (yd_ix (z := ⟨xa, c.length, xc⟩) hs rfl rfl (by omega) (by show (i : Int) < (c.length : Int); omega)) rfl <| ?_
  rw [Int.toNat_natCast]
  refine sy (yd_ldA (i := i) hs rfl (by rw [List.length_map, hfs.len]; exact hi1) hfi) rfl <| ?_
  refine sc (ch_alloc rfl ?_)
  intro b4
  refine sc (ch_storeN rfl rfl (by first | (dsimp only [ovw, cellsL, List.set_cons_zero, List.set_cons_succ, Nat.reduceAdd, RV.v, LV.v, PV.v, IvV.v, FrV.val]; done) | exact rfl) (by repeat (first | exact .hd .. | apply OUpd.tl)) rfl (Nat.le_of_ble_eq_true rfl) rfl rfl ?_)
  refine st_end <| st_seq <| st_seq <| dr (fun _ => false) [(0, true), (1, true), (2, true), (3, true), (4, true), (5, false), (6, false), (7, false), (8, true)] follows (by kernel_rfl) <| dy rfl (fun _ => yd_load_own rfl rfl) rfl rfl <| ?_
  refine dy rfl (fun _ => yd_fieldAddr rfl) rfl rfl <| dy rfl (fun _ => yd_load_own rfl rfl) rfl rfl <| dy rfl (fun _ => yd_fieldAddr rfl) rfl rfl <| dy rfl (fun _ => yd_load_own rfl rfl) rfl rfl <| ?_
  refine dc rfl rfl (ch_call rfl rfl (Iv_Sample hff.v (by omega)) rfl ?_)
  rintro _ G5 _ ⟨xs, rfl, hS⟩
  refine dr_s <| ?_
  refine dc rfl rfl (ch_call rfl rfl (Ln_At hff.l hS (by omega)) rfl ?_)
  rintro _ G6 _ ⟨xp, rfl, hA⟩
  refine dr_s <| ?_
  refine dc rfl rfl (ch_call rfl rfl (Ln_Side hl hA (by omega)) rfl ?_)
  rintro _ G9 _ rfl
  refine dr_s <| dy rfl (fun _ => yd_assign rfl) rfl rfl <| dn <| st_seq <| st_region <| sm rfl rfl <| sy (yd_neq rfl rfl) rfl <| st_end <| ?_
  refine st_condP rfl (fun hc1 => ?_) (fun hc1 => ?_) -- slot 32
  · -- yes
    refine st_seq <| st_region <| sm rfl rfl <| sa rfl rfl <| st_end <| st_ret <| ?_
    exact st_done (.tmp rfl .nil) (by rw [← hp, placeV, if_pos (show sideAt l c[i] ≠ 0 from hc1)]; rfl)
  refine st_skipc <| st_seq <| st_region <| sf rfl rfl <| slo rfl rfl rfl <| slo rfl rfl rfl <| ?_
  refine sc (ch_call rfl rfl (Ln_Equal hff.l hl (by omega)) rfl ?_)
  rintro _ G10 _ rfl
  refine st_end <| ?_
  refine st_condP rfl (fun hc2 => ?_) (fun hc2 => ?_) -- slot 37
  · -- yes
    refine st_seq <| st_region <| sa rfl rfl <| st_end <| st_ret <| ?_
    exact st_done (.tmp rfl .nil) (by rw [← hp, placeV, if_neg (show ¬ sideAt l c[i] ≠ 0 from hc1), if_pos hc2]; rfl)
  refine st_skipc <| st_region <| sy (yd_add64 rfl rfl (by omega) (by omega)) rfl <| sm rfl rfl <| st_end <| ?_
  refine st_drop _ (List.sublist_cons_self _ _) ?_
  exact st_again (i + 1) ⟨hi1, by rw [← hp, placeV, if_neg (show ¬ sideAt l c[i] ≠ 0 from hc1), if_neg hc2]⟩ (by omega) (.cons rfl (.cons rfl (.cons rfl (.cons rfl .nil)))) rfl
theorem Clip_cmp {A B G : Gh} {z1 : FrV} {z2 : LV} {s : FrQ} {l : LnQ} {k : Nat} (hs : IsFr k A z1 s) (hl : IsL k B z2 l) [GL A G] [GL B G] (hk : k ≤ 100000000) :
    Fn Tryz.prog 153 [.agg ⟨[.int .i64 z1.l.a.n, .int .i64 z1.l.a.d, .pointer z1.l.a.p, .int .i64 z1.l.b.n, .int .i64 z1.l.b.d, .pointer z1.l.b.p, .int .i64 z1.l.c.n, .int .i64 z1.l.c.d, .pointer z1.l.c.p, .int .i64 z1.v.lo.n, .int .i64 z1.v.lo.d, .pointer z1.v.lo.p, .int .i64 z1.v.hi.n, .int .i64 z1.v.hi.d, .pointer z1.v.hi.p, .bool z1.v.nl, .bool z1.v.nh]⟩, .agg ⟨[.int .i64 z2.a.n, .int .i64 z2.a.d, .pointer z2.a.p, .int .i64 z2.b.n, .int .i64 z2.b.d, .pointer z2.b.p, .int .i64 z2.c.n, .int .i64 z2.c.d, .pointer z2.c.p]⟩] G (fun u _ => u = .int .i64 (angleQ s.l.dir l.dir)) := by
  refine Fn.intro Tryz.func153 rfl rfl Tryz.ntmps153 rfl ?_
  intro C _ _
  refine st_seq <| st_region <| ?_
  refine sc (ch_box rfl rfl ?_)
  intro b1
  refine sc (ch_box rfl rfl ?_)
  intro b2
  refine sa rfl rfl <| st_end <| st_seq <| dr (fun _ => false) [(0, true), (1, true), (3, true), (2, false), (4, false), (5, false), (6, true)] follows (by kernel_rfl) <| dy rfl (fun _ => yd_fieldAddr rfl) rfl rfl <| ?_
  refine dy rfl (fun _ => yd_load_own rfl rfl) rfl rfl <| dy rfl (fun _ => yd_load_own rfl rfl) rfl rfl <| ?_
  refine dc rfl rfl (ch_call rfl rfl (Ln_Dir hs.l (by omega)) rfl ?_)
  rintro _ G3 _ ⟨x4, rfl, h5⟩
  refine dr_s <| ?_
  refine dc rfl rfl (ch_call rfl rfl (Ln_Dir hl (by omega)) rfl ?_)
  rintro _ G6 _ ⟨x7, rfl, h8⟩
  refine dr_s <| ?_
  refine dc rfl rfl (ch_call rfl rfl (geo_Angle h5 h8 (by omega)) rfl ?_)
  rintro _ G9 _ rfl
  refine dr_s <| dy rfl (fun _ => yd_assign rfl) rfl rfl <| dn <| st_ret <| ?_
  exact st_done (.tmp rfl .nil) rfl
end Go.Sx
end

section
set_option maxRecDepth 100000
namespace Go.Sx
open Go Go.Proofs

section
variable {P : Program} {C : Ctx} {n : Nat} {fr : Fr} {own own' : List Own} {G : Gh} {Φ : Act → World → Prop}
variable {dst : Option Nat} {t t' ty' : TypeId} {pos : String} {af : Array Edge} {gd : Option (Nat × Bool)} {x y : Operand} {e s by_ : Nat}
theorem st_apart {o1 o2 : Own} {rest : List Own} (h : o1.b ≠ o2.b → St C n fr (o1 :: o2 :: rest) G Φ) : St C n fr (o1 :: o2 :: rest) G Φ :=
  fun a w rl => h ((List.pairwise_cons.1 rl.h.nd).1 _ List.mem_cons_self) a w rl
theorem yd_slice_loB [hT : TySl P t e s by_] {k : IntKind} {b off len cap : Nat} {l : Int} (hx : opv fr x = some (.slice (some ⟨b, off, none⟩) len cap)) (hy : opv fr y = some (.int k l)) (h0 : 0 ≤ l) (h1 : l ≤ len) (h2 : l < cap) :
    Yd P C fr own G ⟨dst, .slice t x (some y) none none, ty', pos, af, gd⟩ (.slice (some ⟨b, off + l.toNat * s, none⟩) (len - l.toNat) (cap - l.toNat)) := by
  have h := yd_slice_lo (P := P) (C := C) (own := own) (G := G) (t := t) (dst := dst) (ty' := ty') (pos := pos) (af := af) (gd := gd) (by_ := by_) hx hy h0 h1
  unfold slTo at h
  rw [if_neg (by omega)] at h
  simpa [addr_add] using h
end
theorem FrV.len17 (fs : List FrV) : ∀ v ∈ fs.map FrV.val, (cellsL v).length = 17 := fun v hv => by
  obtain ⟨f, _, rfl⟩ := List.mem_map.1 hv; rfl
theorem FrV.flat (fs : List FrV) : ∀ v ∈ fs.map FrV.val, ∀ c ∈ cellsL v, Sx.flat c = true := fun v hv c hc => by
  obtain ⟨f, _, rfl⟩ := List.mem_map.1 hv
  simp only [FrV.val, cellsL, List.mem_cons, List.not_mem_nil, or_false] at hc
  rcases hc with rfl | rfl | rfl | rfl | rfl | rfl | rfl | rfl | rfl | rfl | rfl | rfl | rfl | rfl | rfl | rfl | rfl <;> rfl
theorem shr1 (p : Int) : p.fdiv (2 ^ min (1 : Int).toNat IntKind.u64.bits) = p / 2 := by
  have : (2 : Int) ^ min (1 : Int).toNat IntKind.u64.bits = 2 := rfl
  rw [this, Int.fdiv_eq_ediv_of_nonneg _ (by omega)]

set_option maxHeartbeats 1000000 in
theorem sides_search {A B G : Gh} {z : LV} {c : CellQ} {l : LnQ} {k b cap : Nat} {fs : List FrV} {rest : List Value} {ty : TypeId} {lo : Bool} (hfs : All2 (IsFr k A) fs c) (hl : IsL k B z l) [GL A G] [GL B G] (hk : k ≤ 100000000) (hb : c.length ≤ 1125899906842624) :
    FnM Tryz.prog 152 [.slice (some ⟨b, 0, none⟩) c.length cap, .agg ⟨[.int .i64 z.a.n, .int .i64 z.a.d, .pointer z.a.p, .int .i64 z.b.n, .int .i64 z.b.d, .pointer z.b.p, .int .i64 z.c.n, .int .i64 z.c.d, .pointer z.c.p]⟩, .func (.func 153) #[] #[]] [⟨b, flatL (fs.map FrV.val) ++ rest, ty, lo⟩] G
      (fun u css _ => css = [flatL (fs.map FrV.val) ++ rest] ∧ ∃ bb, u = .tuple #[.int .i64 (bsq (angAt c l) 0 c.length : Nat), .bool bb]) := by
  have hfl := hfs.len
  have tk : ∀ (i : Nat) (f : FrV), fs[i]? = some f → takeL (flatL (fs.map FrV.val) ++ rest) (i * 17) 17 = some [.int .i64 f.l.a.n, .int .i64 f.l.a.d, .pointer f.l.a.p, .int .i64 f.l.b.n, .int .i64 f.l.b.d, .pointer f.l.b.p, .int .i64 f.l.c.n, .int .i64 f.l.c.d, .pointer f.l.c.p, .int .i64 f.v.lo.n, .int .i64 f.v.lo.d, .pointer f.v.lo.p, .int .i64 f.v.hi.n, .int .i64 f.v.hi.d, .pointer f.v.hi.p, .bool f.v.nl, .bool f.v.nh] := fun i f hf => by
    obtain ⟨hi, hf'⟩ := List.getElem?_eq_some_iff.1 hf
    have := takeL_flat (s := 17) (rest := rest) (FrV.len17 fs) (i := i) (by simpa using hi)
    rw [List.getElem_map, hf'] at this
    exact this
  have ang : ∀ (i : Nat) (s : FrQ), c[i]? = some s → angAt c l i = decide (angleQ s.l.dir l.dir < 0) := fun i s hs => by simp only [angAt, hs]
  refine FnM.intro Tryz.func152 rfl rfl Tryz.ntmps152 rfl ?_
  intro C _ _
  show St C _ _ [⟨b, flatL (fs.map FrV.val) ++ rest, ty, false⟩] _ _
  generalize hcs : flatL (fs.map FrV.val) ++ rest = cs at tk
  refine st_seq <| st_region <| ?_
  refine sc (ch_box rfl rfl ?_)
  intro b1
  refine sa rfl rfl <| sa rfl rfl <| st_end <| st_seq <| st_region <| sm rfl rfl <| slen rfl rfl <| sa rfl rfl <| st_end <| st_seq <| st_region <| sm rfl rfl <| sa rfl rfl <| sa rfl rfl <| st_end <| ?_
  refine st_seq <| st_block <| ?_
  refine st_loop (X := Nat × Nat) (fun q => [(9, .int .i64 q.1), (10, .int .i64 q.2), (2, .func (.func 153) #[] #[]), (0, .slice (some ⟨b, 0, none⟩) c.length cap), (4, .pointer (some ⟨b1, 0, none⟩)), (8, .int .i64 c.length)])
    (fun _ => [⟨b1, [.int .i64 z.a.n, .int .i64 z.a.d, .pointer z.a.p, .int .i64 z.b.n, .int .i64 z.b.d, .pointer z.b.p, .int .i64 z.c.n, .int .i64 z.c.d, .pointer z.c.p], 105, true⟩, ⟨b, cs, ty, false⟩]) (fun q _ => q.1 ≤ q.2 ∧ q.2 ≤ c.length ∧ bsq (angAt c l) q.1 q.2 = bsq (angAt c l) 0 c.length) (fun q => q.2 - q.1) (0, c.length) ⟨Nat.zero_le _, Nat.le_refl _, rfl⟩
    (.cons rfl (.cons rfl (.cons rfl (.cons rfl (.cons rfl (.cons rfl .nil)))))) rfl ?_
  rintro ⟨i, j⟩ Gx _ ⟨hij, hj, hq⟩
  simp only [] at hij hj hq
  refine st_seq <| st_seq <| st_region <| sm rfl rfl <| sm rfl rfl <| sy (yd_lss rfl rfl) rfl <| st_end <| ?_
  refine st_condE rfl (fun hc => ?_) (fun hc => ?_) -- slot 17
  · have hres : bsq (angAt c l) 0 c.length = i := by rw [← hq, bsq, dif_neg (by omega)]
    rw [hres]
    refine st_exit <| st_te <| st_te <| st_inBlock_eq <| st_seq <| dr (fun _ => false) [(0, true), (1, true), (2, true), (3, true), (4, true), (5, true), (6, true), (7, true), (8, true), (9, true), (10, true), (11, false), (12, true), (13, true), (14, true), (15, true)] follows (by kernel_rfl) <| ?_
    refine dy rfl (fun _ => yd_move rfl) rfl rfl <| dy rfl (fun _ => yd_move rfl) rfl rfl <| dy rfl (fun _ => yd_move rfl) rfl rfl <| dy rfl (fun _ => yd_lss rfl rfl) rfl rfl <| dy rfl (fun _ => yd_move rfl) rfl rfl <| ?_
    refine st_caseP 39 rfl (fun hg => ?_) (fun hg => ?_)
    · -- slot 39 yes
      have hi1 : i < c.length := by omega
      obtain ⟨f, hf, hff⟩ := hfs.get (List.getElem?_eq_getElem hi1)
      refine dyg rfl rfl rfl rfl (fun _ => yd_move rfl) rfl <| dyg rfl rfl rfl rfl (fun _ => yd_move rfl) rfl <| dyg rfl rfl rfl rfl (fun _ => yd_move rfl) rfl <| dyg rfl rfl rfl rfl (fun _ => yd_ixO rfl rfl (by omega) (by omega)) rfl <| ?_
      refine dyg rfl rfl rfl rfl (fun _ => yd_load_own rfl (by rw [Int.toNat_natCast]; exact tk i f hf)) rfl <| dyg rfl rfl rfl rfl (fun _ => yd_load_own rfl rfl) rfl <| ?_
      refine dcg rfl rfl rfl rfl (ch_call rfl rfl (Clip_cmp hff hl hk) rfl ?_)
      rintro _ G7 _ rfl
      refine dr_s <| dyg rfl rfl rfl rfl (fun _ => yd_eql rfl rfl) rfl <| dy rfl (fun _ => yd_pickT rfl rfl) rfl rfl <| dy rfl (fun _ => yd_assign rfl) rfl rfl <| dy rfl (fun _ => yd_assign rfl) rfl rfl <| ?_
      refine dn <| st_ret <| ?_
      exact st_doneM (css := [cs]) (.tmp rfl (.tmp rfl .nil)) rfl [⟨b, cs, ty, false⟩, ⟨b1, [.int .i64 z.a.n, .int .i64 z.a.d, .pointer z.a.p, .int .i64 z.b.n, .int .i64 z.b.d, .pointer z.b.p, .int .i64 z.c.n, .int .i64 z.c.d, .pointer z.c.p], 105, true⟩] (List.Perm.swap ..) (.cons_cons _ (List.nil_sublist _)) ⟨rfl, _, rfl⟩
    refine dys rfl rfl rfl rfl rfl rfl <| dys rfl rfl rfl rfl rfl rfl <| dys rfl rfl rfl rfl rfl rfl <| dys rfl rfl rfl rfl rfl rfl <| dys rfl rfl rfl rfl rfl rfl <| dys rfl rfl rfl rfl rfl rfl <| ?_
    refine dcs rfl rfl rfl rfl rfl rfl <| dr_s <| dys rfl rfl rfl rfl rfl rfl <| dy rfl (fun _ => yd_pickF rfl rfl) rfl rfl <| dy rfl (fun _ => yd_assign rfl) rfl rfl <| dy rfl (fun _ => yd_assign rfl) rfl rfl <| ?_
    refine dn <| st_ret <| ?_
    exact st_doneM (css := [cs]) (.tmp rfl (.tmp rfl .nil)) rfl [⟨b, cs, ty, false⟩, ⟨b1, [.int .i64 z.a.n, .int .i64 z.a.d, .pointer z.a.p, .int .i64 z.b.n, .int .i64 z.b.d, .pointer z.b.p, .int .i64 z.c.n, .int .i64 z.c.d, .pointer z.c.p], 105, true⟩] (List.Perm.swap ..) (.cons_cons _ (List.nil_sublist _)) ⟨rfl, _, rfl⟩
  have e2 : ((i : Int) + (j : Int)) / 2 = (((i + j) / 2 : Nat) : Int) := by omega
  refine st_skipc <| st_block <| st_seq <| st_region <| sm rfl rfl <| sm rfl rfl <| sy (yd_add64 rfl rfl (by omega) (by omega)) rfl <| sy (yd_toU64 rfl (by omega) (by omega)) rfl <| sy (yd_shr rfl rfl (by decide)) rfl <| ?_
  rw [shr1, e2]
  have hh : (i + j) / 2 < c.length := by omega
  have hh1 : i ≤ (i + j) / 2 := by omega
  have hh2 : (i + j) / 2 < j := by omega
  have hbs : bsq (angAt c l) i j = if angAt c l ((i + j) / 2) then bsq (angAt c l) ((i + j) / 2 + 1) j else bsq (angAt c l) i ((i + j) / 2) := by
    conv => lhs; rw [bsq]
    rw [dif_pos (by omega)]
  generalize (i + j) / 2 = h at hh hh1 hh2 hbs
  obtain ⟨f, hf, hff⟩ := hfs.get (List.getElem?_eq_getElem hh)
  refine sy (yd_toI64 rfl (by omega) (by omega)) rfl <| sa rfl rfl <| st_end <| st_seq <| dr (fun _ => false) [(0, true), (1, true), (2, true), (3, true), (4, true), (5, true), (6, false), (7, true)] follows (by kernel_rfl) <| ?_
  refine dy rfl (fun _ => yd_move rfl) rfl rfl <| dy rfl (fun _ => yd_move rfl) rfl rfl <| dy rfl (fun _ => yd_move rfl) rfl rfl <| dy rfl (fun _ => yd_ixO rfl rfl (by omega) (by omega)) rfl rfl <| ?_
  refine dy rfl (fun _ => yd_load_own rfl (by rw [Int.toNat_natCast]; exact tk h f hf)) rfl rfl <| dy rfl (fun _ => yd_load_own rfl rfl) rfl rfl <| ?_
  refine dc rfl rfl (ch_call rfl rfl (Clip_cmp hff hl hk) rfl ?_)
  rintro _ G7 _ rfl
  refine dr_s <| dy rfl (fun _ => yd_lss rfl rfl) rfl rfl <| dn <| ?_
  refine st_condP rfl (fun hc1 => ?_) (fun hc1 => ?_) -- slot 31
  · -- yes
    refine st_region <| sm rfl rfl <| sy (yd_add64 rfl rfl (by omega) (by omega)) rfl <| sa rfl rfl <| st_end <| ?_
    exact st_again (h + 1, j) ⟨hh2, hj, by rw [← hq, hbs, if_pos (by rw [ang h _ (List.getElem?_eq_getElem hh)]; exact decide_eq_true hc1)]⟩ (by show j - (h + 1) < j - i; omega) (.cons rfl (.cons rfl (.cons rfl (.cons rfl (.cons rfl (.cons rfl .nil)))))) rfl
  refine st_region <| sm rfl rfl <| sa rfl rfl <| st_end <| ?_
  exact st_again (i, h) ⟨hh1, Nat.le_of_lt hh, by rw [← hq, hbs, if_neg (by rw [ang h _ (List.getElem?_eq_getElem hh)]; simpa using hc1)]⟩ (by show h - i < j - i; omega) (.cons rfl (.cons rfl (.cons rfl (.cons rfl (.cons rfl (.cons rfl .nil)))))) rfl
end Go.Sx
end

section
set_option maxRecDepth 100000
namespace Go.Sx
open Go Go.Proofs

theorem takeL_dropF {vs rest : List Value} (h : ∀ v ∈ vs, (cellsL v).length = 17) {i : Nat} (hi : i ≤ vs.length) : takeL (flatL vs ++ rest) (i * 17) ((vs.length - i) * 17) = some (flatL (vs.drop i)) := by
  have hl := flatL_len vs h
  have hd : (flatL (vs.drop i)).length = (vs.length - i) * 17 := by
    rw [flatL_len (s := 17) _ (fun v hv => h v (List.mem_of_mem_drop hv)), List.length_drop]
  rw [takeL_of _ _ _ (by simp only [List.length_append]; omega)]
  congr 1
  rw [List.drop_append_of_le_length (by omega), flatL_drop vs i h hi, List.take_append_of_le_length (by omega), List.take_of_length_le (by omega)]
theorem ins_cells {vs rest vcs : List Value} (h : ∀ v ∈ vs, (cellsL v).length = 17) (hv : vcs.length = 17) {i : Nat} (hi : i < vs.length) (hr : 17 ≤ rest.length) :
    ovw (ovw (flatL vs ++ rest) ((i + 1) * 17) (flatL (vs.drop i))) (i * 17) vcs = flatL (vs.take i) ++ vcs ++ flatL (vs.drop i) ++ rest.drop 17 := by
  have hl := flatL_len vs h
  have hd : (flatL (vs.drop i)).length = (vs.length - i) * 17 := by
    rw [flatL_len (s := 17) _ (fun v hv => h v (List.mem_of_mem_drop hv)), List.length_drop]
  have ht : (flatL (vs.take i)).length = i * 17 := by
    rw [flatL_len (s := 17) _ (fun v hv => h v (List.mem_of_mem_take hv)), List.length_take, Nat.min_eq_left (by omega)]
  rw [ovw_spec (flatL (vs.drop i)) (flatL vs ++ rest) _ (by rw [List.length_append]; omega)]
  rw [ovw_spec vcs _ _ (by simp only [List.length_append, List.length_take, List.length_drop]; omega)]
  have e1 : (flatL vs ++ rest).drop ((i + 1) * 17 + (flatL (vs.drop i)).length) = rest.drop 17 := by
    rw [hd, show (i + 1) * 17 + (vs.length - i) * 17 = (flatL vs).length + 17 by omega, List.drop_append, List.drop_eq_nil_of_le (by omega), List.nil_append]
    congr 1
    omega
  have e2 : ((flatL vs ++ rest).take ((i + 1) * 17) ++ flatL (vs.drop i) ++ rest.drop 17).take (i * 17) = flatL (vs.take i) := by
    rw [List.append_assoc, List.take_append_of_le_length (by simp only [List.length_take, List.length_append]; omega), List.take_take, Nat.min_eq_left (by omega), List.take_append_of_le_length (by omega), flatL_take vs i h (by omega)]
  have e3 : ((flatL vs ++ rest).take ((i + 1) * 17) ++ flatL (vs.drop i) ++ rest.drop 17).drop (i * 17 + vcs.length) = flatL (vs.drop i) ++ rest.drop 17 := by
    rw [hv, List.append_assoc, show i * 17 + 17 = ((flatL vs ++ rest).take ((i + 1) * 17)).length by simp only [List.length_take, List.length_append]; omega, List.drop_left]
  rw [e1, e2, e3]
  simp [List.append_assoc]
theorem app_cells {vs rest vcs : List Value} (h : ∀ v ∈ vs, (cellsL v).length = 17) (hv : vcs.length = 17) (hr : 17 ≤ rest.length) : ovw (flatL vs ++ rest) (vs.length * 17) vcs = flatL vs ++ vcs ++ rest.drop 17 := by
  have hl := flatL_len vs h
  rw [ovw_spec _ _ _ (by simp only [List.length_append]; omega), hv, ← hl, List.take_left, List.drop_append]
  simp
set_option maxHeartbeats 1000000 in
theorem sides_insert {G : Gh} {b bv cap i : Nat} {vs rest vcs : List Value} {lo lo2 : Bool} (hvs : ∀ v ∈ vs, (cellsL v).length = 17) (hfl : ∀ v ∈ vs, ∀ c ∈ cellsL v, flat c = true) (hv : vcs.length = 17) (hvf : ∀ c ∈ vcs, flat c = true)
    (hcap : vs.length * 17 + rest.length = cap * 17) (hroom : vs.length + 1 ≤ cap) (hi : i ≤ vs.length) (hb : vs.length ≤ 1125899906842624) :
    FnM Tryz.prog 156 [.slice (some ⟨b, 0, none⟩) vs.length cap, .int .i64 i, .slice (some ⟨bv, 0, none⟩) 1 1] [⟨b, flatL vs ++ rest, 196, lo⟩, ⟨bv, vcs, 196, lo2⟩] G
      (fun u css _ => u = .slice (some ⟨b, 0, none⟩) (vs.length + 1) cap ∧ css = [flatL (vs.take i) ++ vcs ++ flatL (vs.drop i) ++ rest.drop 17, vcs]) := by
  have hL : (flatL vs ++ rest).length = cap * 17 := by rw [List.length_append, flatL_len vs hvs]; exact hcap
  have hr : 17 ≤ rest.length := by omega
  have hD : (flatL (vs.drop i)).length = (vs.length - i) * 17 := by
    rw [flatL_len (s := 17) _ (fun v hv => hvs v (List.mem_of_mem_drop hv)), List.length_drop]
  have hDf : ∀ c ∈ flatL (vs.drop i), flat c = true := fun c hc => by
    obtain ⟨l, hl, hcl⟩ := List.mem_flatten.1 hc
    obtain ⟨v, hv, rfl⟩ := List.mem_map.1 hl
    exact hfl v (List.mem_of_mem_drop hv) c hcl
  have hvt : takeL vcs 0 (1 * 17) = some vcs := by rw [takeL_of _ _ _ (by omega), List.drop_zero, List.take_of_length_le (by omega)]
  refine FnM.intro Tryz.func156 rfl rfl Tryz.ntmps156 rfl ?_
  intro C _ _
  show St C _ _ [⟨b, flatL vs ++ rest, 196, false⟩, ⟨bv, vcs, 196, false⟩] _ _
  refine st_apart (fun hne => ?_)
  simp only [] at hne
  refine st_seq <| st_region <| sa rfl rfl <| st_end <| st_seq <| st_region <| sm rfl rfl <| sm rfl rfl <| sy (yd_slice_lo rfl rfl (by omega) (by omega)) rfl <| st_end <| st_seq <| st_region <| ?_
  refine sm rfl rfl <| slen rfl rfl <| sa rfl rfl <| st_end <| st_seq <| st_seq <| st_region <| sm rfl rfl <| sy (yd_eql rfl rfl) rfl <| st_end <| st_condF rfl <| ?_
  refine st_skipc <| st_seq <| st_region <| sm rfl rfl <| slen rfl rfl <| sa rfl rfl <| st_end <| st_seq <| st_seq <| st_region <| sm rfl rfl <| sm rfl rfl <| sy (yd_eql rfl rfl) rfl <| st_end <| ?_
  refine st_condP rfl (fun hc => ?_) (fun hc => ?_) -- slot 22
  · have hin : i = vs.length := by omega
    subst hin
    refine st_seq <| st_region <| sm rfl rfl <| sm rfl rfl <| ?_
    refine sc (ch_append_room (s := 17) (m := 1) (ys := vcs) rfl rfl (.hd ..) hL (src_own inferInstance hvt) (by omega) hvf hroom rfl ?_)
    refine sa rfl rfl <| st_end <| st_ret <| ?_
    refine st_doneM (css := [ovw (flatL vs ++ rest) (vs.length * 17) vcs, vcs]) (.tmp rfl .nil) rfl _ (List.Perm.refl _) (List.Sublist.refl _) ⟨rfl, ?_⟩
    rw [app_cells hvs hv hr, List.take_length, List.drop_length]
    simp [flatL]
  have hin : i < vs.length := by omega
  have hn1 : ((vs.length : Int) + ((1 : Nat) : Int)).toNat = vs.length + 1 := by omega
  have ht1 : ((i : Int) + ((1 : Nat) : Int)).toNat = i + 1 := by omega
  refine st_skipc <| st_seq <| st_seq <| st_region <| sm rfl rfl <| sm rfl rfl <| sy (yd_add64 rfl rfl (by omega) (by omega)) rfl <| sm rfl rfl <| ?_
  refine sy (yd_cap rfl) rfl <| sy (yd_gtr rfl rfl) rfl <| st_end <| ?_
  refine st_condP rfl (fun hc2 => ?_) (fun hc2 => ?_) -- slot 31
  · exact absurd hc2 (by omega)
  refine st_skipc <| st_seq <| st_region <| sm rfl rfl <| sm rfl rfl <| sm rfl rfl <| sy (yd_add64 rfl rfl (by omega) (by omega)) rfl <| sy (yd_slice_hi rfl rfl (by omega) (by omega)) rfl <| ?_
  rw [hn1]
  refine sa rfl rfl <| st_end <| st_seq <| st_seq <| st_region <| sm rfl rfl <| sm rfl rfl <| sm rfl rfl <| sm rfl rfl <| sy (yd_add64 rfl rfl (by omega) (by omega)) rfl <| sy (yd_slice_loB rfl rfl (by omega) (by omega) (by omega)) rfl <| ?_
  refine sy (yd_overlaps (tS := 111) (tR := 4) Tryz.func197 (by kernel_rfl) (by kernel_rfl) (by kernel_rfl) (by kernel_rfl) rfl rfl (Ne.symm hne) (fun h => by rw [h] at hL; simp at hL; omega)) rfl <| ?_
  refine sy (yd_not rfl) rfl <| st_end <| st_condT rfl <| ?_
  refine st_seq <| dr0 (b := b) (fun _ => false) [(0, true), (1, true), (2, true), (3, true), (4, true), (5, true), (6, true), (7, true), (8, false)] follows (.hd ..) (by kernel_rfl) <| dy rfl (fun _ => yd_move rfl) rfl rfl <| ?_
  refine dy rfl (fun _ => yd_move rfl) rfl rfl <| dy rfl (fun _ => yd_move rfl) rfl rfl <| dy rfl (fun _ => yd_add64 rfl rfl (by omega) (by omega)) rfl rfl <| dy rfl (fun _ => yd_slice_loB rfl rfl (by omega) (by omega) (by omega)) rfl rfl <| ?_
  refine dy rfl (fun _ => yd_move rfl) rfl rfl <| dy rfl (fun _ => yd_move rfl) rfl rfl <| dy rfl (fun _ => yd_slice_loB rfl rfl (by omega) (by omega) (by omega)) rfl rfl <| ?_
  rw [ht1, Int.toNat_natCast, Nat.zero_add, Nat.zero_add]
  refine dc rfl rfl (ch_copy (s := 17) (m := vs.length - i) (ys := flatL (vs.drop i)) rfl rfl (by show min _ _ = _; omega) (src_own inferInstance (takeL_dropF hvs hi)) hDf (by rw [hD, hL]; omega) (.hd ..) rfl ?_)
  refine dr_s <| dn <| st_seq <| st_region <| sm rfl rfl <| sm rfl rfl <| sy (yd_slice_loB rfl rfl (by omega) (by omega) (by omega)) rfl <| sm rfl rfl <| ?_
  rw [Int.toNat_natCast, Nat.zero_add]
  refine sc (ch_copy (s := 17) (m := 1) (ys := vcs) rfl rfl (by show min _ _ = _; omega) (src_own inferInstance hvt) hvf (by rw [ovw_len, hL, hv]; omega) (.hd ..) rfl ?_)
  refine st_end <| st_seq <| st_region <| sm rfl rfl <| sa rfl rfl <| st_end <| st_ret <| ?_
  refine st_doneM (css := [ovw (ovw (flatL vs ++ rest) ((i + 1) * 17) (flatL (vs.drop i))) (i * 17) vcs, vcs]) (.tmp rfl .nil) rfl _ (List.Perm.refl _) (List.Sublist.refl _) ⟨rfl, ?_⟩
  rw [ins_cells hvs hv hin hr]
end Go.Sx
end
