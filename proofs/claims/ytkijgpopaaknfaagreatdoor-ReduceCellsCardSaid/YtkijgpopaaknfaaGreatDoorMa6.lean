/-
  Regions that draw their order, over deep values. Rows handed over to calls and back, over deep values. Instances about the program's types.
-/
import Derived.Test.YtkijgpopaaknfaaGreatDoorMa5
import Derived.Test.YtkijgpopaaknfaaGreatDoorProg
section
set_option maxRecDepth 100000
namespace Go.Sx
open Go

section
variable {P : Program} {ops : Array Oper} {Q : Exit → Act → World → Prop} {S : World → Prop} {π₂ : List (Nat × Bool)}
abbrev fin0 : Nat → Bool := fun _ => false
theorem wpAnyZ_mono {fin : Nat → Bool} {S S' : World → Prop} (h : ∀ w, S' w → S w) : ∀ (fuel : Nat) (listed : Array Bool) (a : Act) (w : World), wpAnyZ P ops Q S' fin fuel listed a w → wpAnyZ P ops Q S fin fuel listed a w
  | 0, _, _, _, k => k
  | fuel + 1, _, _, _, k => ⟨k.1, fun i hi => wpOp_mono (fun _ w' h' => ⟨h'.1.imp id (h w'), wpAnyZ_mono h fuel _ _ _ h'.2⟩) (k.2 i hi)⟩

/-- behind a step: what stays true of the world may have grown -/
def grS (S : World → Prop) (K : (World → Prop) → Act → World → Prop) (a : Act) (w : World) : Prop := ∃ S' : World → Prop, (∀ w, S' w → S w) ∧ S' w ∧ K S' a w
/-- What is left of a region: allocs that may come at any time, the rest in one order, and what follows. -/
def dwT (P : Program) (ops : Array Oper) (Q : Exit → Act → World → Prop) (K : (World → Prop) → Act → World → Prop) : List Nat → List (Nat × Bool) → (World → Prop) → Act → World → Prop
  | [], [], S, a, w => K S a w
  | k :: ks, [], S, a, w => ∀ j, (h : j ∈ k :: ks) → wpOp P ops Q j (grS S (dwT P ops Q K (without (k :: ks) j) [])) a w
  | ks, (i, true) :: r, S, a, w => ∃ o v, ops[i]? = some o ∧ S w ∧ YieldsIf P ops S o v a ∧ dwT P ops Q K ks r S (a.put o.dst v) w
  | ks, (i, false) :: r, S, a, w => wpOp P ops Q i (grS S (dwT P ops Q K ks r)) a w ∧
      ∀ j, (h : j ∈ ks) → wpOp P ops Q j (grS S (dwT P ops Q K (without ks j) ((i, false) :: r))) a w
termination_by ks π => ks.length + π.length
decreasing_by
  all_goals (first | (have := without_lt h; simp only [List.length_cons, List.length_nil] at *; omega) | (simp only [List.length_cons]; omega))
def endN (Q : Exit → Act → World → Prop) : (World → Prop) → Act → World → Prop := fun _ a w => Q .normal a w

theorem wpAnyZ_of_T (hQ : ∀ c a d v w, Q (.panic c) (Act.put a d v) w → Q (.panic c) a w) {K : (World → Prop) → Act → World → Prop}
    (hK : ∀ (S : World → Prop) (listed : Array Bool) (a : Act) (w : World), orderOk ops fin0 π₂ listed = true → K S a w → ∀ fuel, π₂.length ≤ fuel → wpAnyZ P ops Q S fin0 fuel listed a w) :
    ∀ (n : Nat) (ks : List Nat) (π : List (Nat × Bool)) (S : World → Prop) (listed : Array Bool) (a : Act) (w : World), orderOkG ops fin0 π₂ n ks π listed = true → dwT P ops Q K ks π S a w → ∀ fuel, ks.length + π.length + π₂.length ≤ fuel → wpAnyZ P ops Q S fin0 fuel listed a w
  | 0, ks, π, S, listed, a, w, ho, h, fuel, hf => by simp [orderOkG] at ho
  | n + 1, [], [], S, listed, a, w, ho, h, fuel, hf => by
    rw [dwT] at h
    simp only [orderOkG] at ho
    exact hK S _ _ _ ho h fuel (by simpa using hf)
  | n + 1, k :: ks, [], S, listed, a, w, ho, h, 0, hf => by simp at hf
  | n + 1, k :: ks, [], S, listed, a, w, ho, h, fuel + 1, hf => by
    rw [dwT] at h
    simp only [orderOkG, Bool.and_eq_true, List.all_eq_true, Bool.not_eq_true'] at ho
    obtain ⟨⟨h1, h2⟩, h3⟩ := ho
    refine ⟨fun h0 => by rw [h0] at h1; simp at h1, fun j hj => ?_⟩
    have hjk : j ∈ k :: ks := by have := h2 j hj; simpa using this
    refine wpOp_mono (fun a' w' h' => ?_) (h j hjk)
    obtain ⟨S', hs, hS', hd⟩ := h'
    exact ⟨.inr (hs _ hS'), wpAnyZ_mono hs _ _ _ _ (wpAnyZ_of_T hQ hK n _ _ _ _ _ _ (h3 j hjk) hd fuel (by have := without_lt hjk; simp only [List.length_cons, List.length_nil] at *; omega))⟩
  | n + 1, ks, (i, true) :: r, S, listed, a, w, ho, h, 0, hf => by simp at hf
  | n + 1, ks, (i, true) :: r, S, listed, a, w, ho, h, fuel + 1, hf => by
    rw [dwT] at h
    obtain ⟨o, v, hoi, hS, hy, hk⟩ := h
    simp only [orderOkG, takeOk, Bool.and_eq_true] at ho
    obtain ⟨⟨⟨⟨h1, h2⟩, h3⟩, h4⟩, h5⟩ := ho
    obtain ⟨h6, h7⟩ := finOk_spec h4
    exact wpAnyZ_first hoi (Region.noSelect_spec h1) (fun c a w => hQ c a _ _ w) h6 h7 fuel listed a w (Region.free_spec hoi h2) (by simpa using h3) hy hS
      (wpAnyZ_of_T hQ hK n _ _ _ _ _ _ h5 hk fuel (by simp only [List.length_cons] at hf; omega))
  | n + 1, ks, (i, false) :: r, S, listed, a, w, ho, h, 0, hf => by simp at hf
  | n + 1, ks, (i, false) :: r, S, listed, a, w, ho, h, fuel + 1, hf => by
    rw [dwT] at h
    simp only [orderOkG, Bool.and_eq_true, List.all_eq_true, Bool.not_eq_true'] at ho
    obtain ⟨⟨⟨h1, h2⟩, h3⟩, h4⟩ := ho
    refine ⟨fun h0 => by rw [h0] at h1; simp at h1, fun j hj => ?_⟩
    have := h2 j hj
    simp only [Bool.or_eq_true] at this
    rcases this with e | e
    · replace e := Nat.eq_of_beq_eq_true e
      subst e
      refine wpOp_mono (fun a' w' h' => ?_) h.1
      obtain ⟨S', hs, hS', hd⟩ := h'
      exact ⟨.inr (hs _ hS'), wpAnyZ_mono hs _ _ _ _ (wpAnyZ_of_T hQ hK n _ _ _ _ _ _ h3 hd fuel (by simp only [List.length_cons] at hf; omega))⟩
    · have hjk : j ∈ ks := by simpa using e
      refine wpOp_mono (fun a' w' h' => ?_) (h.2 j hjk)
      obtain ⟨S', hs, hS', hd⟩ := h'
      exact ⟨.inr (hs _ hS'), wpAnyZ_mono hs _ _ _ _ (wpAnyZ_of_T hQ hK n _ _ _ _ _ _ (h4 j hjk) hd fuel (by have := without_lt hjk; simp only [List.length_cons] at *; omega))⟩
/-- no allocs any more: the rest, up to the end -/
theorem wpAnyZ_of_T0 (hQ : ∀ c a d v w, Q (.panic c) (Act.put a d v) w → Q (.panic c) a w) : ∀ (π : List (Nat × Bool)) (S : World → Prop) (listed : Array Bool) (a : Act) (w : World), orderOk ops fin0 π listed = true → dwT P ops Q (endN Q) [] π S a w → ∀ fuel, π.length ≤ fuel → wpAnyZ P ops Q S fin0 fuel listed a w
  | [], S, listed, a, w, ho, h, fuel, hf => by
    rw [dwT] at h
    have hr : Region.ready .any ops listed = [] := by simpa [orderOk] using ho
    cases fuel with
    | zero => exact ⟨hr, h⟩
    | succ k => exact ⟨fun _ => h, by rw [hr]; simp⟩
  | (i, true) :: r, S, listed, a, w, ho, h, 0, hf => by simp at hf
  | (i, false) :: r, S, listed, a, w, ho, h, 0, hf => by simp at hf
  | (i, true) :: r, S, listed, a, w, ho, h, fuel + 1, hf => by
    rw [dwT] at h
    obtain ⟨o, v, hoi, hS, hy, hk⟩ := h
    simp only [orderOk, takeOk, Bool.and_eq_true] at ho
    obtain ⟨⟨⟨⟨h1, h2⟩, h3⟩, h4⟩, h5⟩ := ho
    obtain ⟨h6, h7⟩ := finOk_spec h4
    exact wpAnyZ_first hoi (Region.noSelect_spec h1) (fun c a w => hQ c a _ _ w) h6 h7 fuel listed a w (Region.free_spec hoi h2) (by simpa using h3) hy hS
      (wpAnyZ_of_T0 hQ r _ _ _ _ h5 hk fuel (by simpa using hf))
  | (i, false) :: r, S, listed, a, w, ho, h, fuel + 1, hf => by
    rw [dwT] at h
    simp only [orderOk, Bool.and_eq_true, beq_iff_eq] at ho
    refine wpAnyZ_all ho.1 (wpOp_mono (fun a' w' h' => ?_) h.1)
    obtain ⟨S', hs, hS', hd⟩ := h'
    exact ⟨.inr (hs _ hS'), wpAnyZ_mono hs _ _ _ _ (wpAnyZ_of_T0 hQ r _ _ _ _ ho.2 hd fuel (by simpa using hf))⟩
end

section
variable {P : Program} {GB : Gh} {C : Ctx} {n : Nat} {fr fr' : FrF} {own own' own0 own1 own1' : List OwnD} {bs bs0 bs1 bs1' : List BufD} {ops : Array Oper} {Q : Exit → Act → World → Prop} {fd : List FD} {π π₂ : List (Nat × Bool)}
/-- A state within a region: blocks that nothing of the region writes, blocks that it may write, allocs that may come at any time. -/
structure SR (GB : Gh) (C : Ctx) (n : Nat) (fr : FrF) (own0 : List OwnD) (bs0 : List BufD) (own1 : List OwnD) (bs1 : List BufD) (fd : List FD) (K : List Nat → (World → Prop) → Act → World → Prop) : Prop where
  run : ∀ G frv o0 o1, GLe GB G → FrIs G fr frv → OB G own0 bs0 o0 → OB G own1 bs1 o1 → ∀ fs : Fs, St C n (frv ++ fFs fd fs) (o1 ++ (o0 ++ fOs fd fs)) G (K (pend fd fs) (HS C o0 G))
instance {GB : Gh} {C : Ctx} {n : Nat} {fr : FrF} {own0 : List OwnD} {bs0 : List BufD} {own1 : List OwnD} {bs1 : List BufD} {fd : List FD} {K : List Nat → (World → Prop) → Act → World → Prop} : CoeFun (SR GB C n fr own0 bs0 own1 bs1 fd K) (fun _ => ∀ G frv o0 o1, GLe GB G → FrIs G fr frv → OB G own0 bs0 o0 → OB G own1 bs1 o1 → ∀ fs : Fs, St C n (frv ++ fFs fd fs) (o1 ++ (o0 ++ fOs fd fs)) G (K (pend fd fs) (HS C o0 G))) := ⟨SR.run⟩
/-- what is left of it -/
abbrev dwK (P : Program) (ops : Array Oper) (Q : Exit → Act → World → Prop) (K : (World → Prop) → Act → World → Prop) (π : List (Nat × Bool)) : List Nat → (World → Prop) → Act → World → Prop := fun ks S => dwT P ops (NoPan Q) K ks π S

theorem OwnsIs.perm {G : Gh} {own own' : List OwnD} (hs : own.Perm own') : ∀ {p : List Own}, OwnsIs G own p → ∃ p', p.Perm p' ∧ OwnsIs G own' p' := by
  induction hs with
  | nil => exact fun {p} hp => ⟨p, List.Perm.refl _, hp⟩
  | cons a hs ih =>
    rintro p ⟨cs, m, rfl, h1, h2⟩
    obtain ⟨p', h3, h4⟩ := ih h2
    exact ⟨_, h3.cons _, ⟨cs, p', rfl, h1, h4⟩⟩
  | swap a b l =>
    rintro p ⟨cs, m, rfl, h1, ⟨cs2, m2, rfl, h2, h3⟩⟩
    exact ⟨_, List.Perm.swap .., ⟨cs2, _, rfl, h2, ⟨cs, m2, rfl, h1, h3⟩⟩⟩
  | trans h1 h2 ih1 ih2 =>
    intro p hp
    obtain ⟨p1, k1, k2⟩ := ih1 hp
    obtain ⟨p2, k3, k4⟩ := ih2 k2
    exact ⟨p2, k1.trans k3, k4⟩
theorem BufsIs.perm {G : Gh} {own own' : List BufD} (hs : own.Perm own') : ∀ {p : List Own}, BufsIs G own p → ∃ p', p.Perm p' ∧ BufsIs G own' p' := by
  induction hs with
  | nil => exact fun {p} hp => ⟨p, List.Perm.refl _, hp⟩
  | cons a hs ih =>
    rintro p ⟨B, m, rfl, h1, h2⟩
    obtain ⟨p', h3, h4⟩ := ih h2
    exact ⟨_, h3.append_left B, ⟨B, p', rfl, h1, h4⟩⟩
  | swap a b l =>
    rintro p ⟨B, m, rfl, h1, ⟨B2, m2, rfl, h2, h3⟩⟩
    exact ⟨B2 ++ (B ++ m2), by rw [← List.append_assoc, ← List.append_assoc]; exact (List.perm_append_comm).append_right m2, ⟨B2, _, rfl, h2, ⟨B, m2, rfl, h1, h3⟩⟩⟩
  | trans h1 h2 ih1 ih2 =>
    intro p hp
    obtain ⟨p1, k1, k2⟩ := ih1 hp
    obtain ⟨p2, k3, k4⟩ := ih2 k2
    exact ⟨p2, k1.trans k3, k4⟩
theorem OwnsIs.unapp {G : Gh} : ∀ {a b : List OwnD} {m : List Own}, OwnsIs G (a ++ b) m → ∃ x y, m = x ++ y ∧ OwnsIs G a x ∧ OwnsIs G b y
  | [], b, m, h => ⟨[], m, rfl, rfl, h⟩
  | d :: t, b, m, ⟨cs, n, e, h1, h2⟩ => by
    subst e
    obtain ⟨u, v, rfl, h3, h4⟩ := OwnsIs.unapp h2
    exact ⟨_ :: u, v, rfl, ⟨cs, u, rfl, h1, h3⟩, h4⟩
theorem OwnsIs.app {G : Gh} : ∀ {a b : List OwnD} {m n : List Own}, OwnsIs G a m → OwnsIs G b n → OwnsIs G (a ++ b) (m ++ n)
  | [], b, m, n, h, k => by rw [show m = [] from h]; exact k
  | d :: t, b, m, n, ⟨cs, u, e, h1, h2⟩, k => by subst e; exact ⟨cs, _, rfl, h1, OwnsIs.app h2 k⟩
theorem BufsIs.unapp {G : Gh} : ∀ {a b : List BufD} {m : List Own}, BufsIs G (a ++ b) m → ∃ x y, m = x ++ y ∧ BufsIs G a x ∧ BufsIs G b y
  | [], b, m, h => ⟨[], m, rfl, rfl, h⟩
  | d :: t, b, m, ⟨B, n, e, h1, h2⟩ => by
    subst e
    obtain ⟨u, v, rfl, h3, h4⟩ := BufsIs.unapp h2
    exact ⟨B ++ u, v, by rw [List.append_assoc], ⟨B, u, rfl, h1, h3⟩, h4⟩
theorem BufsIs.app {G : Gh} : ∀ {a b : List BufD} {m n : List Own}, BufsIs G a m → BufsIs G b n → BufsIs G (a ++ b) (m ++ n)
  | [], b, m, n, h, k => by rw [show m = [] from h]; exact k
  | d :: t, b, m, n, ⟨B, u, e, h1, h2⟩, k => by subst e; exact ⟨B, u ++ n, by rw [List.append_assoc], h1, BufsIs.app h2 k⟩
theorem pend_none (fd : List FD) : fFs fd (fun _ => none) = [] ∧ fOs fd (fun _ => none) = [] ∧ pend fd (fun _ => none) = fd.map (·.k) := by
  induction fd with
  | nil => exact ⟨rfl, rfl, rfl⟩
  | cons f r ih => exact ⟨by simp [fFs, fF, ih.1], by simp [fOs, fO, ih.2.1], by simp [pend, List.filter_eq_self.2]⟩

theorem drX (fd : List FD) (π π₂ : List (Nat × Bool)) {id : Nat} (hm : P.follows .mixedOrders = true) (hpo : own.Perm (own0 ++ own1)) (hpb : bs.Perm (bs0 ++ bs1))
    (ho : (orderOkG ops fin0 π₂ (fd.length + π.length + 1) (fd.map (·.k)) π (Array.replicate ops.size false) && Nat.ble (fd.length + π.length + π₂.length) ops.size) = true)
    (h : SR GB C n fr own0 bs0 own1 bs1 fd (dwK P ops Q (dwK P ops Q (endN (NoPan Q)) π₂ []) π)) : SD GB C n E0 fr own bs ((Code.region id ops true).wp P Q) := by
  simp only [Bool.and_eq_true] at ho
  refine ⟨fun G frv ov s => ?_⟩
  obtain ⟨p, q, rfl, hp, hq⟩ := s.ob
  obtain ⟨p', e1, hp'⟩ := hp.perm hpo
  obtain ⟨q', e2, hq'⟩ := hq.perm hpb
  obtain ⟨p0, p1, rfl, hp0, hp1⟩ := hp'.unapp
  obtain ⟨q0, q1, rfl, hq0, hq1⟩ := hq'.unapp
  simp only [E0, List.append_nil]
  have h0 := h G frv (p0 ++ q0) (p1 ++ q1) s.gb s.fr ⟨p0, q0, rfl, hp0, hq0⟩ ⟨p1, q1, rfl, hp1, hq1⟩ (fun _ => none)
  rw [(pend_none fd).1, (pend_none fd).2.1, (pend_none fd).2.2, List.append_nil, List.append_nil] at h0
  refine st_perm ((p1 ++ q1) ++ (p0 ++ q0)) ?_ ?_
  · refine (e1.append e2).trans ?_
    refine List.perm_append_comm.trans ?_
    rw [List.append_assoc, List.append_assoc]
    have : (q0 ++ (q1 ++ (p0 ++ p1))).Perm (p1 ++ (q1 ++ (p0 ++ q0))) := by
      have a1 : (q0 ++ (q1 ++ (p0 ++ p1))).Perm ((q1 ++ (p0 ++ p1)) ++ q0) := List.perm_append_comm
      have a2 : ((q1 ++ (p0 ++ p1)) ++ q0).Perm (((q1 ++ p0) ++ p1) ++ q0) := by rw [← List.append_assoc q1]
      have a3 : (((q1 ++ p0) ++ p1) ++ q0).Perm ((p1 ++ (q1 ++ p0)) ++ q0) := (List.perm_append_comm).append_right q0
      refine a1.trans (a2.trans (a3.trans ?_))
      simp [List.append_assoc]
    simpa [List.append_assoc] using this
  · intro a w rl
    exact wp_mono (wp_region_any hm (wpAny_of_Z _ _ _ _ (wpAnyZ_of_T (fun _ _ _ _ _ h => h) (fun S listed a w ho hK fuel hf => wpAnyZ_of_T0 (fun _ _ _ _ _ h => h) _ _ _ _ _ ho hK fuel hf) _ _ π _ _ a _ ho.1 (h0 a _ (rl.heap rl.h.drew)) _ (by have := ho.2; simp at this ⊢; omega)))) NoPan.imp
/-- taken first -/
theorem dyX {K : (World → Prop) → Act → World → Prop} {i : Nat} {dst : Option Nat} {ty' : TypeId} {pos : String} {af : Array Edge} {op : Op} {f : FV} (ho : ops[i]? = some ⟨dst, op, ty', pos, af, none⟩) (hy : YD P GB C fr own0 bs0 ⟨dst, op, ty', pos, af, none⟩ f) (hd : dstOk n dst = true)
    (h : SR GB C n (putF fr dst f) own0 bs0 own1 bs1 fd (dwK P ops Q K π)) : SR GB C n fr own0 bs0 own1 bs1 fd (dwK P ops Q K ((i, true) :: π)) := by
  refine ⟨fun G frv o0 o1 hgb hf h0 h1 fs => ?_⟩
  intro a w rl
  obtain ⟨y, k1, k2⟩ := hy G frv o0 ⟨hgb, hf, h0⟩
  have hsub : o0.Sublist (o1 ++ (o0 ++ fOs fd fs)) := (List.sublist_append_left o0 _).trans (List.sublist_append_right _ _)
  have hS : HS C o0 G w := ⟨G, GLe.refl _, rl.h.drop hsub⟩
  show dwT P ops (NoPan Q) K (pend fd fs) ((i, true) :: π) _ a w
  rw [dwT]
  refine ⟨_, y, ho, hS, .inl ⟨by simp [Region.wanted], fun w' ⟨G', hle, hr⟩ => k2 G' hle a w' rl.fr.left hr⟩, ?_⟩
  have := h G (put frv dst y) o0 o1 hgb (hf.put k1 _) h0 h1 fs _ _ (rl.put y hd |> fun r => by rw [put_app] at r; exact r)
  exact this
theorem dygX {K : (World → Prop) → Act → World → Prop} {i : Nat} {dst : Option Nat} {ty' : TypeId} {pos : String} {af : Array Edge} {op : Op} {f : FV} {j d : Nat} {b : Bool} (ho : ops[i]? = some ⟨dst, op, ty', pos, af, some (j, b)⟩)  (hj : (ops[j]?).bind (·.dst) = some d) (hlk : lookF fr d = some (.d (.v (.bool b)))) (hy : YD P GB C fr own0 bs0 ⟨dst, op, ty', pos, af, some (j, b)⟩ f) (hd : dstOk n dst = true)
    (h : SR GB C n (putF fr dst f) own0 bs0 own1 bs1 fd (dwK P ops Q K π)) : SR GB C n fr own0 bs0 own1 bs1 fd (dwK P ops Q K ((i, true) :: π)) := by
  refine ⟨fun G frv o0 o1 hgb hf h0 h1 fs => ?_⟩
  intro a w rl
  obtain ⟨y, k1, k2⟩ := hy G frv o0 ⟨hgb, hf, h0⟩
  have hsub : o0.Sublist (o1 ++ (o0 ++ fOs fd fs)) := (List.sublist_append_left o0 _).trans (List.sublist_append_right _ _)
  have hS : HS C o0 G w := ⟨G, GLe.refl _, rl.h.drop hsub⟩
  have hl : look frv d = some (.bool b) := hf.opv (x := .tmp d) hlk
  show dwT P ops (NoPan Q) K (pend fd fs) ((i, true) :: π) _ a w
  rw [dwT]
  refine ⟨_, y, ho, hS, .inl ⟨by simp [Region.wanted, yielded_of rl.fr hj (look_appS hl)], fun w' ⟨G', hle, hr⟩ => k2 G' hle a w' rl.fr.left hr⟩, ?_⟩
  exact h G (put frv dst y) o0 o1 hgb (hf.put k1 _) h0 h1 fs _ _ (rl.put y hd |> fun r => by rw [put_app] at r; exact r)
theorem dysX {K : (World → Prop) → Act → World → Prop} {i : Nat} {dst : Option Nat} {ty' : TypeId} {pos : String} {af : Array Edge} {op : Op} {j d : Nat} {b c : Bool} (ho : ops[i]? = some ⟨dst, op, ty', pos, af, some (j, b)⟩)  (hj : (ops[j]?).bind (·.dst) = some d) (hlk : lookF fr d = some (.d (.v (.bool c)))) (hbc : (c == b) = false) (hd : dstOk n dst = true)
    (h : SR GB C n (putF fr dst (.d (.v undef))) own0 bs0 own1 bs1 fd (dwK P ops Q K π)) : SR GB C n fr own0 bs0 own1 bs1 fd (dwK P ops Q K ((i, true) :: π)) := by
  refine ⟨fun G frv o0 o1 hgb hf h0 h1 fs => ?_⟩
  intro a w rl
  have hsub : o0.Sublist (o1 ++ (o0 ++ fOs fd fs)) := (List.sublist_append_left o0 _).trans (List.sublist_append_right _ _)
  have hS : HS C o0 G w := ⟨G, GLe.refl _, rl.h.drop hsub⟩
  have hl : look frv d = some (.bool c) := hf.opv (x := .tmp d) hlk
  show dwT P ops (NoPan Q) K (pend fd fs) ((i, true) :: π) _ a w
  rw [dwT]
  refine ⟨_, undef, ho, hS, .inr ⟨by simp [Region.wanted, yielded_of rl.fr hj (look_appS hl), hbc], rfl⟩, ?_⟩
  exact h G (put frv dst undef) o0 o1 hgb (hf.put (isF_v.2 rfl) _) h0 h1 fs _ _ (rl.put undef hd |> fun r => by rw [put_app] at r; exact r)
/-- guarded by an operation that was itself passed over -/
theorem dyuX {K : (World → Prop) → Act → World → Prop} {i : Nat} {dst : Option Nat} {ty' : TypeId} {pos : String} {af : Array Edge} {op : Op} {j d : Nat} {b : Bool} (ho : ops[i]? = some ⟨dst, op, ty', pos, af, some (j, b)⟩)  (hj : (ops[j]?).bind (·.dst) = some d) (hlk : lookF fr d = some (.d (.v undef))) (hd : dstOk n dst = true)
    (h : SR GB C n (putF fr dst (.d (.v undef))) own0 bs0 own1 bs1 fd (dwK P ops Q K π)) : SR GB C n fr own0 bs0 own1 bs1 fd (dwK P ops Q K ((i, true) :: π)) := by
  refine ⟨fun G frv o0 o1 hgb hf h0 h1 fs => ?_⟩
  intro a w rl
  have hsub : o0.Sublist (o1 ++ (o0 ++ fOs fd fs)) := (List.sublist_append_left o0 _).trans (List.sublist_append_right _ _)
  have hS : HS C o0 G w := ⟨G, GLe.refl _, rl.h.drop hsub⟩
  have hl : look frv d = some undef := hf.opv (x := .tmp d) hlk
  have hy : yielded ops a.tmps j = none := by
    unfold yielded
    rw [hj]
    simp [rl.fr d _ (look_appS hl)]
    rfl
  show dwT P ops (NoPan Q) K (pend fd fs) ((i, true) :: π) _ a w
  rw [dwT]
  refine ⟨_, undef, ho, hS, .inr ⟨by simp [Region.wanted, hy], rfl⟩, ?_⟩
  exact h G (put frv dst undef) o0 o1 hgb (hf.put (isF_v.2 rfl) _) h0 h1 fs _ _ (rl.put undef hd |> fun r => by rw [put_app] at r; exact r)

/-- One of the allocs happens. -/
theorem alloc_X {Φ : List Nat → (World → Prop) → Act → World → Prop} (hok : FDok P ops n fd) (hfr : (fd.all fun f => (lookF fr f.d).isNone) = true) {G : Gh} {frv : Fr} {o0 o1 : List Own} (hf : FrIs G fr frv) {fs : Fs} {j : Nat} (hj : j ∈ pend fd fs)
    (h : ∀ fs', St C n (frv ++ fFs fd fs') (o1 ++ (o0 ++ fOs fd fs')) G (Φ (pend fd fs') (HS C o0 G))) :
    St C n (frv ++ fFs fd fs) (o1 ++ (o0 ++ fOs fd fs)) G (wpOp P ops (NoPan Q) j (grS (HS C o0 G) (Φ (without (pend fd fs) j)))) := by
  have hfr' : (fd.all fun f => (look frv f.d).isNone) = true := by
    rw [List.all_eq_true] at hfr ⊢
    intro f hfm
    have h9 := hfr f hfm
    rw [Option.isNone_iff_eq_none] at h9 ⊢
    exact hf.lookN h9
  have hsub : o0.Sublist (o1 ++ o0) := List.sublist_append_right _ _
  have h2 : ∀ fs', St C n (frv ++ fFs fd fs') ((o1 ++ o0) ++ fOs fd fs') G (Φ (pend fd fs') (HS C o0 G)) := fun fs' => by rw [List.append_assoc]; exact h fs'
  have := alloc_G (own := o1 ++ o0) (own0 := o0) (G0 := G) (Q := Q) (fin := fin0) (Φ := fun l => Φ l (HS C o0 G)) hok hfr' hsub hj (fun b => h2 _)
  rw [List.append_assoc] at this
  refine this.mono fun a w hw => wpOp_mono (fun a' w' h' => ?_) hw
  refine ⟨HS C o0 G, fun _ h => h, h'.1.resolve_left (by simp), h'.2⟩
theorem FDok.nil : FDok P ops n [] := ⟨fun _ h => (by cases h), fun _ h => (by cases h), .nil, fun _ h => (by cases h)⟩

/-- comes up alone, but for the allocs -/
theorem dcX0 {K : (World → Prop) → Act → World → Prop} {i : Nat} (hok : FDok P ops n fd) (hfr : (fd.all fun f => (lookF fr f.d).isNone) = true)
    {G : Gh} {frv : Fr} {o0 o1 : List Own} (hf : FrIs G fr frv)
    (hc : ∀ fs, St C n (frv ++ fFs fd fs) (o1 ++ (o0 ++ fOs fd fs)) G (wpOp P ops (NoPan Q) i (grS (HS C o0 G) (dwT P ops (NoPan Q) K (pend fd fs) π)))) :
    ∀ (m : Nat) (fs : Fs), (pend fd fs).length ≤ m → St C n (frv ++ fFs fd fs) (o1 ++ (o0 ++ fOs fd fs)) G (dwT P ops (NoPan Q) K (pend fd fs) ((i, false) :: π) (HS C o0 G))
  | m, fs, hm => by
    intro a w rl
    rw [dwT]
    refine ⟨hc fs a w rl, fun j hj => ?_⟩
    have hsm : ∀ fs', (pend fd fs').length < (pend fd fs).length → St C n (frv ++ fFs fd fs') (o1 ++ (o0 ++ fOs fd fs')) G (dwT P ops (NoPan Q) K (pend fd fs') ((i, false) :: π) (HS C o0 G)) := fun fs' hlt => by
      cases m with
      | zero => omega
      | succ m => exact dcX0 hok hfr hf hc m fs' (by omega)
    have hfr' : (fd.all fun f => (look frv f.d).isNone) = true := by
      rw [List.all_eq_true] at hfr ⊢
      intro f hfm
      have h9 := hfr f hfm
      rw [Option.isNone_iff_eq_none] at h9 ⊢
      exact hf.lookN h9
    have := alloc_G (own := o1 ++ o0) (own0 := o0) (G0 := G) (Q := Q) (fin := fin0) (Φ := fun l => dwT P ops (NoPan Q) K l ((i, false) :: π) (HS C o0 G)) hok hfr' (List.sublist_append_right _ _) hj (fun b => by
      rw [List.append_assoc]
      refine hsm _ ?_
      rw [pend_upd]
      exact without_lt hj)
    rw [List.append_assoc] at this
    refine wpOp_mono (fun a' w' h' => ?_) (this a w rl)
    exact ⟨HS C o0 G, fun _ h => h, h'.1.resolve_left (by simp), h'.2⟩

theorem grS_SD {K : (World → Prop) → Act → World → Prop} (h : SR GB C n fr' own0 bs0 own1' bs1' fd (dwK P ops Q K π)) {G : Gh} {o0 : List Own} (hgb : GLe GB G) (h0 : OB G own0 bs0 o0) (fs : Fs) :
    SD G C n ⟨fFs fd fs, o0 ++ fOs fd fs⟩ fr' own1' bs1' (grS (HS C o0 G) (dwT P ops (NoPan Q) K (pend fd fs) π)) := by
  refine ⟨fun G' frv' o1' s => ?_⟩
  intro a w rl
  have := h G' frv' o0 o1' (hgb.trans s.gb) s.fr (h0.up s.gb) s.ob fs a w rl
  refine ⟨HS C o0 G', fun w' ⟨G2, hle, hr⟩ => ⟨G2, s.gb.trans hle, hr⟩, ⟨G', GLe.refl _, rl.h.drop ?_⟩, this⟩
  exact (List.sublist_append_left o0 _).trans (List.sublist_append_right _ _)
theorem dcX {K : (World → Prop) → Act → World → Prop} {i : Nat} {dst : Option Nat} {ty' : TypeId} {pos : String} {af : Array Edge} {op : Op} (ho : ops[i]? = some ⟨dst, op, ty', pos, af, none⟩) (h : TD P GB C n fr own1 bs1 ⟨dst, op, ty', pos, af, none⟩ fr' own1' bs1') (hok : FDok P ops n fd) (hfr : (fd.all fun f => (lookF fr f.d).isNone) = true)
    (k : SR GB C n fr' own0 bs0 own1' bs1' fd (dwK P ops Q K π)) : SR GB C n fr own0 bs0 own1 bs1 fd (dwK P ops Q K ((i, false) :: π)) := by
  refine ⟨fun G frv o0 o1 hgb hf h0 h1 fs => ?_⟩
  refine dcX0 hok hfr hf (fun fs => ?_) _ fs (Nat.le_refl _)
  intro a w rl
  unfold wpOp
  simp only [ho, Region.wanted, if_true]
  exact .inl (h G ⟨fFs fd fs, o0 ++ fOs fd fs⟩ _ hgb (grS_SD k hgb h0 fs) G frv o1 ⟨GLe.refl _, hf, h1⟩ a w _ rl)
theorem dfX {K : (World → Prop) → Act → World → Prop} {i : Nat} {dst : Option Nat} {ty' : TypeId} {pos : String} {af : Array Edge} {op : Op} {ι : Type} {fr' : ι → FrF} {own1' : ι → List OwnD} {bs1' : ι → List BufD} (ho : ops[i]? = some ⟨dst, op, ty', pos, af, none⟩) (h : TF P GB C n fr own1 bs1 ⟨dst, op, ty', pos, af, none⟩ ι fr' own1' bs1') (hok : FDok P ops n fd) (hfr : (fd.all fun f => (lookF fr f.d).isNone) = true)
    (k : ∀ x, SR GB C n (fr' x) own0 bs0 (own1' x) (bs1' x) fd (dwK P ops Q K π)) : SR GB C n fr own0 bs0 own1 bs1 fd (dwK P ops Q K ((i, false) :: π)) := by
  refine ⟨fun G frv o0 o1 hgb hf h0 h1 fs => ?_⟩
  refine dcX0 hok hfr hf (fun fs => ?_) _ fs (Nat.le_refl _)
  intro a w rl
  unfold wpOp
  simp only [ho, Region.wanted, if_true]
  exact .inl (h G ⟨fFs fd fs, o0 ++ fOs fd fs⟩ _ hgb (fun x => grS_SD (k x) hgb h0 fs) G frv o1 ⟨GLe.refl _, hf, h1⟩ a w _ rl)
theorem dcgX {K : (World → Prop) → Act → World → Prop} {i : Nat} {dst : Option Nat} {ty' : TypeId} {pos : String} {af : Array Edge} {op : Op} {j d : Nat} {b : Bool} (ho : ops[i]? = some ⟨dst, op, ty', pos, af, some (j, b)⟩)  (hj : (ops[j]?).bind (·.dst) = some d) (hlk : lookF fr d = some (.d (.v (.bool b)))) (h : TD P GB C n fr own1 bs1 ⟨dst, op, ty', pos, af, some (j, b)⟩ fr' own1' bs1') (hok : FDok P ops n fd) (hfr : (fd.all fun f => (lookF fr f.d).isNone) = true)
    (k : SR GB C n fr' own0 bs0 own1' bs1' fd (dwK P ops Q K π)) : SR GB C n fr own0 bs0 own1 bs1 fd (dwK P ops Q K ((i, false) :: π)) := by
  refine ⟨fun G frv o0 o1 hgb hf h0 h1 fs => ?_⟩
  refine dcX0 hok hfr hf (fun fs => ?_) _ fs (Nat.le_refl _)
  intro a w rl
  unfold wpOp
  have hl : look frv d = some (.bool b) := hf.opv (x := .tmp d) hlk
  have : Region.wanted ⟨dst, op, ty', pos, af, some (j, b)⟩ (yielded ops a.tmps) = true := by simp [Region.wanted, yielded_of rl.fr hj (look_appS hl)]
  simp only [ho, this, if_true]
  exact .inl (h G ⟨fFs fd fs, o0 ++ fOs fd fs⟩ _ hgb (grS_SD k hgb h0 fs) G frv o1 ⟨GLe.refl _, hf, h1⟩ a w _ rl)
theorem dfgX {K : (World → Prop) → Act → World → Prop} {i : Nat} {dst : Option Nat} {ty' : TypeId} {pos : String} {af : Array Edge} {op : Op} {ι : Type} {fr' : ι → FrF} {own1' : ι → List OwnD} {bs1' : ι → List BufD} {j d : Nat} {b : Bool} (ho : ops[i]? = some ⟨dst, op, ty', pos, af, some (j, b)⟩)  (hj : (ops[j]?).bind (·.dst) = some d) (hlk : lookF fr d = some (.d (.v (.bool b)))) (h : TF P GB C n fr own1 bs1 ⟨dst, op, ty', pos, af, some (j, b)⟩ ι fr' own1' bs1') (hok : FDok P ops n fd) (hfr : (fd.all fun f => (lookF fr f.d).isNone) = true)
    (k : ∀ x, SR GB C n (fr' x) own0 bs0 (own1' x) (bs1' x) fd (dwK P ops Q K π)) : SR GB C n fr own0 bs0 own1 bs1 fd (dwK P ops Q K ((i, false) :: π)) := by
  refine ⟨fun G frv o0 o1 hgb hf h0 h1 fs => ?_⟩
  refine dcX0 hok hfr hf (fun fs => ?_) _ fs (Nat.le_refl _)
  intro a w rl
  unfold wpOp
  have hl : look frv d = some (.bool b) := hf.opv (x := .tmp d) hlk
  have : Region.wanted ⟨dst, op, ty', pos, af, some (j, b)⟩ (yielded ops a.tmps) = true := by simp [Region.wanted, yielded_of rl.fr hj (look_appS hl)]
  simp only [ho, this, if_true]
  exact .inl (h G ⟨fFs fd fs, o0 ++ fOs fd fs⟩ _ hgb (fun x => grS_SD (k x) hgb h0 fs) G frv o1 ⟨GLe.refl _, hf, h1⟩ a w _ rl)
theorem dcsX {K : (World → Prop) → Act → World → Prop} {i : Nat} {dst : Option Nat} {ty' : TypeId} {pos : String} {af : Array Edge} {op : Op} {j d : Nat} {b c : Bool} (ho : ops[i]? = some ⟨dst, op, ty', pos, af, some (j, b)⟩)  (hj : (ops[j]?).bind (·.dst) = some d) (hlk : lookF fr d = some (.d (.v (.bool c)))) (hbc : (c == b) = false) (hd : dstOk n dst = true) (hok : FDok P ops n fd) (hfr : (fd.all fun f => (lookF fr f.d).isNone) = true)
    (k : SR GB C n (putF fr dst (.d (.v undef))) own0 bs0 own1 bs1 fd (dwK P ops Q K π)) : SR GB C n fr own0 bs0 own1 bs1 fd (dwK P ops Q K ((i, false) :: π)) := by
  refine ⟨fun G frv o0 o1 hgb hf h0 h1 fs => ?_⟩
  refine dcX0 hok hfr hf (fun fs => ?_) _ fs (Nat.le_refl _)
  intro a w rl
  unfold wpOp
  have hl : look frv d = some (.bool c) := hf.opv (x := .tmp d) hlk
  have : Region.wanted ⟨dst, op, ty', pos, af, some (j, b)⟩ (yielded ops a.tmps) = false := by simp [Region.wanted, yielded_of rl.fr hj (look_appS hl), hbc]
  simp only [ho, this]
  have h9 := grS_SD k hgb h0 fs G (put frv dst undef) o1 ⟨GLe.refl _, hf.put (isF_v.2 rfl) _, h1⟩
  refine h9 _ _ ?_
  have := rl.put undef hd
  rw [put_app] at this
  exact this
/-- an operation that yields, alone -/
theorem td_yd {dst : Option Nat} {ty' : TypeId} {pos : String} {af : Array Edge} {op : Op} {gd : Option (Nat × Bool)} {f : FV} (hy : YD P GB C fr own bs ⟨dst, op, ty', pos, af, gd⟩ f) (hd : dstOk n dst = true) : TD P GB C n fr own bs ⟨dst, op, ty', pos, af, gd⟩ (putF fr dst f) own bs := by
  intro GB' E Φ hgb h G frv ov s
  obtain ⟨y, h1, h2⟩ := hy G frv ov (s.gbd hgb)
  refine ch_yd (h2 G (GLe.refl _)).ext hd ?_
  show St _ _ (put _ dst _) _ _ _
  rw [put_app]
  exact h G _ ov ⟨s.gb, s.fr.put h1 _, s.ob⟩

/-- The allocs are done: none, one, two, three. -/
theorem outX0 {K : (World → Prop) → Act → World → Prop} (h : SR GB C n fr own0 bs0 own1 bs1 [] (fun _ => K)) : SR GB C n fr own0 bs0 own1 bs1 [] (dwK P ops Q K []) := by
  refine ⟨fun G frv o0 o1 hgb hf h0 h1 fs => ?_⟩
  intro a w rl
  show dwT P ops (NoPan Q) K [] [] _ a w
  rw [dwT]
  exact h G frv o0 o1 hgb hf h0 h1 fs a w rl
theorem outX' {K : (World → Prop) → Act → World → Prop} (hok : FDok P ops n fd) (hfr : (fd.all fun f => (lookF fr f.d).isNone) = true) {G : Gh} {frv : Fr} {o0 o1 : List Own} (hf : FrIs G fr frv)
    (h : ∀ fs, pend fd fs = [] → St C n (frv ++ fFs fd fs) (o1 ++ (o0 ++ fOs fd fs)) G (K (HS C o0 G))) :
    ∀ (m : Nat) (fs : Fs), (pend fd fs).length ≤ m → St C n (frv ++ fFs fd fs) (o1 ++ (o0 ++ fOs fd fs)) G (dwT P ops (NoPan Q) K (pend fd fs) [] (HS C o0 G))
  | m, fs, hm => by
    intro a w rl
    cases hp : pend fd fs with
    | nil => rw [dwT]; exact h fs hp a w rl
    | cons k ks =>
      rw [dwT]
      intro j hj
      rw [← hp] at hj ⊢
      have hsm : ∀ fs', (pend fd fs').length < (pend fd fs).length → St C n (frv ++ fFs fd fs') (o1 ++ (o0 ++ fOs fd fs')) G (dwT P ops (NoPan Q) K (pend fd fs') [] (HS C o0 G)) := fun fs' hlt => by
        cases m with
        | zero => omega
        | succ m => exact outX' hok hfr hf h m fs' (by omega)
      have hfr' : (fd.all fun f => (look frv f.d).isNone) = true := by
        rw [List.all_eq_true] at hfr ⊢
        intro f hfm
        have h9 := hfr f hfm
        rw [Option.isNone_iff_eq_none] at h9 ⊢
        exact hf.lookN h9
      have := alloc_G (own := o1 ++ o0) (own0 := o0) (G0 := G) (Q := Q) (fin := fin0) (Φ := fun l => dwT P ops (NoPan Q) K l [] (HS C o0 G)) hok hfr' (List.sublist_append_right _ _) hj (fun b => by
        rw [List.append_assoc]
        refine hsm _ ?_
        rw [pend_upd]
        exact without_lt hj)
      rw [List.append_assoc] at this
      refine wpOp_mono (fun a' w' h' => ?_) (this a w rl)
      exact ⟨HS C o0 G, fun _ h => h, h'.1.resolve_left (by simp), h'.2⟩
def frB : List FD → List Nat → FrF
  | f :: fd, b :: bl => (f.d, .d (.v (.pointer (some ⟨b, 0, none⟩)))) :: frB fd bl
  | _, _ => []
def owB : List FD → List (List DV) → List Nat → List OwnD
  | f :: fd, c :: cl, b :: bl => ⟨b, c, f.t, true⟩ :: owB fd cl bl
  | _, _, _ => []
/-- what the allocs' cells hold at first -/
def ZsOk : List FD → List (List DV) → Prop
  | f :: fd, c :: cl => IsLs (fun _ => none) c (cellsL f.z) ∧ ZsOk fd cl
  | [], [] => True
  | _, _ => False
theorem pend_nil {fs : Fs} : ∀ {fd : List FD}, pend fd fs = [] → ∃ bl : List Nat, bl.length = fd.length ∧ ∀ G, FrIs G (frB fd bl) (fFs fd fs) ∧ ∀ cl, ZsOk fd cl → OwnsIs G (owB fd cl bl) (fOs fd fs)
  | [], _ => ⟨[], rfl, fun G => ⟨rfl, fun cl _ => (by cases cl <;> rfl)⟩⟩
  | f :: fd, h => by
    have hf : ∃ b, fs f.k = some b := by
      cases hb : fs f.k with
      | some b => exact ⟨b, rfl⟩
      | none => simp [pend, hb] at h
    obtain ⟨b, hb⟩ := hf
    have h' : pend fd fs = [] := by simpa [pend, hb] using h
    obtain ⟨bl, h1, h2⟩ := pend_nil h'
    refine ⟨b :: bl, by simp [h1], fun G => ⟨⟨_, _, by simp only [fFs, hb, fF]; rfl, isF_v.2 rfl, (h2 G).1⟩, fun cl hz => ?_⟩⟩
    cases cl with
    | nil => cases hz
    | cons c cl => exact ⟨cellsL f.z, _, by simp only [fOs, hb, fO]; rfl, hz.1.up (GLe.bot G), (h2 G).2 cl hz.2⟩
theorem FrIs.app {G : Gh} : ∀ {a b : FrF} {m n : Fr}, FrIs G a m → FrIs G b n → FrIs G (a ++ b) (m ++ n)
  | [], b, m, n, h, k => by rw [show m = [] from h]; exact k
  | (j, f) :: t, b, m, n, ⟨y, u, e, h1, h2⟩, k => by subst e; exact ⟨y, _, rfl, h1, FrIs.app h2 k⟩
theorem outX {K : (World → Prop) → Act → World → Prop} (cl : List (List DV)) (hz : ZsOk fd cl) (hok : FDok P ops n fd) (hfr : (fd.all fun f => (lookF fr f.d).isNone) = true)
    (h : ∀ bl : List Nat, bl.length = fd.length → SR GB C n (fr ++ frB fd bl) own0 bs0 (owB fd cl bl ++ own1) bs1 [] (fun _ => K)) : SR GB C n fr own0 bs0 own1 bs1 fd (dwK P ops Q K []) := by
  refine ⟨fun G frv o0 o1 hgb hf h0 h1 fs => ?_⟩
  refine outX' hok hfr hf (fun fs hp => ?_) _ fs (Nat.le_refl _)
  obtain ⟨bl, hl, hb⟩ := pend_nil hp
  obtain ⟨p, q, rfl, hp1, hq1⟩ := h1
  have := h bl hl G (frv ++ fFs fd fs) o0 (fOs fd fs ++ (p ++ q)) hgb (hf.app (hb G).1) h0 ⟨fOs fd fs ++ p, q, by rw [List.append_assoc], ((hb G).2 cl hz).app hp1, hq1⟩ fs
  simp only [fFs, fOs, List.append_nil] at this
  refine st_perm _ ?_ this
  simp only [List.append_assoc]
  have e1 : (p ++ (q ++ (o0 ++ fOs fd fs))).Perm (fOs fd fs ++ (p ++ (q ++ o0))) := by
    rw [← List.append_assoc, ← List.append_assoc, ← List.append_assoc p q]
    exact List.perm_append_comm
  exact e1
theorem outX1 {f : FD} {c : List DV} {K : (World → Prop) → Act → World → Prop} (hz : ZsOk [f] [c]) (hok : FDok P ops n [f]) (hfr : ([f].all fun f => (lookF fr f.d).isNone) = true)
    (h : ∀ b : Nat, SR GB C n (fr ++ [(f.d, .d (.v (.pointer (some ⟨b, 0, none⟩))))]) own0 bs0 (⟨b, c, f.t, true⟩ :: own1) bs1 [] (fun _ => K)) : SR GB C n fr own0 bs0 own1 bs1 [f] (dwK P ops Q K []) :=
  outX [c] hz hok hfr fun bl hl => by
    match bl, hl with
    | [b], _ => exact h b
theorem outX2 {f g : FD} {c c2 : List DV} {K : (World → Prop) → Act → World → Prop} (hz : ZsOk [f, g] [c, c2]) (hok : FDok P ops n [f, g]) (hfr : ([f, g].all fun f => (lookF fr f.d).isNone) = true)
    (h : ∀ b b2 : Nat, SR GB C n (fr ++ [(f.d, .d (.v (.pointer (some ⟨b, 0, none⟩)))), (g.d, .d (.v (.pointer (some ⟨b2, 0, none⟩))))]) own0 bs0 (⟨b, c, f.t, true⟩ :: ⟨b2, c2, g.t, true⟩ :: own1) bs1 [] (fun _ => K)) : SR GB C n fr own0 bs0 own1 bs1 [f, g] (dwK P ops Q K []) :=
  outX [c, c2] hz hok hfr fun bl hl => by
    match bl, hl with
    | [b, b2], _ => exact h b b2
/-- on with the rest -/
theorem onX {K : (World → Prop) → Act → World → Prop} (h : SR GB C n fr own0 bs0 own1 bs1 [] (dwK P ops Q K π)) : SR GB C n fr own0 bs0 own1 bs1 [] (fun _ => dwK P ops Q K π []) := ⟨fun G frv o0 o1 hgb hf h0 h1 fs => h G frv o0 o1 hgb hf h0 h1 fs⟩
/-- The region's end. -/
theorem dnX (h : SD GB C n E0 fr (own1 ++ own0) (bs1 ++ bs0) (Q .normal)) : SR GB C n fr own0 bs0 own1 bs1 [] (fun _ => endN (NoPan Q)) := by
  refine ⟨fun G frv o0 o1 hgb hf h0 h1 fs => ?_⟩
  obtain ⟨p0, q0, rfl, hp0, hq0⟩ := h0
  obtain ⟨p1, q1, rfl, hp1, hq1⟩ := h1
  have := h G frv ((p1 ++ p0) ++ (q1 ++ q0)) ⟨hgb, hf, _, _, rfl, hp1.app hp0, hq1.app hq0⟩
  simp only [E0, List.append_nil] at this
  simp only [fFs, fOs, List.append_nil]
  refine st_perm _ ?_ this
  simp only [List.append_assoc]
  refine List.Perm.append_left p1 ?_
  rw [← List.append_assoc q1, ← List.append_assoc p0]
  exact (List.perm_append_comm).append_right q0
end

/-! ### a choice of the blocks -/
theorem HRel.sub' {C : Ctx} {own own' : List Own} {G : Gh} {w : World} (h : HRel C own G w) (hs : ∀ o ∈ own', o ∈ own) (hp : own'.Pairwise (fun x y => x.b ≠ y.b)) : HRel C own' G w :=
  ⟨h.os, h.tape, h.output, h.size, h.keep, h.sub, h.gle, h.gold, fun o ho => h.hown o (hs o ho), hp⟩
def pickL {α : Type} (idx : List Nat) (l : List α) : List α := idx.filterMap (l[·]?)
theorem pickL_mem {α : Type} {idx : List Nat} {l : List α} {x : α} (h : x ∈ pickL idx l) : ∃ i ∈ idx, l[i]? = some x := by
  simpa [pickL, List.mem_filterMap] using h
theorem OwnsIs.pick {G : Gh} {own : List OwnD} {p : List Own} (h : OwnsIs G own p) : ∀ idx : List Nat, OwnsIs G (pickL idx own) (pickL idx p) := by
  have key : ∀ (own : List OwnD) (p : List Own) (i : Nat), OwnsIs G own p → (own[i]? = none ∧ p[i]? = none) ∨ ∃ o cs, own[i]? = some o ∧ p[i]? = some ⟨o.b, cs, o.ty, o.lo⟩ ∧ IsLs G o.cs cs := by
    intro own
    induction own with
    | nil => rintro p i h; rw [show p = [] from h]; exact .inl ⟨rfl, rfl⟩
    | cons o t ih =>
      rintro p i ⟨cs, m, rfl, h1, h2⟩
      cases i with
      | zero => exact .inr ⟨o, cs, rfl, rfl, h1⟩
      | succ i => exact ih m i h2
  intro idx
  induction idx with
  | nil => rfl
  | cons i t ih =>
    unfold pickL at *
    rw [List.filterMap_cons, List.filterMap_cons]
    rcases key own p i h with ⟨h1, h2⟩ | ⟨o, cs, h1, h2, h3⟩
    · rw [h1, h2]; exact ih
    · rw [h1, h2]; exact ⟨cs, _, rfl, h3, ih⟩
theorem pairwise_get {l : List Own} (h : l.Pairwise (fun x y => x.b ≠ y.b)) {i j : Nat} {x y : Own} (hi : l[i]? = some x) (hj : l[j]? = some y) (hne : i ≠ j) : x.b ≠ y.b := by
  obtain ⟨h1, h2⟩ := List.getElem?_eq_some_iff.1 hi
  obtain ⟨h3, h4⟩ := List.getElem?_eq_some_iff.1 hj
  rw [List.pairwise_iff_getElem] at h
  rcases Nat.lt_or_gt_of_ne hne with hlt | hlt
  · rw [← h2, ← h4]; exact h i j h1 h3 hlt
  · rw [← h2, ← h4]; exact (h j i h3 h1 hlt).symm
theorem sd_selO {GB : Gh} {C : Ctx} {n : Nat} {E : Ext} {fr : FrF} {own own' : List OwnD} {bs : List BufD} {Φ : Act → World → Prop} (idx : List Nat) (hn : idx.Pairwise (· ≠ ·)) (he : own' = pickL idx own) (h : SD GB C n E fr own' bs Φ) : SD GB C n E fr own bs Φ := by
  subst he
  refine ⟨fun G frv ov s => ?_⟩
  intro a w rl
  obtain ⟨p, q, rfl, hp, hq⟩ := s.ob
  refine h G frv (pickL idx p ++ q) ⟨s.gb, s.fr, _, q, rfl, hp.pick idx, hq⟩ a w ⟨rl.h.sub' ?_ ?_, rl.sz, rl.fr, rl.df⟩
  · intro o ho
    simp only [List.mem_append] at ho ⊢
    rcases ho with (ho | ho) | ho
    · obtain ⟨i, _, hi⟩ := pickL_mem ho
      exact .inl (.inl (List.mem_of_getElem? hi))
    · exact .inl (.inr ho)
    · exact .inr ho
  · have hnd := rl.h.nd
    rw [List.append_assoc] at hnd ⊢
    obtain ⟨h1, h2, h3⟩ := List.pairwise_append.1 hnd
    refine List.pairwise_append.2 ⟨?_, h2, ?_⟩
    · unfold pickL
      rw [List.pairwise_filterMap]
      refine hn.imp ?_
      intro i j hij x hx y hy
      exact pairwise_get h1 hx hy hij
    · intro x hx y hy
      obtain ⟨i, _, hi⟩ := pickL_mem hx
      exact h3 x (List.mem_of_getElem? hi) y hy
end Go.Sx
end

section
set_option maxRecDepth 100000
namespace Go.Sx
open Go

section
variable {P : Program} {GB : Gh} {C : Ctx} {n : Nat} {E : Ext} {fr fr' : FrF} {own own' : List OwnD} {bs bs' bs1 : List BufD} {ops : Array Oper} {Q : Exit → Act → World → Prop} {r : List Oper} {Φ : Act → World → Prop}
variable {dst : Option Nat} {t t' ty' : TypeId} {pos : String} {af : Array Edge} {gd : Option (Nat × Bool)} {x y z : Operand} {e s by_ : Nat}

/-- append to a row that may be borrowed -/
theorem tf_appendF [hT : TySl P t e s by_] [hN : TyN P t'] {d0 : DV} [hz : TyZE P e d0] {w : SV} {ds ds2 : List DV} (hx : opF fr x = some w.f) (hb : BRemD bs ⟨w, s, e, ds, false⟩ bs1) (hy : SrcD fr bs1 s y ds2)
    (hby : Nat.blt 0 by_ = true) (hbd : (ds.length + ds2.length) * by_ ≤ 140737488355328) (hzs : Nat.beq d0.cells.length s = true) (hd : dstOk n dst = true) :
    TF P GB C n fr own bs ⟨dst, .call ⟨.builtin .append, #[x, y], #[t, t']⟩, ty', pos, af, gd⟩ SV (fun w' => putF fr dst w'.f) (fun _ => own) (fun w' => ⟨w', s, e, ds ++ ds2, false⟩ :: bs1) := by
  intro GB' E Φ hgb h G frv ov st
  obtain ⟨z, hz1, hz2, hz3⟩ := hz.z
  obtain ⟨p, q, rfl, hp, hq⟩ := st.ob
  have cz := (hz2.cells hz3).1.len
  replace hzs := Nat.eq_of_beq_eq_true hzs
  rw [Nat.blt_eq] at hby
  obtain ⟨B, a1, a2, rfl, ⟨vs, hB, hv, hvs, hlo⟩, hq1⟩ := hb.lens hq
  simp only [] at hB hv hvs
  obtain ⟨w2, us, h1, h2, h3, h4, h5, h6⟩ := hy.src (P := P) (C := C) st.fr hq1 ((p ++ (a1 ++ (B ++ a2))) ++ E.own) (fun o ho => by
    simp only [List.mem_append] at ho ⊢; rcases ho with h | h <;> simp [h])
  have hx' := opv_app (y := E.fr) (st.fr.opv hx)
  have hy' := opv_app (y := E.fr) h1
  have hus : (flatL us).length = us.length * s := flatL_len us h4
  have hbd' : (vs.length + us.length) * by_ ≤ 140737488355328 := by rw [hv.len, h3.len]; exact hbd
  have hall : ∀ v ∈ vs ++ us, (cellsL v).length = s := fun v hv => by
    rcases List.mem_append.1 hv with hv | hv
    · exact hvs v hv
    · exact h4 v hv
  have hfin : ∀ (b : Nat) (lo' : Bool) (cap' : Nat) (rest' : List Value), vs.length + us.length ≤ cap' → rest'.length + (vs.length + us.length) * s = cap' * s →
      St C n (put (frv ++ E.fr) dst (.slice (some ⟨b, 0, none⟩) (vs.length + us.length) cap')) (⟨b, flatL (vs ++ us) ++ rest', e, lo'⟩ :: ((p ++ (a1 ++ a2)) ++ E.own)) G Φ := by
    intro b lo' cap' rest' hc hr
    rw [put_app]
    refine st_perm ((p ++ ([⟨b, flatL (vs ++ us) ++ rest', e, lo'⟩] ++ (a1 ++ a2))) ++ E.own) ?_ (h ⟨some ⟨b, 0, none⟩, vs.length + us.length, cap'⟩ G _ _ ⟨st.gb, st.fr.put (isF_v.2 rfl) _, p, _, rfl, hp, ?_⟩)
    · simp only [List.append_assoc, List.cons_append, List.nil_append]
      exact List.perm_middle.symm
    · refine ⟨_, _, rfl, ⟨vs ++ us, .inr ⟨b, rest', lo', by simp, rfl, flatL_len _ hall, ?_, by simpa using hc⟩, hv.app h3, hall, fun h => by cases h⟩, hq1⟩
      rw [flatL_len _ hall, List.length_append]
      simp only []
      omega
  rcases hB with ⟨e1, e2, e3⟩ | ⟨b, rest, lo', k3, k4, k5, k6, k7⟩
  · subst e1 e2 e3
    by_cases hne : us = []
    · subst hne
      have : ds2 = [] := List.eq_nil_of_length_eq_zero (by rw [← h3.len]; rfl)
      subst this
      rw [h2] at hy'
      refine ch_append_nil hx' hy' hd ?_
      rw [put_app]
      refine h ⟨none, 0, 0⟩ G _ _ ⟨st.gb, st.fr.put (isF_v.2 rfl) _, p, _, rfl, hp, ?_⟩
      rw [List.append_nil]
      refine ⟨[], _, by simp, ⟨[], .inl ⟨rfl, rfl, rfl⟩, hv, by simp, fun h => by cases h⟩, hq1⟩
    · have hup : 0 < us.length := List.length_pos_iff.2 hne
      rw [h2] at hy' h6
      refine ch_append_grow (z := z) (xs := []) (ys := flatL us) hx' hy' src_zero h6 (by show (0 : Nat) < 0 + us.length; omega) hby (by simpa using hbd') hd (fun b cap' hc => ?_)
      have := hfin b true cap' (zeros z (cap' - us.length)) (by simpa using hc) (by rw [zeros_len, cz, hzs, ← Nat.add_mul]; simp at hc ⊢; congr 1; omega)
      simpa using this
  · subst k4
    have ha : w.a = some ⟨b, 0, none⟩ := by rw [k3]
    have hn : w.n = vs.length := by rw [k3]
    rw [ha, hn] at hx'
    rw [h2] at hy' h6
    refine ch_append_any (z := z) (xs := flatL vs) (ys := flatL us) (rest := rest) (own1 := (p ++ (a1 ++ a2)) ++ E.own) (lo := lo') hx' hy' ?_ k5 k6 k7 h6 hus h5 hby hbd' (by rw [cz, hzs]) hd (fun b' lo2 cap' rest' hc hr => ?_)
    · have := (ORem.mid (o := (⟨b, flatL vs ++ rest, e, lo'⟩ : Own)) (r := a2 ++ E.own) (p ++ a1))
      simpa [List.append_assoc] using this
    · rw [← flatL_app]
      exact hfin b' lo2 cap' rest' hc hr

/-- a field of an element of a row written -/
theorem td_storeBs {w : SV} {i j sz : Nat} {ty : TypeId} {ds : List DV} {d u : DV} {lo : Bool} (hx : opF fr x = some (.be w sz i j)) (hy : opD fr y = some u) [hs : TyS P t] (hb : BRemD bs ⟨w, sz, ty, ds, lo⟩ bs1)
    (hi : ds[i]? = some (.ag d.cells)) (hj : Nat.blt j d.cells.length = true) (hf : u.flat = true) (hd : dstOk n dst = true) :
    TD P GB C n fr own bs ⟨dst, .store t x y, ty', pos, af, gd⟩ (putF fr dst (.d (.v undef))) own (⟨w, sz, ty, ds.set i (.ag (d.cells.set j u)), lo⟩ :: bs1) := by
  intro GB' E Φ hgb h G frv ov st
  obtain ⟨y', h1, h2⟩ := st.fr.opD hy
  obtain ⟨x', h3, b, hwb, rfl⟩ := st.fr.op hx
  obtain ⟨p, q, rfl, hp, hq⟩ := st.ob
  obtain ⟨B, a1, a2, rfl, hB, hq1⟩ := hb.lens hq
  obtain ⟨b', vs, rest, lo', e1, rfl, hv, hvs, hil, hup⟩ := hB.upd hi
  rw [hwb] at e1; cases e1
  have hfl := h2.flat hf
  rw [Nat.blt_eq] at hj
  obtain ⟨v, g1, g2⟩ := hv.get hi
  obtain ⟨m, rfl, hm⟩ := is_ag.1 g2
  obtain ⟨g3, g4⟩ := List.getElem?_eq_some_iff.1 g1
  have hml : m.length = sz := hvs _ (List.mem_of_getElem? g1)
  have hmd := hm.len
  have key := hup (.agg ⟨m.set j y'⟩) (.ag (d.cells.set j u)) (is_ag.2 ⟨_, rfl, hm.set j h2⟩) (by show (m.set j y').length = sz; simpa using hml)
  have hset := flatL_set (rest := rest) (u := .agg ⟨m.set j y'⟩) vs i hil hvs (by show (m.set j y').length = sz; simpa using hml)
  have hlv := flatL_len vs hvs
  have hle : i * sz + sz ≤ vs.length * sz := by rw [← Nat.succ_mul]; exact Nat.mul_le_mul_right _ hil
  have hst : (flatL vs ++ rest).set (i * sz + j) y' = flatL (vs.set i (.agg ⟨m.set j y'⟩)) ++ rest := by
    rw [← hset, flat_set (by omega) vs i hil hvs]
    show _ = ovw _ _ (m.set j y')
    rw [ovw_spec _ _ _ (by simp only [List.length_set, List.length_append]; omega), g4]
    rw [List.take_append_of_le_length (by omega), flatL_take vs i hvs (by omega), List.length_set, hml, List.drop_append_of_le_length (by omega), ← Nat.succ_mul, flatL_drop vs (i + 1) hvs hil]
    simp [cellsL, List.append_assoc]
  refine ch_store1 (ty := ty) (lo := lo') (cs := flatL vs ++ rest) (own' := (p ++ (a1 ++ ([⟨b, flatL (vs.set i (.agg ⟨m.set j y'⟩)) ++ rest, ty, lo'⟩] ++ a2))) ++ E.own) (opv_app h3) (opv_app h1) ?_ ?_ hfl hd ?_
  · rw [hst]
    have := (OUpd.mid (b := b) (cs := flatL vs ++ rest) (cs' := flatL (vs.set i (.agg ⟨m.set j y'⟩)) ++ rest) (ty := ty) (lo := lo') (r := a2 ++ E.own) (p ++ a1))
    simpa [List.append_assoc] using this
  · rw [List.length_append]; omega
  · rw [put_app]
    refine st_perm ((p ++ ([⟨b, flatL (vs.set i (.agg ⟨m.set j y'⟩)) ++ rest, ty, lo'⟩] ++ (a1 ++ a2))) ++ E.own) ?_ (h G _ _ ⟨st.gb, st.fr.put (isF_v.2 rfl) _, p, _, rfl, hp, ⟨_, _, rfl, key, hq1⟩⟩)
    simp only [List.append_assoc, List.cons_append, List.nil_append]
    exact List.perm_middle.append_left _

/-- A call that takes a row over and hands one back. -/
def PB (GB : Gh) (P : Program) (f : FuncId) (mk : SV → List DV) (s : Nat) (ty : TypeId) (dsi : List DV) (mkr : SV → DV) (dso : List DV) : Prop :=
  ∀ G w vs B, GLe GB G → BufIs G ⟨w, s, ty, dsi, false⟩ B → IsLs G (mk w) vs → FnO P f vs B G (fun v own' G' => ∃ w', Is G' (mkr w') v ∧ BufIs G' ⟨w', s, ty, dso, false⟩ own')
theorem PB.gbu {GB' : Gh} {f : FuncId} {mk : SV → List DV} {dsi dso : List DV} {ty : TypeId} {mkr : SV → DV} (h : PB GB P f mk s ty dsi mkr dso) (k : GLe GB GB') : PB GB' P f mk s ty dsi mkr dso := fun G w vs B hg hv => h G w vs B (k.trans hg) hv
/-- slots as they stand -/
def opXs (fr : FrF) : List Operand → Option (List DV)
  | [] => some []
  | x :: t => match opF fr x, opXs fr t with
    | some (.d d), some l => some (d :: l)
    | _, _ => none
theorem FrIs.opx {G : Gh} {fr : FrF} {m : Fr} (h : FrIs G fr m) : ∀ {x : List Operand} {l : List DV}, opXs fr x = some l → ∃ y, opvs m x = some y ∧ IsLs G l y
  | [], l, e => by simp only [opXs] at e; cases e; exact ⟨[], rfl, .nil⟩
  | x :: t, l, e => by
    simp only [opXs] at e
    split at e
    · rename_i d l' hd hl'
      cases e
      obtain ⟨y, h1, h2⟩ := h.op hd
      obtain ⟨ys, h3, h4⟩ := h.opx hl'
      exact ⟨y :: ys, by simp only [opvs, h1, h3], .cons h2 h4⟩
    · cases e
theorem BufIs.asB {G : Gh} {w : SV} {ty : TypeId} {ds : List DV} {lo : Bool} {B : List Own} (h : BufIs G ⟨w, s, ty, ds, lo⟩ B) : BufIs G ⟨w, s, ty, ds, false⟩ (Sx.asB B) := by
  obtain ⟨vs, h1, h2, h3, h4⟩ := h
  exact ⟨vs, h1.asB, h2, h3, fun h => by cases h⟩
theorem BufIs.weak {G : Gh} {w : SV} {ty : TypeId} {ds : List DV} {lo : Bool} {B : List Own} (h : BufIs G ⟨w, s, ty, ds, lo⟩ B) : BufIs G ⟨w, s, ty, ds, false⟩ B := by
  obtain ⟨vs, h1, h2, h3, h4⟩ := h
  exact ⟨vs, h1, h2, h3, fun h => by cases h⟩
theorem tf_callB {f : FuncId} {fo : Operand} {args : Array Operand} {tys : Array TypeId} {mk : SV → List DV} {ty : TypeId} {dsi dso : List DV} {mkr : SV → DV} {w : SV} {lo : Bool} (ho : opF fr fo = some (.d (.v (.func (.func f) #[] #[])))) (hv : opXs fr args.toList = some (mk w)) (hF : PB GB P f mk s ty dsi mkr dso) (hb : BRemD bs ⟨w, s, ty, dsi, lo⟩ bs1) (hd : dstOk n dst = true) :
    TF P GB C n fr own bs ⟨dst, .call ⟨.value fo, args, tys⟩, ty', pos, af, gd⟩ SV (fun w' => putF fr dst (.d (mkr w'))) (fun _ => own) (fun w' => ⟨w', s, ty, dso, lo⟩ :: bs1) := by
  intro GB' E Φ hgb h G frv ov st
  obtain ⟨vs, h1, h2⟩ := st.fr.opx hv
  obtain ⟨p, q, rfl, hp, hq⟩ := st.ob
  obtain ⟨B, a1, a2, rfl, hB, hq1⟩ := hb.lens hq
  refine ch_callcO (c1 := []) (c2 := []) (M := B) (rest := p ++ (a1 ++ (a2 ++ E.own))) (opv_app (st.fr.opv ho)) (opvs_app h1) ?_ (by simpa using hF G w vs B (hgb.trans st.gb) hB.weak h2) hd ?_
  · simp only [List.append_assoc]
    have e1 : (p ++ (a1 ++ (B ++ (a2 ++ E.own)))).Perm (B ++ (p ++ (a1 ++ (a2 ++ E.own)))) := by
      rw [← List.append_assoc p, ← List.append_assoc p a1 (a2 ++ E.own), ← List.append_assoc, ← List.append_assoc B]
      exact (List.perm_append_comm).append_right _
    exact e1
  · rintro v own1 G' hG ⟨w', hr, vs', k1, k2, k3, k4⟩
    rw [put_app]
    refine st_perm ((p ++ (own1.map (relo (flM B)) ++ (a1 ++ a2))) ++ E.own) ?_ (h w' G' _ _ ⟨st.gb.trans hG.le, (st.fr.up hG.le).put (f := .d (mkr w')) hr _, p, _, rfl, hp.up hG.le, ⟨_, _, rfl, ⟨vs', k1.relo _, k2, k3, ?_⟩, hq1.up hG.le⟩⟩)
    · simp only [List.append_assoc]
      rw [← List.append_assoc, ← List.append_assoc p]
      exact (List.perm_append_comm).append_right _
    · intro hl o ho
      simp only [] at hl
      obtain ⟨o', _, rfl⟩ := List.mem_map.1 ho
      obtain ⟨_, _, _, _, hlo⟩ := hB
      exact flM_true _ (hlo hl)
theorem PB.intro {f : FuncId} {fn : Func} {c : Code} {k : Nat} {mk : SV → List DV} {dsi dso : List DV} {ty : TypeId} {mkr : SV → DV} (hf : P.funcs[f]? = some fn) (hb : fn.body = some c) (hn : (fn.name == "runtime.NumGoroutine") = false) (hm : fn.ntmps = k) (hlen : ∀ w, Nat.ble (mk w).length k = true)
    (h : ∀ (C : Ctx) (w : SV), SD GB C k E0 (args0F 0 (mk w)) [] [⟨w, s, ty, dsi, false⟩] (c.wp P (bodyPost P fn (RPostO C (fun v own' G' => ∃ w', Is G' (mkr w') v ∧ BufIs G' ⟨w', s, ty, dso, false⟩ own'))))) : PB GB P f mk s ty dsi mkr dso := by
  intro G w vs B hg hB hv
  refine FnO.intro hf hb hn hm (by rw [hv.len]; exact hlen w) fun C _ _ => ?_
  have := h C w G _ (asB B) ⟨hg, FrIs.args0 0 hv, [], _, rfl, rfl, ⟨asB B, [], (List.append_nil _).symm, hB.asB, rfl⟩⟩
  simpa only [E0, List.append_nil] using this
inductive RVX (fr : FrF) : List ResultVar → List DV → Prop
  | nil : RVX fr [] []
  | tmp {t : Nat} {v : DV} {rs : List ResultVar} {vs : List DV} (h : lookF fr t = some (.d v)) (k : RVX fr rs vs) : RVX fr (.tmp t :: rs) (v :: vs)
theorem sd_doneB {fn : Func} {w : SV} {ty : TypeId} {dso ds : List DV} {mkr : SV → DV} (hr : RVX fr fn.results.toList ds) (e : tupD ds = mkr w) (hb : BRemD bs ⟨w, s, ty, dso, false⟩ bs1) :
    SD GB C n E0 fr own bs (bodyPost P fn (RPostO C (fun v own' G' => ∃ w', Is G' (mkr w') v ∧ BufIs G' ⟨w', s, ty, dso, false⟩ own')) .ret) := by
  refine ⟨fun G frv ov st => ?_⟩
  obtain ⟨p, q, rfl, hp, hq⟩ := st.ob
  obtain ⟨B, a1, a2, rfl, hB, hq1⟩ := hb.lens hq
  have : ∃ vs, RVs P frv (p ++ (a1 ++ (B ++ a2))) fn.results.toList vs ∧ IsLs G ds vs := by
    clear e
    generalize fn.results.toList = rs at hr
    induction hr with
    | nil => exact ⟨[], .nil, .nil⟩
    | tmp h k ih =>
      obtain ⟨vs, h1, h2⟩ := ih
      obtain ⟨y, hy, hy'⟩ := st.fr.look h
      exact ⟨y :: vs, .tmp hy h1, .cons hy' h2⟩
  obtain ⟨vs, h1, h2⟩ := this
  simp only [E0, List.append_nil]
  refine st_doneO h1 (B ++ (p ++ (a1 ++ a2))) B ?_ (List.sublist_append_left _ _) ⟨w, e ▸ tupD_is h2, hB⟩
  rw [← List.append_assoc p, ← List.append_assoc, ← List.append_assoc p a1 a2, ← List.append_assoc B]
  exact (List.perm_append_comm).append_right _
end
end Go.Sx
end

section
set_option maxRecDepth 100000
namespace Go.Sx
open Go
instance : TyS Go.Proofs.Tryz.prog 2 := ⟨fun _ => by kernel_rfl, fun _ => by kernel_rfl⟩
instance : TyZ Go.Proofs.Tryz.prog 2 (.int .i64 0) := ⟨by kernel_rfl⟩
instance : TyI Go.Proofs.Tryz.prog 2 .i64 := ⟨fun _ => by kernel_rfl⟩
instance : TyS Go.Proofs.Tryz.prog 3 := ⟨fun _ => by kernel_rfl, fun _ => by kernel_rfl⟩
instance : TyZ Go.Proofs.Tryz.prog 3 (.int .i64 0) := ⟨by kernel_rfl⟩
instance : TyI Go.Proofs.Tryz.prog 3 .i64 := ⟨fun _ => by kernel_rfl⟩
instance : TyS Go.Proofs.Tryz.prog 4 := ⟨fun _ => by kernel_rfl, fun _ => by kernel_rfl⟩
instance : TyZ Go.Proofs.Tryz.prog 4 (.bool false) := ⟨by kernel_rfl⟩
instance : TyB Go.Proofs.Tryz.prog 4 := ⟨fun _ => by kernel_rfl⟩
instance : TyS Go.Proofs.Tryz.prog 5 := ⟨fun _ => by kernel_rfl, fun _ => by kernel_rfl⟩
instance : TyZ Go.Proofs.Tryz.prog 5 (.int .u8 0) := ⟨by kernel_rfl⟩
instance : TyI Go.Proofs.Tryz.prog 5 .u8 := ⟨fun _ => by kernel_rfl⟩
instance : TyS Go.Proofs.Tryz.prog 9 := ⟨fun _ => by kernel_rfl, fun _ => by kernel_rfl⟩
instance : TyZ Go.Proofs.Tryz.prog 9 (.string ⟨#[]⟩) := ⟨by kernel_rfl⟩
instance : TyS Go.Proofs.Tryz.prog 20 := ⟨fun _ => by kernel_rfl, fun _ => by kernel_rfl⟩
instance : TyZ Go.Proofs.Tryz.prog 20 (.nilIface) := ⟨by kernel_rfl⟩
instance : TyIf Go.Proofs.Tryz.prog 20 := ⟨_, fun _ => tyst_u Go.Proofs.Tryz.underlying20 _⟩
instance : TyS Go.Proofs.Tryz.prog 22 := ⟨fun _ => by kernel_rfl, fun _ => by kernel_rfl⟩
instance : TyZ Go.Proofs.Tryz.prog 22 (.slice none 0 0) := ⟨by kernel_rfl⟩
instance : TySl Go.Proofs.Tryz.prog 22 3 1 8 := ⟨by kernel_rfl, by kernel_rfl⟩
instance : TyN Go.Proofs.Tryz.prog 22 := ⟨3, by kernel_rfl⟩
instance : TyS Go.Proofs.Tryz.prog 23 := ⟨fun _ => by kernel_rfl, fun _ => by kernel_rfl⟩
instance : TyZ Go.Proofs.Tryz.prog 23 (.pointer none) := ⟨by kernel_rfl⟩
instance : TyP Go.Proofs.Tryz.prog 23 := ⟨93, fun _ => by kernel_rfl⟩
instance : TyS Go.Proofs.Tryz.prog 25 := ⟨fun _ => by kernel_rfl, fun _ => by kernel_rfl⟩
instance : TyZ Go.Proofs.Tryz.prog 25 (.pointer none) := ⟨by kernel_rfl⟩
instance : TyP Go.Proofs.Tryz.prog 25 := ⟨97, fun _ => by kernel_rfl⟩
instance : TyS Go.Proofs.Tryz.prog 27 := ⟨fun _ => by kernel_rfl, fun _ => by kernel_rfl⟩
instance : TyZ Go.Proofs.Tryz.prog 27 (.slice none 0 0) := ⟨by kernel_rfl⟩
instance : TySl Go.Proofs.Tryz.prog 27 224 1 4 := ⟨by kernel_rfl, by kernel_rfl⟩
instance : TyN Go.Proofs.Tryz.prog 27 := ⟨224, by kernel_rfl⟩
instance : TyS Go.Proofs.Tryz.prog 28 := ⟨fun _ => by kernel_rfl, fun _ => by kernel_rfl⟩
instance : TyZ Go.Proofs.Tryz.prog 28 (.slice none 0 0) := ⟨by kernel_rfl⟩
instance : TySl Go.Proofs.Tryz.prog 28 224 1 4 := ⟨by kernel_rfl, by kernel_rfl⟩
instance : TyN Go.Proofs.Tryz.prog 28 := ⟨224, by kernel_rfl⟩
instance : TyA Go.Proofs.Tryz.prog 30 2 := ⟨fun _ => by kernel_rfl, fun _ => by kernel_rfl⟩
instance : TyZ Go.Proofs.Tryz.prog 30 (.agg ⟨[.bool false, .slice none 0 0]⟩) := ⟨by kernel_rfl⟩
instance : TyF Go.Proofs.Tryz.prog 30 0 0 := ⟨fun _ _ _ => by kernel_rfl⟩
instance : TyFd Go.Proofs.Tryz.prog 30 0 0 4 := ⟨_, _, fun _ => tyst_u Go.Proofs.Tryz.underlying30 _, rfl, rfl, rfl⟩
instance : TyF Go.Proofs.Tryz.prog 30 1 1 := ⟨fun _ _ _ => by kernel_rfl⟩
instance : TyFd Go.Proofs.Tryz.prog 30 1 1 28 := ⟨_, _, fun _ => tyst_u Go.Proofs.Tryz.underlying30 _, rfl, rfl, rfl⟩
instance : TySt Go.Proofs.Tryz.prog 30 [(0, 1), (1, 1)] := ⟨_, fun _ => tyst_u Go.Proofs.Tryz.underlying30 _, fun _ => by kernel_rfl⟩
instance : TyA Go.Proofs.Tryz.prog 32 6 := ⟨fun _ => by kernel_rfl, fun _ => by kernel_rfl⟩
instance : TyZ Go.Proofs.Tryz.prog 32 (.agg ⟨[.bool false, .slice none 0 0, .bool false, .slice none 0 0, .bool false, .slice none 0 0]⟩) := ⟨by kernel_rfl⟩
instance : TyF Go.Proofs.Tryz.prog 32 0 0 := ⟨fun _ _ _ => by kernel_rfl⟩
instance : TyFd Go.Proofs.Tryz.prog 32 0 0 30 := ⟨_, _, fun _ => tyst_u Go.Proofs.Tryz.underlying32 _, rfl, rfl, rfl⟩
instance : TyF Go.Proofs.Tryz.prog 32 1 2 := ⟨fun _ _ _ => by kernel_rfl⟩
instance : TyFd Go.Proofs.Tryz.prog 32 1 2 30 := ⟨_, _, fun _ => tyst_u Go.Proofs.Tryz.underlying32 _, rfl, rfl, rfl⟩
instance : TyF Go.Proofs.Tryz.prog 32 2 4 := ⟨fun _ _ _ => by kernel_rfl⟩
instance : TyFd Go.Proofs.Tryz.prog 32 2 4 30 := ⟨_, _, fun _ => tyst_u Go.Proofs.Tryz.underlying32 _, rfl, rfl, rfl⟩
instance : TySt Go.Proofs.Tryz.prog 32 [(0, 2), (2, 2), (4, 2)] := ⟨_, fun _ => tyst_u Go.Proofs.Tryz.underlying32 _, fun _ => by kernel_rfl⟩
instance : TyS Go.Proofs.Tryz.prog 34 := ⟨fun _ => by kernel_rfl, fun _ => by kernel_rfl⟩
instance : TyZ Go.Proofs.Tryz.prog 34 (.slice none 0 0) := ⟨by kernel_rfl⟩
instance : TySl Go.Proofs.Tryz.prog 34 60 8 112 := ⟨by kernel_rfl, by kernel_rfl⟩
instance : TyN Go.Proofs.Tryz.prog 34 := ⟨60, by kernel_rfl⟩
instance : TyA Go.Proofs.Tryz.prog 36 2 := ⟨fun _ => by kernel_rfl, fun _ => by kernel_rfl⟩
instance : TyZ Go.Proofs.Tryz.prog 36 (.agg ⟨[.int .i64 0, .slice none 0 0]⟩) := ⟨by kernel_rfl⟩
instance : TyF Go.Proofs.Tryz.prog 36 0 0 := ⟨fun _ _ _ => by kernel_rfl⟩
instance : TyFd Go.Proofs.Tryz.prog 36 0 0 3 := ⟨_, _, fun _ => tyst_u Go.Proofs.Tryz.underlying36 _, rfl, rfl, rfl⟩
instance : TyF Go.Proofs.Tryz.prog 36 1 1 := ⟨fun _ _ _ => by kernel_rfl⟩
instance : TyFd Go.Proofs.Tryz.prog 36 1 1 34 := ⟨_, _, fun _ => tyst_u Go.Proofs.Tryz.underlying36 _, rfl, rfl, rfl⟩
instance : TySt Go.Proofs.Tryz.prog 36 [(0, 1), (1, 1)] := ⟨_, fun _ => tyst_u Go.Proofs.Tryz.underlying36 _, fun _ => by kernel_rfl⟩
instance : TyS Go.Proofs.Tryz.prog 38 := ⟨fun _ => by kernel_rfl, fun _ => by kernel_rfl⟩
instance : TyZ Go.Proofs.Tryz.prog 38 (.nilIface) := ⟨by kernel_rfl⟩
instance : TyIf Go.Proofs.Tryz.prog 38 := ⟨_, fun _ => tyst_u Go.Proofs.Tryz.underlying38 _⟩
instance : TyS Go.Proofs.Tryz.prog 42 := ⟨fun _ => by kernel_rfl, fun _ => by kernel_rfl⟩
instance : TyZ Go.Proofs.Tryz.prog 42 (.slice none 0 0) := ⟨by kernel_rfl⟩
instance : TySl Go.Proofs.Tryz.prog 42 224 1 4 := ⟨by kernel_rfl, by kernel_rfl⟩
instance : TyN Go.Proofs.Tryz.prog 42 := ⟨224, by kernel_rfl⟩
instance : TyA Go.Proofs.Tryz.prog 44 2 := ⟨fun _ => by kernel_rfl, fun _ => by kernel_rfl⟩
instance : TyZ Go.Proofs.Tryz.prog 44 (.agg ⟨[.bool false, .slice none 0 0]⟩) := ⟨by kernel_rfl⟩
instance : TyF Go.Proofs.Tryz.prog 44 0 0 := ⟨fun _ _ _ => by kernel_rfl⟩
instance : TyFd Go.Proofs.Tryz.prog 44 0 0 4 := ⟨_, _, fun _ => tyst_u Go.Proofs.Tryz.underlying44 _, rfl, rfl, rfl⟩
instance : TyF Go.Proofs.Tryz.prog 44 1 1 := ⟨fun _ _ _ => by kernel_rfl⟩
instance : TyFd Go.Proofs.Tryz.prog 44 1 1 42 := ⟨_, _, fun _ => tyst_u Go.Proofs.Tryz.underlying44 _, rfl, rfl, rfl⟩
instance : TySt Go.Proofs.Tryz.prog 44 [(0, 1), (1, 1)] := ⟨_, fun _ => tyst_u Go.Proofs.Tryz.underlying44 _, fun _ => by kernel_rfl⟩
instance : TyA Go.Proofs.Tryz.prog 46 6 := ⟨fun _ => by kernel_rfl, fun _ => by kernel_rfl⟩
instance : TyZ Go.Proofs.Tryz.prog 46 (.agg ⟨[.bool false, .slice none 0 0, .bool false, .slice none 0 0, .bool false, .slice none 0 0]⟩) := ⟨by kernel_rfl⟩
instance : TyF Go.Proofs.Tryz.prog 46 0 0 := ⟨fun _ _ _ => by kernel_rfl⟩
instance : TyFd Go.Proofs.Tryz.prog 46 0 0 44 := ⟨_, _, fun _ => tyst_u Go.Proofs.Tryz.underlying46 _, rfl, rfl, rfl⟩
instance : TyF Go.Proofs.Tryz.prog 46 1 2 := ⟨fun _ _ _ => by kernel_rfl⟩
instance : TyFd Go.Proofs.Tryz.prog 46 1 2 44 := ⟨_, _, fun _ => tyst_u Go.Proofs.Tryz.underlying46 _, rfl, rfl, rfl⟩
instance : TyF Go.Proofs.Tryz.prog 46 2 4 := ⟨fun _ _ _ => by kernel_rfl⟩
instance : TyFd Go.Proofs.Tryz.prog 46 2 4 44 := ⟨_, _, fun _ => tyst_u Go.Proofs.Tryz.underlying46 _, rfl, rfl, rfl⟩
instance : TySt Go.Proofs.Tryz.prog 46 [(0, 2), (2, 2), (4, 2)] := ⟨_, fun _ => tyst_u Go.Proofs.Tryz.underlying46 _, fun _ => by kernel_rfl⟩
instance : TyS Go.Proofs.Tryz.prog 51 := ⟨fun _ => by kernel_rfl, fun _ => by kernel_rfl⟩
instance : TyZ Go.Proofs.Tryz.prog 51 (.slice none 0 0) := ⟨by kernel_rfl⟩
instance : TySl Go.Proofs.Tryz.prog 51 32 6 96 := ⟨by kernel_rfl, by kernel_rfl⟩
instance : TyN Go.Proofs.Tryz.prog 51 := ⟨32, by kernel_rfl⟩
instance : TyS Go.Proofs.Tryz.prog 56 := ⟨fun _ => by kernel_rfl, fun _ => by kernel_rfl⟩
instance : TyZ Go.Proofs.Tryz.prog 56 (.slice none 0 0) := ⟨by kernel_rfl⟩
instance : TySl Go.Proofs.Tryz.prog 56 65 1 24 := ⟨by kernel_rfl, by kernel_rfl⟩
instance : TyN Go.Proofs.Tryz.prog 56 := ⟨65, by kernel_rfl⟩
instance : TyA Go.Proofs.Tryz.prog 60 8 := ⟨fun _ => by kernel_rfl, fun _ => by kernel_rfl⟩
instance : TyZ Go.Proofs.Tryz.prog 60 (.agg ⟨[.bool false, .slice none 0 0, .bool false, .slice none 0 0, .bool false, .slice none 0 0, .int .i64 0, .int .i64 0]⟩) := ⟨by kernel_rfl⟩
instance : TyF Go.Proofs.Tryz.prog 60 0 0 := ⟨fun _ _ _ => by kernel_rfl⟩
instance : TyFd Go.Proofs.Tryz.prog 60 0 0 46 := ⟨_, _, fun _ => tyst_u Go.Proofs.Tryz.underlying60 _, rfl, rfl, rfl⟩
instance : TyF Go.Proofs.Tryz.prog 60 1 6 := ⟨fun _ _ _ => by kernel_rfl⟩
instance : TyFd Go.Proofs.Tryz.prog 60 1 6 3 := ⟨_, _, fun _ => tyst_u Go.Proofs.Tryz.underlying60 _, rfl, rfl, rfl⟩
instance : TyF Go.Proofs.Tryz.prog 60 2 7 := ⟨fun _ _ _ => by kernel_rfl⟩
instance : TyFd Go.Proofs.Tryz.prog 60 2 7 3 := ⟨_, _, fun _ => tyst_u Go.Proofs.Tryz.underlying60 _, rfl, rfl, rfl⟩
instance : TySt Go.Proofs.Tryz.prog 60 [(0, 6), (6, 1), (7, 1)] := ⟨_, fun _ => tyst_u Go.Proofs.Tryz.underlying60 _, fun _ => by kernel_rfl⟩
instance : TyS Go.Proofs.Tryz.prog 63 := ⟨fun _ => by kernel_rfl, fun _ => by kernel_rfl⟩
instance : TyZ Go.Proofs.Tryz.prog 63 (.slice none 0 0) := ⟨by kernel_rfl⟩
instance : TySl Go.Proofs.Tryz.prog 63 46 6 96 := ⟨by kernel_rfl, by kernel_rfl⟩
instance : TyN Go.Proofs.Tryz.prog 63 := ⟨46, by kernel_rfl⟩
instance : TyA Go.Proofs.Tryz.prog 65 1 := ⟨fun _ => by kernel_rfl, fun _ => by kernel_rfl⟩
instance : TyZ Go.Proofs.Tryz.prog 65 (.agg ⟨[.slice none 0 0]⟩) := ⟨by kernel_rfl⟩
instance : TyF Go.Proofs.Tryz.prog 65 0 0 := ⟨fun _ _ _ => by kernel_rfl⟩
instance : TyFd Go.Proofs.Tryz.prog 65 0 0 63 := ⟨_, _, fun _ => tyst_u Go.Proofs.Tryz.underlying65 _, rfl, rfl, rfl⟩
instance : TySt Go.Proofs.Tryz.prog 65 [(0, 1)] := ⟨_, fun _ => tyst_u Go.Proofs.Tryz.underlying65 _, fun _ => by kernel_rfl⟩
instance : TyS Go.Proofs.Tryz.prog 84 := ⟨fun _ => by kernel_rfl, fun _ => by kernel_rfl⟩
instance : TyZ Go.Proofs.Tryz.prog 84 (.slice none 0 0) := ⟨by kernel_rfl⟩
instance : TySl Go.Proofs.Tryz.prog 84 36 2 32 := ⟨by kernel_rfl, by kernel_rfl⟩
instance : TyN Go.Proofs.Tryz.prog 84 := ⟨36, by kernel_rfl⟩
instance : TyA Go.Proofs.Tryz.prog 87 3 := ⟨fun _ => by kernel_rfl, fun _ => by kernel_rfl⟩
instance : TyZ Go.Proofs.Tryz.prog 87 (.agg ⟨[.bool false, .slice none 0 0, .slice none 0 0]⟩) := ⟨by kernel_rfl⟩
instance : TyF Go.Proofs.Tryz.prog 87 0 0 := ⟨fun _ _ _ => by kernel_rfl⟩
instance : TyFd Go.Proofs.Tryz.prog 87 0 0 30 := ⟨_, _, fun _ => tyst_u Go.Proofs.Tryz.underlying87 _, rfl, rfl, rfl⟩
instance : TyF Go.Proofs.Tryz.prog 87 1 2 := ⟨fun _ _ _ => by kernel_rfl⟩
instance : TyFd Go.Proofs.Tryz.prog 87 1 2 28 := ⟨_, _, fun _ => tyst_u Go.Proofs.Tryz.underlying87 _, rfl, rfl, rfl⟩
instance : TySt Go.Proofs.Tryz.prog 87 [(0, 2), (2, 1)] := ⟨_, fun _ => tyst_u Go.Proofs.Tryz.underlying87 _, fun _ => by kernel_rfl⟩
instance : TyA Go.Proofs.Tryz.prog 89 6 := ⟨fun _ => by kernel_rfl, fun _ => by kernel_rfl⟩
instance : TyZ Go.Proofs.Tryz.prog 89 (.agg ⟨[.bool false, .slice none 0 0, .slice none 0 0, .bool false, .slice none 0 0, .slice none 0 0]⟩) := ⟨by kernel_rfl⟩
instance : TyF Go.Proofs.Tryz.prog 89 0 0 := ⟨fun _ _ _ => by kernel_rfl⟩
instance : TyFd Go.Proofs.Tryz.prog 89 0 0 87 := ⟨_, _, fun _ => tyst_u Go.Proofs.Tryz.underlying89 _, rfl, rfl, rfl⟩
instance : TyF Go.Proofs.Tryz.prog 89 1 3 := ⟨fun _ _ _ => by kernel_rfl⟩
instance : TyFd Go.Proofs.Tryz.prog 89 1 3 87 := ⟨_, _, fun _ => tyst_u Go.Proofs.Tryz.underlying89 _, rfl, rfl, rfl⟩
instance : TySt Go.Proofs.Tryz.prog 89 [(0, 3), (3, 3)] := ⟨_, fun _ => tyst_u Go.Proofs.Tryz.underlying89 _, fun _ => by kernel_rfl⟩
instance : TyA Go.Proofs.Tryz.prog 93 2 := ⟨fun _ => by kernel_rfl, fun _ => by kernel_rfl⟩
instance : TyZ Go.Proofs.Tryz.prog 93 (.agg ⟨[.slice none 0 0, .int .i64 0]⟩) := ⟨by kernel_rfl⟩
instance : TyF Go.Proofs.Tryz.prog 93 0 0 := ⟨fun _ _ _ => by kernel_rfl⟩
instance : TyFd Go.Proofs.Tryz.prog 93 0 0 22 := ⟨_, _, fun _ => tyst_u Go.Proofs.Tryz.underlying93 _, rfl, rfl, rfl⟩
instance : TyF Go.Proofs.Tryz.prog 93 1 1 := ⟨fun _ _ _ => by kernel_rfl⟩
instance : TyFd Go.Proofs.Tryz.prog 93 1 1 3 := ⟨_, _, fun _ => tyst_u Go.Proofs.Tryz.underlying93 _, rfl, rfl, rfl⟩
instance : TySt Go.Proofs.Tryz.prog 93 [(0, 1), (1, 1)] := ⟨_, fun _ => tyst_u Go.Proofs.Tryz.underlying93 _, fun _ => by kernel_rfl⟩
instance : TyA Go.Proofs.Tryz.prog 97 10 := ⟨fun _ => by kernel_rfl, fun _ => by kernel_rfl⟩
instance : TyZ Go.Proofs.Tryz.prog 97 (.agg ⟨[.bool false, .bool false, .bool false, .slice none 0 0, .bool false, .slice none 0 0, .bool false, .slice none 0 0, .pointer none, .pointer none]⟩) := ⟨by kernel_rfl⟩
instance : TyF Go.Proofs.Tryz.prog 97 0 0 := ⟨fun _ _ _ => by kernel_rfl⟩
instance : TyFd Go.Proofs.Tryz.prog 97 0 0 4 := ⟨_, _, fun _ => tyst_u Go.Proofs.Tryz.underlying97 _, rfl, rfl, rfl⟩
instance : TyF Go.Proofs.Tryz.prog 97 1 1 := ⟨fun _ _ _ => by kernel_rfl⟩
instance : TyFd Go.Proofs.Tryz.prog 97 1 1 4 := ⟨_, _, fun _ => tyst_u Go.Proofs.Tryz.underlying97 _, rfl, rfl, rfl⟩
instance : TyF Go.Proofs.Tryz.prog 97 2 2 := ⟨fun _ _ _ => by kernel_rfl⟩
instance : TyFd Go.Proofs.Tryz.prog 97 2 2 32 := ⟨_, _, fun _ => tyst_u Go.Proofs.Tryz.underlying97 _, rfl, rfl, rfl⟩
instance : TyF Go.Proofs.Tryz.prog 97 3 8 := ⟨fun _ _ _ => by kernel_rfl⟩
instance : TyFd Go.Proofs.Tryz.prog 97 3 8 25 := ⟨_, _, fun _ => tyst_u Go.Proofs.Tryz.underlying97 _, rfl, rfl, rfl⟩
instance : TyF Go.Proofs.Tryz.prog 97 4 9 := ⟨fun _ _ _ => by kernel_rfl⟩
instance : TyFd Go.Proofs.Tryz.prog 97 4 9 25 := ⟨_, _, fun _ => tyst_u Go.Proofs.Tryz.underlying97 _, rfl, rfl, rfl⟩
instance : TySt Go.Proofs.Tryz.prog 97 [(0, 1), (1, 1), (2, 6), (8, 1), (9, 1)] := ⟨_, fun _ => tyst_u Go.Proofs.Tryz.underlying97 _, fun _ => by kernel_rfl⟩
instance : TyS Go.Proofs.Tryz.prog 101 := ⟨fun _ => by kernel_rfl, fun _ => by kernel_rfl⟩
instance : TyZ Go.Proofs.Tryz.prog 101 (.pointer none) := ⟨by kernel_rfl⟩
instance : TyP Go.Proofs.Tryz.prog 101 := ⟨277, fun _ => by kernel_rfl⟩
instance : TyA Go.Proofs.Tryz.prog 103 3 := ⟨fun _ => by kernel_rfl, fun _ => by kernel_rfl⟩
instance : TyZ Go.Proofs.Tryz.prog 103 (.agg ⟨[.int .i64 0, .int .i64 0, .pointer none]⟩) := ⟨by kernel_rfl⟩
instance : TyF Go.Proofs.Tryz.prog 103 0 0 := ⟨fun _ _ _ => by kernel_rfl⟩
instance : TyFd Go.Proofs.Tryz.prog 103 0 0 2 := ⟨_, _, fun _ => tyst_u Go.Proofs.Tryz.underlying103 _, rfl, rfl, rfl⟩
instance : TyF Go.Proofs.Tryz.prog 103 1 1 := ⟨fun _ _ _ => by kernel_rfl⟩
instance : TyFd Go.Proofs.Tryz.prog 103 1 1 2 := ⟨_, _, fun _ => tyst_u Go.Proofs.Tryz.underlying103 _, rfl, rfl, rfl⟩
instance : TyF Go.Proofs.Tryz.prog 103 2 2 := ⟨fun _ _ _ => by kernel_rfl⟩
instance : TyFd Go.Proofs.Tryz.prog 103 2 2 101 := ⟨_, _, fun _ => tyst_u Go.Proofs.Tryz.underlying103 _, rfl, rfl, rfl⟩
instance : TySt Go.Proofs.Tryz.prog 103 [(0, 1), (1, 1), (2, 1)] := ⟨_, fun _ => tyst_u Go.Proofs.Tryz.underlying103 _, fun _ => by kernel_rfl⟩
instance : TyA Go.Proofs.Tryz.prog 105 9 := ⟨fun _ => by kernel_rfl, fun _ => by kernel_rfl⟩
instance : TyZ Go.Proofs.Tryz.prog 105 (.agg ⟨[.int .i64 0, .int .i64 0, .pointer none, .int .i64 0, .int .i64 0, .pointer none, .int .i64 0, .int .i64 0, .pointer none]⟩) := ⟨by kernel_rfl⟩
instance : TyF Go.Proofs.Tryz.prog 105 0 0 := ⟨fun _ _ _ => by kernel_rfl⟩
instance : TyFd Go.Proofs.Tryz.prog 105 0 0 103 := ⟨_, _, fun _ => tyst_u Go.Proofs.Tryz.underlying105 _, rfl, rfl, rfl⟩
instance : TyF Go.Proofs.Tryz.prog 105 1 3 := ⟨fun _ _ _ => by kernel_rfl⟩
instance : TyFd Go.Proofs.Tryz.prog 105 1 3 103 := ⟨_, _, fun _ => tyst_u Go.Proofs.Tryz.underlying105 _, rfl, rfl, rfl⟩
instance : TyF Go.Proofs.Tryz.prog 105 2 6 := ⟨fun _ _ _ => by kernel_rfl⟩
instance : TyFd Go.Proofs.Tryz.prog 105 2 6 103 := ⟨_, _, fun _ => tyst_u Go.Proofs.Tryz.underlying105 _, rfl, rfl, rfl⟩
instance : TySt Go.Proofs.Tryz.prog 105 [(0, 3), (3, 3), (6, 3)] := ⟨_, fun _ => tyst_u Go.Proofs.Tryz.underlying105 _, fun _ => by kernel_rfl⟩
instance : TyS Go.Proofs.Tryz.prog 108 := ⟨fun _ => by kernel_rfl, fun _ => by kernel_rfl⟩
instance : TyZ Go.Proofs.Tryz.prog 108 (.pointer none) := ⟨by kernel_rfl⟩
instance : TyP Go.Proofs.Tryz.prog 108 := ⟨132, fun _ => by kernel_rfl⟩
instance : TyS Go.Proofs.Tryz.prog 111 := ⟨fun _ => by kernel_rfl, fun _ => by kernel_rfl⟩
instance : TyZ Go.Proofs.Tryz.prog 111 (.slice none 0 0) := ⟨by kernel_rfl⟩
instance : TySl Go.Proofs.Tryz.prog 111 196 17 128 := ⟨by kernel_rfl, by kernel_rfl⟩
instance : TyN Go.Proofs.Tryz.prog 111 := ⟨196, by kernel_rfl⟩
instance : TyS Go.Proofs.Tryz.prog 112 := ⟨fun _ => by kernel_rfl, fun _ => by kernel_rfl⟩
instance : TyZ Go.Proofs.Tryz.prog 112 (.slice none 0 0) := ⟨by kernel_rfl⟩
instance : TySl Go.Proofs.Tryz.prog 112 196 17 128 := ⟨by kernel_rfl, by kernel_rfl⟩
instance : TyN Go.Proofs.Tryz.prog 112 := ⟨196, by kernel_rfl⟩
instance : TyS Go.Proofs.Tryz.prog 126 := ⟨fun _ => by kernel_rfl, fun _ => by kernel_rfl⟩
instance : TyZ Go.Proofs.Tryz.prog 126 (.slice none 0 0) := ⟨by kernel_rfl⟩
instance : TySl Go.Proofs.Tryz.prog 126 130 2 32 := ⟨by kernel_rfl, by kernel_rfl⟩
instance : TyN Go.Proofs.Tryz.prog 126 := ⟨130, by kernel_rfl⟩
instance : TyA Go.Proofs.Tryz.prog 130 2 := ⟨fun _ => by kernel_rfl, fun _ => by kernel_rfl⟩
instance : TyZ Go.Proofs.Tryz.prog 130 (.agg ⟨[.slice none 0 0, .pointer none]⟩) := ⟨by kernel_rfl⟩
instance : TyF Go.Proofs.Tryz.prog 130 0 0 := ⟨fun _ _ _ => by kernel_rfl⟩
instance : TyFd Go.Proofs.Tryz.prog 130 0 0 112 := ⟨_, _, fun _ => tyst_u Go.Proofs.Tryz.underlying130 _, rfl, rfl, rfl⟩
instance : TyF Go.Proofs.Tryz.prog 130 1 1 := ⟨fun _ _ _ => by kernel_rfl⟩
instance : TyFd Go.Proofs.Tryz.prog 130 1 1 108 := ⟨_, _, fun _ => tyst_u Go.Proofs.Tryz.underlying130 _, rfl, rfl, rfl⟩
instance : TySt Go.Proofs.Tryz.prog 130 [(0, 1), (1, 1)] := ⟨_, fun _ => tyst_u Go.Proofs.Tryz.underlying130 _, fun _ => by kernel_rfl⟩
instance : TyA Go.Proofs.Tryz.prog 132 12 := ⟨fun _ => by kernel_rfl, fun _ => by kernel_rfl⟩
instance : TyZ Go.Proofs.Tryz.prog 132 (.agg ⟨[.int .i64 0, .int .i64 0, .pointer none, .int .i64 0, .int .i64 0, .pointer none, .int .i64 0, .int .i64 0, .pointer none, .pointer none, .pointer none, .bool false]⟩) := ⟨by kernel_rfl⟩
instance : TyF Go.Proofs.Tryz.prog 132 0 0 := ⟨fun _ _ _ => by kernel_rfl⟩
instance : TyFd Go.Proofs.Tryz.prog 132 0 0 105 := ⟨_, _, fun _ => tyst_u Go.Proofs.Tryz.underlying132 _, rfl, rfl, rfl⟩
instance : TyF Go.Proofs.Tryz.prog 132 1 9 := ⟨fun _ _ _ => by kernel_rfl⟩
instance : TyFd Go.Proofs.Tryz.prog 132 1 9 108 := ⟨_, _, fun _ => tyst_u Go.Proofs.Tryz.underlying132 _, rfl, rfl, rfl⟩
instance : TyF Go.Proofs.Tryz.prog 132 2 10 := ⟨fun _ _ _ => by kernel_rfl⟩
instance : TyFd Go.Proofs.Tryz.prog 132 2 10 108 := ⟨_, _, fun _ => tyst_u Go.Proofs.Tryz.underlying132 _, rfl, rfl, rfl⟩
instance : TyF Go.Proofs.Tryz.prog 132 3 11 := ⟨fun _ _ _ => by kernel_rfl⟩
instance : TyFd Go.Proofs.Tryz.prog 132 3 11 4 := ⟨_, _, fun _ => tyst_u Go.Proofs.Tryz.underlying132 _, rfl, rfl, rfl⟩
instance : TySt Go.Proofs.Tryz.prog 132 [(0, 9), (9, 1), (10, 1), (11, 1)] := ⟨_, fun _ => tyst_u Go.Proofs.Tryz.underlying132 _, fun _ => by kernel_rfl⟩
instance : TyS Go.Proofs.Tryz.prog 139 := ⟨fun _ => by kernel_rfl, fun _ => by kernel_rfl⟩
instance : TyZ Go.Proofs.Tryz.prog 139 (.slice none 0 0) := ⟨by kernel_rfl⟩
instance : TySl Go.Proofs.Tryz.prog 139 105 9 72 := ⟨by kernel_rfl, by kernel_rfl⟩
instance : TyN Go.Proofs.Tryz.prog 139 := ⟨105, by kernel_rfl⟩
instance : TyA Go.Proofs.Tryz.prog 157 8 := ⟨fun _ => by kernel_rfl, fun _ => by kernel_rfl⟩
instance : TyZ Go.Proofs.Tryz.prog 157 (.agg ⟨[.bool false, .slice none 0 0, .slice none 0 0, .bool false, .slice none 0 0, .slice none 0 0, .bool false, .bool false]⟩) := ⟨by kernel_rfl⟩
instance : TyF Go.Proofs.Tryz.prog 157 0 0 := ⟨fun _ _ _ => by kernel_rfl⟩
instance : TyFd Go.Proofs.Tryz.prog 157 0 0 87 := ⟨_, _, fun _ => tyst_u Go.Proofs.Tryz.underlying157 _, rfl, rfl, rfl⟩
instance : TyF Go.Proofs.Tryz.prog 157 1 3 := ⟨fun _ _ _ => by kernel_rfl⟩
instance : TyFd Go.Proofs.Tryz.prog 157 1 3 87 := ⟨_, _, fun _ => tyst_u Go.Proofs.Tryz.underlying157 _, rfl, rfl, rfl⟩
instance : TyF Go.Proofs.Tryz.prog 157 2 6 := ⟨fun _ _ _ => by kernel_rfl⟩
instance : TyFd Go.Proofs.Tryz.prog 157 2 6 4 := ⟨_, _, fun _ => tyst_u Go.Proofs.Tryz.underlying157 _, rfl, rfl, rfl⟩
instance : TyF Go.Proofs.Tryz.prog 157 3 7 := ⟨fun _ _ _ => by kernel_rfl⟩
instance : TyFd Go.Proofs.Tryz.prog 157 3 7 4 := ⟨_, _, fun _ => tyst_u Go.Proofs.Tryz.underlying157 _, rfl, rfl, rfl⟩
instance : TySt Go.Proofs.Tryz.prog 157 [(0, 3), (3, 3), (6, 1), (7, 1)] := ⟨_, fun _ => tyst_u Go.Proofs.Tryz.underlying157 _, fun _ => by kernel_rfl⟩
instance : TyS Go.Proofs.Tryz.prog 165 := ⟨fun _ => by kernel_rfl, fun _ => by kernel_rfl⟩
instance : TyZ Go.Proofs.Tryz.prog 165 (.slice none 0 0) := ⟨by kernel_rfl⟩
instance : TySl Go.Proofs.Tryz.prog 165 4 1 1 := ⟨by kernel_rfl, by kernel_rfl⟩
instance : TyN Go.Proofs.Tryz.prog 165 := ⟨4, by kernel_rfl⟩
instance : TyS Go.Proofs.Tryz.prog 169 := ⟨fun _ => by kernel_rfl, fun _ => by kernel_rfl⟩
instance : TyZ Go.Proofs.Tryz.prog 169 (.slice none 0 0) := ⟨by kernel_rfl⟩
instance : TySl Go.Proofs.Tryz.prog 169 108 1 8 := ⟨by kernel_rfl, by kernel_rfl⟩
instance : TyN Go.Proofs.Tryz.prog 169 := ⟨108, by kernel_rfl⟩
instance : TyS Go.Proofs.Tryz.prog 186 := ⟨fun _ => by kernel_rfl, fun _ => by kernel_rfl⟩
instance : TyZ Go.Proofs.Tryz.prog 186 (.nilFunc) := ⟨by kernel_rfl⟩
instance : TyA Go.Proofs.Tryz.prog 194 8 := ⟨fun _ => by kernel_rfl, fun _ => by kernel_rfl⟩
instance : TyZ Go.Proofs.Tryz.prog 194 (.agg ⟨[.int .i64 0, .int .i64 0, .pointer none, .int .i64 0, .int .i64 0, .pointer none, .bool false, .bool false]⟩) := ⟨by kernel_rfl⟩
instance : TyF Go.Proofs.Tryz.prog 194 0 0 := ⟨fun _ _ _ => by kernel_rfl⟩
instance : TyFd Go.Proofs.Tryz.prog 194 0 0 103 := ⟨_, _, fun _ => tyst_u Go.Proofs.Tryz.underlying194 _, rfl, rfl, rfl⟩
instance : TyF Go.Proofs.Tryz.prog 194 1 3 := ⟨fun _ _ _ => by kernel_rfl⟩
instance : TyFd Go.Proofs.Tryz.prog 194 1 3 103 := ⟨_, _, fun _ => tyst_u Go.Proofs.Tryz.underlying194 _, rfl, rfl, rfl⟩
instance : TyF Go.Proofs.Tryz.prog 194 2 6 := ⟨fun _ _ _ => by kernel_rfl⟩
instance : TyFd Go.Proofs.Tryz.prog 194 2 6 4 := ⟨_, _, fun _ => tyst_u Go.Proofs.Tryz.underlying194 _, rfl, rfl, rfl⟩
instance : TyF Go.Proofs.Tryz.prog 194 3 7 := ⟨fun _ _ _ => by kernel_rfl⟩
instance : TyFd Go.Proofs.Tryz.prog 194 3 7 4 := ⟨_, _, fun _ => tyst_u Go.Proofs.Tryz.underlying194 _, rfl, rfl, rfl⟩
instance : TySt Go.Proofs.Tryz.prog 194 [(0, 3), (3, 3), (6, 1), (7, 1)] := ⟨_, fun _ => tyst_u Go.Proofs.Tryz.underlying194 _, fun _ => by kernel_rfl⟩
instance : TyA Go.Proofs.Tryz.prog 196 17 := ⟨fun _ => by kernel_rfl, fun _ => by kernel_rfl⟩
instance : TyZ Go.Proofs.Tryz.prog 196 (.agg ⟨[.int .i64 0, .int .i64 0, .pointer none, .int .i64 0, .int .i64 0, .pointer none, .int .i64 0, .int .i64 0, .pointer none, .int .i64 0, .int .i64 0, .pointer none, .int .i64 0, .int .i64 0, .pointer none, .bool false, .bool false]⟩) := ⟨by kernel_rfl⟩
instance : TyF Go.Proofs.Tryz.prog 196 0 0 := ⟨fun _ _ _ => by kernel_rfl⟩
instance : TyFd Go.Proofs.Tryz.prog 196 0 0 105 := ⟨_, _, fun _ => tyst_u Go.Proofs.Tryz.underlying196 _, rfl, rfl, rfl⟩
instance : TyF Go.Proofs.Tryz.prog 196 1 9 := ⟨fun _ _ _ => by kernel_rfl⟩
instance : TyFd Go.Proofs.Tryz.prog 196 1 9 194 := ⟨_, _, fun _ => tyst_u Go.Proofs.Tryz.underlying196 _, rfl, rfl, rfl⟩
instance : TySt Go.Proofs.Tryz.prog 196 [(0, 9), (9, 8)] := ⟨_, fun _ => tyst_u Go.Proofs.Tryz.underlying196 _, fun _ => by kernel_rfl⟩
instance : TyS Go.Proofs.Tryz.prog 199 := ⟨fun _ => by kernel_rfl, fun _ => by kernel_rfl⟩
instance : TyZ Go.Proofs.Tryz.prog 199 (.int .u64 0) := ⟨by kernel_rfl⟩
instance : TyI Go.Proofs.Tryz.prog 199 .u64 := ⟨fun _ => by kernel_rfl⟩
instance : TyS Go.Proofs.Tryz.prog 202 := ⟨fun _ => by kernel_rfl, fun _ => by kernel_rfl⟩
instance : TyZ Go.Proofs.Tryz.prog 202 (.pointer none) := ⟨by kernel_rfl⟩
instance : TyP Go.Proofs.Tryz.prog 202 := ⟨204, fun _ => by kernel_rfl⟩
instance : TyA Go.Proofs.Tryz.prog 204 4 := ⟨fun _ => by kernel_rfl, fun _ => by kernel_rfl⟩
instance : TyZ Go.Proofs.Tryz.prog 204 (.agg ⟨[.slice none 0 0, .slice none 0 0, .int .i64 0, .bool false]⟩) := ⟨by kernel_rfl⟩
instance : TyF Go.Proofs.Tryz.prog 204 0 0 := ⟨fun _ _ _ => by kernel_rfl⟩
instance : TyFd Go.Proofs.Tryz.prog 204 0 0 34 := ⟨_, _, fun _ => tyst_u Go.Proofs.Tryz.underlying204 _, rfl, rfl, rfl⟩
instance : TyF Go.Proofs.Tryz.prog 204 1 1 := ⟨fun _ _ _ => by kernel_rfl⟩
instance : TyFd Go.Proofs.Tryz.prog 204 1 1 165 := ⟨_, _, fun _ => tyst_u Go.Proofs.Tryz.underlying204 _, rfl, rfl, rfl⟩
instance : TyF Go.Proofs.Tryz.prog 204 2 2 := ⟨fun _ _ _ => by kernel_rfl⟩
instance : TyFd Go.Proofs.Tryz.prog 204 2 2 3 := ⟨_, _, fun _ => tyst_u Go.Proofs.Tryz.underlying204 _, rfl, rfl, rfl⟩
instance : TyF Go.Proofs.Tryz.prog 204 3 3 := ⟨fun _ _ _ => by kernel_rfl⟩
instance : TyFd Go.Proofs.Tryz.prog 204 3 3 4 := ⟨_, _, fun _ => tyst_u Go.Proofs.Tryz.underlying204 _, rfl, rfl, rfl⟩
instance : TySt Go.Proofs.Tryz.prog 204 [(0, 1), (1, 1), (2, 1), (3, 1)] := ⟨_, fun _ => tyst_u Go.Proofs.Tryz.underlying204 _, fun _ => by kernel_rfl⟩
instance : TyS Go.Proofs.Tryz.prog 215 := ⟨fun _ => by kernel_rfl, fun _ => by kernel_rfl⟩
instance : TyZ Go.Proofs.Tryz.prog 215 (.slice none 0 0) := ⟨by kernel_rfl⟩
instance : TySl Go.Proofs.Tryz.prog 215 38 1 16 := ⟨by kernel_rfl, by kernel_rfl⟩
instance : TyN Go.Proofs.Tryz.prog 215 := ⟨38, by kernel_rfl⟩
instance : TyS Go.Proofs.Tryz.prog 217 := ⟨fun _ => by kernel_rfl, fun _ => by kernel_rfl⟩
instance : TyZ Go.Proofs.Tryz.prog 217 (.slice none 0 0) := ⟨by kernel_rfl⟩
instance : TySl Go.Proofs.Tryz.prog 217 42 1 24 := ⟨by kernel_rfl, by kernel_rfl⟩
instance : TyN Go.Proofs.Tryz.prog 217 := ⟨42, by kernel_rfl⟩
instance : TyS Go.Proofs.Tryz.prog 224 := ⟨fun _ => by kernel_rfl, fun _ => by kernel_rfl⟩
instance : TyZ Go.Proofs.Tryz.prog 224 (.int .u32 0) := ⟨by kernel_rfl⟩
instance : TyI Go.Proofs.Tryz.prog 224 .u32 := ⟨fun _ => by kernel_rfl⟩
instance : TyS Go.Proofs.Tryz.prog 235 := ⟨fun _ => by kernel_rfl, fun _ => by kernel_rfl⟩
instance : TyZ Go.Proofs.Tryz.prog 235 (.int .u64 0) := ⟨by kernel_rfl⟩
instance : TyI Go.Proofs.Tryz.prog 235 .u64 := ⟨fun _ => by kernel_rfl⟩
instance : TyA Go.Proofs.Tryz.prog 253 6 := ⟨fun _ => by kernel_rfl, fun _ => by kernel_rfl⟩
instance : TyZ Go.Proofs.Tryz.prog 253 (.agg ⟨[.int .i64 0, .int .i64 0, .pointer none, .int .i64 0, .int .i64 0, .pointer none]⟩) := ⟨by kernel_rfl⟩
instance : TyF Go.Proofs.Tryz.prog 253 0 0 := ⟨fun _ _ _ => by kernel_rfl⟩
instance : TyFd Go.Proofs.Tryz.prog 253 0 0 103 := ⟨_, _, fun _ => tyst_u Go.Proofs.Tryz.underlying253 _, rfl, rfl, rfl⟩
instance : TyF Go.Proofs.Tryz.prog 253 1 3 := ⟨fun _ _ _ => by kernel_rfl⟩
instance : TyFd Go.Proofs.Tryz.prog 253 1 3 103 := ⟨_, _, fun _ => tyst_u Go.Proofs.Tryz.underlying253 _, rfl, rfl, rfl⟩
instance : TySt Go.Proofs.Tryz.prog 253 [(0, 3), (3, 3)] := ⟨_, fun _ => tyst_u Go.Proofs.Tryz.underlying253 _, fun _ => by kernel_rfl⟩
instance : TyS Go.Proofs.Tryz.prog 255 := ⟨fun _ => by kernel_rfl, fun _ => by kernel_rfl⟩
instance : TyZ Go.Proofs.Tryz.prog 255 (.nilFunc) := ⟨by kernel_rfl⟩
instance : TyA Go.Proofs.Tryz.prog 277 3 := ⟨fun _ => by kernel_rfl, fun _ => by kernel_rfl⟩
instance : TyZ Go.Proofs.Tryz.prog 277 (.agg ⟨[.bool false, .slice none 0 0, .slice none 0 0]⟩) := ⟨by kernel_rfl⟩
instance : TyF Go.Proofs.Tryz.prog 277 0 0 := ⟨fun _ _ _ => by kernel_rfl⟩
instance : TyFd Go.Proofs.Tryz.prog 277 0 0 44 := ⟨_, _, fun _ => tyst_u Go.Proofs.Tryz.underlying277 _, rfl, rfl, rfl⟩
instance : TyF Go.Proofs.Tryz.prog 277 1 2 := ⟨fun _ _ _ => by kernel_rfl⟩
instance : TyFd Go.Proofs.Tryz.prog 277 1 2 42 := ⟨_, _, fun _ => tyst_u Go.Proofs.Tryz.underlying277 _, rfl, rfl, rfl⟩
instance : TySt Go.Proofs.Tryz.prog 277 [(0, 2), (2, 1)] := ⟨_, fun _ => tyst_u Go.Proofs.Tryz.underlying277 _, fun _ => by kernel_rfl⟩
instance : TyS Go.Proofs.Tryz.prog 292 := ⟨fun _ => by kernel_rfl, fun _ => by kernel_rfl⟩
instance : TyZ Go.Proofs.Tryz.prog 292 (.nilFunc) := ⟨by kernel_rfl⟩
instance : TyS Go.Proofs.Tryz.prog 309 := ⟨fun _ => by kernel_rfl, fun _ => by kernel_rfl⟩
instance : TyZ Go.Proofs.Tryz.prog 309 (.pointer none) := ⟨by kernel_rfl⟩
instance : TyP Go.Proofs.Tryz.prog 309 := ⟨334, fun _ => by kernel_rfl⟩
instance : TyA Go.Proofs.Tryz.prog 334 1 := ⟨fun _ => by kernel_rfl, fun _ => by kernel_rfl⟩
instance : TyZ Go.Proofs.Tryz.prog 334 (.agg ⟨[.string ⟨#[]⟩]⟩) := ⟨by kernel_rfl⟩
instance : TyF Go.Proofs.Tryz.prog 334 0 0 := ⟨fun _ _ _ => by kernel_rfl⟩
instance : TyFd Go.Proofs.Tryz.prog 334 0 0 9 := ⟨_, _, fun _ => tyst_u Go.Proofs.Tryz.underlying334 _, rfl, rfl, rfl⟩
instance : TySt Go.Proofs.Tryz.prog 334 [(0, 1)] := ⟨_, fun _ => tyst_u Go.Proofs.Tryz.underlying334 _, fun _ => by kernel_rfl⟩
theorem follows : Go.Proofs.Tryz.prog.follows .mixedOrders = true := by kernel_rfl
end Go.Sx
end
