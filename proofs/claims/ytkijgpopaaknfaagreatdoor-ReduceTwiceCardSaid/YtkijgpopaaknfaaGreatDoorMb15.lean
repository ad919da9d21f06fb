/-
  Rounds and merges from inside other loops; families of results of a function that borrows a variable: how they are shown. Plane geometry of the cells: clipping a cell with an interior cuts it exactly; the place of a cell; trees restricted twice. Package geo: LinesOf, Canon; package reduce: Restrict. What the reference does with cells and trees: the same as the code, since both go by the points inside. Small numbers of the reference: contracts of before as ones over deep values.
-/
import Derived.Test.YtkijgpopaaknfaaGreatDoorMb14
section
set_option maxRecDepth 100000
namespace Go.Sx
open Go
section
variable {P : Program} {GB : Gh} {C : Ctx} {n : Nat} {fr : FrF} {own : List OwnD} {bs : List BufD}
theorem sd_doneMX {fn : Func} {ι : Type} {r : ι → DV} {cs' : ι → List DV} {ds : List DV} {b : Nat} {ty : TypeId} {lo : Bool} {c : List DV} {m : List Value} (x : ι) (hr : RVD P fr own fn.results.toList ds) (e : tupD ds = r x) (ho : OAtD own b c ty false) (ec : c = cs' x) :
    SD GB C n E0 fr own bs (bodyPost P fn (RPostM C [⟨b, m, ty, lo⟩] (fun v css G' => ∃ x, Is G' (r x) v ∧ ∃ m', css = [m'] ∧ IsLs G' (cs' x) m')) .ret) := by
  refine ⟨fun G frv ov s => ?_⟩
  obtain ⟨vs, h1, h2⟩ := hr.rvs s.fr s.ob
  obtain ⟨m', h3, h4⟩ := s.ob.mem ho.mem
  simp only [E0, List.append_nil]
  subst ec
  exact st_doneM (css := [m']) h1 rfl _ (List.Perm.refl _) (by simpa [asB, reown] using h3) ⟨x, e ▸ tupD_is h2, m', rfl, h4⟩
theorem PMX.intro {f : FuncId} {fn : Func} {c : Code} {k : Nat} {ds cs : List DV} {b ty : Nat} {ι : Type} {r : ι → DV} {cs' : ι → List DV} (hf : P.funcs[f]? = some fn) (hb : fn.body = some c) (hn : (fn.name == "runtime.NumGoroutine") = false) (hm : fn.ntmps = k) (hlen : Nat.ble ds.length k = true)
    (h : ∀ (C : Ctx) (m : List Value) (lo : Bool), SD GB C k E0 (args0F 0 ds) [⟨b, cs, ty, false⟩] [] (c.wp P (bodyPost P fn (RPostM C [⟨b, m, ty, lo⟩] (fun v css G' => ∃ x, Is G' (r x) v ∧ ∃ m', css = [m'] ∧ IsLs G' (cs' x) m'))))) : PMX GB P f ds b ty cs ι r cs' := by
  intro G vs m lo hg hv hm'
  refine FnM.intro hf hb hn hm (by rw [hv.len]; exact hlen) fun C _ _ => ?_
  show St C _ _ [⟨b, m, ty, false⟩] _ _
  have := h C m lo G _ [⟨b, m, ty, false⟩] ⟨hg, FrIs.args0 0 hv, [_], [], rfl, ⟨m, [], rfl, hm', rfl⟩, rfl⟩
  simpa only [E0, List.append_nil] using this
/-! ### a borrowed variable, and a row handed back -/
def PMR (GB : Gh) (P : Program) (f : FuncId) (ds : List DV) (b : Nat) (ty : TypeId) (cs : List DV) (s : Nat) (ty2 : TypeId) (ι : Type) (rows : ι → List DV) (cs' : ι → List DV) : Prop :=
  ∀ G vs m lo, GLe GB G → IsLs G ds vs → IsLs G cs m → FnO P f vs [⟨b, m, ty, lo⟩] G (fun v own' G' => ∃ x w m' B, v = .slice w.a w.n w.c ∧ own' = ⟨b, m', ty, false⟩ :: B ∧ IsLs G' (cs' x) m' ∧ BufIs G' ⟨w, s, ty2, rows x, true⟩ B ∧ ∀ o ∈ B, b ≠ o.b)
variable {dst : Option Nat} {t t' ty' : TypeId} {pos : String} {af : Array Edge} {gd : Option (Nat × Bool)} {x y z : Operand}
theorem tf_callMR {f : FuncId} {fo : Operand} {args : Array Operand} {tys : Array TypeId} {ds : List DV} {ι : Type} {s : Nat} {ty2 : TypeId} {rows : ι → List DV} {b : Nat} {ty : TypeId} {lo : Bool} {cs : List DV} {cs' : ι → List DV} {L R : List OwnD} (ho : opF fr fo = some (.d (.v (.func (.func f) #[] #[])))) (hv : opFs fr args.toList = some ds) (hF : PMR GB P f ds b ty cs s ty2 ι rows cs') (hu : OSp own b cs ty lo L R) (hd : dstOk n dst = true) :
    TF P GB C n fr own bs ⟨dst, .call ⟨.value fo, args, tys⟩, ty', pos, af, gd⟩ (ι × SV) (fun x => putF fr dst x.2.f) (fun x => L ++ ⟨b, cs' x.1, ty, lo⟩ :: R) (fun x => ⟨x.2, s, ty2, rows x.1, true⟩ :: bs) := by
  intro GB' E Φ hgb h G frv ov st
  obtain ⟨vs, h1, h2⟩ := st.fr.ops hv
  obtain ⟨p, q, rfl, hp, hq⟩ := st.ob
  have hlens : ∃ m a1 a2, p = a1 ++ ⟨b, m, ty, lo⟩ :: a2 ∧ IsLs G cs m ∧ ∀ x G' m', GLe G G' → IsLs G' (cs' x) m' → OwnsIs G' (L ++ ⟨b, cs' x, ty, lo⟩ :: R) (a1 ++ ⟨b, m', ty, lo⟩ :: a2) := by
    rw [hu.eq] at hp
    obtain ⟨a1, a2', rfl, h3, m, a2, rfl, h4, h5⟩ := hp.unapp
    exact ⟨m, a1, a2, rfl, h4, fun x G' m' hg hm' => (OwnsIs.up hg h3).app ⟨m', a2, rfl, hm', OwnsIs.up hg h5⟩⟩
  obtain ⟨m, a1, a2, rfl, hm, hk⟩ := hlens
  refine ch_callO (M := [⟨b, m, ty, lo⟩]) (rest := a1 ++ (a2 ++ (q ++ E.own))) (opv_app (st.fr.opv ho)) (opvs_app h1) ?_ (hF G vs m lo (hgb.trans st.gb) h2 hm) hd ?_
  · simp only [List.append_assoc, List.cons_append, List.nil_append]
    exact List.perm_middle
  · rintro v own1 G' hG ⟨x, w, m', B, rfl, rfl, hm', ⟨vs', k1, k2, k3, k4⟩, hne⟩
    rw [put_app]
    have e1 : relo (flM [⟨b, m, ty, lo⟩]) ⟨b, m', ty, false⟩ = ⟨b, m', ty, lo⟩ := by
      have hb : Nat.beq b b = true := Nat.beq_refl b
      simp [relo, flM]
    have e2 : ∀ o ∈ B.map (relo (flM [(⟨b, m, ty, lo⟩ : Own)])), o.lo = true := by
      intro o ho
      obtain ⟨o', ho', rfl⟩ := List.mem_map.1 ho
      have hb : Nat.beq b o'.b = false := by
        cases h : Nat.beq b o'.b with
        | false => rfl
        | true => exact absurd (Nat.eq_of_beq_eq_true h) (hne o' ho')
      have hb' : (b == o'.b) = false := by simpa using hne o' ho'
      simp [relo, flM, hb, hb', hne o' ho']
    rw [List.map_cons, e1]
    refine st_perm (((a1 ++ ⟨b, m', ty, lo⟩ :: a2) ++ (B.map (relo (flM [⟨b, m, ty, lo⟩])) ++ q)) ++ E.own) ?_ (h (x, w) G' _ _ ⟨st.gb.trans hG.le, (st.fr.up hG.le).put (f := w.f) (isF_v.2 rfl) _, _, _, rfl, hk x G' m' hG.le hm', _, q, rfl, ⟨vs', k1.relo _, k2, k3, fun _ => e2⟩, hq.up hG.le⟩)
    generalize B.map (relo (flM [(⟨b, m, ty, lo⟩ : Own)])) = B'
    simp only [List.append_assoc, List.cons_append, List.nil_append]
    refine .trans (.cons _ ?_) List.perm_middle.symm
    have key : (B' ++ ((a1 ++ a2) ++ (q ++ E.own))).Perm ((a1 ++ a2) ++ (B' ++ (q ++ E.own))) := by
      rw [← List.append_assoc, ← List.append_assoc (a1 ++ a2) B']
      exact (List.perm_append_comm).append_right _
    simpa only [List.append_assoc] using key
theorem PMR.intro {f : FuncId} {fn : Func} {c : Code} {k : Nat} {ds cs : List DV} {b ty : Nat} {s : Nat} {ty2 : TypeId} {ι : Type} {rows : ι → List DV} {cs' : ι → List DV} (hf : P.funcs[f]? = some fn) (hb : fn.body = some c) (hn : (fn.name == "runtime.NumGoroutine") = false) (hm : fn.ntmps = k) (hlen : Nat.ble ds.length k = true)
    (h : ∀ (C : Ctx), SD GB C k E0 (args0F 0 ds) [⟨b, cs, ty, false⟩] [] (c.wp P (bodyPost P fn (RPostO C (fun v own' G' => ∃ x w m' B, v = .slice w.a w.n w.c ∧ own' = ⟨b, m', ty, false⟩ :: B ∧ IsLs G' (cs' x) m' ∧ BufIs G' ⟨w, s, ty2, rows x, true⟩ B ∧ ∀ o ∈ B, b ≠ o.b))))) : PMR GB P f ds b ty cs s ty2 ι rows cs' := by
  intro G vs m lo hg hv hm'
  refine FnO.intro hf hb hn hm (by rw [hv.len]; exact hlen) fun C _ _ => ?_
  show St C _ _ [⟨b, m, ty, false⟩] _ _
  have := h C G _ [⟨b, m, ty, false⟩] ⟨hg, FrIs.args0 0 hv, [_], [], rfl, ⟨m, [], rfl, hm', rfl⟩, rfl⟩
  simpa only [E0, List.append_nil] using this
theorem st_doneO' {fr : Fr} {own : List Own} {G : Gh} {fn : Func} {K : Value → List Own → Gh → Prop} {vs : List Value} (hr : RVs P fr own fn.results.toList vs) (own2 own3 : List Own) (hp : own.Perm own2) (hs : own3.Sublist own2) (hk : own3.Pairwise (fun x y => x.b ≠ y.b) → K (tupled vs) own3 G) : St C n fr own G (bodyPost P fn (RPostO C K) .ret) :=
  fun a w rl => ⟨rl.df, _, run_results hr rl.fr rl.h, _, own3, G, rfl, (rl.h.perm hp).drop hs, hk ((rl.h.perm hp).drop hs).nd⟩
theorem sd_doneMR {fn : Func} {ι : Type} {s : Nat} {ty2 : TypeId} {rows : ι → List DV} {cs' : ι → List DV} {b : Nat} {ty : TypeId} {w : SV} {rw : List DV} {c : List DV} {t : Nat} {bs1 : List BufD} (x : ι) (hr : fn.results.toList = [.tmp t]) (hl : lookF fr t = some w.f) (ho : own = [⟨b, c, ty, false⟩]) (ec : c = cs' x) (hb : BRemD bs ⟨w, s, ty2, rw, true⟩ bs1) (er : rw = rows x) :
    SD GB C n E0 fr own bs (bodyPost P fn (RPostO C (fun v own' G' => ∃ x w m' B, v = .slice w.a w.n w.c ∧ own' = ⟨b, m', ty, false⟩ :: B ∧ IsLs G' (cs' x) m' ∧ BufIs G' ⟨w, s, ty2, rows x, true⟩ B ∧ ∀ o ∈ B, b ≠ o.b)) .ret) := by
  refine ⟨fun G frv ov st => ?_⟩
  obtain ⟨p, q, rfl, hp, hq⟩ := st.ob
  obtain ⟨B, a1, a2, rfl, hB, hq1⟩ := hb.lens hq
  subst ho ec er
  obtain ⟨m', p', rfl, hm', hp'⟩ := hp
  have hp'' : p' = [] := hp'
  subst hp''
  obtain ⟨y, hy, hy'⟩ := st.fr.look hl
  rw [isF_v.1 hy'] at hy
  simp only [E0, List.append_nil]
  refine st_doneO' (vs := [.slice w.a w.n w.c]) (by rw [hr]; exact .tmp hy .nil) (⟨b, m', ty, false⟩ :: (B ++ (a1 ++ a2))) (⟨b, m', ty, false⟩ :: B) ?_ (.cons_cons _ (List.sublist_append_left _ _)) (fun hn => ⟨x, w, m', B, rfl, rfl, hm', hB, (List.pairwise_cons.1 hn).1⟩)
  refine .cons _ ?_
  show (a1 ++ (B ++ a2)).Perm (B ++ (a1 ++ a2))
  rw [← List.append_assoc, ← List.append_assoc B]
  exact (List.perm_append_comm).append_right _
end
end Go.Sx
end

section
set_option maxRecDepth 100000
namespace Go.Sx
open Go

/-! ### values -/
theorem val_def (l : LnQ) (p : PtQ) : l.value p = (l.a : Rat) * p.x + (l.b : Rat) * p.y + (l.c : Rat) := rfl
theorem val_rev (l : LnQ) (p : PtQ) : l.rev.value p = -l.value p := by
  rw [val_def, val_def]
  have h1 : ((l.rev.a : Int) : Rat) = -(l.a : Rat) := (rat_neg_int l.a).symm
  have h2 : ((l.rev.b : Int) : Rat) = -(l.b : Rat) := (rat_neg_int l.b).symm
  have h3 : ((l.rev.c : Int) : Rat) = -(l.c : Rat) := (rat_neg_int l.c).symm
  rw [h1, h2, h3]; grind
def segQ (q p : PtQ) (e : Rat) : PtQ := ⟨q.x + e * (p.x - q.x), q.y + e * (p.y - q.y)⟩
theorem val_seg (l : LnQ) (q p : PtQ) (e : Rat) : l.value (segQ q p e) = l.value q + e * (l.value p - l.value q) := by
  simp only [val_def, segQ]; grind
def movQ (q u : PtQ) (e : Rat) : PtQ := ⟨q.x + e * u.x, q.y + e * u.y⟩
theorem val_mov (l : LnQ) (q u : PtQ) (e : Rat) : l.value (movQ q u e) = l.value q + e * l.nor.dot u := by
  simp only [val_def, movQ, LnQ.nor, PtQ.dot]; grind

theorem rat_mul_pos {a b : Rat} (ha : 0 < a) (hb : 0 < b) : 0 < a * b := Rat.mul_pos ha hb
theorem rat_mul_nonneg {a b : Rat} (ha : 0 ≤ a) (hb : 0 ≤ b) : 0 ≤ a * b := Rat.mul_nonneg ha hb
theorem rat_sq_nonneg (a : Rat) : 0 ≤ a * a := by
  by_cases h : 0 ≤ a
  · exact rat_mul_nonneg h h
  · have := rat_mul_nonneg (a := -a) (b := -a) (by grind) (by grind)
    grind
theorem rat_mul_pos_iff {s k : Rat} (hk : 0 < k) : 0 < s * k ↔ 0 < s := by
  constructor
  · intro h
    by_cases hs : 0 < s
    · exact hs
    · have := rat_mul_nonneg (a := -s) (b := k) (by grind) (by grind)
      grind
  · intro h; exact rat_mul_pos h hk
theorem rat_mul_nonneg_iff {s k : Rat} (hk : 0 < k) : 0 ≤ s * k ↔ 0 ≤ s := by
  constructor
  · intro h
    by_cases hs : 0 ≤ s
    · exact hs
    · have := rat_mul_pos (a := -s) (b := k) (by grind) hk
      grind
  · intro h; exact rat_mul_nonneg h (by grind)
/-- A linear function that is not negative at both ends is not negative between them. -/
theorem lin_between {A B u v : Rat} (h0 : 0 ≤ A) (h1 : 0 ≤ A + v * B) (hu : 0 ≤ u) (huv : u ≤ v) : 0 ≤ A + u * B := by
  by_cases hB : 0 ≤ B
  · have := rat_mul_nonneg hu hB; grind
  · have := rat_mul_nonneg (a := v - u) (b := -B) (by grind) (by grind)
    grind

def LnQ.Ne (l : LnQ) : Prop := ¬ (l.a = 0 ∧ l.b = 0)
theorem LnQ.ok.ne {l : LnQ} (h : l.ok) : l.Ne := h.1
theorem nn_pos {l : LnQ} (h : l.Ne) : 0 < l.nor.dot l.nor := by
  show 0 < (l.a : Rat) * l.a + (l.b : Rat) * l.b
  have h1 := rat_sq_nonneg (l.a : Rat)
  have h2 := rat_sq_nonneg (l.b : Rat)
  by_cases ha : l.a = 0
  · have hb : l.b ≠ 0 := fun hb => h ⟨ha, hb⟩
    have hb' : (l.b : Rat) ≠ 0 := fun e => hb (Rat.intCast_eq_zero_iff.1 e)
    have : (l.b : Rat) * l.b ≠ 0 := by grind
    grind
  · have ha' : (l.a : Rat) ≠ 0 := fun e => ha (Rat.intCast_eq_zero_iff.1 e)
    have : (l.a : Rat) * l.a ≠ 0 := by grind
    grind
theorem base_q {l : LnQ} (h : l.Ne) : ∃ q : Rat, l.nor.dot l.nor * q = -(l.c : Rat) ∧ l.base = ⟨(l.a : Rat) * q, (l.b : Rat) * q⟩ := by
  refine ⟨-(l.c : Rat) / l.nor.dot l.nor, ?_, rfl⟩
  have := nn_pos h
  grind
theorem val_at (l m : LnQ) (t : Rat) : m.value (l.at t) = l.cutC m + t * l.cutK m := by
  simp only [LnQ.cutC, LnQ.cutK, val_def, LnQ.at, PtQ.add, PtQ.scale, LnQ.dir, LnQ.nor, PtQ.dot]; grind
theorem at_self {l : LnQ} (h : l.Ne) (t : Rat) : l.value (l.at t) = 0 := by
  obtain ⟨q, h1, h2⟩ := base_q h
  simp only [val_def, LnQ.at, h2, PtQ.add, PtQ.scale, LnQ.dir]
  simp only [LnQ.nor, PtQ.dot] at h1
  grind
theorem on_at {l : LnQ} (h : l.Ne) {p : PtQ} (hp : l.value p = 0) : ∃ t, p = l.at t := by
  obtain ⟨q, h1, h2⟩ := base_q h
  have hn := nn_pos h
  obtain ⟨x, y⟩ := p
  rw [val_def] at hp
  simp only [LnQ.nor, PtQ.dot] at h1 hn
  refine ⟨((l.b : Rat) * x - (l.a : Rat) * y) / ((l.a : Rat) * l.a + (l.b : Rat) * l.b), ?_⟩
  generalize ht : ((l.b : Rat) * x - (l.a : Rat) * y) / ((l.a : Rat) * l.a + (l.b : Rat) * l.b) = t
  have ht' : ((l.a : Rat) * l.a + (l.b : Rat) * l.b) * t = (l.b : Rat) * x - (l.a : Rat) * y := by grind
  simp only [LnQ.at, h2, PtQ.add, PtQ.scale, LnQ.dir, PtQ.mk.injEq]
  generalize (l.a : Rat) = a at *
  generalize (l.b : Rat) = b at *
  generalize (l.c : Rat) = c at *
  have e1 : (a * a + b * b) * (x - (a * q + b * t)) = 0 := by grind
  have e2 : (a * a + b * b) * (y - (b * q + -a * t)) = 0 := by grind
  constructor <;> grind

/-! ### intervals -/
def IvQ.has (v : IvQ) (t : Rat) : Prop := (v.nl = true ∨ v.lo ≤ t) ∧ (v.nh = true ∨ t ≤ v.hi)
def IvQ.ins (v : IvQ) (t : Rat) : Prop := (v.nl = true ∨ v.lo < t) ∧ (v.nh = true ∨ t < v.hi)
def IvQ.Pos (v : IvQ) : Prop := v.nl = true ∨ v.nh = true ∨ v.lo < v.hi
theorem rcmp_nonneg (a b : Rat) : 0 ≤ rcmp a b ↔ b ≤ a := by
  unfold rcmp; split
  · constructor
    · intro h; exact absurd h (by decide)
    · intro h; grind
  · split
    · constructor
      · intro _; grind
      · intro _; decide
    · constructor
      · intro _; grind
      · intro _; decide
theorem empty_iff (v : IvQ) : v.empty = false ↔ v.Pos := by
  obtain ⟨lo, hi, nl, nh⟩ := v
  unfold IvQ.empty IvQ.Pos
  cases nl <;> cases nh <;> simp [rcmp_nonneg]
  first | exact Rat.not_le | grind
theorem IvQ.ins.has {v : IvQ} {t : Rat} (h : v.ins t) : v.has t := by
  obtain ⟨h1, h2⟩ := h
  exact ⟨h1.imp id (fun h => Rat.le_of_lt h), h2.imp id (fun h => Rat.le_of_lt h)⟩
theorem half_eq : mkRat 1 2 = (1 : Rat) / 2 := by rw [Rat.mkRat_eq_div]; rfl
theorem ins_sample {v : IvQ} (h : v.Pos) : v.ins v.sample := by
  obtain ⟨lo, hi, nl, nh⟩ := v
  unfold IvQ.Pos at h
  unfold IvQ.ins IvQ.sample
  rw [half_eq]
  cases nl <;> cases nh <;> simp at * <;> grind
theorem meet_has (v w : IvQ) (t : Rat) : (v.meet w).has t ↔ v.has t ∧ w.has t := by
  obtain ⟨lo, hi, nl, nh⟩ := v
  obtain ⟨lo', hi', nl', nh'⟩ := w
  unfold IvQ.has IvQ.meet
  cases nl <;> cases nh <;> cases nl' <;> cases nh' <;> simp <;> grind
theorem meet_ins (v w : IvQ) (t : Rat) : (v.meet w).ins t ↔ v.ins t ∧ w.ins t := by
  obtain ⟨lo, hi, nl, nh⟩ := v
  obtain ⟨lo', hi', nl', nh'⟩ := w
  unfold IvQ.ins IvQ.meet
  cases nl <;> cases nh <;> cases nl' <;> cases nh' <;> simp <;> grind
theorem all_has (t : Rat) : IvQ.all.has t := ⟨.inl rfl, .inl rfl⟩
theorem all_Pos : IvQ.all.Pos := .inl rfl

theorem sgn_zero (k : Rat) : Int.sign k.num = 0 ↔ k = 0 := by rw [Int.sign_eq_zero_iff_zero, Rat.num_eq_zero]
theorem num_pos' (k : Rat) : 0 < k.num ↔ 0 < k := by
  have h1 : 0 ≤ k.num ↔ 0 ≤ k := Rat.num_nonneg
  have h2 : k.num = 0 ↔ k = 0 := Rat.num_eq_zero
  constructor
  · intro h
    have a := h1.1 (by omega)
    have b : k ≠ 0 := fun e => by have := h2.2 e; omega
    grind
  · intro h
    have a := h1.2 (by grind)
    have b : k.num ≠ 0 := fun e => by have := h2.1 e; grind
    omega
theorem sgn_one (k : Rat) : Int.sign k.num = 1 ↔ 0 < k := by rw [Int.sign_eq_one_iff_pos, num_pos']
theorem sgn_pos (k : Rat) : 0 < Int.sign k.num ↔ 0 < k := by
  rw [← sgn_one]
  rcases Int.lt_trichotomy k.num 0 with h | h | h
  · rw [Int.sign_eq_neg_one_of_neg h]; decide
  · rw [h]; decide
  · rw [Int.sign_eq_one_of_pos h]; decide
theorem sgn_neg (k : Rat) : Int.sign k.num < 0 ↔ k < 0 := by
  have h1 := sgn_zero k
  have h2 := sgn_pos k
  constructor
  · intro h
    by_cases hk : 0 < k
    · have := h2.2 hk; omega
    · by_cases h0 : k = 0
      · have := h1.2 h0; omega
      · grind
  · intro h
    have a1 : ¬ Int.sign k.num = 0 := fun e => by have := h1.1 e; grind
    have a2 : ¬ 0 < Int.sign k.num := fun e => by have := h2.1 e; grind
    omega
theorem cut_zero {l m : LnQ} (v : IvQ) (hk : l.cutK m = 0) : l.cutV v m = v ∧ (l.cutB v m = true ↔ 0 < l.cutC m) := by
  have h := (sgn_zero (l.cutK m)).2 hk
  unfold LnQ.cutV LnQ.cutB
  rw [if_pos h, if_pos h, decide_eq_true_iff, sgn_pos]
  exact ⟨rfl, Iff.rfl⟩
theorem cut_up {l m : LnQ} (v : IvQ) (hk : 0 < l.cutK m) : l.cutV v m = v.meet ⟨-(l.cutC m / l.cutK m), 0, false, true⟩ ∧ (l.cutB v m = true ↔ (l.cutV v m).Pos) := by
  have h0 : ¬ Int.sign (l.cutK m).num = 0 := fun e => by have := (sgn_zero _).1 e; grind
  have h1 := (sgn_one (l.cutK m)).2 hk
  constructor
  · unfold LnQ.cutV; rw [if_neg h0, if_pos h1]
  · unfold LnQ.cutB; rw [if_neg h0, ← empty_iff]; simp
theorem cut_dn {l m : LnQ} (v : IvQ) (hk : l.cutK m < 0) : l.cutV v m = v.meet ⟨0, -(l.cutC m / l.cutK m), true, false⟩ ∧ (l.cutB v m = true ↔ (l.cutV v m).Pos) := by
  have h0 : ¬ Int.sign (l.cutK m).num = 0 := fun e => by have := (sgn_zero _).1 e; grind
  have h1 : ¬ Int.sign (l.cutK m).num = 1 := fun e => by have := (sgn_one _).1 e; grind
  constructor
  · unfold LnQ.cutV; rw [if_neg h0, if_neg h1]
  · unfold LnQ.cutB; rw [if_neg h0, ← empty_iff]; simp
theorem up_le {C K t : Rat} (hk : 0 < K) : -(C / K) ≤ t ↔ 0 ≤ C + t * K := by
  have e : C = C / K * K := by grind
  generalize C / K = d at *
  rw [e, show d * K + t * K = (d + t) * K from by grind, rat_mul_nonneg_iff hk]
  grind
theorem up_lt {C K t : Rat} (hk : 0 < K) : -(C / K) < t ↔ 0 < C + t * K := by
  have e : C = C / K * K := by grind
  generalize C / K = d at *
  rw [e, show d * K + t * K = (d + t) * K from by grind, rat_mul_pos_iff hk]
  grind
theorem dn_le {C K t : Rat} (hk : K < 0) : t ≤ -(C / K) ↔ 0 ≤ C + t * K := by
  have e : C = C / K * K := by grind
  generalize C / K = d at *
  rw [e, show d * K + t * K = (-(d + t)) * (-K) from by grind, rat_mul_nonneg_iff (by grind)]
  grind
theorem dn_lt {C K t : Rat} (hk : K < 0) : t < -(C / K) ↔ 0 < C + t * K := by
  have e : C = C / K * K := by grind
  generalize C / K = d at *
  rw [e, show d * K + t * K = (-(d + t)) * (-K) from by grind, rat_mul_pos_iff (by grind)]
  grind
theorem rat_tri (k : Rat) : k = 0 ∨ 0 < k ∨ k < 0 := by grind
theorem cut_has {l m : LnQ} {v : IvQ} (hb : l.cutB v m = true) (t : Rat) : (l.cutV v m).has t ↔ v.has t ∧ 0 ≤ m.value (l.at t) := by
  rw [val_at]
  rcases rat_tri (l.cutK m) with hk | hk | hk
  · obtain ⟨h1, h2⟩ := cut_zero v hk
    rw [h1, hk]
    have := h2.1 hb
    constructor
    · intro h; exact ⟨h, by grind⟩
    · exact fun h => h.1
  · rw [(cut_up v hk).1, meet_has, ← up_le hk]
    simp [IvQ.has]
  · rw [(cut_dn v hk).1, meet_has, ← dn_le hk]
    simp [IvQ.has]
theorem cut_ins {l m : LnQ} {v : IvQ} (hb : l.cutB v m = true) (t : Rat) : (l.cutV v m).ins t ↔ v.ins t ∧ 0 < m.value (l.at t) := by
  rw [val_at]
  rcases rat_tri (l.cutK m) with hk | hk | hk
  · obtain ⟨h1, h2⟩ := cut_zero v hk
    rw [h1, hk]
    have := h2.1 hb
    constructor
    · intro h; exact ⟨h, by grind⟩
    · exact fun h => h.1
  · rw [(cut_up v hk).1, meet_ins, ← up_lt hk]
    simp [IvQ.ins]
  · rw [(cut_dn v hk).1, meet_ins, ← dn_lt hk]
    simp [IvQ.ins]
theorem cut_Pos {l m : LnQ} {v : IvQ} (hv : v.Pos) (hb : l.cutB v m = true) : (l.cutV v m).Pos := by
  rcases rat_tri (l.cutK m) with hk | hk | hk
  · rw [(cut_zero v hk).1]; exact hv
  · exact (cut_up v hk).2.1 hb
  · exact (cut_dn v hk).2.1 hb
theorem cut_no {l m : LnQ} {v : IvQ} (hv : v.Pos) (hb : l.cutB v m = false) {t : Rat} (ht : v.has t) : m.value (l.at t) ≤ 0 := by
  rw [val_at]
  have hb' : ¬ l.cutB v m = true := by rw [hb]; decide
  rcases rat_tri (l.cutK m) with hk | hk | hk
  · have h2 := (cut_zero v hk).2
    have : ¬ 0 < l.cutC m := fun h => hb' (h2.2 h)
    rw [hk]; grind
  · obtain ⟨h1, h2⟩ := cut_up v hk
    have hn : ¬ (l.cutV v m).Pos := fun h => hb' (h2.2 h)
    rw [h1] at hn
    have h3 := up_lt (C := l.cutC m) (t := t) hk
    suffices ¬ (-(l.cutC m / l.cutK m) < t) by grind
    generalize -(l.cutC m / l.cutK m) = d at *
    obtain ⟨lo, hi, nl, nh⟩ := v
    unfold IvQ.Pos IvQ.meet at hn
    unfold IvQ.Pos at hv
    unfold IvQ.has at ht
    cases nl <;> cases nh <;> simp at * <;> grind
  · obtain ⟨h1, h2⟩ := cut_dn v hk
    have hn : ¬ (l.cutV v m).Pos := fun h => hb' (h2.2 h)
    rw [h1] at hn
    have h3 := dn_lt (C := l.cutC m) (t := t) hk
    suffices ¬ (t < -(l.cutC m / l.cutK m)) by grind
    generalize -(l.cutC m / l.cutK m) = d at *
    obtain ⟨lo, hi, nl, nh⟩ := v
    unfold IvQ.Pos IvQ.meet at hn
    unfold IvQ.Pos at hv
    unfold IvQ.has at ht
    cases nl <;> cases nh <;> simp at * <;> grind

/-! ### cells -/
/-- inside all sides -/
def InD (c : CellQ) (p : PtQ) : Prop := ∀ s ∈ c, 0 < s.l.value p
def InC (c : CellQ) (p : PtQ) : Prop := ∀ s ∈ c, 0 ≤ s.l.value p
theorem InD.c {c : CellQ} {p : PtQ} (h : InD c p) : InC c p := fun s hs => Rat.le_of_lt (h s hs)

theorem partV_some (l : LnQ) : ∀ (c : CellQ) (v w : IvQ), v.Pos → partV l c v = some w →
    w.Pos ∧ (∀ t, w.has t ↔ v.has t ∧ InC c (l.at t)) ∧ (∀ t, w.ins t ↔ v.ins t ∧ InD c (l.at t))
  | [], v, w, hv, h => by
    obtain rfl : v = w := by simpa [partV] using h
    exact ⟨hv, fun t => ⟨fun h => ⟨h, fun s hs => absurd hs (by simp)⟩, fun h => h.1⟩, fun t => ⟨fun h => ⟨h, fun s hs => absurd hs (by simp)⟩, fun h => h.1⟩⟩
  | s :: c, v, w, hv, h => by
    rw [partV] at h
    split at h
    · rename_i hb
      obtain ⟨h1, h2, h3⟩ := partV_some l c _ w (cut_Pos hv hb) h
      refine ⟨h1, fun t => ?_, fun t => ?_⟩
      · rw [h2, cut_has hb]
        simp only [InC, List.forall_mem_cons]
        exact and_assoc
      · rw [h3, cut_ins hb]
        simp only [InD, List.forall_mem_cons]
        exact and_assoc
    · exact absurd h (by simp)
theorem partV_none (l : LnQ) : ∀ (c : CellQ) (v : IvQ), v.Pos → partV l c v = none → ∀ t, v.has t → ¬ InD c (l.at t)
  | [], v, hv, h => by simp [partV] at h
  | s :: c, v, hv, h => by
    intro t ht hd
    have hd' := List.forall_mem_cons.1 hd
    rw [partV] at h
    split at h
    · rename_i hb
      exact partV_none l c _ (cut_Pos hv hb) h t ((cut_has hb t).2 ⟨ht, Rat.le_of_lt hd'.1⟩) hd'.2
    · rename_i hb
      have := cut_no hv (by simpa using hb) ht
      have := hd'.1
      grind
theorem InD.open : ∀ {c : CellQ} {q : PtQ} (u : PtQ), InD c q → ∃ e : Rat, 0 < e ∧ ∀ d, 0 ≤ d → d ≤ e → InD c (movQ q u d)
  | [], q, u, _ => ⟨1, by decide, fun d _ _ s hs => absurd hs (by simp)⟩
  | s :: c, q, u, h => by
    have h' := List.forall_mem_cons.1 h
    obtain ⟨e, he, hd⟩ := InD.open (c := c) u h'.2
    have hs := h'.1
    generalize hk : s.l.nor.dot u = k
    have hf : ∃ f : Rat, 0 < f ∧ ∀ d, 0 ≤ d → d ≤ f → 0 < s.l.value q + d * k := by
      by_cases hk0 : 0 ≤ k
      · exact ⟨1, by decide, fun d h1 _ => by have := rat_mul_nonneg h1 hk0; grind⟩
      · refine ⟨s.l.value q / (2 * -k), ?_, fun d h1 h2 => ?_⟩
        · have e1 : s.l.value q / (2 * -k) * (2 * -k) = s.l.value q := by grind
          exact (rat_mul_pos_iff (k := 2 * -k) (by grind)).1 (by rw [e1]; exact hs)
        · have e1 : s.l.value q / (2 * -k) * (2 * -k) = s.l.value q := by grind
          generalize s.l.value q / (2 * -k) = f at *
          have := rat_mul_nonneg (a := f - d) (b := -k) (by grind) (by grind)
          grind
    obtain ⟨f, hf0, hf⟩ := hf
    by_cases hef : e ≤ f
    · refine ⟨e, he, fun d h1 h2 => List.forall_mem_cons.2 ⟨?_, hd d h1 h2⟩⟩
      rw [val_mov, hk]; exact hf d h1 (by grind)
    · refine ⟨f, hf0, fun d h1 h2 => List.forall_mem_cons.2 ⟨?_, hd d h1 (by grind)⟩⟩
      rw [val_mov, hk]; exact hf d h1 h2
/-- Where the way from inside to a point outside leaves the cell. -/
theorem first_exit : ∀ {c : CellQ} {q p : PtQ}, InD c q → (∃ s ∈ c, s.l.value p ≤ 0) →
    ∃ e : Rat, 0 ≤ e ∧ e ≤ 1 ∧ (∃ s ∈ c, s.l.value p ≤ 0 ∧ s.l.value (segQ q p e) = 0) ∧ InC c (segQ q p e)
  | [], q, p, _, h => by obtain ⟨s, hs, _⟩ := h; exact absurd hs (by simp)
  | s :: c, q, p, h, hex => by
    have h' := List.forall_mem_cons.1 h
    have hs := h'.1
    by_cases hc : ∃ s ∈ c, s.l.value p ≤ 0
    · obtain ⟨e, h0, h1, ⟨s1, m1, n1, z1⟩, hC⟩ := first_exit h'.2 hc
      by_cases hp : 0 ≤ s.l.value (segQ q p e)
      · exact ⟨e, h0, h1, ⟨s1, List.mem_cons_of_mem _ m1, n1, z1⟩, List.forall_mem_cons.2 ⟨hp, hC⟩⟩
      · rw [val_seg] at hp
        generalize hB : s.l.value p - s.l.value q = B at *
        have hB0 : B < 0 := by
          by_cases hB0 : 0 ≤ B
          · have := rat_mul_nonneg h0 hB0; grind
          · grind
        have e1 : s.l.value q / (-B) * (-B) = s.l.value q := by grind
        generalize hf : s.l.value q / (-B) = f at *
        have f0 : 0 ≤ f := (rat_mul_nonneg_iff (k := -B) (by grind)).1 (by rw [e1]; grind)
        have f1 : f ≤ e := by
          have := (rat_mul_nonneg_iff (s := e - f) (k := -B) (by grind)).1 (by grind)
          grind
        have z : s.l.value (segQ q p f) = 0 := by rw [val_seg, hB]; grind
        have np : s.l.value p ≤ 0 := by
          have := rat_mul_nonneg (a := 1 - e) (b := -B) (by grind) (by grind)
          grind
        refine ⟨f, f0, by grind, ⟨s, List.mem_cons_self, np, z⟩, List.forall_mem_cons.2 ⟨by rw [z]; exact Rat.le_refl, fun s2 m2 => ?_⟩⟩
        have a1 := h'.2 s2 m2
        have a2 := hC s2 m2
        rw [val_seg] at a2 ⊢
        exact lin_between (Rat.le_of_lt a1) a2 f0 f1
    · have np : s.l.value p ≤ 0 := by
        obtain ⟨s1, m1, n1⟩ := hex
        rcases List.mem_cons.1 m1 with rfl | m1
        · exact n1
        · exact absurd ⟨s1, m1, n1⟩ hc
      generalize hB : s.l.value p - s.l.value q = B at *
      have hB0 : B < 0 := by grind
      have e1 : s.l.value q / (-B) * (-B) = s.l.value q := by grind
      generalize hf : s.l.value q / (-B) = f at *
      have f0 : 0 ≤ f := (rat_mul_nonneg_iff (k := -B) (by grind)).1 (by rw [e1]; grind)
      have f1 : f ≤ 1 := by
        have := (rat_mul_nonneg_iff (s := 1 - f) (k := -B) (by grind)).1 (by grind)
        grind
      have z : s.l.value (segQ q p f) = 0 := by rw [val_seg, hB]; grind
      refine ⟨f, f0, f1, ⟨s, List.mem_cons_self, np, z⟩, List.forall_mem_cons.2 ⟨by rw [z]; exact Rat.le_refl, fun s2 m2 => ?_⟩⟩
      have a1 := h'.2 s2 m2
      have a2 : 0 < s2.l.value p := by
        by_cases h : 0 < s2.l.value p
        · exact h
        · exact absurd ⟨s2, m2, by grind⟩ hc
      rw [val_seg]
      have := lin_between (A := s2.l.value q) (B := s2.l.value p - s2.l.value q) (u := f) (v := 1) (Rat.le_of_lt a1) (by grind) f0 f1
      exact this

/-- A cell with an interior, each side with its edge. -/
structure GoodC (c : CellQ) : Prop where
  ne : ∃ p, InD c p
  ok : ∀ s ∈ c, s.l.ok
  edge : ∀ s ∈ c, s.v.Pos ∧ ∀ t, s.v.has t ↔ InC c (s.l.at t)
theorem GoodC.nil : GoodC [] := ⟨⟨⟨0, 0⟩, fun s hs => absurd hs (by simp)⟩, fun s hs => absurd hs (by simp), fun s hs => absurd hs (by simp)⟩

/-- What is not negative inside is not negative on the closure. -/
theorem closure_nonneg {c : CellQ} {m : LnQ} (hne : ∃ q, InD c q) (h : ∀ p, InD c p → 0 < m.value p) {p : PtQ} (hp : InC c p) : 0 ≤ m.value p := by
  obtain ⟨q, hq⟩ := hne
  have mq := h q hq
  by_cases hm : 0 ≤ m.value p
  · exact hm
  · exfalso
    generalize hB : m.value q - m.value p = B
    have hB0 : 0 < B := by grind
    have e1 : -m.value p / B * B = -m.value p := by grind
    generalize -m.value p / B = e at *
    have e0 : 0 < e := (rat_mul_pos_iff hB0).1 (by rw [e1]; grind)
    have e2 : e ≤ 1 := by
      have := (rat_mul_nonneg_iff (s := 1 - e) hB0).1 (by grind)
      grind
    have hd : InD c (segQ p q e) := fun s hs => by
      rw [val_seg]
      have a := hp s hs
      have b := hq s hs
      have := rat_mul_pos e0 b
      have := rat_mul_nonneg (a := 1 - e) (b := s.l.value p) (by grind) a
      grind
    have := h _ hd
    rw [val_seg, hB, e1] at this
    grind

theorem mem_cutsV {l : LnQ} {s' : FrQ} : ∀ {c : CellQ}, s' ∈ cutsV l c ↔ ∃ s ∈ c, s.l.cutB s.v l = true ∧ s' = ⟨s.l, s.l.cutV s.v l⟩
  | [] => by simp [cutsV]
  | s :: c => by
    rw [cutsV]
    split
    · rename_i hb
      rw [List.mem_cons, mem_cutsV (c := c)]
      constructor
      · rintro (rfl | ⟨s1, h1, h2⟩)
        · exact ⟨s, List.mem_cons_self, hb, rfl⟩
        · exact ⟨s1, List.mem_cons_of_mem _ h1, h2⟩
      · rintro ⟨s1, h1, h2, h3⟩
        rcases List.mem_cons.1 h1 with rfl | h1
        · exact .inl h3
        · exact .inr ⟨s1, h1, h2, h3⟩
    · rename_i hb
      rw [mem_cutsV (c := c)]
      constructor
      · rintro ⟨s1, h1, h2⟩; exact ⟨s1, List.mem_cons_of_mem _ h1, h2⟩
      · rintro ⟨s1, h1, h2, h3⟩
        rcases List.mem_cons.1 h1 with rfl | h1
        · exact absurd h2 hb
        · exact ⟨s1, h1, h2, h3⟩
theorem mem_insQ {c : CellQ} {l : LnQ} {v : IvQ} {s : FrQ} : s ∈ insQ c l v ↔ s = ⟨l, v⟩ ∨ s ∈ c := by
  unfold insQ
  generalize bsq (angAt c l) 0 c.length = n
  rw [List.mem_append, List.mem_cons]
  have h := List.take_append_drop n c
  constructor
  · rintro (h1 | h1 | h1)
    · exact .inr (List.mem_of_mem_take h1)
    · exact .inl h1
    · exact .inr (List.mem_of_mem_drop h1)
  · rintro (h1 | h1)
    · exact .inr (.inl h1)
    · rw [← h, List.mem_append] at h1
      rcases h1 with h1 | h1
      · exact .inl h1
      · exact .inr (.inr h1)

theorem off_line {c : CellQ} {l : LnQ} (hl : l.Ne) (hp : partQ c l = none) {p : PtQ} (h : InD c p) : l.value p ≠ 0 := by
  intro h0
  obtain ⟨t, rfl⟩ := on_at hl h0
  exact partV_none l c _ all_Pos hp t (all_has t) h
theorem some_sides {c : CellQ} {l : LnQ} (hl : l.Ne) {v : IvQ} (hp : partQ c l = some v) : (∃ q, InD c q ∧ 0 < l.value q) ∧ ∃ q, InD c q ∧ l.value q < 0 := by
  obtain ⟨h1, _, h3⟩ := partV_some l c _ v all_Pos hp
  have hd := ((h3 v.sample).1 (ins_sample h1)).2
  have h0 := at_self hl v.sample
  have hn := nn_pos hl
  constructor
  · obtain ⟨e, he, hm⟩ := hd.open l.nor
    refine ⟨_, hm e (Rat.le_of_lt he) Rat.le_refl, ?_⟩
    rw [val_mov, h0]
    have := rat_mul_pos he hn
    grind
  · obtain ⟨e, he, hm⟩ := hd.open ⟨-l.nor.x, -l.nor.y⟩
    refine ⟨_, hm e (Rat.le_of_lt he) Rat.le_refl, ?_⟩
    rw [val_mov, h0]
    have := rat_mul_pos he hn
    simp only [PtQ.dot] at this ⊢
    grind

theorem clip_some {c : CellQ} {l : LnQ} {v : IvQ} (hc : GoodC c) (hl : l.ok) (hp : partQ c l = some v) :
    GoodC (insQ (cutsV l c) l v) ∧ ∀ p, InD (insQ (cutsV l c) l v) p ↔ InD c p ∧ 0 < l.value p := by
  obtain ⟨⟨q, hq, lq⟩, _⟩ := some_sides hl.ne hp
  obtain ⟨v1, v2, v3⟩ := partV_some l c _ v all_Pos hp
  have hD : ∀ p, InD (insQ (cutsV l c) l v) p ↔ InD c p ∧ 0 < l.value p := by
    intro p
    constructor
    · intro h
      have lp : 0 < l.value p := h ⟨l, v⟩ (mem_insQ.2 (.inl rfl))
      refine ⟨fun s0 hs0 => ?_, lp⟩
      by_cases h0 : 0 < s0.l.value p
      · exact h0
      · exfalso
        obtain ⟨e, e0, e1, ⟨s, ms, ns, zs⟩, hC⟩ := first_exit (p := p) hq ⟨s0, hs0, by grind⟩
        obtain ⟨t, ht⟩ := on_at (hc.ok s ms).ne zs
        rw [ht] at hC
        obtain ⟨p1, p2⟩ := hc.edge s ms
        have hh := (p2 t).2 hC
        have lr : 0 < l.value (s.l.at t) := by
          rw [← ht, val_seg]
          by_cases hB : 0 ≤ l.value p - l.value q
          · have := rat_mul_nonneg e0 hB; grind
          · have := rat_mul_nonneg (a := 1 - e) (b := -(l.value p - l.value q)) (by grind) (by grind)
            grind
        have hb : s.l.cutB s.v l = true := by
          cases hb : s.l.cutB s.v l with
          | true => rfl
          | false => have := cut_no p1 hb hh; grind
        have := h ⟨s.l, s.l.cutV s.v l⟩ (mem_insQ.2 (.inr (mem_cutsV.2 ⟨s, ms, hb, rfl⟩)))
        simp only at this
        grind
    · rintro ⟨h1, h2⟩ s hs
      rcases mem_insQ.1 hs with rfl | hs
      · exact h2
      · obtain ⟨s1, m1, _, rfl⟩ := mem_cutsV.1 hs
        exact h1 s1 m1
  have hne : ∃ p, InD (insQ (cutsV l c) l v) p := ⟨q, (hD q).2 ⟨hq, lq⟩⟩
  have hC : ∀ p, InC (insQ (cutsV l c) l v) p ↔ InC c p ∧ 0 ≤ l.value p := by
    intro p
    constructor
    · intro h
      refine ⟨fun s hs => ?_, h ⟨l, v⟩ (mem_insQ.2 (.inl rfl))⟩
      exact closure_nonneg hne (fun p hp => ((hD p).1 hp).1 s hs) h
    · rintro ⟨h1, h2⟩ s hs
      rcases mem_insQ.1 hs with rfl | hs
      · exact h2
      · obtain ⟨s1, m1, _, rfl⟩ := mem_cutsV.1 hs
        exact h1 s1 m1
  refine ⟨⟨hne, fun s hs => ?_, fun s hs => ?_⟩, hD⟩
  · rcases mem_insQ.1 hs with rfl | hs
    · exact hl
    · obtain ⟨s1, m1, _, rfl⟩ := mem_cutsV.1 hs
      exact hc.ok s1 m1
  · rcases mem_insQ.1 hs with rfl | hs
    · refine ⟨v1, fun t => ?_⟩
      rw [hC]
      simp only
      rw [v2]
      have h0 := at_self hl.ne t
      constructor
      · intro h; exact ⟨h.2, by rw [h0]; exact Rat.le_refl⟩
      · intro h; exact ⟨all_has t, h.1⟩
    · obtain ⟨s1, m1, hb, rfl⟩ := mem_cutsV.1 hs
      obtain ⟨p1, p2⟩ := hc.edge s1 m1
      refine ⟨cut_Pos p1 hb, fun t => ?_⟩
      rw [hC]
      simp only
      rw [cut_has hb, p2]
theorem InD.seg {c : CellQ} {q p : PtQ} {e : Rat} (hq : InD c q) (hp : InD c p) (h0 : 0 ≤ e) (h1 : e ≤ 1) : InD c (segQ q p e) := fun s hs => by
  rw [val_seg]
  have a := hq s hs
  have b := hp s hs
  by_cases he : e = 0
  · subst he; grind
  · have := rat_mul_pos (a := e) (by grind) b
    have := rat_mul_nonneg (a := 1 - e) (b := s.l.value q) (by grind) (by grind)
    grind
theorem ins_near {v : IvQ} {t : Rat} (h : v.ins t) : (∃ u, u < t ∧ v.has u) ∧ ∃ u, t < u ∧ v.has u := by
  obtain ⟨lo, hi, nl, nh⟩ := v
  unfold IvQ.ins at h
  unfold IvQ.has
  refine ⟨⟨if nl = true then t - 1 else lo, ?_⟩, ⟨if nh = true then t + 1 else hi, ?_⟩⟩ <;> cases nl <;> cases nh <;> simp at * <;> grind
theorem dvd_of_prop {a b c x y z : Nat} (h1 : x * b = a * y) (h2 : x * c = a * z) (g : Nat.gcd (Nat.gcd a b) c = 1) : a ∣ x := by
  have e : x = Nat.gcd (Nat.gcd (x * a) (x * b)) (x * c) := by
    rw [Nat.gcd_mul_left, Nat.gcd_mul_left, g, Nat.mul_one]
  rw [e]
  exact Nat.dvd_gcd (Nat.dvd_gcd (Nat.dvd_mul_left ..) (h1 ▸ Nat.dvd_mul_right ..)) (h2 ▸ Nat.dvd_mul_right ..)
theorem prim_same {a b c x y z : Int} (h1 : a * y = b * x) (h2 : a * z = c * x) (h3 : b * z = c * y)
    (g1 : Nat.gcd (Nat.gcd a.natAbs b.natAbs) c.natAbs = 1) (g2 : Nat.gcd (Nat.gcd x.natAbs y.natAbs) z.natAbs = 1) :
    (a = x ∧ b = y ∧ c = z) ∨ (a = -x ∧ b = -y ∧ c = -z) := by
  have n1 : a.natAbs * y.natAbs = b.natAbs * x.natAbs := by rw [← Int.natAbs_mul, ← Int.natAbs_mul, h1]
  have n2 : a.natAbs * z.natAbs = c.natAbs * x.natAbs := by rw [← Int.natAbs_mul, ← Int.natAbs_mul, h2]
  have n3 : b.natAbs * z.natAbs = c.natAbs * y.natAbs := by rw [← Int.natAbs_mul, ← Int.natAbs_mul, h3]
  generalize ha : a.natAbs = A at *
  generalize hb : b.natAbs = B at *
  generalize hc : c.natAbs = C at *
  generalize hx : x.natAbs = X at *
  generalize hy : y.natAbs = Y at *
  generalize hz : z.natAbs = Z at *
  have gB : Nat.gcd (Nat.gcd B A) C = 1 := by rw [Nat.gcd_comm B A]; exact g1
  have gC : Nat.gcd (Nat.gcd C A) B = 1 := by rw [Nat.gcd_assoc, Nat.gcd_comm]; exact g1
  have gY : Nat.gcd (Nat.gcd Y X) Z = 1 := by rw [Nat.gcd_comm Y X]; exact g2
  have gZ : Nat.gcd (Nat.gcd Z X) Y = 1 := by rw [Nat.gcd_assoc, Nat.gcd_comm]; exact g2
  have e1 : A = X := Nat.dvd_antisymm (dvd_of_prop (x := X) (y := Y) (z := Z) (by grind) (by grind) g1) (dvd_of_prop (x := A) (y := B) (z := C) (by grind) (by grind) g2)
  have e2 : B = Y := Nat.dvd_antisymm (dvd_of_prop (x := Y) (y := X) (z := Z) (by grind) (by grind) gB) (dvd_of_prop (x := B) (y := A) (z := C) (by grind) (by grind) gY)
  have e3 : C = Z := Nat.dvd_antisymm (dvd_of_prop (x := Z) (y := X) (z := Y) (by grind) (by grind) gC) (dvd_of_prop (x := C) (y := A) (z := B) (by grind) (by grind) gZ)
  have s1 : a = x ∨ a = -x := by omega
  have s2 : b = y ∨ b = -y := by omega
  have s3 : c = z ∨ c = -z := by omega
  clear ha hb hc hx hy hz n1 n2 n3 g1 g2 gB gC gY gZ e1 e2 e3
  have z1 := @Int.mul_eq_zero x y
  have z2 := @Int.mul_eq_zero x z
  have z3 := @Int.mul_eq_zero y z
  rcases s1 with rfl | rfl <;> rcases s2 with rfl | rfl <;> rcases s3 with rfl | rfl <;> grind
theorem same_line {l m : LnQ} (hl : l.ok) (hm : m.ok) (h : ∀ t, l.value (m.at t) = 0) : l = m ∨ l = m.rev := by
  have h0 := h 0
  have h1 := h 1
  rw [val_at] at h0 h1
  have hC : m.cutC l = 0 := by grind
  have hK : m.cutK l = 0 := by grind
  obtain ⟨q, q1, q2⟩ := base_q hm.ne
  have hn := nn_pos hm.ne
  unfold LnQ.cutC at hC
  rw [q2, val_def] at hC
  unfold LnQ.cutK at hK
  simp only [LnQ.nor, LnQ.dir, PtQ.dot] at hK q1 hn hC
  obtain ⟨a, b, c⟩ := l
  obtain ⟨x, y, z⟩ := m
  simp only at *
  have e1 : a * y = b * x := by
    have : ((a * y : Int) : Rat) = ((b * x : Int) : Rat) := by rw [Rat.intCast_mul, Rat.intCast_mul]; grind
    exact Rat.intCast_inj.1 this
  have e2 : a * z = c * x := by
    have : ((a * z : Int) : Rat) = ((c * x : Int) : Rat) := by rw [Rat.intCast_mul, Rat.intCast_mul]; grind
    exact Rat.intCast_inj.1 this
  have e3 : b * z = c * y := by
    have : ((b * z : Int) : Rat) = ((c * y : Int) : Rat) := by rw [Rat.intCast_mul, Rat.intCast_mul]; grind
    exact Rat.intCast_inj.1 this
  rcases prim_same e1 e2 e3 hl.2 hm.2 with ⟨rfl, rfl, rfl⟩ | ⟨rfl, rfl, rfl⟩
  · exact .inl rfl
  · exact .inr rfl
theorem LnQ.ok.rev {l : LnQ} (h : l.ok) : l.rev.ok := by
  obtain ⟨h1, h2⟩ := h
  refine ⟨?_, ?_⟩
  · simp only [LnQ.rev]; omega
  · simp only [LnQ.rev, Int.natAbs_neg]; exact h2

theorem place_neg (l : LnQ) : ∀ c : CellQ, (∀ s ∈ c, sideAt l s ≤ 0 ∧ s.l ≠ l) → ¬ 0 < placeV l c
  | [], _ => by simp [placeV]
  | s :: c, h => by
    have h' := List.forall_mem_cons.1 h
    unfold placeV
    rw [if_neg h'.1.2]
    split
    · have := h'.1.1; omega
    · exact place_neg l c h'.2
theorem place_spec {c : CellQ} {l : LnQ} (hc : GoodC c) (hl : l.ok) (hp : partQ c l = none) :
    (0 < placeV l c ∧ ∀ p, InD c p → 0 < l.value p) ∨ (¬ 0 < placeV l c ∧ ∀ p, InD c p → l.value p < 0) := by
  have hoff := fun p (h : InD c p) => off_line hl.ne hp h
  by_cases hq : ∃ q, InD c q ∧ 0 < l.value q
  · left
    obtain ⟨q, hq, lq⟩ := hq
    have hall : ∀ p, InD c p → 0 < l.value p := by
      intro p h
      have := hoff p h
      by_cases h0 : 0 < l.value p
      · exact h0
      · exfalso
        have hn : l.value p < 0 := by grind
        have e1 : l.value q / (l.value q - l.value p) * (l.value q - l.value p) = l.value q := by grind
        generalize l.value q / (l.value q - l.value p) = e at *
        have f0 : 0 ≤ e := (rat_mul_nonneg_iff (k := l.value q - l.value p) (by grind)).1 (by grind)
        have f1 : e ≤ 1 := by
          have := (rat_mul_nonneg_iff (s := 1 - e) (k := l.value q - l.value p) (by grind)).1 (by grind)
          grind
        exact hoff _ (hq.seg h f0 f1) (by rw [val_seg]; grind)
    refine ⟨?_, hall⟩
    cases c with
    | nil => simp [partQ, partV] at hp
    | cons s c =>
      obtain ⟨p1, p2⟩ := hc.edge s List.mem_cons_self
      have hi := ins_sample p1
      have hr := closure_nonneg hc.ne hall ((p2 _).1 hi.has)
      unfold placeV
      by_cases h0 : sideAt l s = 0
      · rw [if_neg (by simpa using h0)]
        have hz : l.value (s.l.at s.v.sample) = 0 := (sgn_zero _).1 h0
        have hge : ∀ t, s.v.has t → 0 ≤ l.value (s.l.at t) := fun t ht => closure_nonneg hc.ne hall ((p2 t).1 ht)
        obtain ⟨⟨u1, m1, n1⟩, ⟨u2, m2, n2⟩⟩ := ins_near hi
        have g1 := hge _ n1
        have g2 := hge _ n2
        rw [val_at] at hz g1 g2
        have hK : s.l.cutK l = 0 := by
          rcases rat_tri (s.l.cutK l) with h | h | h
          · exact h
          · exfalso
            have := rat_mul_pos (a := s.v.sample - u1) (b := s.l.cutK l) (by grind) h
            grind
          · exfalso
            have := rat_mul_pos (a := u2 - s.v.sample) (b := -s.l.cutK l) (by grind) (by grind)
            grind
        have hz2 : ∀ t, l.value (s.l.at t) = 0 := fun t => by rw [val_at, hK]; rw [hK] at hz; grind
        rcases same_line hl (hc.ok s List.mem_cons_self) hz2 with h | h
        · rw [if_pos h.symm]; decide
        · exfalso
          have := hall q hq
          rw [h, val_rev] at this
          have := hq s List.mem_cons_self
          grind
      · rw [if_pos h0]
        have hz : l.value (s.l.at s.v.sample) ≠ 0 := fun e => h0 ((sgn_zero _).2 e)
        exact (sgn_pos _).2 (by grind)
  · right
    have hall : ∀ p, InD c p → l.value p < 0 := fun p h => by
      have := hoff p h
      have : ¬ 0 < l.value p := fun h' => hq ⟨p, h, h'⟩
      grind
    refine ⟨place_neg l c fun s hs => ?_, hall⟩
    obtain ⟨p1, p2⟩ := hc.edge s hs
    have hr := closure_nonneg (m := l.rev) hc.ne (fun p h => by rw [val_rev]; have := hall p h; grind) ((p2 _).1 (ins_sample p1).has)
    rw [val_rev] at hr
    constructor
    · have : ¬ 0 < sideAt l s := fun h => by have := (sgn_pos _).1 h; grind
      omega
    · rintro rfl
      obtain ⟨p, hp⟩ := hc.ne
      have := hall p hp
      have := hp s hs
      grind

/-! ### clipping -/
theorem clip_iff {c : CellQ} {l : LnQ} (hc : GoodC c) (hl : l.ok) : clipB c l = true ↔ ∃ p, InD c p ∧ 0 < l.value p := by
  unfold clipB
  cases hp : partQ c l with
  | some v => exact ⟨fun _ => (some_sides hl.ne hp).1, fun _ => rfl⟩
  | none =>
    simp only [placeQ, hp, Option.isSome_none, Bool.false_eq_true, if_false, decide_eq_true_iff]
    rcases place_spec hc hl hp with ⟨h1, h2⟩ | ⟨h1, h2⟩
    · refine ⟨fun _ => ?_, fun _ => h1⟩
      obtain ⟨p, hp⟩ := hc.ne
      exact ⟨p, hp, h2 p hp⟩
    · refine ⟨fun h => absurd h h1, ?_⟩
      rintro ⟨p, hp, h⟩
      have := h2 p hp
      grind
theorem clip_good {c : CellQ} {l : LnQ} (hc : GoodC c) (hl : l.ok) (hb : clipB c l = true) : GoodC (clipC c l) ∧ ∀ p, InD (clipC c l) p ↔ InD c p ∧ 0 < l.value p := by
  unfold clipC
  cases hp : partQ c l with
  | some v => exact clip_some hc hl hp
  | none =>
    refine ⟨hc, fun p => ?_⟩
    unfold clipB at hb
    simp only [hp, placeQ, Option.isSome_none, Bool.false_eq_true, if_false, decide_eq_true_iff] at hb
    rcases place_spec hc hl hp with ⟨h1, h2⟩ | ⟨h1, h2⟩
    · exact ⟨fun h => ⟨h, h2 p h⟩, fun h => h.1⟩
    · exact absurd hb h1
theorem not_zero {c : CellQ} {l : LnQ} (hl : l.ok) {p : PtQ} (hp : InD c p) (h0 : l.value p = 0) : (∃ q, InD c q ∧ 0 < l.value q) ∧ ∃ q, InD c q ∧ l.value q < 0 := by
  have hn := nn_pos hl.ne
  constructor
  · obtain ⟨e, he, hm⟩ := hp.open l.nor
    refine ⟨_, hm e (Rat.le_of_lt he) Rat.le_refl, ?_⟩
    rw [val_mov, h0]
    have := rat_mul_pos he hn
    grind
  · obtain ⟨e, he, hm⟩ := hp.open ⟨-l.nor.x, -l.nor.y⟩
    refine ⟨_, hm e (Rat.le_of_lt he) Rat.le_refl, ?_⟩
    rw [val_mov, h0]
    have := rat_mul_pos he hn
    simp only [PtQ.dot] at this ⊢
    grind
/-- How a line lies to a cell, and what the code finds. -/
inductive Lies (c : CellQ) (l : LnQ) : Prop
  | left (h1 : clipB c l.rev = false) (h : ∀ p, InD c p → 0 < l.value p)
  | right (h1 : clipB c l.rev = true) (h2 : clipB c l = false) (h : ∀ p, InD c p → l.value p < 0)
  | both (h1 : clipB c l.rev = true) (h2 : clipB c l = true) (g1 : GoodC (clipC c l)) (g2 : GoodC (clipC c l.rev))
      (e1 : ∀ p, InD (clipC c l) p ↔ InD c p ∧ 0 < l.value p) (e2 : ∀ p, InD (clipC c l.rev) p ↔ InD c p ∧ l.value p < 0)
theorem lies {c : CellQ} {l : LnQ} (hc : GoodC c) (hl : l.ok) : Lies c l := by
  have hr := clip_iff hc hl.rev
  have hi := clip_iff hc hl
  cases h1 : clipB c l.rev with
  | false =>
    refine .left h1 fun p hp => ?_
    have hn : ¬ ∃ q, InD c q ∧ l.value q < 0 := by
      rintro ⟨q, a, b⟩
      have := hr.2 ⟨q, a, by rw [val_rev]; grind⟩
      rw [h1] at this; exact absurd this (by decide)
    have n1 : ¬ l.value p < 0 := fun h => hn ⟨p, hp, h⟩
    have n2 : l.value p ≠ 0 := fun h => hn (not_zero hl hp h).2
    grind
  | true =>
    cases h2 : clipB c l with
    | false =>
      refine .right h1 h2 fun p hp => ?_
      have hn : ¬ ∃ q, InD c q ∧ 0 < l.value q := by
        intro h
        have := hi.2 h
        rw [h2] at this; exact absurd this (by decide)
      have n1 : ¬ 0 < l.value p := fun h => hn ⟨p, hp, h⟩
      have n2 : l.value p ≠ 0 := fun h => hn (not_zero hl hp h).1
      grind
    | true =>
      obtain ⟨g1, e1⟩ := clip_good hc hl h2
      obtain ⟨g2, e2⟩ := clip_good hc hl.rev h1
      refine .both h1 h2 g1 g2 e1 fun p => ?_
      rw [e2, val_rev]
      constructor <;> rintro ⟨a, b⟩ <;> exact ⟨a, by grind⟩

/-! ### trees -/
theorem Tr.restrict_A {l : LnQ} {e : CellQ} (X Y : Tr) (h : clipB e l.rev = false) : (Tr.node l X Y).restrict e = X.restrict e := by
  rw [Tr.restrict, h]; rfl
theorem Tr.restrict_B {l : LnQ} {e : CellQ} (X Y : Tr) (h : clipB e l.rev = true) (h2 : clipB e l = false) : (Tr.node l X Y).restrict e = Y.restrict e := by
  rw [Tr.restrict, h, h2]; rfl
theorem Tr.restrict_C {l : LnQ} {e : CellQ} (X Y : Tr) (h : clipB e l.rev = true) (h2 : clipB e l = true) : (Tr.node l X Y).restrict e = Tr.joinQ l (X.restrict (clipC e l)) (Y.restrict (clipC e l.rev)) := by
  rw [Tr.restrict, h, h2]; rfl
theorem Tr.join_restrict (l : LnQ) (X Y : Tr) (e : CellQ) : (Tr.joinQ l X Y).restrict e = (Tr.node l X Y).restrict e := by
  unfold Tr.joinQ
  split
  · rename_i h
    cases X with
    | node => simp [Tr.isLeaf] at h
    | leaf b =>
      cases Y with
      | node => simp [Tr.isLeaf] at h
      | leaf b' =>
        obtain rfl : b = b' := by simpa [Tr.isLeaf, Tr.code] using h
        cases h1 : clipB e l.rev with
        | false => rw [Tr.restrict_A _ _ h1]
        | true =>
          cases h2 : clipB e l with
          | false => rw [Tr.restrict_B _ _ h1 h2]
          | true => rw [Tr.restrict_C _ _ h1 h2]; simp [Tr.restrict, Tr.joinQ, Tr.isLeaf, Tr.code]
  · rfl
/-- Restricting to a cell and then to a part of it is restricting to the part. -/
theorem Tr.restrict_twice : ∀ (t : Tr) (c d : CellQ), t.all LnQ.ok → GoodC c → GoodC d → (∀ p, InD d p → InD c p) → (t.restrict c).restrict d = t.restrict d
  | .leaf b, c, d, _, _, _, _ => rfl
  | .node l x y, c, d, h, hc, hd, hs => by
    obtain ⟨hl, hx, hy⟩ := h
    obtain ⟨p0, hp0⟩ := hd.ne
    rcases lies hc hl with ⟨a1, a⟩ | ⟨a1, a2, a⟩ | ⟨a1, a2, ag1, ag2, ae1, ae2⟩
    · rw [Tr.restrict_A _ _ a1]
      rcases lies hd hl with ⟨b1, b⟩ | ⟨b1, b2, b⟩ | ⟨b1, b2, bg1, bg2, be1, be2⟩
      · rw [Tr.restrict_A _ _ b1]; exact x.restrict_twice c d hx hc hd hs
      · have h1 := b _ hp0
        have h2 := a _ (hs _ hp0)
        exfalso; grind
      · obtain ⟨p, hp⟩ := bg2.ne
        have h1 := (be2 p).1 hp
        have h2 := a _ (hs _ h1.1)
        exfalso; grind
    · rw [Tr.restrict_B _ _ a1 a2]
      rcases lies hd hl with ⟨b1, b⟩ | ⟨b1, b2, b⟩ | ⟨b1, b2, bg1, bg2, be1, be2⟩
      · have h1 := b _ hp0
        have h2 := a _ (hs _ hp0)
        exfalso; grind
      · rw [Tr.restrict_B _ _ b1 b2]; exact y.restrict_twice c d hy hc hd hs
      · obtain ⟨p, hp⟩ := bg1.ne
        have h1 := (be1 p).1 hp
        have h2 := a _ (hs _ h1.1)
        exfalso; grind
    · rw [Tr.restrict_C _ _ a1 a2, Tr.join_restrict]
      rcases lies hd hl with ⟨b1, b⟩ | ⟨b1, b2, b⟩ | ⟨b1, b2, bg1, bg2, be1, be2⟩
      · rw [Tr.restrict_A _ _ b1, Tr.restrict_A _ _ b1]
        exact x.restrict_twice _ d hx ag1 hd fun p hp => (ae1 p).2 ⟨hs p hp, b p hp⟩
      · rw [Tr.restrict_B _ _ b1 b2, Tr.restrict_B _ _ b1 b2]
        exact y.restrict_twice _ d hy ag2 hd fun p hp => (ae2 p).2 ⟨hs p hp, b p hp⟩
      · rw [Tr.restrict_C _ _ b1 b2, Tr.restrict_C _ _ b1 b2]
        rw [x.restrict_twice _ (clipC d l) hx ag1 bg1 fun p hp => (ae1 p).2 ⟨hs p ((be1 p).1 hp).1, ((be1 p).1 hp).2⟩]
        rw [y.restrict_twice _ (clipC d l.rev) hy ag2 bg2 fun p hp => (ae2 p).2 ⟨hs p ((be2 p).1 hp).1, ((be2 p).1 hp).2⟩]
/-- The cell to the left of lines; none: empty. -/
def canonQ : List LnQ → CellQ → Option CellQ
  | [], c => some c
  | l :: t, c => if clipB c l then canonQ t (clipC c l) else none
theorem canon_good : ∀ {ls : List LnQ} {c e : CellQ}, GoodC c → (∀ l ∈ ls, l.ok) → canonQ ls c = some e → GoodC e ∧ ∀ p, InD e p ↔ InD c p ∧ ∀ l ∈ ls, 0 < l.value p
  | [], c, e, hc, _, h => by
    obtain rfl : c = e := by simpa [canonQ] using h
    exact ⟨hc, fun p => ⟨fun h => ⟨h, fun l hl => absurd hl (by simp)⟩, fun h => h.1⟩⟩
  | l :: t, c, e, hc, hl, h => by
    have hl' := List.forall_mem_cons.1 hl
    rw [canonQ] at h
    split at h
    · rename_i hb
      obtain ⟨g1, g2⟩ := clip_good hc hl'.1 hb
      obtain ⟨k1, k2⟩ := canon_good g1 hl'.2 h
      refine ⟨k1, fun p => ?_⟩
      rw [k2, g2, List.forall_mem_cons, and_assoc]
    · exact absurd h (by simp)
theorem canon_some : ∀ {ls : List LnQ} {c : CellQ}, GoodC c → (∀ l ∈ ls, l.ok) → (∃ p, InD c p ∧ ∀ l ∈ ls, 0 < l.value p) → ∃ e, canonQ ls c = some e
  | [], c, _, _, _ => ⟨c, rfl⟩
  | l :: t, c, hc, hl, ⟨p, h1, h2⟩ => by
    have hl' := List.forall_mem_cons.1 hl
    have h2' := List.forall_mem_cons.1 h2
    have hb := (clip_iff hc hl'.1).2 ⟨p, h1, h2'.1⟩
    obtain ⟨g1, g2⟩ := clip_good hc hl'.1 hb
    rw [canonQ, if_pos hb]
    exact canon_some g1 hl'.2 ⟨p, (g2 p).2 ⟨h1, h2'.1⟩, h2'.2⟩
theorem canon_len : ∀ {ls : List LnQ} {c e : CellQ}, canonQ ls c = some e → e.length ≤ c.length + ls.length
  | [], c, e, h => by
    obtain rfl : c = e := by simpa [canonQ] using h
    simp
  | l :: t, c, e, h => by
    rw [canonQ] at h
    split at h
    · have h1 := canon_len h
      have h2 := clipC_len c l
      simp only [List.length_cons]; omega
    · exact absurd h (by simp)
end Go.Sx
end

section
set_option maxRecDepth 100000
namespace Go.Sx
open Go Go.Proofs

/-- Lines of package api in a row. -/
structure LI where
  a : IV
  b : IV
  c : IV
def LI.val (z : LI) : Value := .agg ⟨[.bool z.a.neg, .slice z.a.a.a z.a.a.n z.a.a.c, .bool z.b.neg, .slice z.b.a.a z.b.a.n z.b.a.c, .bool z.c.neg, .slice z.c.a.a z.c.a.n z.c.a.c]⟩
structure IsLI (k : Nat) (G : Gh) (z : LI) (l : LnQ) : Prop where
  a : IsI k G z.a l.a
  b : IsI k G z.b l.b
  c : IsI k G z.c l.c
theorem IsLI.up {k : Nat} {A G : Gh} {z : LI} {l : LnQ} (h : IsLI k A z l) [GL A G] : IsLI k G z l := ⟨h.a.up, h.b.up, h.c.up⟩
structure IsLIs (k : Nat) (G : Gh) (x : SV) (ls : List LnQ) : Prop where
  ex : ∃ zs : List LI, IsSl G 6 x (zs.map LI.val) ∧ All2 (IsLI k G) zs ls
theorem IsLIs.len {k : Nat} {G : Gh} {x : SV} {ls : List LnQ} (h : IsLIs k G x ls) : x.n = ls.length := by
  obtain ⟨zs, h1, h2⟩ := h.ex
  rw [h1.len, List.length_map, h2.len]
/-- Lines of the code in a row. -/
structure IsLns (k : Nat) (G : Gh) (x : SV) (ls : List LnQ) : Prop where
  ex : ∃ zs : List LV, IsSl G 9 x (zs.map LV.v) ∧ All2 (IsL k G) zs ls
theorem IsLns.len {k : Nat} {G : Gh} {x : SV} {ls : List LnQ} (h : IsLns k G x ls) : x.n = ls.length := by
  obtain ⟨zs, h1, h2⟩ := h.ex
  rw [h1.len, List.length_map, h2.len]
theorem LV.len9 (zs : List LV) : ∀ v ∈ zs.map LV.v, (cellsL v).length = 9 := fun v hv => by
  obtain ⟨f, _, rfl⟩ := List.mem_map.1 hv; rfl
theorem LV.flat (zs : List LV) : ∀ v ∈ zs.map LV.v, ∀ c ∈ cellsL v, Sx.flat c = true := fun v hv c hc => by
  obtain ⟨f, _, rfl⟩ := List.mem_map.1 hv
  simp only [LV.v, cellsL, List.mem_cons, List.not_mem_nil, or_false] at hc
  rcases hc with rfl | rfl | rfl | rfl | rfl | rfl | rfl | rfl | rfl <;> rfl
theorem LV.flat1 (z : LV) : ∀ c ∈ cellsL z.v, Sx.flat c = true := LV.flat [z] _ List.mem_cons_self

set_option maxHeartbeats 1000000 in
theorem geo_LinesOf {k : Nat} (hk1 : 1 ≤ k) (hk : k ≤ 100000000) {A G : Gh} {x : SV} {ls : List LnQ} (hx : IsLIs k A x ls) [GL A G] (hok : ∀ l ∈ ls, l.ok) (hn : ls.length ≤ 1024) :
    Fn Tryz.prog 64 [.agg ⟨[.slice x.a x.n x.c]⟩] G (fun v G' => ∃ y : SV, v = .tuple #[.slice y.a y.n y.c, .bool true] ∧ IsLns k G' y ls) := by
  have hlen := hx.len
  obtain ⟨fs, hs, hfs⟩ := hx.ex
  obtain ⟨xa, xn, xc⟩ := x
  simp only [] at hlen
  subst hlen
  show Fn _ _ [.agg ⟨[.slice xa ls.length xc]⟩] _ _
  refine Fn.intro Tryz.func64 rfl rfl Tryz.ntmps64 rfl ?_
  intro C _ hC
  refine st_seq <| st_region <| ?_
  refine sc (ch_box rfl rfl ?_)
  intro b1
  refine sa rfl rfl <| sa rfl rfl <| st_end <| st_seq <| st_seq <| st_region <| sf rfl rfl <| slo1 rfl rfl rfl <| slen rfl rfl <| sy (yd_gtr rfl rfl) rfl <| st_end <| ?_
  refine st_condP rfl (fun hc => absurd hc (by omega)) (fun _ => ?_)
  refine st_skipc <| st_seq <| st_region <| sa rfl rfl <| st_end <| st_seq <| st_seq <| st_region <| sf rfl rfl <| slo1 rfl rfl rfl <| slen rfl rfl <| sm rfl rfl <| st_end <| ?_
  refine st_drop [] (List.nil_sublist _) ?_
  refine st_block <| ?_
  refine st_loop (X := Nat × SV × List LV × List Own) (fun q => [(16, .int .i64 q.1), (15, .int .i64 ls.length), (14, .slice xa ls.length xc), (4, .slice q.2.1.a q.2.1.n q.2.1.c)])
    (fun q => q.2.2.2)
    (fun q G' => q.1 ≤ ls.length ∧ q.2.2.1.length = q.1 ∧ Buf 9 105 q.2.1 (q.2.2.1.map LV.v) q.2.2.2 ∧ All2 (IsL k G') q.2.2.1 (ls.take q.1)) (fun q => ls.length - q.1) (0, ⟨none, 0, 0⟩, [], []) ⟨Nat.zero_le _, rfl, Buf.nil .., .nil⟩ (.cons rfl (.cons rfl (.cons rfl (.cons rfl .nil)))) rfl ?_
  rintro ⟨i, w, vs, B⟩ Gx _ ⟨hi, hvs, hB, hzs⟩
  simp only [] at hi hvs hB hzs
  refine st_seq <| st_region <| sy (yd_lss rfl rfl) rfl <| st_end <| st_seq <| ?_
  refine st_condE rfl (fun hc => ?_) (fun hc => ?_) -- slot 17
  · refine st_exit <| st_te <| st_te <| st_inBlock_eq <| st_seq <| ?_
    refine st_bufFreeze (L := []) hC hB (LV.len9 _) ?_
    intro G2 _ hsl
    refine st_region <| sm rfl rfl <| sa rfl rfl <| sa rfl rfl <| st_end <| st_ret <| ?_
    have hi' : i = ls.length := by omega
    rw [hi', List.take_length] at hzs
    exact st_done (.tmp rfl (.tmp rfl .nil)) ⟨w, rfl, vs, hsl, hzs.imp fun _ _ h => h.up⟩
  have hi1 : i < ls.length := by omega
  obtain ⟨f, hf, hff⟩ := hfs.get (List.getElem?_eq_getElem hi1)
  have hfi : (fs.map LI.val)[i]? = some (.agg ⟨[.bool f.a.neg, .slice f.a.a.a f.a.a.n f.a.a.c, .bool f.b.neg, .slice f.b.a.a f.b.a.n f.b.a.c, .bool f.c.neg, .slice f.c.a.a f.c.a.n f.c.a.c]⟩) := by rw [List.getElem?_map, hf]; rfl
  refine st_skipc <| st_seq <| st_block <| st_seq <| st_region <| sy (yd_ix (z := ⟨xa, ls.length, xc⟩) hs rfl rfl (by omega) (by show (i : Int) < (ls.length : Int); omega)) rfl <| ?_
  rw [Int.toNat_natCast]
  refine sy (yd_ldA (i := i) hs rfl (by rw [List.length_map, hfs.len]; exact hi1) hfi) rfl <| ?_
  refine sc (ch_alloc rfl ?_)
  intro b2
  refine sc (ch_storeN (cs' := [.bool f.a.neg, .slice f.a.a.a f.a.a.n f.a.a.c, .bool f.b.neg, .slice f.b.a.a f.b.a.n f.b.a.c, .bool f.c.neg, .slice f.c.a.a f.c.a.n f.c.a.c]) rfl rfl rfl (.hd ..) rfl (Nat.le_of_ble_eq_true rfl) rfl rfl ?_)
  refine st_end <| st_seq <| st_region <| slo rfl rfl rfl <| ?_
  refine sc (ch_call rfl rfl (geo_LnOfQ hff.a hff.b hff.c (hok _ (List.getElem_mem hi1)) hk1 hk) rfl ?_)
  rintro _ G3 _ ⟨z, rfl, hz⟩
  refine sm rfl rfl <| sx rfl rfl rfl <| sx rfl rfl rfl <| ?_
  refine sc (ch_alloc rfl ?_)
  intro b4
  refine sc (ch_storeN (cs' := [.int .i64 z.a.n, .int .i64 z.a.d, .pointer z.a.p, .int .i64 z.b.n, .int .i64 z.b.d, .pointer z.b.p, .int .i64 z.c.n, .int .i64 z.c.d, .pointer z.c.p]) rfl rfl rfl (.hd ..) rfl (Nat.le_of_ble_eq_true rfl) rfl rfl ?_)
  refine sa rfl rfl <| st_end <| st_seq <| st_seq <| st_region <| sm rfl rfl <| sy (yd_not rfl) rfl <| st_end <| st_condF rfl <| ?_
  refine st_skipc <| st_region <| sm rfl rfl <| slo rfl rfl rfl <| ?_
  refine sc (ch_slice1 rfl (by rfl) (by rfl) (by decide) (by decide) rfl ?_)
  intro b5
  refine sc (ch_append_buf (v := z.v) (vs := vs.map LV.v) (B := B) [_, _, _] rfl hB rfl rfl (src_own inferInstance rfl) rfl (LV.flat1 z) (by decide) (by rw [List.length_map]; omega) rfl rfl ?_)
  intro w1 B1 hB1
  rw [show vs.map LV.v ++ [z.v] = (vs ++ [z]).map LV.v by simp] at hB1
  show St C _ _ (⟨b5, _, _, true⟩ :: ⟨b4, _, _, true⟩ :: ⟨b2, _, _, true⟩ :: B1) _ _
  refine st_drop _ (.cons _ (.cons _ (.cons _ (List.Sublist.refl _)))) ?_
  refine sa rfl rfl <| st_end <| st_region <| sy (yd_add64 rfl rfl (by omega) (by omega)) rfl <| sm rfl rfl <| st_end <| ?_
  refine st_again (i + 1, w1, _, B1) ⟨hi1, by simp [hvs], hB1, ?_⟩ (by show ls.length - (i + 1) < ls.length - i; omega) (.cons rfl (.cons rfl (.cons rfl (.cons rfl .nil)))) rfl
  show All2 _ (vs ++ [z]) (ls.take (i + 1))
  rw [List.take_succ_eq_append_getElem hi1]
  exact (hzs.imp fun _ _ h => h.up).app (.cons hz .nil)

set_option maxHeartbeats 1000000 in
theorem geo_Canon {k : Nat} (hk : k ≤ 100000000) {A G : Gh} {x : SV} {ls : List LnQ} (hx : IsLns k A x ls) [GL A G] (hn : ls.length ≤ 1024) :
    Fn Tryz.prog 65 [.slice x.a x.n x.c] G (fun v G' => (canonQ ls [] = none ∧ v = .tuple #[.slice none 0 0, .bool false]) ∨ ∃ (c : CellQ) (y : SV), canonQ ls [] = some c ∧ v = .tuple #[.slice y.a y.n y.c, .bool true] ∧ IsC k G' y c) := by
  have hlen := hx.len
  obtain ⟨fs, hs, hfs⟩ := hx.ex
  obtain ⟨xa, xn, xc⟩ := x
  simp only [] at hlen
  subst hlen
  show Fn _ _ [.slice xa ls.length xc] _ _
  refine Fn.intro Tryz.func65 rfl rfl Tryz.ntmps65 rfl ?_
  intro C _ _
  refine st_seq <| st_region <| sa rfl rfl <| sa rfl rfl <| st_end <| st_scope <| st_seq <| st_region <| sa rfl rfl <| st_end <| st_seq <| st_region <| sa rfl rfl <| st_end <| st_seq <| st_label <| ?_
  refine st_seq <| st_seq <| st_region <| sm rfl rfl <| slen rfl rfl <| sm rfl rfl <| st_end <| st_block <| ?_
  refine st_loop (X := Nat × SV × CellQ) (fun q => [(10, .int .i64 q.1), (9, .int .i64 ls.length), (8, .slice xa ls.length xc), (4, .slice q.2.1.a q.2.1.n q.2.1.c), (5, .bool true)]) (fun q => [])
    (fun q G' => q.1 ≤ ls.length ∧ q.2.2.length ≤ q.1 ∧ canonQ (ls.drop q.1) q.2.2 = canonQ ls [] ∧ IsC k G' q.2.1 q.2.2) (fun q => ls.length - q.1) (0, ⟨none, 0, 0⟩, []) ⟨Nat.zero_le _, Nat.zero_le _, rfl, IsC.nil ..⟩ (.cons rfl (.cons rfl (.cons rfl (.cons rfl (.cons rfl .nil))))) rfl ?_
  rintro ⟨i, w, c⟩ Gx _ ⟨hi, hcl, hcq, hc⟩
  simp only [] at hi hcl hcq hc
  refine st_seq <| st_region <| sy (yd_lss rfl rfl) rfl <| st_end <| st_seq <| ?_
  refine st_condE rfl (fun hc1 => ?_) (fun hc1 => ?_) -- slot 11
  · refine st_exit <| st_te <| st_te <| st_inBlock_eq <| st_seq <| st_seq <| st_region <| sm rfl rfl <| sy (yd_not rfl) rfl <| st_end <| st_condF rfl <| ?_
    refine st_skipc <| st_seq <| st_region <| sm rfl rfl <| sa rfl rfl <| sa rfl rfl <| st_end <| st_ret <| ?_
    have hi' : i = ls.length := by omega
    rw [hi', List.drop_length] at hcq
    exact st_done (.tmp rfl (.tmp rfl .nil)) (.inr ⟨c, w, hcq.symm, rfl, hc.up⟩)
  have hi1 : i < ls.length := by omega
  rw [List.drop_eq_getElem_cons hi1, canonQ] at hcq
  obtain ⟨z, hf, hz⟩ := hfs.get (List.getElem?_eq_getElem hi1)
  have hfi : (fs.map LV.v)[i]? = some (.agg ⟨[.int .i64 z.a.n, .int .i64 z.a.d, .pointer z.a.p, .int .i64 z.b.n, .int .i64 z.b.d, .pointer z.b.p, .int .i64 z.c.n, .int .i64 z.c.d, .pointer z.c.p]⟩) := by rw [List.getElem?_map, hf]; rfl
  refine st_skipc <| st_seq <| st_block <| st_seq <| st_region <| sy (yd_ix (z := ⟨xa, ls.length, xc⟩) hs rfl rfl (by omega) (by show (i : Int) < (ls.length : Int); omega)) rfl <| ?_
  rw [Int.toNat_natCast]
  refine sy (yd_ldA (i := i) hs rfl (by rw [List.length_map, hfs.len]; exact hi1) hfi) rfl <| ?_
  refine sc (ch_alloc rfl ?_)
  intro b1
  refine sc (ch_storeN (cs' := [.int .i64 z.a.n, .int .i64 z.a.d, .pointer z.a.p, .int .i64 z.b.n, .int .i64 z.b.d, .pointer z.b.p, .int .i64 z.c.n, .int .i64 z.c.d, .pointer z.c.p]) rfl rfl rfl (.hd ..) rfl (Nat.le_of_ble_eq_true rfl) rfl rfl ?_)
  refine st_end <| st_seq <| st_region <| sm rfl rfl <| slo rfl rfl rfl <| ?_
  refine sc (ch_call rfl rfl (Cell_Clip hc hz hk (by omega)) rfl ?_)
  rintro _ G2 _ ⟨y, rfl, hy⟩
  have hyl := clipC_len c ls[i]
  refine st_drop [] (List.nil_sublist _) ?_
  refine sm rfl rfl <| sx rfl rfl rfl <| sx rfl rfl rfl <| sa rfl rfl <| sa rfl rfl <| st_end <| st_seq <| st_region <| sm rfl rfl <| sy (yd_not rfl) rfl <| st_end <| ?_
  cases hb : clipB c ls[i] with
  | false =>
    rw [hb] at hcq
    refine st_condT rfl <| ?_
    refine st_exit <| st_inBlock_ne rfl <| st_te <| st_te <| st_inBlock_eq <| st_seq <| st_seq <| st_region <| sm rfl rfl <| sy (yd_not rfl) rfl <| st_end <| st_condT rfl <| ?_
    refine st_seq <| st_region <| sa rfl rfl <| sa rfl rfl <| st_end <| st_ret <| ?_
    exact st_done (.tmp rfl (.tmp rfl .nil)) (.inl ⟨hcq.symm, rfl⟩)
  | true =>
    rw [hb] at hcq
    refine st_condF rfl <| ?_
    refine st_skipc <| st_region <| sy (yd_add64 rfl rfl (by omega) (by omega)) rfl <| sm rfl rfl <| st_end <| ?_
    exact st_again (i + 1, y, clipC c ls[i]) ⟨hi1, by simp only []; omega, hcq, hy.up⟩ (by show ls.length - (i + 1) < ls.length - i; omega) (.cons rfl (.cons rfl (.cons rfl (.cons rfl (.cons rfl .nil))))) rfl

theorem reduce_Restrict {k : Nat} (hk1 : 1 ≤ k) (hk : k ≤ 100000000) {A B G : Gh} {x y : SV} {t : Tr} {ls : List LnQ} {c : CellQ} (hx : IsNs k A x (t.wr 0)) (hy : IsLIs k B y ls) [GL A G] [GL B G] (hok : t.all LnQ.ok) (hokl : ∀ l ∈ ls, l.ok) (hn : ls.length ≤ 1000) (hq : canonQ ls [] = some c)
    (hs : t.size ≤ 65536) (hd : t.depth + ls.length ≤ 1024) (hsz : (t.restrict c).size ≤ 1000000) :
    Fn Tryz.prog 22 [.agg ⟨[.int .i64 (t.num 0), .slice x.a x.n x.c]⟩, .agg ⟨[.slice y.a y.n y.c]⟩] G (fun v G' => ∃ y : SV, v = .tuple #[.agg ⟨[.int .i64 ((t.restrict c).num 0), .slice y.a y.n y.c]⟩, .nilIface] ∧ IsNs k G' y ((t.restrict c).wr 0)) := by
  have hcl := canon_len hq
  simp only [List.length_nil, Nat.zero_add] at hcl
  refine Fn.intro Tryz.func22 rfl rfl Tryz.ntmps22 rfl ?_
  intro C _ _
  refine st_seq <| st_region <| ?_
  refine sc (ch_box rfl rfl ?_)
  intro b1
  refine sc (ch_box rfl rfl ?_)
  intro b2
  refine sc (ch_alloc rfl ?_)
  intro b3
  refine sa rfl rfl <| st_end <| st_seq <| st_region <| slo rfl rfl rfl <| ?_
  refine sc (ch_call rfl rfl (T_Of hk1 hk hx hok hs) rfl ?_)
  rintro _ G4 _ ⟨p, rfl, hp⟩
  refine sm rfl rfl <| sx rfl rfl rfl <| sx rfl rfl rfl <| sa rfl rfl <| sa rfl rfl <| st_end <| st_seq <| st_region <| slo rfl rfl rfl <| ?_
  refine sc (ch_call rfl rfl (geo_LinesOf hk1 hk hy hokl (by omega)) rfl ?_)
  rintro _ G5 _ ⟨w, rfl, hw⟩
  refine sm rfl rfl <| sx rfl rfl rfl <| sx rfl rfl rfl <| sa rfl rfl <| sa rfl rfl <| st_end <| st_seq <| st_seq <| st_region <| sm rfl rfl <| sy (yd_not rfl) rfl <| sm rfl rfl <| syg rfl rfl (yd_move rfl) rfl <| ?_
  refine syg rfl rfl (yd_not rfl) rfl <| sy (yd_pickF rfl rfl) rfl <| st_end <| st_condF rfl <| st_skipc <| st_seq <| st_region <| sm rfl rfl <| ?_
  refine sc (ch_call rfl rfl (geo_Canon hk hw (by omega)) rfl ?_)
  rintro _ G6 _ (⟨hno, _⟩ | ⟨c', u, hc', rfl, hu⟩)
  · rw [hq] at hno; cases hno
  obtain rfl : c = c' := by rw [hq] at hc'; exact Option.some.inj hc'
  have hun := hu.len
  refine sm rfl rfl <| sx rfl rfl rfl <| sx rfl rfl rfl <| sa rfl rfl <| sa rfl rfl <| st_end <| st_seq <| st_block <| st_seq <| st_region <| sm rfl rfl <| sy (yd_not rfl) rfl <| sa rfl rfl <| st_end <| ?_
  refine st_condF rfl <| st_seq <| st_region <| sm rfl rfl <| ?_
  refine sc (ch_call rfl rfl (T_Depth hp (by omega)) rfl ?_)
  rintro _ G7 _ rfl
  refine sm rfl rfl <| slen rfl rfl <| sy (yd_add64 rfl rfl (by omega) (by omega)) rfl <| sy (yd_gtr rfl rfl) rfl <| sa rfl rfl <| st_end <| ?_
  refine st_condP rfl (fun hc => absurd hc (by omega)) (fun _ => ?_)
  refine st_skipc <| st_seq <| st_region <| sm rfl rfl <| sm rfl rfl <| ?_
  refine sc (ch_call rfl rfl (T_Restrict hk hp hu (by omega)) rfl ?_)
  rintro _ G8 _ ⟨p2, rfl, hp2⟩
  refine sc (ch_call rfl rfl (T_API hk hp2 hsz) rfl ?_)
  rintro _ G9 _ ⟨y, rfl, hy⟩
  refine sc (ch_storeN rfl rfl (by first | (dsimp only [ovw, cellsL, List.set_cons_zero, List.set_cons_succ, Nat.reduceAdd, RV.v, LV.v, PV.v, IvV.v]; done) | exact rfl) (by repeat (first | exact .hd .. | apply OUpd.tl)) rfl (Nat.le_of_ble_eq_true rfl) rfl rfl ?_)
  refine sa rfl rfl <| st_end <| st_ret <| ?_
  exact st_done (.agg rfl inferInstance inferInstance rfl (.tmp rfl .nil)) ⟨y, rfl, hy⟩
end Go.Sx
end

section
set_option maxRecDepth 100000
namespace Go.Sx
open Go

/-- The part of l on the left of all other lines; none: no part of a length. -/
def partL (l : LnQ) : List LnQ → IvQ → Option IvQ
  | [], v => some v
  | m :: t, v => if m = l then partL l t v else if l.cutB v m then partL l t (l.cutV v m) else none
def InL (c : List LnQ) (p : PtQ) : Prop := ∀ m ∈ c, 0 < m.value p
def innerB (c : List LnQ) : Bool := c.isEmpty || c.any (fun l => (partL l c IvQ.all).isSome)
/-- The place of a side among those before, by angle. -/
def angIdx (out : List LnQ) (l : LnQ) : Nat := (out.takeWhile (fun x => decide (angleQ x.dir l.dir < 0))).length
def canonIns (out : List LnQ) (l : LnQ) : List LnQ := if out[angIdx out l]? = some l then out else out.take (angIdx out l) ++ l :: out.drop (angIdx out l)
def canonF (c : List LnQ) : List LnQ → List LnQ → List LnQ
  | [], out => out
  | l :: t, out => canonF c t (if (partL l c IvQ.all).isSome then canonIns out l else out)
/-- The sides with an edge, by angle. -/
def canonL (c : List LnQ) : List LnQ := canonF c c []
/-- 1: inside is on the left; -1: on the right; 0: on both sides. -/
def placeL (c : List LnQ) (l : LnQ) : Int := if innerB (c ++ [l]) && innerB (c ++ [l.rev]) then 0 else if innerB (c ++ [l]) then 1 else -1
def Tr.restrictL : Tr → List LnQ → Tr
  | .leaf b, _ => .leaf b
  | .node l x y, c => if placeL c l = 1 then x.restrictL c else if placeL c l = -1 then y.restrictL c else joinQ l (x.restrictL (canonL (c ++ [l]))) (y.restrictL (canonL (c ++ [l.rev])))
end Go.Sx
end

section
set_option maxRecDepth 100000
namespace Go.Sx
open Go Go.Proofs

theorem isEI_of {G : Gh} {k : Nat} {m : Int} {v : Value} (hm : m.natAbs < 2 ^ k) (h : Is G (eI m) v) : ∃ z : IV, v = .agg ⟨[.bool z.neg, .slice z.a.a z.a.n z.a.c]⟩ ∧ IsI k G z m := by
  obtain ⟨l, rfl, g⟩ := is_ag.1 h
  obtain ⟨v1, l, rfl, h1, g⟩ := isl_cons.1 g
  obtain ⟨v2, l, rfl, h2, g⟩ := isl_cons.1 g
  rw [isl_nil] at g; subst g
  obtain ⟨z, rfl, rfl, hz⟩ := isI_of hm h1 h2
  exact ⟨z, rfl, hz⟩
theorem isEI_to {G : Gh} {k : Nat} {m : Int} {z : IV} (h : IsI k G z m) : Is G (eI m) (.agg ⟨[.bool z.neg, .slice z.a.a z.a.n z.a.c]⟩) :=
  is_ag.2 ⟨_, rfl, .cons (isI_to h).1 (.cons (isI_to h).2 .nil)⟩
theorem isDN_to {G : Gh} {k : Nat} {n : Nat} {z : SV} (h : IsN k G z n) : Is G (dN n) (.slice z.a z.n z.c) := (is_dN h.lt).2 ⟨z, rfl, h⟩
theorem p32 : (4294967296 : Nat) = 2 ^ 32 := rfl
theorem q_sProduct {GB : Gh} {u w : Nat} (hu : u < 4294967296) (hw : w < 4294967296) (h : u * w < 4294967296) : PF GB Tryz.prog 91 [dN u, dN w] (dN (u * w)) := by
  intro G vs hg hv
  obtain ⟨v1, l, rfl, h1, hv⟩ := isl_cons.1 hv
  obtain ⟨v2, l, rfl, h2, hv⟩ := isl_cons.1 hv
  rw [isl_nil] at hv; subst hv
  obtain ⟨x, rfl, hx⟩ := (is_dN (k := 32) (p32 ▸ hu)).1 h1
  obtain ⟨y, rfl, hy⟩ := (is_dN (k := 32) (p32 ▸ hw)).1 h2
  refine (num_Product hx hy h).mono ?_
  rintro _ G' _ ⟨z, rfl, hz⟩
  exact isDN_to hz
theorem q_sCommon {GB : Gh} {u w : Nat} (hu : u < 4294967296) (hw : w < 4294967296) : PF GB Tryz.prog 73 [dN u, dN w] (dN (Nat.gcd u w)) := by
  intro G vs hg hv
  obtain ⟨v1, l, rfl, h1, hv⟩ := isl_cons.1 hv
  obtain ⟨v2, l, rfl, h2, hv⟩ := isl_cons.1 hv
  rw [isl_nil] at hv; subst hv
  obtain ⟨x, rfl, hx⟩ := (is_dN (k := 32) (p32 ▸ hu)).1 h1
  obtain ⟨y, rfl, hy⟩ := (is_dN (k := 32) (p32 ▸ hw)).1 h2
  refine (num_Common hx hy).mono ?_
  rintro _ G' _ ⟨z, rfl, hz⟩
  exact isDN_to hz
theorem q_sDivide {GB : Gh} {u w : Nat} (hu : u < 4294967296) (hw : w < 4294967296) (h : w ≠ 0) : PX GB Tryz.prog 121 [dN u, dN w] SV (fun z => .tp [dN (u / w), .v (.slice z.a z.n z.c)]) := by
  intro G vs hg hv
  obtain ⟨v1, l, rfl, h1, hv⟩ := isl_cons.1 hv
  obtain ⟨v2, l, rfl, h2, hv⟩ := isl_cons.1 hv
  rw [isl_nil] at hv; subst hv
  obtain ⟨x, rfl, hx⟩ := (is_dN (k := 32) (p32 ▸ hu)).1 h1
  obtain ⟨y, rfl, hy⟩ := (is_dN (k := 32) (p32 ▸ hw)).1 h2
  refine (num_Divide hx hy h).mono ?_
  rintro _ G' _ ⟨z, z2, rfl, hz⟩
  exact ⟨z2, is_tp.2 ⟨_, rfl, .cons (isDN_to hz) (.cons (is_v.2 rfl) .nil)⟩⟩
theorem q_sMake {GB : Gh} {neg : Bool} {m : Nat} (hm : m < 4294967296) : PF GB Tryz.prog 93 [.v (.bool neg), dN m] (eI (zv neg m)) := by
  intro G vs hg hv
  obtain ⟨v1, l, rfl, h1, hv⟩ := isl_cons.1 hv
  obtain ⟨v2, l, rfl, h2, hv⟩ := isl_cons.1 hv
  rw [isl_nil] at hv; subst hv
  rw [is_v.1 h1]
  obtain ⟨y, rfl, hy⟩ := (is_dN (k := 32) (p32 ▸ hm)).1 h2
  refine (num_Make hy).mono ?_
  rintro _ G' _ ⟨z, rfl, hz⟩
  exact isEI_to hz
theorem q_sMul {GB : Gh} {m n : Int} (hm : m.natAbs < 4294967296) (hn : n.natAbs < 4294967296) (h : m.natAbs * n.natAbs < 4294967296) : PF GB Tryz.prog 137 [eI m, eI n] (eI (m * n)) := by
  intro G vs hg hv
  obtain ⟨v1, l, rfl, h1, hv⟩ := isl_cons.1 hv
  obtain ⟨v2, l, rfl, h2, hv⟩ := isl_cons.1 hv
  rw [isl_nil] at hv; subst hv
  obtain ⟨x, rfl, hx⟩ := isEI_of (k := 32) (p32 ▸ hm) h1
  obtain ⟨y, rfl, hy⟩ := isEI_of (k := 32) (p32 ▸ hn) h2
  refine (num_Mul hx hy h).mono ?_
  rintro _ G' _ ⟨z, rfl, hz⟩
  exact isEI_to hz
theorem q_sAdd {GB : Gh} {m n : Int} (hm : m.natAbs < 1000000000) (hn : n.natAbs < 1000000000) : PF GB Tryz.prog 136 [eI m, eI n] (eI (m + n)) := by
  intro G vs hg hv
  obtain ⟨v1, l, rfl, h1, hv⟩ := isl_cons.1 hv
  obtain ⟨v2, l, rfl, h2, hv⟩ := isl_cons.1 hv
  rw [isl_nil] at hv; subst hv
  obtain ⟨x, rfl, hx⟩ := isEI_of (k := 32) (by rw [← p32]; omega) h1
  obtain ⟨y, rfl, hy⟩ := isEI_of (k := 32) (by rw [← p32]; omega) h2
  refine (num_Add hx hy hm hn).mono ?_
  rintro _ G' _ ⟨z, rfl, hz⟩
  exact isEI_to hz
theorem q_sMinus {GB : Gh} {m : Int} (hm : m.natAbs < 4294967296) : PF GB Tryz.prog 56 [eI m] (eI (-m)) := by
  intro G vs hg hv
  obtain ⟨v1, l, rfl, h1, hv⟩ := isl_cons.1 hv
  rw [isl_nil] at hv; subst hv
  obtain ⟨x, rfl, hx⟩ := isEI_of (k := 32) (p32 ▸ hm) h1
  refine (num_Minus hx).mono ?_
  rintro _ G' _ ⟨z, rfl, hz⟩
  exact isEI_to hz
theorem q_sSign {GB : Gh} {m : Int} (hm : m.natAbs < 4294967296) : PF GB Tryz.prog 163 [eI m] (vI m.sign) := by
  intro G vs hg hv
  obtain ⟨v1, l, rfl, h1, hv⟩ := isl_cons.1 hv
  rw [isl_nil] at hv; subst hv
  obtain ⟨x, rfl, hx⟩ := isEI_of (k := 32) (p32 ▸ hm) h1
  refine (num_Sign hx).mono ?_
  rintro _ G' _ rfl
  exact is_v.2 rfl
theorem q_sInt {GB : Gh} {n : Int} (h0 : -1000000 ≤ n) (h1 : n ≤ 1000000) : PF GB Tryz.prog 95 [.v (.int .i64 n)] (eI n) := by
  intro G vs hg hv
  obtain ⟨v1, l, rfl, k1, hv⟩ := isl_cons.1 hv
  rw [isl_nil] at hv; subst hv
  rw [is_v.1 k1]
  refine (num_Int h0 h1).mono ?_
  rintro _ G' _ ⟨z, rfl, hz⟩
  exact isEI_to hz
/-- lines as they come from the tape -/
structure LS (l : LnQ) : Prop where
  ok : l.ok
  a : l.a.natAbs ≤ 4
  b : l.b.natAbs ≤ 4
  c : l.c.natAbs ≤ 40000
theorem LS.bl {l : LnQ} (h : LS l) : BL l 32 := ⟨by have := h.a; omega, by have := h.b; omega, by have := h.c; omega⟩
theorem LS.rev {l : LnQ} (h : LS l) : LS l.rev := ⟨h.ok.rev, by rw [show l.rev.a = -l.a from rfl, Int.natAbs_neg]; exact h.a, by rw [show l.rev.b = -l.b from rfl, Int.natAbs_neg]; exact h.b, by rw [show l.rev.c = -l.c from rfl, Int.natAbs_neg]; exact h.c⟩
theorem q_Next {GB : Gh} {es : List Int} (he : es.length ≤ 400) {a b : Nat} (ha : a ≤ es.length) {n : Int} (hn : 1 ≤ n) (hn2 : n ≤ 1000) : PMX GB Tryz.prog 39 [.v (.pointer (some ⟨b, 0, none⟩)), .v (.int .i64 n)] b 93 [.sl (es.map vI), .v (.int .i64 (a : Nat))]
    {x : Nat × Nat // (x.1 : Int) < n ∧ x.2 ≤ es.length} (fun x => .v (.int .i64 (x.1.1 : Nat))) (fun x => [.sl (es.map vI), .v (.int .i64 (x.1.2 : Nat))]) := by
  intro G vs m lo hg hv hm
  obtain ⟨v1, l, rfl, h1, hv⟩ := isl_cons.1 hv
  obtain ⟨v2, l, rfl, h2, hv⟩ := isl_cons.1 hv
  rw [isl_nil] at hv; subst hv
  rw [is_v.1 h1, is_v.1 h2]
  obtain ⟨u1, l, rfl, k1, hm⟩ := isl_cons.1 hm
  obtain ⟨u2, l, rfl, k2, hm⟩ := isl_cons.1 hm
  rw [isl_nil] at hm; subst hm
  rw [is_v.1 k2]
  obtain ⟨x, rfl, hx⟩ := is_ints.1 k1
  refine (Tape_Next hx he (lo := lo) (by omega) (by omega) ha).mono ?_
  rintro _ css G' hG _ ⟨r, a', rfl, h5, h6, h7, rfl⟩
  have : GL G G' := ⟨hG⟩
  obtain ⟨k, rfl⟩ := Int.eq_ofNat_of_zero_le h5
  exact ⟨⟨(k, a'), h6, h7⟩, is_v.2 rfl, _, rfl, .cons (is_ints.2 ⟨x, rfl, hx.up⟩) (.cons (is_v.2 rfl) .nil)⟩
theorem q_L {GB : Gh} {es : List Int} (he : es.length ≤ 400) {a b : Nat} (ha : a ≤ es.length) : PMX GB Tryz.prog 11 [.v (.pointer (some ⟨b, 0, none⟩))] b 93 [.sl (es.map vI), .v (.int .i64 (a : Nat))]
    {x : LnQ × Nat // LS x.1 ∧ x.2 ≤ es.length} (fun x => eL x.1.1) (fun x => [.sl (es.map vI), .v (.int .i64 (x.1.2 : Nat))]) := by
  intro G vs m lo hg hv hm
  obtain ⟨v1, l, rfl, h1, hv⟩ := isl_cons.1 hv
  rw [isl_nil] at hv; subst hv
  rw [is_v.1 h1]
  obtain ⟨u1, l, rfl, k1, hm⟩ := isl_cons.1 hm
  obtain ⟨u2, l, rfl, k2, hm⟩ := isl_cons.1 hm
  rw [isl_nil] at hm; subst hm
  rw [is_v.1 k2]
  obtain ⟨x, rfl, hx⟩ := is_ints.1 k1
  refine (Tape_L hx he (lo := lo) ha).mono ?_
  rintro _ css G' hG _ ⟨l, p, q, r, a', rfl, hl, hp, hq, hr, h7, rfl⟩
  have : GL G G' := ⟨hG⟩
  exact ⟨⟨(l, a'), ⟨hl.1, hl.2.1, hl.2.2.1, hl.2.2.2⟩, h7⟩, isL_to hp hq hr, _, rfl, .cons (is_ints.2 ⟨x, rfl, hx.up⟩) (.cons (is_v.2 rfl) .nil)⟩

end Go.Sx
end
