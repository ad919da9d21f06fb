/-
  Regions that draw their order: one walk in the order of the text, if what may change places does not touch. The abstract machine's run, reckoned as far as it goes by itself. Instances about the program's types. The program's types, as the abstract machine looks them up. The abstract machine's steps that a proof spells out: calls, branches, loops, results.
-/
import Derived.Test.YtkijgpopaaknfaaGreatDoorRf4
import Derived.Test.YtkijgpopaaknfaaGreatDoorProg
set_option linter.unusedSimpArgs false
set_option linter.unusedVariables false
section
set_option maxRecDepth 100000
namespace Go.Sx
open Go
def memN : List Nat → Nat → Bool
 | [], _ => false
 | x :: t, k => Nat.beq x k || memN t k
structure Rc where
 rs : List Nat
 d : Option Nat
 f : FX
 rn : List Nat
 bl : List (Nat × Option Bk)
 nw : List Nat
abbrev ST := LK × BM
def Rc.ap (r : Rc) (s : ST) : ST := (upL s.1 r.d r.f, upB s.2 r.bl)
def sel (p : Nat → Bool) : Nat → ST → List Rc → ST
 | _, s, [] => s
 | k, s, r :: t => sel p (k + 1) (if p k then r.ap s else s) t
def rsX {α : Type} (l : List Nat) (g : Nat → Option α) : Nat → Option α := fun k => bif memN l k then g k else none
theorem upB_get {nm : Nat} : ∀ {bl : List (Nat × Option Bk)} {s s' : BM}, ((∀ e ∈ bl, e.1 ≠ nm) → s nm = s' nm) → upB s bl nm = upB s' bl nm
 | [], s, s', h => h (by simp)
 | (k, B) :: t, s, s', h => by
   simp only [upB]
   refine upB_get fun ht => ?_
   by_cases e : nm = k
   · simp [e]
   · simp only [e, if_false]; exact h fun x hx => (List.mem_cons.1 hx).elim (fun c => by rw [c]; exact Ne.symm e) (ht x)
theorem upB_no {nm : Nat} : ∀ {bl : List (Nat × Option Bk)} {s : BM}, (∀ e ∈ bl, e.1 ≠ nm) → upB s bl nm = s nm
 | [], s, h => rfl
 | (k, B) :: t, s, h => by
   simp only [upB]
   rw [upB_no fun e he => h e (List.mem_cons_of_mem _ he)]
   simp [Ne.symm (h _ List.mem_cons_self)]
theorem upL_no {x : Nat} {d : Option Nat} {f : FX} {s : LK} (h : d ≠ some x) : upL s d f x = s x := by
 cases d with
 | none => rfl
 | some d => simp only [upL]; rw [if_neg fun e => h (by rw [e])]
theorem sel_L {x : Nat} {p q : Nat → Bool} : ∀ {us : List Rc} {k : Nat} {s s' : ST}, s.1 x = s'.1 x → (∀ j r, us[j]? = some r → r.d = some x → p (k + j) = q (k + j)) → (sel p k s us).1 x = (sel q k s' us).1 x
 | [], k, s, s', h, _ => h
 | r :: t, k, s, s', h, hp => by
   simp only [sel]
   refine sel_L ?_ fun j u hj hd => by have := hp (j + 1) u (by simpa using hj) hd; rwa [show k + (j + 1) = k + 1 + j by omega] at this
   by_cases hd : r.d = some x
   · have := hp 0 r rfl hd
     rw [Nat.add_zero] at this
     rw [this]
     split
     · simp only [Rc.ap, upL, hd, if_true]
     · exact h
   · have : ∀ (b : Bool) (s : ST), (if b then r.ap s else s).1 x = s.1 x := fun b s => by cases b <;> simp [Rc.ap, upL_no hd]
     rw [this, this, h]
theorem sel_B {nm : Nat} {p q : Nat → Bool} : ∀ {us : List Rc} {k : Nat} {s s' : ST}, s.2 nm = s'.2 nm → (∀ j r, us[j]? = some r → (∃ e ∈ r.bl, e.1 = nm) → p (k + j) = q (k + j)) → (sel p k s us).2 nm = (sel q k s' us).2 nm
 | [], k, s, s', h, _ => h
 | r :: t, k, s, s', h, hp => by
   simp only [sel]
   refine sel_B ?_ fun j u hj hd => by have := hp (j + 1) u (by simpa using hj) hd; rwa [show k + (j + 1) = k + 1 + j by omega] at this
   by_cases hd : ∃ e ∈ r.bl, e.1 = nm
   · have := hp 0 r rfl hd
     rw [Nat.add_zero] at this
     rw [this]
     split
     · exact upB_get fun _ => h
     · exact h
   · have : ∀ (b : Bool) (s : ST), (if b then r.ap s else s).2 nm = s.2 nm := fun b s => by
       cases b
       · rfl
       · exact upB_no fun e he hc => hd ⟨e, he, hc⟩
     rw [this, this, h]
theorem sel_fromL {x : Nat} {f : FX} {p : Nat → Bool} : ∀ {us : List Rc} {k : Nat} {s : ST}, (sel p k s us).1 x = some f → s.1 x = some f ∨ ∃ j r, us[j]? = some r ∧ p (k + j) = true ∧ r.d = some x ∧ r.f = f
 | [], k, s, h => .inl h
 | r :: t, k, s, h => by
   simp only [sel] at h
   rcases sel_fromL h with h | ⟨j, u, h1, h2, h3⟩
   · cases hp : p k with
     | false => rw [hp] at h; exact .inl h
     | true =>
       rw [hp] at h
       simp only [if_true, Rc.ap] at h
       by_cases hd : r.d = some x
       · rw [hd] at h; simp only [upL, if_true] at h; cases h; exact .inr ⟨0, r, rfl, by simpa using hp, hd, rfl⟩
       · rw [upL_no hd] at h; exact .inl h
   · exact .inr ⟨j + 1, u, by simpa using h1, by rw [show k + (j + 1) = k + 1 + j by omega]; exact h2, h3⟩
theorem upB_from {nm : Nat} {B : Bk} : ∀ {bl : List (Nat × Option Bk)} {s : BM}, upB s bl nm = some B → s nm = some B ∨ (nm, some B) ∈ bl
 | [], s, h => .inl h
 | (k, B') :: t, s, h => by
   simp only [upB] at h
   rcases upB_from h with h | h
   · by_cases e : nm = k
     · subst e; simp only [if_true] at h; subst h; exact .inr List.mem_cons_self
     · simp only [e, if_false] at h; exact .inl h
   · exact .inr (List.mem_cons_of_mem _ h)
theorem sel_fromB {nm : Nat} {B : Bk} {p : Nat → Bool} : ∀ {us : List Rc} {k : Nat} {s : ST}, (sel p k s us).2 nm = some B → s.2 nm = some B ∨ ∃ j r, us[j]? = some r ∧ p (k + j) = true ∧ (nm, some B) ∈ r.bl
 | [], k, s, h => .inl h
 | r :: t, k, s, h => by
   simp only [sel] at h
   rcases sel_fromB h with h | ⟨j, u, h1, h2, h3⟩
   · cases hp : p k with
     | false => rw [hp] at h; exact .inl h
     | true =>
       rw [hp] at h
       rcases upB_from h with h | h
       · exact .inl h
       · exact .inr ⟨0, r, rfl, by simpa using hp, h⟩
   · exact .inr ⟨j + 1, u, by simpa using h1, by rw [show k + (j + 1) = k + 1 + j by omega]; exact h2, h3⟩
/-! ### the order of the text -/
def mask (acc : List Nat) (l : List Edge) : Nat := l.foldl (fun s e => if Region.binds .any e then (s ||| 2 ^ e.on) ||| acc.getD e.on 0 else s) 0
def masks : List Oper → List Nat → List Nat
 | [], acc => acc
 | o :: r, acc => masks r (acc ++ [mask acc o.after.toList])
inductive Bf (ops : List Oper) : Nat → Nat → Prop
 | b {i : Nat} {o : Oper} {e : Edge} (ho : ops[i]? = some o) (he : e ∈ o.after) (hb : Region.binds .any e = true) : Bf ops i e.on
 | s {i j : Nat} {o : Oper} {e : Edge} (ho : ops[i]? = some o) (he : e ∈ o.after) (hb : Region.binds .any e = true) (h : Bf ops e.on j) : Bf ops i j
theorem mask_spec {acc : List Nat} {j : Nat} : ∀ (l : List Edge) (s : Nat), (l.foldl (fun s e => if Region.binds .any e then (s ||| 2 ^ e.on) ||| acc.getD e.on 0 else s) s).testBit j = true → s.testBit j = true ∨ ∃ e ∈ l, Region.binds .any e = true ∧ (e.on = j ∨ (acc.getD e.on 0).testBit j = true)
 | [], s, h => .inl h
 | e :: t, s, h => by
   rw [List.foldl_cons] at h
   rcases mask_spec t _ h with h | ⟨e', h1, h2⟩
   · split at h
     · rename_i hb
       simp only [Nat.testBit_or, Bool.or_eq_true, Nat.testBit_two_pow, decide_eq_true_eq] at h
       rcases h with (h | h) | h
       · exact .inl h
       · exact .inr ⟨e, List.mem_cons_self, hb, .inl h⟩
       · exact .inr ⟨e, List.mem_cons_self, hb, .inr h⟩
     · exact .inl h
   · exact .inr ⟨e', List.mem_cons_of_mem _ h1, h2⟩
theorem masks_spec {all : List Oper} : ∀ (r : List Oper) (acc : List Nat) (pre : List Oper), all = pre ++ r → acc.length = pre.length → (∀ i j, (acc.getD i 0).testBit j = true → Bf all i j) → ∀ i j, ((masks r acc).getD i 0).testBit j = true → Bf all i j
 | [], acc, pre, _, _, h => h
 | o :: r, acc, pre, he, hl, h => by
   refine masks_spec r _ (pre ++ [o]) (by rw [he]; simp) (by simp [hl]) fun i j hij => ?_
   rw [List.getD_eq_getElem?_getD, List.getElem?_append] at hij
   split at hij
   · rename_i hi
     exact h i j (by rw [List.getD_eq_getElem?_getD]; exact hij)
   · rename_i hi
     by_cases e : i = acc.length
     · subst e
       simp only [Nat.sub_self, List.getElem?_cons_zero, Option.getD_some] at hij
       have ho : all[acc.length]? = some o := by rw [he, hl]; simp
       rcases mask_spec _ _ hij with h0 | ⟨e, h1, h2, h3⟩
       · simp at h0
       · rcases h3 with rfl | h3
         · exact .b ho (by simpa using h1) h2
         · exact .s ho (by simpa using h1) h2 (h _ _ h3)
     · rw [List.getElem?_eq_none (by simp; omega)] at hij
       simp at hij
/-! ### what may change places -/
def opEq : Option Nat → Nat → Bool
 | some x, y => Nat.beq x y
 | none, _ => false
def hit (a b : Rc) : Bool := (match a.d with | some x => memN b.rs x || opEq b.d x | none => false) || a.bl.any fun e => memN b.rn e.1 || b.bl.any fun e' => Nat.beq e'.1 e.1
def menF (nm : Nat) (f : FX) : Bool := opEq f.nm nm
def menB (nm : Nat) : Option Bk → Bool
 | some (.o _ cs _) => cs.any (menF nm)
 | _ => false
def menR (r : Rc) (nm : Nat) : Bool := menF nm r.f || r.bl.any fun e => menB nm e.2
def okPre (m : Nat) (r : Rc) : Nat → List Rc → Bool
 | _, [] => true
 | j, u :: t => (!(hit u r || hit r u || u.nw.any (menR r)) || m.testBit j) && !(r.nw.any (menR u)) && okPre m r (j + 1) t
def okAll : List Nat → List Rc → List Rc → Bool
 | m :: ms, pre, r :: t => okPre m r 0 pre && okAll ms (pre ++ [r]) t
 | _, _, [] => true
 | [], _, _ :: _ => false
def okEdge : Nat → List Oper → Bool
 | _, [] => true
 | i, o :: t => o.after.all (fun e => !Region.binds .any e || Nat.blt e.on i) && okEdge (i + 1) t
def fresh0 (us : List Rc) (fr : List (Nat × FX)) (own : List (Nat × Option Bk)) : Bool := us.all fun r => r.nw.all fun nm => fr.all (fun e => !menF nm e.2) && own.all fun e => !menB nm e.2
theorem okPre_spec {m : Nat} {r : Rc} : ∀ {l : List Rc} {k : Nat}, okPre m r k l = true → ∀ j u, l[j]? = some u → ((hit u r = true ∨ hit r u = true ∨ ∃ nm ∈ u.nw, menR r nm = true) → m.testBit (k + j) = true) ∧ ∀ nm ∈ r.nw, menR u nm = false
 | [], k, _, j, u, h => by simp at h
 | x :: t, k, h, j, u, hj => by
   simp only [okPre, Bool.and_eq_true, Bool.or_eq_true, Bool.not_eq_true'] at h
   obtain ⟨⟨h1, h2⟩, h3⟩ := h
   cases j with
   | zero =>
     simp at hj; subst hj
     refine ⟨fun hh => ?_, fun nm hn => by have := List.any_eq_false.1 h2 nm hn; simpa using this⟩
     rcases h1 with h1 | h1
     · simp only [Bool.or_eq_false_iff] at h1
       rcases hh with hh | hh | ⟨nm, hn, hh⟩
       · rw [h1.1.1] at hh; cases hh
       · rw [h1.1.2] at hh; cases hh
       · have := List.any_eq_false.1 h1.2 nm hn; exact absurd hh this
     · simpa using h1
   | succ j =>
     have := okPre_spec h3 j u (by simpa using hj)
     rwa [show k + (j + 1) = k + 1 + j by omega]
theorem okAll_spec : ∀ {ms : List Nat} {pre t : List Rc}, okAll ms pre t = true → ∀ i r, t[i]? = some r → ∀ j u, (pre ++ t)[j]? = some u → j < pre.length + i → ((hit u r = true ∨ hit r u = true ∨ ∃ nm ∈ u.nw, menR r nm = true) → (ms.getD i 0).testBit j = true) ∧ ∀ nm ∈ r.nw, menR u nm = false
 | [], pre, [], _, i, r, h => by simp at h
 | _ :: _, pre, [], _, i, r, h => by simp at h
 | [], pre, _ :: _, h, i, r, _ => by simp [okAll] at h
 | m :: ms, pre, x :: t, h, i, r, hi => by
   simp only [okAll, Bool.and_eq_true] at h
   intro j u hj hlt
   cases i with
   | zero =>
     simp at hi; subst hi
     rw [List.getElem?_append_left (by omega)] at hj
     simpa using okPre_spec h.1 j u hj
   | succ i =>
     have := okAll_spec h.2 i r (by simpa using hi) j u (by simpa using hj) (by simp; omega)
     simpa using this
theorem okEdge_spec : ∀ {l : List Oper} {k : Nat}, okEdge k l = true → ∀ i o, l[i]? = some o → ∀ e ∈ o.after, Region.binds .any e = true → e.on < k + i
 | [], k, _, i, o, h => by simp at h
 | x :: t, k, h, i, o, hi => by
   simp only [okEdge, Bool.and_eq_true] at h
   intro e he hb
   cases i with
   | zero =>
     simp at hi; subst hi
     have := Array.all_eq_true_iff_forall_mem.1 h.1 e he
     simpa [hb] using this
   | succ i => have := okEdge_spec h.2 i o (by simpa using hi) e he hb; omega
def wO (P : Program) (ops : Array Oper) (Q : Exit → Act → World → Prop) (o : Oper) (K : Act → World → Prop) (a : Act) (w : World) : Prop :=
 if Region.wanted o (yielded ops a.tmps) then o.wp P a w K Q else K (a.put o.dst undef) w
section
variable {P : Program} {GB : Gh} {C : Ctx} {n : Nat} {ops : Array Oper} {Q : Exit → Act → World → Prop}
def OpS (P : Program) (GB : Gh) (C : Ctx) (n : Nat) (ops : Array Oper) (lk : LK) (bk : BM) (o : Oper) (f : FX) (bl : List (Nat × Option Bk)) (nw : List Nat) : Prop :=
 ∀ (Q : Exit → Act → World → Prop) (tl : LK) (tb : BM) (K : Act → World → Prop), SubX lk tl → SubX bk tb → FreshX nw o.dst tl tb → SX GB C n (upL tl o.dst f) (upB tb bl) K → SX GB C n tl tb (wO P ops Q o K)
theorem SX.drew {lk : LK} {bk : BM} {Φ : Act → World → Prop} (h : SX GB C n lk bk Φ) : SX GB C n lk bk (fun a w => Φ a { w with drawn := w.drawn + 1 }) :=
 ⟨fun ρ G ov a w r => h.run ρ G ov a _ ⟨r.gb, r.h.drew, r.sz, r.df, r.fx, r.bx, r.dj⟩⟩
structure Drawn (P : Program) (GB : Gh) (C : Ctx) (n : Nat) (ops : Array Oper) (us : List Rc) (s0 : ST) : Prop where
 len : us.length = ops.size
 snd : ∀ i r o, us[i]? = some r → ops[i]? = some o → o.dst = r.d ∧ OpS P GB C n ops (rsX r.rs (sel (fun j => decide (j < i)) 0 s0 us).1) (rsX r.rn (sel (fun j => decide (j < i)) 0 s0 us).2) o r.f r.bl r.nw
 all : okAll (masks ops.toList []) [] us = true
 edge : okEdge 0 ops.toList = true
 fr0 : ∀ r ∈ us, ∀ nm ∈ r.nw, (∀ k f, s0.1 k = some f → f.nm ≠ some nm) ∧ ∀ k B, s0.2 k = some B → ¬ B.men nm
theorem opEq_iff {o : Option Nat} {k : Nat} : opEq o k = true ↔ o = some k := by cases o <;> simp [opEq]
theorem menB_of {B : Bk} {nm : Nat} (h : B.men nm) : menB nm (some B) = true := by
 cases B with
 | o ty cs lo => obtain ⟨f, hf, e⟩ := h; exact List.any_eq_true.2 ⟨f, hf, opEq_iff.2 e⟩
 | b => cases h
 | c => cases h
def lst (listed : Array Bool) : Nat → Bool := fun j => listed.getD j false
def un (ops : Array Oper) (listed : Array Bool) : Nat := ((List.range ops.size).filter fun j => !listed.getD j true).length
theorem filter_lt {α : Type} {p q : α → Bool} {x : α} : ∀ {l : List α}, x ∈ l → (∀ y, q y = true → p y = true) → p x = true → q x = false → (l.filter q).length < (l.filter p).length
 | [], h, _, _, _ => by cases h
 | y :: t, h, hpq, h1, h2 => by
   have le : ∀ l : List α, (l.filter q).length ≤ (l.filter p).length := fun l => by
     induction l with
     | nil => exact Nat.le_refl _
     | cons z l ih =>
       simp only [List.filter_cons]
       cases hq : q z with
       | true => simp [hpq z hq]; omega
       | false => cases hp : p z <;> simp <;> omega
   rcases List.mem_cons.1 h with rfl | h
   · simp only [List.filter_cons, h1, h2, if_true]; have := le t; simp; omega
   · have ih := filter_lt h hpq h1 h2
     simp only [List.filter_cons]
     cases hq : q y with
     | true => simp [hpq y hq]; omega
     | false => cases hp : p y <;> simp <;> omega
theorem Drawn.walk {us : List Rc} {s0 : ST} (D : Drawn P GB C n ops us s0) (hk : SX GB C n (sel (fun _ => true) 0 s0 us).1 (sel (fun _ => true) 0 s0 us).2 (Q .normal)) :
   ∀ (fuel : Nat) (listed : Array Bool), listed.size = ops.size → (∀ i o, ops[i]? = some o → lst listed i = true → ∀ e ∈ o.after, Region.binds .any e = true → lst listed e.on = true) → un ops listed ≤ fuel →
     SX GB C n (sel (lst listed) 0 s0 us).1 (sel (lst listed) 0 s0 us).2 (wpAny P .any ops Q fuel listed) := by
 -- what comes before something listed is listed
 have clo : ∀ listed : Array Bool, (∀ i o, ops[i]? = some o → lst listed i = true → ∀ e ∈ o.after, Region.binds .any e = true → lst listed e.on = true) → ∀ i j, Bf ops.toList i j → lst listed i = true → lst listed j = true := by
   intro listed hc i j hb
   induction hb with
   | b ho he hb => intro hi; exact hc _ _ (by simpa using ho) hi _ he hb
   | s ho he hb _ ih => intro hi; exact ih (hc _ _ (by simpa using ho) hi _ he hb)
 have bf : ∀ i j, ((masks ops.toList []).getD i 0).testBit j = true → Bf ops.toList i j := masks_spec ops.toList [] [] rfl rfl (fun i j h => by simp at h)
 have spec : ∀ i r, us[i]? = some r → ∀ j u, us[j]? = some u → j < i → ((hit u r = true ∨ hit r u = true ∨ ∃ nm ∈ u.nw, menR r nm = true) → Bf ops.toList i j) ∧ ∀ nm ∈ r.nw, menR u nm = false := fun i r hi j u hj hlt => by
   have := okAll_spec D.all i r hi j u (by simpa using hj) (by simpa using hlt)
   exact ⟨fun h => bf _ _ (this.1 h), this.2⟩
 have done : ∀ listed : Array Bool, listed.size = ops.size → Region.ready .any ops listed = [] → ∀ i, i < ops.size → lst listed i = true := by
   intro listed hsz hr i
   induction i using Nat.strongRecOn with
   | ind i ih =>
     intro hi
     cases hl : listed.getD i true with
     | true => unfold lst; simp only [Array.getD_eq_getD_getElem?] at hl ⊢; rw [Array.getElem?_eq_getElem (by omega)] at hl ⊢; simpa using hl
     | false =>
       have : i ∈ Region.ready .any ops listed := mem_ready.2 ⟨hl, ops[i], Array.getElem?_eq_getElem hi, fun e he hb => by
         have hlt := okEdge_spec D.edge i ops[i] (by simp [hi]) e he hb
         exact ih e.on (by omega) (by omega)⟩
       rw [hr] at this; cases this
 have same : ∀ listed : Array Bool, listed.size = ops.size → (∀ i, i < ops.size → lst listed i = true) → (sel (lst listed) 0 s0 us).1 = (sel (fun _ => true) 0 s0 us).1 ∧ (sel (lst listed) 0 s0 us).2 = (sel (fun _ => true) 0 s0 us).2 := by
   intro listed hsz h
   refine ⟨funext fun x => sel_L rfl fun j r hj _ => ?_, funext fun x => sel_B rfl fun j r hj _ => ?_⟩ <;>
   · rw [Nat.zero_add]; exact h j (by have := (List.getElem?_eq_some_iff.1 hj).1; rw [D.len] at this; exact this)
 intro fuel
 induction fuel with
 | zero =>
   intro listed hsz hc hu
   have all : ∀ i, i < ops.size → lst listed i = true := fun i hi => by
     cases hl : listed.getD i true with
     | true => unfold lst; simp only [Array.getD_eq_getD_getElem?] at hl ⊢; rw [Array.getElem?_eq_getElem (by omega)] at hl ⊢; simpa using hl
     | false =>
       have h0 := List.length_eq_zero_iff.1 (Nat.le_zero.1 hu)
       have := List.filter_eq_nil_iff.1 h0 i (List.mem_range.2 hi)
       simp [hl] at this
   obtain ⟨e1, e2⟩ := same listed hsz all
   rw [e1, e2]
   refine hk.imp fun a w h => ⟨?_, h⟩
   refine List.eq_nil_iff_forall_not_mem.2 fun i hi => ?_
   obtain ⟨h1, o, ho, _⟩ := mem_ready.1 hi
   have hlt := (Array.getElem?_eq_some_iff.1 ho).1
   have h2 := all i hlt
   unfold lst at h2
   simp only [Array.getD_eq_getD_getElem?] at h1 h2
   rw [Array.getElem?_eq_getElem (by omega)] at h1 h2
   simp at h1 h2
   rw [h1] at h2; cases h2
 | succ fuel ih =>
   intro listed hsz hc hu
   refine ⟨fun ρ G ov a w r => ⟨fun hr => ?_, fun i hi => ?_⟩⟩
   · obtain ⟨e1, e2⟩ := same listed hsz (done listed hsz hr)
     rw [e1, e2] at r
     exact hk.run ρ G ov a w r
   · obtain ⟨h1, o, ho, hall⟩ := mem_ready.1 hi
     have hlt := (Array.getElem?_eq_some_iff.1 ho).1
     have hli : lst listed i = false := by
       unfold lst
       simp only [Array.getD_eq_getD_getElem?] at h1 ⊢
       rw [Array.getElem?_eq_getElem (by omega)] at h1 ⊢
       simpa using h1
     obtain ⟨u, hui⟩ : ∃ u, us[i]? = some u := ⟨us[i]'(by rw [D.len]; exact hlt), List.getElem?_eq_getElem _⟩
     obtain ⟨hd, hop⟩ := D.snd i u o hui ho
     have bl : ∀ j, Bf ops.toList i j → lst listed j = true := fun j hb => by
       cases hb with
       | b ho' he hb => rw [Array.getElem?_toList, ho] at ho'; cases ho'; exact hall _ he hb
       | s ho' he hb h => rw [Array.getElem?_toList, ho] at ho'; cases ho'; exact clo listed hc _ _ h (hall _ he hb)
     have nb : ∀ j r, us[j]? = some r → (hit r u = true ∨ hit u r = true) → decide (j < i) = lst listed j := fun j r hj hh => by
       rcases Nat.lt_trichotomy j i with h | h | h
       · rw [bl j ((spec i u hui j r hj h).1 (hh.imp id .inl))]; simpa using h
       · subst h; rw [hli]; simp
       · cases hl : lst listed j with
         | false => simp; omega
         | true => have := clo listed hc j i ((spec j r hj i u hui h).1 (hh.symm.imp id .inl)) hl; rw [hli] at this; cases this
     have sz' : (listed.setIfInBounds i true).size = ops.size := by simpa using hsz
     have l' : ∀ j, j ≠ i → lst (listed.setIfInBounds i true) j = lst listed j := fun j hj => by unfold lst; rw [getD_set_ne false (Ne.symm hj)]
     have li' : lst (listed.setIfInBounds i true) i = true := by unfold lst; simp [hsz, hlt]
     have hc' : ∀ j o', ops[j]? = some o' → lst (listed.setIfInBounds i true) j = true → ∀ e ∈ o'.after, Region.binds .any e = true → lst (listed.setIfInBounds i true) e.on = true := fun j o' hj hlj e he hb => by
       by_cases hji : j = i
       · subst hji; rw [ho] at hj; cases hj
         exact getD_set_true (hall e he hb)
       · rw [l' j hji] at hlj
         exact getD_set_true (hc j o' hj hlj e he hb)
     have hu' : un ops (listed.setIfInBounds i true) ≤ fuel := by
       have : un ops (listed.setIfInBounds i true) < un ops listed := by
         refine filter_lt (x := i) (List.mem_range.2 hlt) (fun y hy => ?_) (by simp [h1]) (by simp [hsz, hlt])
         by_cases hyi : y = i
         · subst hyi; simp [hsz, hlt] at hy
         · rwa [getD_set_ne true (Ne.symm hyi)] at hy
       omega
     have next := ih _ sz' hc' hu'
     have e1 : (sel (lst (listed.setIfInBounds i true)) 0 s0 us).1 = upL (sel (lst listed) 0 s0 us).1 o.dst u.f := by
       funext x
       rw [hd]
       by_cases hx : u.d = some x
       · -- i is the last to write x
         have key : ∀ (us' : List Rc) (k : Nat) (s : ST) (p : Nat → Bool) (m : Nat), us'[m]? = some u → p (k + m) = true → (∀ j r, us'[j]? = some r → r.d = some x → j ≠ m → j < m ∨ p (k + j) = false) → (sel p k s us').1 x = some u.f := by
           intro us'
           induction us' with
           | nil => intro k s p m h; simp at h
           | cons r t iht =>
             intro k s p m h hp hj
             simp only [sel]
             cases m with
             | zero =>
               simp at h; subst h
               rw [Nat.add_zero] at hp
               rw [hp]
               have : (sel p (k + 1) (r.ap s) t).1 x = (sel (fun _ => false) (k + 1) (r.ap s) t).1 x := sel_L rfl fun j r' hj' hd' => by
                 have := hj (j + 1) r' (by simpa using hj') hd' (by omega)
                 rw [show k + (j + 1) = k + 1 + j by omega] at this
                 exact this.resolve_left (by omega)
               simp only [if_true, this]
               have nosel : ∀ (l : List Rc) (k : Nat) (s : ST), sel (fun _ => false) k s l = s := fun l => by
                 induction l with
                 | nil => intro k s; rfl
                 | cons y l ih => intro k s; exact ih _ _
               rw [nosel]
               simp [Rc.ap, upL, hx]
             | succ m =>
               refine iht _ _ p m (by simpa using h) (by rw [show k + 1 + m = k + (m + 1) by omega]; exact hp) fun j r' hj' hd' hne => ?_
               have := hj (j + 1) r' (by simpa using hj') hd' (by omega)
               rw [show k + 1 + j = k + (j + 1) by omega]
               exact this.imp (fun h => by omega) id
         rw [key us 0 s0 _ i hui (by rw [Nat.zero_add]; exact li') fun j r hj hdr hne => ?_]
         · rw [hx]; simp [upL]
         · rw [Nat.zero_add, l' j hne]
           have := nb j r hj (.inl (by simp [hit, hdr, hx, opEq]))
           rw [← this]
           by_cases hji : j < i
           · exact .inl hji
           · exact .inr (by simpa using hji)
       · rw [upL_no hx]
         refine sel_L rfl fun j r hj hdr => ?_
         rw [Nat.zero_add]
         exact l' j fun e => by subst e; rw [hui] at hj; cases hj; exact hx hdr
     have e2 : (sel (lst (listed.setIfInBounds i true)) 0 s0 us).2 = upB (sel (lst listed) 0 s0 us).2 u.bl := by
       funext x
       by_cases hx : ∃ e ∈ u.bl, e.1 = x
       · have key : ∀ (us' : List Rc) (k : Nat) (s s' : ST) (p q : Nat → Bool) (m : Nat), us'[m]? = some u → p (k + m) = true → (∀ j r, us'[j]? = some r → (∃ e ∈ r.bl, e.1 = x) → j ≠ m → q (k + j) = p (k + j) ∧ (j < m ∨ p (k + j) = false)) → q (k + m) = false → s.2 x = s'.2 x → (sel p k s us').2 x = upB (sel q k s' us').2 u.bl x := by
           intro us'
           induction us' with
           | nil => intro k s s' p q m h; simp at h
           | cons r t iht =>
             intro k s s' p q m h hp hj hq hs
             simp only [sel]
             cases m with
             | zero =>
               simp at h; subst h
               rw [Nat.add_zero] at hp hq
               rw [hp, hq]
               have nosel : ∀ (l : List Rc) (k : Nat) (s : ST), sel (fun _ => false) k s l = s := fun l => by
                 induction l with
                 | nil => intro k s; rfl
                 | cons y l ih => intro k s; exact ih _ _
               have a1 : (sel p (k + 1) (r.ap s) t).2 x = (sel (fun _ => false) (k + 1) (r.ap s) t).2 x := sel_B rfl fun j r' hj' hd' => by
                 have := (hj (j + 1) r' (by simpa using hj') hd' (by omega)).2
                 rw [show k + (j + 1) = k + 1 + j by omega] at this
                 exact this.resolve_left (by omega)
               have a2 : (sel q (k + 1) s' t).2 x = (sel (fun _ => false) (k + 1) s' t).2 x := sel_B rfl fun j r' hj' hd' => by
                 obtain ⟨h3, h4⟩ := hj (j + 1) r' (by simpa using hj') hd' (by omega)
                 rw [show k + (j + 1) = k + 1 + j by omega] at h3 h4
                 rw [h3]; exact h4.resolve_left (by omega)
               simp only [if_true, Bool.false_eq_true, if_false, a1, nosel]
               exact upB_get fun _ => by rw [a2, nosel]; exact hs
             | succ m =>
               refine iht _ _ _ p q m (by simpa using h) (by rw [show k + 1 + m = k + (m + 1) by omega]; exact hp) (fun j r' hj' hd' hne => ?_) (by rw [show k + 1 + m = k + (m + 1) by omega]; exact hq) ?_
               · obtain ⟨h3, h4⟩ := hj (j + 1) r' (by simpa using hj') hd' (by omega)
                 rw [show k + 1 + j = k + (j + 1) by omega]
                 exact ⟨h3, h4.imp (fun h => by omega) id⟩
               · by_cases hr : ∃ e ∈ r.bl, e.1 = x
                 · have := (hj 0 r rfl hr (by omega)).1
                   rw [Nat.add_zero] at this
                   rw [this]
                   cases p k
                   · exact hs
                   · exact upB_get fun _ => hs
                 · have : ∀ (b : Bool) (s : ST), (if b then r.ap s else s).2 x = s.2 x := fun b s => by
                     cases b
                     · rfl
                     · exact upB_no fun e he hc => hr ⟨e, he, hc⟩
                   rw [this, this]; exact hs
         refine key us 0 s0 s0 _ _ i hui (by rw [Nat.zero_add]; exact li') (fun j r hj hdr hne => ?_) (by rw [Nat.zero_add]; exact hli) rfl
         rw [Nat.zero_add]
         refine ⟨(l' j hne).symm, ?_⟩
         rw [l' j hne]
         obtain ⟨e, he, rfl⟩ := hx
         obtain ⟨e', he', hee⟩ := hdr
         have hh : hit u r = true := by
           unfold hit
           rw [Bool.or_eq_true]
           exact .inr (List.any_eq_true.2 ⟨e, he, by rw [Bool.or_eq_true]; exact .inr (List.any_eq_true.2 ⟨e', he', by simpa using hee⟩)⟩)
         rw [← nb j r hj (.inr hh)]
         by_cases hji : j < i
         · exact .inl hji
         · exact .inr (by simpa using hji)
       · rw [upB_no fun e he hc => hx ⟨e, he, hc⟩]
         refine sel_B rfl fun j r hj hdr => ?_
         rw [Nat.zero_add]
         exact l' j fun e => by subst e; rw [hui] at hj; cases hj; exact hx hdr
     rw [e1, e2] at next
     have sub1 : SubX (rsX u.rs (sel (fun j => decide (j < i)) 0 s0 us).1) (sel (lst listed) 0 s0 us).1 := fun x f hx => by
       unfold rsX at hx
       cases hm : memN u.rs x with
       | false => rw [hm] at hx; cases hx
       | true =>
         rw [hm, cond_true] at hx
         rw [← hx]
         refine (sel_L rfl fun j r hj hdr => ?_).symm
         rw [Nat.zero_add]
         exact nb j r hj (.inl (by simp [hit, hdr, hm]))
     have sub2 : SubX (rsX u.rn (sel (fun j => decide (j < i)) 0 s0 us).2) (sel (lst listed) 0 s0 us).2 := fun x B hx => by
       unfold rsX at hx
       cases hm : memN u.rn x with
       | false => rw [hm] at hx; cases hx
       | true =>
         rw [hm, cond_true] at hx
         rw [← hx]
         refine (sel_B rfl fun j r hj hdr => ?_).symm
         rw [Nat.zero_add]
         obtain ⟨e, he, rfl⟩ := hdr
         refine nb j r hj (.inl ?_)
         unfold hit
         rw [Bool.or_eq_true]
         exact .inr (List.any_eq_true.2 ⟨e, he, by rw [hm]; rfl⟩)
     have fr : FreshX u.nw o.dst (sel (lst listed) 0 s0 us).1 (sel (lst listed) 0 s0 us).2 := fun nm hnm => by
       obtain ⟨g1, g2⟩ := D.fr0 u (List.mem_of_getElem? hui) nm hnm
       have men : ∀ j r, us[j]? = some r → lst listed j = true → menR r nm = false := fun j r hj hlj => by
         rcases Nat.lt_trichotomy j i with h | h | h
         · exact (spec i u hui j r hj h).2 nm hnm
         · subst h; rw [hli] at hlj; cases hlj
         · cases hm : menR r nm with
           | false => rfl
           | true => have := clo listed hc j i ((spec j r hj i u hui h).1 (.inr (.inr ⟨nm, hnm, hm⟩))) hlj; rw [hli] at this; cases this
       refine ⟨fun k f hk e => ?_, fun k B hk e hm => ?_⟩
       · intro hc'
         rcases sel_fromL e with h | ⟨j, r, h1, h2, h3, h4⟩
         · exact g1 k f h hc'
         · have := men j r h1 (by simpa using h2)
           simp only [menR, Bool.or_eq_false_iff, menF] at this
           rw [h4, opEq_iff.2 hc'] at this
           cases this.1
       · rcases sel_fromB e with h | ⟨j, r, h1, h2, h3⟩
         · exact g2 k B h hm
         · have := men j r h1 (by simpa using h2)
           simp only [menR, Bool.or_eq_false_iff] at this
           have := List.any_eq_false.1 this.2 _ h3
           exact this (menB_of hm)
     have fin := hop Q _ _ _ sub1 sub2 fr next
     have := fin.run ρ G ov a w r
     unfold wO at this
     unfold wpOp
     rw [ho]
     simp only
     split
     · rename_i hw; rw [if_pos hw] at this; exact .inl this
     · rename_i hw; rw [if_neg hw] at this; exact this
theorem lst0 (m k : Nat) : lst (Array.replicate m false) k = false := by unfold lst; simp [Array.getElem?_replicate]; split <;> rfl
theorem Drawn.region {us : List Rc} {s0 : ST} {id : Nat} (D : Drawn P GB C n ops us s0) (hm : P.follows .mixedOrders = true) (hk : SX GB C n (sel (fun _ => true) 0 s0 us).1 (sel (fun _ => true) 0 s0 us).2 (Q .normal)) : SX GB C n s0.1 s0.2 ((Code.region id ops true).wp P Q) := by
 have h := D.walk hk ops.size (Array.replicate ops.size false) (by simp) (fun i o _ hi => by rw [lst0] at hi; cases hi) (by unfold un; exact Nat.le_trans (List.length_filter_le _ _) (by simp))
 have e : sel (lst (Array.replicate ops.size false)) 0 s0 us = s0 := by
   have : ∀ (l : List Rc) (k : Nat) (s : ST), sel (lst (Array.replicate ops.size false)) k s l = s := fun l => by
     induction l with
     | nil => intro k s; rfl
     | cons y l ih =>
       intro k s
       simp only [sel]
       rw [ih]
       rw [lst0]; rfl
   exact this us 0 s0
 rw [e] at h
 exact h.drew.imp fun a w k => wp_region_any hm k
end
end Go.Sx
end

section
set_option maxRecDepth 100000
namespace Go.Sx
open Go
abbrev FrX := List (Nat × FX)
abbrev OwX := List (Nat × Option Bk)
def lookX : FrX → Nat → Option FX
 | [], _ => none
 | (k, v) :: t, j => bif Nat.beq k j then some v else lookX t j
def lookO : OwX → Nat → Option Bk
 | [], _ => none
 | (k, v) :: t, j => bif Nat.beq k j then v else lookO t j
def setK {α : Type} : OwX → Nat → Option Bk → (OwX → α) → α
 | [], nm, B, k => k [(nm, B)]
 | (j, v) :: t, nm, B, k => bif Nat.beq j nm then k ((nm, B) :: t) else setK t nm B fun t' => k ((j, v) :: t')
def setsK {α : Type} : OwX → List (Nat × Option Bk) → (OwX → α) → α
 | own, [], k => k own
 | own, (nm, B) :: t, k => setK own nm B fun own' => setsK own' t k
def setO (own : OwX) (nm : Nat) (B : Option Bk) : OwX := setK own nm B id
def setsO (own : OwX) (l : List (Nat × Option Bk)) : OwX := setsK own l id
theorem setK_eq {α : Type} {nm : Nat} {B : Option Bk} : ∀ {own : OwX} {k : OwX → α}, setK own nm B k = k (setO own nm B)
 | [], k => rfl
 | (j, v) :: t, k => by
   unfold setO setK
   cases Nat.beq j nm with
   | true => rfl
   | false => rw [cond_false, cond_false, setK_eq (own := t), setK_eq (own := t)]; rfl
theorem setsK_eq {α : Type} : ∀ {l : List (Nat × Option Bk)} {own : OwX} {k : OwX → α}, setsK own l k = k (setsO own l)
 | [], own, k => rfl
 | (nm, B) :: t, own, k => by
   unfold setsO setsK
   rw [setK_eq, setK_eq, setsK_eq (l := t), setsK_eq (l := t)]
   rfl
theorem lookX_cons (k : Nat) (v : FX) (t : FrX) (j : Nat) : lookX ((k, v) :: t) j = if j = k then some v else lookX t j := by
 simp only [lookX]
 by_cases h : k = j
 · simp [h]
 · have : Nat.beq k j = false := by
     cases hb : Nat.beq k j with
     | false => rfl
     | true => exact absurd (Nat.eq_of_beq_eq_true hb) h
   simp [this, Ne.symm h]
theorem lookO_cons (k : Nat) (v : Option Bk) (t : OwX) (j : Nat) : lookO ((k, v) :: t) j = if j = k then v else lookO t j := by
 simp only [lookO]
 by_cases h : k = j
 · simp [h]
 · have : Nat.beq k j = false := by
     cases hb : Nat.beq k j with
     | false => rfl
     | true => exact absurd (Nat.eq_of_beq_eq_true hb) h
   simp [this, Ne.symm h]
theorem lookO_set {nm : Nat} {B : Option Bk} (j : Nat) : ∀ own : OwX, lookO (setO own nm B) j = if j = nm then B else lookO own j
 | [] => lookO_cons nm B [] j
 | (k, v) :: t => by
   have ih := lookO_set (nm := nm) (B := B) j t
   unfold setO setK
   cases hb : Nat.beq k nm with
   | true =>
     have e := Nat.eq_of_beq_eq_true hb; subst e
     rw [cond_true, id, lookO_cons, lookO_cons]
     by_cases h : j = k <;> simp [h]
   | false =>
     have hne : k ≠ nm := fun e => by subst e; simp at hb
     rw [cond_false, setK_eq, id, lookO_cons, lookO_cons, ih]
     by_cases h : j = k
     · subst h; simp [hne]
     · simp [h]
theorem lookO_sets : ∀ (l : List (Nat × Option Bk)) (own : OwX), lookO (setsO own l) = upB (lookO own) l
 | [], own => rfl
 | (nm, B) :: t, own => by
   have : setsO own ((nm, B) :: t) = setsO (setO own nm B) t := by rw [setsO, setsK, setK_eq]; rfl
   rw [this, lookO_sets t]
   simp only [upB]
   congr 1
   funext j
   exact lookO_set j own
def putX (fr : FrX) (dst : Option Nat) (f : FX) : FrX := match dst with
 | some d => (d, f) :: fr
 | none => fr
theorem lookX_put {fr : FrX} {dst : Option Nat} {f : FX} : lookX (putX fr dst f) = upL (lookX fr) dst f := by
 cases dst with
 | none => rfl
 | some d => funext j; exact lookX_cons d f fr j
/-! ### one operation -/
def stepO (T : TT) (n : Nat) (ops : Array Oper) (lk : LK) (bk : BM) : Oper → Option CR
 | ⟨dst, op, _, _, _, gd⟩ => bif dstOk n dst then (match gd with
   | none => core T lk bk dst op
   | some (j, b) => match ops[j]? with
     | some oj => match oj.dst with
       | some d => match lk d with
         | some .tt => bif b then core T lk bk dst op else some ⟨none, .un, [], []⟩
         | some .ff => bif b then some ⟨none, .un, [], []⟩ else core T lk bk dst op
         | some .un => some ⟨none, .un, [], []⟩
         | _ => none
       | none => none
     | none => none) else none
section
variable {P : Program} {T : TT} {GB : Gh} {C : Ctx} {n : Nat} {lk : LK} {bk : BM} {ops : Array Oper}
theorem OpR.toS {dst : Option Nat} {op : Op} {ty : TypeId} {pos : String} {af : Array Edge} {gd : Option (Nat × Bool)} {f : FX} {bl : List (Nat × Option Bk)} {nw : List Nat} (h : OpR P GB C n lk bk ⟨dst, op, ty, pos, af, gd⟩ f bl nw) (hd : dstOk n dst = true)
  (hw : ∀ ρ G ov a w, RlX GB C n lk bk ρ G ov a w → Region.wanted ⟨dst, op, ty, pos, af, gd⟩ (yielded ops a.tmps) = true) : OpS P GB C n ops lk bk ⟨dst, op, ty, pos, af, gd⟩ f bl nw := by
 intro Q tl tb K s1 s2 hf hk
 have := h hd tl tb K s1 s2 hf hk
 refine ⟨fun ρ G ov a w r => ?_⟩
 unfold wO
 rw [if_pos (hw ρ G ov a w (r.mono s1 s2))]
 exact this.run ρ G ov a w r Q
theorem OpS.skip {dst : Option Nat} {op : Op} {ty : TypeId} {pos : String} {af : Array Edge} {gd : Option (Nat × Bool)} (hd : dstOk n dst = true)
  (hw : ∀ ρ G ov a w, RlX GB C n lk bk ρ G ov a w → Region.wanted ⟨dst, op, ty, pos, af, gd⟩ (yielded ops a.tmps) = false) : OpS P GB C n ops lk bk ⟨dst, op, ty, pos, af, gd⟩ .un [] [] := by
 intro Q tl tb K s1 s2 hf hk
 refine ⟨fun ρ G ov a w r => ?_⟩
 unfold wO
 rw [hw ρ G ov a w (r.mono s1 s2)]
 exact hk.run ρ G ov _ w (r.put rfl (r.putA undef hd))
theorem yielded_x {ρ : NE} {G : Gh} {ov : List Own} {a : Act} {w : World} (r : RlX GB C n lk bk ρ G ov a w) {j d : Nat} {oj : Oper} {f : FX} (hj : ops[j]? = some oj) (hd : oj.dst = some d) (hf : lk d = some f) : ∃ y, IsX ρ G f y ∧ yielded ops a.tmps j = match y with | .bool b => some b | _ => none := by
 obtain ⟨y, h1, h2⟩ := r.fx d f hf
 refine ⟨y, h2, ?_⟩
 unfold yielded
 rw [hj]
 simp only [Option.bind_some, hd, h1]
 cases y <;> rfl
theorem stepO_ok {o : Oper} {r : CR} (hT : TOK P T) (h : stepO T n ops lk bk o = some r) (hv : ∀ p, r.vc = some p → p) : OpS P GB C n ops lk bk o r.f r.bl r.nw ∧ dstOk n o.dst = true := by
 obtain ⟨dst, op, ty, pos, af, gd⟩ := o
 simp only [stepO] at h
 cases hd : dstOk n dst with
 | false => rw [hd] at h; cases h
 | true =>
   rw [hd, cond_true] at h
   refine ⟨?_, rfl⟩
   split at h
   · exact (core_ok hT h hv).toS hd fun _ _ _ _ _ _ => rfl
   · rename_i j b
     split at h <;> try (cases h; done)
     rename_i oj hj
     split at h <;> try (cases h; done)
     rename_i d hdj
     split at h <;> try (cases h; done)
     · rename_i hl
       have wt : ∀ ρ G ov (a : Act) w, RlX GB C n lk bk ρ G ov a w → Region.wanted ⟨dst, op, ty, pos, af, some (j, b)⟩ (yielded ops a.tmps) = b := fun ρ G ov a w r => by
         obtain ⟨y, h1, h2⟩ := yielded_x r hj hdj hl
         cases h1
         simp only [Region.wanted, h2]; cases b <;> rfl
       cases b with
       | true => exact (core_ok hT h hv).toS hd wt
       | false => cases h; exact .skip hd wt
     · rename_i hl
       have wt : ∀ ρ G ov (a : Act) w, RlX GB C n lk bk ρ G ov a w → Region.wanted ⟨dst, op, ty, pos, af, some (j, b)⟩ (yielded ops a.tmps) = !b := fun ρ G ov a w r => by
         obtain ⟨y, h1, h2⟩ := yielded_x r hj hdj hl
         cases h1
         simp only [Region.wanted, h2]; cases b <;> rfl
       cases b with
       | true => cases h; exact .skip hd wt
       | false => exact (core_ok hT h hv).toS hd wt
     · rename_i hl
       cases h
       refine .skip hd fun ρ G ov a w r => ?_
       obtain ⟨y, h1, h2⟩ := yielded_x r hj hdj hl
       cases h1
       simp only [Region.wanted, h2]; rfl
end
/-! ### places in the code -/
inductive Kt where
 | sq (c : Code)
 | bl (id : Nat)
 | sc
 | ag (A : Act → World → Prop)
def cQ (P : Program) (Q0 : Exit → Act → World → Prop) : List Kt → Exit → Act → World → Prop
 | [] => Q0
 | .sq y :: K => Exit.then (y.wp P (cQ P Q0 K)) (cQ P Q0 K)
 | .bl id :: K => Exit.inBlock id (cQ P Q0 K)
 | .sc :: K => Exit.noGoto (cQ P Q0 K)
 | .ag A :: K => Exit.then A (cQ P Q0 K)
inductive Cf where
 | code (c : Code) (K : List Kt)
 | ops (ops : Array Oper) (r : List Oper) (K : List Kt)
 | dr (id : Nat) (ops : Array Oper) (fr0 : FrX) (own0 : OwX) (us : List Rc) (r : List Oper) (K : List Kt)
 | ex (e : Exit) (K : List Kt)
structure DrI (P : Program) (GB : Gh) (C : Ctx) (n : Nat) (ops : Array Oper) (fr0 : FrX) (own0 : OwX) (us : List Rc) (r : List Oper) (fr : FrX) (own : OwX) : Prop where
 pre : ∃ pre, ops.toList = pre ++ r ∧ pre.length = us.length
 st : sel (fun _ => true) 0 (lookX fr0, lookO own0) us = (lookX fr, lookO own)
 snd : ∀ i u o, us[i]? = some u → ops[i]? = some o → o.dst = u.d ∧ OpS P GB C n ops (rsX u.rs (sel (fun j => decide (j < i)) 0 (lookX fr0, lookO own0) us).1) (rsX u.rn (sel (fun j => decide (j < i)) 0 (lookX fr0, lookO own0) us).2) o u.f u.bl u.nw
def CfS (P : Program) (GB : Gh) (C : Ctx) (n : Nat) (Q0 : Exit → Act → World → Prop) (fr : FrX) (own : OwX) : Cf → Prop
 | .code c K => SX GB C n (lookX fr) (lookO own) (c.wp P (cQ P Q0 K))
 | .ops ops r K => SX GB C n (lookX fr) (lookO own) (wpL P ops (cQ P Q0 K) r)
 | .dr id ops fr0 own0 us r K => DrI P GB C n ops fr0 own0 us r fr own → SX GB C n (lookX fr0) (lookO own0) ((Code.region id ops true).wp P (cQ P Q0 K))
 | .ex e K => SX GB C n (lookX fr) (lookO own) (cQ P Q0 K e)
structure Res where
 vc : List Prop
 fr : FrX
 own : OwX
 cf : Cf
def acc (v : Option Prop) (l : List Prop) : List Prop := match v with
 | some p => p :: l
 | none => l
def accK {α : Type} (v : Option Prop) (l : List Prop) (k : List Prop → α) : α := match v with
 | some p => k (p :: l)
 | none => k l
theorem accK_eq {α : Type} {v : Option Prop} {l : List Prop} {k : List Prop → α} : accK v l k = k (acc v l) := by cases v <;> rfl
def putK {α : Type} (fr : FrX) (dst : Option Nat) (f : FX) (k : FrX → α) : α := match dst with
 | some d => k ((d, f) :: fr)
 | none => k fr
theorem putK_eq {α : Type} {fr : FrX} {dst : Option Nat} {f : FX} {k : FrX → α} : putK fr dst f k = k (putX fr dst f) := by cases dst <;> rfl
def freshL (nw : List Nat) (dst : Option Nat) (fr : FrX) (own : OwX) : Bool := nw.all fun nm => fr.all (fun e => opEq dst e.1 || !menF nm e.2) && own.all fun e => Nat.beq e.1 nm || !menB nm e.2
def tmpsOf : List Operand → List Nat
 | [] => []
 | .tmp t :: r => t :: tmpsOf r
 | _ :: r => tmpsOf r
def namesOf (fr : FrX) : List Nat → List Nat
 | [] => []
 | t :: r => match lookX fr t with
   | some f => match f.nm with
     | some nm => nm :: namesOf fr r
     | none => namesOf fr r
   | none => namesOf fr r
def slotsOf (ops : Array Oper) (o : Oper) : List Nat := match o.guard with
 | some (j, _) => match ops[j]? with
   | some oj => match oj.dst with
     | some d => d :: tmpsOf o.op.operands.toList
     | none => tmpsOf o.op.operands.toList
   | none => tmpsOf o.op.operands.toList
 | none => tmpsOf o.op.operands.toList
def go (T : TT) (n : Nat) : Nat → List Prop → FrX → OwX → Cf → Res
 | 0, l, fr, own, cf => ⟨l, fr, own, cf⟩
 | k + 1, l, fr, own, .code c K => match c with
   | .seq x y => go T n k l fr own (.code x (.sq y :: K))
   | .region id ops d => bif d then go T n k l fr own (.dr id ops fr own [] ops.toList K) else go T n k l fr own (.ops ops ops.toList K)
   | .skip => go T n k l fr own (.ex .normal K)
   | .ret => go T n k l fr own (.ex .ret K)
   | .exit id => go T n k l fr own (.ex (.exit id) K)
   | .block id c => go T n k l fr own (.code c (.bl id :: K))
   | .scope c => go T n k l fr own (.code c (.sc :: K))
   | .label _ => go T n k l fr own (.ex .normal K)
   | .cond c x y => match evX (lookX fr) c with
     | some .tt => go T n k l fr own (.code x K)
     | some .ff => go T n k l fr own (.code y K)
     | _ => ⟨l, fr, own, .code (.cond c x y) K⟩
   | c => ⟨l, fr, own, .code c K⟩
 | k + 1, l, fr, own, .ex e K => match K with
   | .sq y :: K' => match e with
     | .normal => go T n k l fr own (.code y K')
     | e => go T n k l fr own (.ex e K')
   | .bl id :: K' => match e with
     | .exit j => bif Nat.beq j id then go T n k l fr own (.ex .normal K') else go T n k l fr own (.ex (.exit j) K')
     | e => go T n k l fr own (.ex e K')
   | .sc :: K' => bif notGoto e then go T n k l fr own (.ex e K') else ⟨l, fr, own, .ex e (.sc :: K')⟩
   | .ag A :: K' => match e with
     | .normal => ⟨l, fr, own, .ex .normal (.ag A :: K')⟩
     | e => go T n k l fr own (.ex e K')
   | [] => ⟨l, fr, own, .ex e []⟩
 | k + 1, l, fr, own, .ops ops r K => match r with
   | [] => go T n k l fr own (.ex .normal K)
   | o :: r' => match stepO T n ops (lookX fr) (lookO own) o with
     | some ⟨v, f, bl, nw⟩ => bif freshL nw o.dst fr own then setsK own bl fun own' => accK v l fun l' => putK fr o.dst f fun fr' => go T n k l' fr' own' (.ops ops r' K) else ⟨l, fr, own, .ops ops (o :: r') K⟩
     | none => ⟨l, fr, own, .ops ops (o :: r') K⟩
 | k + 1, l, fr, own, .dr id ops fr0 own0 us r K => match r with
   | [] => go T n k (((okAll (masks ops.toList []) [] us && okEdge 0 ops.toList && fresh0 us fr0 own0) = true) :: l) fr own (.ex .normal K)
   | o :: r' => fcL (slotsOf ops o) fun rs => fcL (namesOf fr rs) fun rn => match stepO T n ops (rsX rs (lookX fr)) (rsX rn (lookO own)) o with
     | some ⟨v, f, bl, nw⟩ => setsK own bl fun own' => fcL (us ++ [⟨rs, o.dst, f, rn, bl, nw⟩]) fun us' => accK v l fun l' => putK fr o.dst f fun fr' => go T n k l' fr' own' (.dr id ops fr0 own0 us' r' K)
     | none => ⟨l, fr, own, .dr id ops fr0 own0 us (o :: r') K⟩
def allP : List Prop → Prop
 | [] => True
 | [p] => p
 | p :: t => allP t ∧ p
theorem allP_cons {p : Prop} {t : List Prop} : allP (p :: t) ↔ allP t ∧ p := by cases t <;> simp [allP]
theorem allP_acc {v : Option Prop} {l : List Prop} (h : allP (acc v l)) : allP l ∧ ∀ p, v = some p → p := by
 cases v with
 | none => exact ⟨h, fun p e => by cases e⟩
 | some q => obtain ⟨h1, h2⟩ := allP_cons.1 h; exact ⟨h1, fun p e => by cases e; exact h2⟩
theorem lookX_mem {f : FX} {k : Nat} : ∀ {fr : FrX}, lookX fr k = some f → (k, f) ∈ fr
 | [], h => by cases h
 | (j, g) :: t, h => by
   rw [lookX_cons] at h
   split at h
   · cases h; rename_i e; rw [e]; exact List.mem_cons_self
   · exact List.mem_cons_of_mem _ (lookX_mem h)
theorem lookO_mem {B : Bk} {k : Nat} : ∀ {own : OwX}, lookO own k = some B → (k, some B) ∈ own
 | [], h => by cases h
 | (j, g) :: t, h => by
   rw [lookO_cons] at h
   split at h
   · rename_i e; rw [e, h]; exact List.mem_cons_self
   · exact List.mem_cons_of_mem _ (lookO_mem h)
theorem freshL_ok {nw : List Nat} {dst : Option Nat} {fr : FrX} {own : OwX} (h : freshL nw dst fr own = true) : FreshX nw dst (lookX fr) (lookO own) := fun nm hnm => by
 have := List.all_eq_true.1 h nm hnm
 simp only [Bool.and_eq_true] at this
 refine ⟨fun k f hk e hc => ?_, fun k B hk e hm => ?_⟩
 · have := List.all_eq_true.1 this.1 _ (lookX_mem e)
   simp only [Bool.or_eq_true, Bool.not_eq_true', menF] at this
   rcases this with h | h
   · exact hk (opEq_iff.1 h).symm
   · rw [opEq_iff.2 hc] at h; cases h
 · have := List.all_eq_true.1 this.2 _ (lookO_mem e)
   simp only [Bool.or_eq_true, Bool.not_eq_true'] at this
   rcases this with h | h
   · exact hk (Nat.eq_of_beq_eq_true h)
   · rw [menB_of hm] at h; cases h
theorem fresh0_ok {us : List Rc} {fr : FrX} {own : OwX} (h : fresh0 us fr own = true) : ∀ r ∈ us, ∀ nm ∈ r.nw, (∀ k f, lookX fr k = some f → f.nm ≠ some nm) ∧ ∀ k B, lookO own k = some B → ¬ B.men nm := fun r hr nm hnm => by
 have := List.all_eq_true.1 (List.all_eq_true.1 h r hr) nm hnm
 simp only [Bool.and_eq_true] at this
 refine ⟨fun k f e hc => ?_, fun k B e hm => ?_⟩
 · have := List.all_eq_true.1 this.1 _ (lookX_mem e)
   simp only [Bool.not_eq_true', menF] at this
   rw [opEq_iff.2 hc] at this; cases this
 · have := List.all_eq_true.1 this.2 _ (lookO_mem e)
   simp only [Bool.not_eq_true'] at this
   rw [menB_of hm] at this; cases this
section
variable {P : Program} {T : TT} {GB : Gh} {C : Ctx} {n : Nat} {Q0 : Exit → Act → World → Prop} {fr fr0 : FrX} {own own0 : OwX} {ops : Array Oper} {us : List Rc} {r : List Oper} {o : Oper} {K : List Kt}
theorem sel_app {p q : Nat → Bool} {u : Rc} : ∀ {us : List Rc} {k : Nat} {s : ST}, (∀ j, j < us.length → p (k + j) = q (k + j)) → sel p k s (us ++ [u]) = if p (k + us.length) then u.ap (sel q k s us) else sel q k s us
 | [], k, s, h => rfl
 | x :: t, k, s, h => by
   simp only [List.cons_append, sel]
   rw [sel_app (q := q) fun j hj => by have := h (j + 1) (by simp; omega); rwa [show k + (j + 1) = k + 1 + j by omega] at this]
   have h0 := h 0 (by simp)
   rw [Nat.add_zero] at h0
   rw [h0, List.length_cons, show k + 1 + t.length = k + (t.length + 1) by omega]
theorem DrI.push (D : DrI P GB C n ops fr0 own0 us (o :: r) fr own) {rs rn nw : List Nat} {f : FX} {bl : List (Nat × Option Bk)} (h : OpS P GB C n ops (rsX rs (lookX fr)) (rsX rn (lookO own)) o f bl nw) : DrI P GB C n ops fr0 own0 (us ++ [⟨rs, o.dst, f, rn, bl, nw⟩]) r (putX fr o.dst f) (setsO own bl) := by
 obtain ⟨pre, hp, hl⟩ := D.pre
 refine ⟨⟨pre ++ [o], by rw [hp]; simp, by simp [hl]⟩, ?_, fun i u o' hu ho => ?_⟩
 · rw [sel_app (q := fun _ => true) fun _ _ => rfl, if_pos rfl, D.st]
   simp only [Rc.ap]
   rw [lookX_put, lookO_sets]
 · rw [List.getElem?_append] at hu
   split at hu
   · rename_i hi
     obtain ⟨h1, h2⟩ := D.snd i u o' hu ho
     rw [sel_app (q := fun j => decide (j < i)) fun _ _ => rfl, if_neg (by simp; omega)]
     exact ⟨h1, h2⟩
   · rename_i hi
     by_cases e : i = us.length
     · subst e
       simp at hu; subst hu
       have ho' : ops[us.length]? = some o := by
         have : ops.toList[us.length]? = some o := by rw [hp, ← hl]; simp
         simpa using this
       rw [ho'] at ho; cases ho
       refine ⟨rfl, ?_⟩
       rw [sel_app (q := fun _ => true) fun j hj => by simpa using hj, if_neg (by simp), D.st]
       exact h
     · rw [List.getElem?_eq_none (by simp; omega)] at hu; cases hu
theorem DrI.done (D : DrI P GB C n ops fr0 own0 us [] fr own) {id : Nat} (hm : P.follows .mixedOrders = true) (h : (okAll (masks ops.toList []) [] us && okEdge 0 ops.toList && fresh0 us fr0 own0) = true) (hk : SX GB C n (lookX fr) (lookO own) (cQ P Q0 K .normal)) :
  SX GB C n (lookX fr0) (lookO own0) ((Code.region id ops true).wp P (cQ P Q0 K)) := by
 obtain ⟨pre, hp, hl⟩ := D.pre
 simp only [Bool.and_eq_true] at h
 have D' : Drawn P GB C n ops us (lookX fr0, lookO own0) := ⟨by rw [← hl, ← Array.length_toList, hp]; simp, D.snd, h.1.1, h.1.2, fresh0_ok h.2⟩
 exact D'.region hm (by rw [D.st]; exact hk)
theorem SX.op {Q : Exit → Act → World → Prop} {f : FX} {bl : List (Nat × Option Bk)} {nw : List Nat} (h : OpS P GB C n ops (lookX fr) (lookO own) o f bl nw) (hf : FreshX nw o.dst (lookX fr) (lookO own)) (hk : SX GB C n (lookX (putX fr o.dst f)) (lookO (setsO own bl)) (wpL P ops Q r)) : SX GB C n (lookX fr) (lookO own) (wpL P ops Q (o :: r)) := by
 rw [lookX_put, lookO_sets] at hk
 exact h Q _ _ _ (SubX.refl _) (SubX.refl _) hf hk
theorem SX.cond {lk : LK} {bk : BM} {Q : Exit → Act → World → Prop} {c : Operand} {x y : Code} {b : Bool} {f : FX} (hc : evX lk c = some f) (hb : toB f = some b) (h1 : b = true → SX GB C n lk bk (x.wp P Q)) (h2 : b = false → SX GB C n lk bk (y.wp P Q)) : SX GB C n lk bk ((Code.cond c x y).wp P Q) := by
 refine ⟨fun ρ G ov a w r => ?_⟩
 obtain ⟨v, hv, hv'⟩ := r.ev hc
 rw [toB_is hv' hb] at hv
 exact wp_cond_split (opv_eval (frA_ok a) hv) (fun e => (h1 e).run ρ G ov a w r) (fun e => (h2 e).run ρ G ov a w r)
theorem go_ok (hT : TOK P T) (hm : P.follows .mixedOrders = true) : ∀ (k : Nat) (l : List Prop) (fr : FrX) (own : OwX) (cf : Cf), allP (go T n k l fr own cf).vc → allP l ∧ (CfS P GB C n Q0 (go T n k l fr own cf).fr (go T n k l fr own cf).own (go T n k l fr own cf).cf → CfS P GB C n Q0 fr own cf)
 | 0, l, fr, own, cf, h => by simp only [go] at h ⊢; exact ⟨h, id⟩
 | k + 1, l, fr, own, .code c K, h => by
   cases c with
   | seq x y => simp only [go] at h ⊢; obtain ⟨h1, h2⟩ := go_ok hT hm k _ _ _ _ h; exact ⟨h1, fun hk => (h2 hk).imp fun a w q => wp_seq q⟩
   | region id ops d =>
     simp only [go] at h ⊢
     cases d with
     | false => simp only [cond_false] at h ⊢; obtain ⟨h1, h2⟩ := go_ok hT hm k _ _ _ _ h; exact ⟨h1, fun hk => (h2 hk).imp fun a w q => wp_region_L q⟩
     | true => simp only [cond_true] at h ⊢; obtain ⟨h1, h2⟩ := go_ok hT hm k _ _ _ _ h; exact ⟨h1, fun hk => h2 hk ⟨⟨[], rfl, rfl⟩, rfl, fun i u o hu => by simp at hu⟩⟩
   | skip => simp only [go] at h ⊢; obtain ⟨h1, h2⟩ := go_ok hT hm k _ _ _ _ h; exact ⟨h1, fun hk => (h2 hk).imp fun a w q => wp_skip q⟩
   | ret => simp only [go] at h ⊢; obtain ⟨h1, h2⟩ := go_ok hT hm k _ _ _ _ h; exact ⟨h1, fun hk => (h2 hk).imp fun a w q => wp_ret q⟩
   | exit id => simp only [go] at h ⊢; obtain ⟨h1, h2⟩ := go_ok hT hm k _ _ _ _ h; exact ⟨h1, fun hk => (h2 hk).imp fun a w q => wp_exit q⟩
   | block id c => simp only [go] at h ⊢; obtain ⟨h1, h2⟩ := go_ok hT hm k _ _ _ _ h; exact ⟨h1, fun hk => (h2 hk).imp fun a w q => wp_block q⟩
   | scope c => simp only [go] at h ⊢; obtain ⟨h1, h2⟩ := go_ok hT hm k _ _ _ _ h; exact ⟨h1, fun hk => (h2 hk).imp fun a w q => wp_scope_straight q⟩
   | label j => simp only [go] at h ⊢; obtain ⟨h1, h2⟩ := go_ok hT hm k _ _ _ _ h; exact ⟨h1, fun hk => (h2 hk).imp fun a w q => wp_label q⟩
   | cond c x y =>
     simp only [go] at h ⊢
     cases hc : evX (lookX fr) c with
     | none => simp only [hc] at h ⊢; exact ⟨h, id⟩
     | some f =>
       cases f with
       | tt => simp only [hc] at h ⊢; obtain ⟨h1, h2⟩ := go_ok hT hm k _ _ _ _ h; exact ⟨h1, fun hk => SX.cond hc rfl (fun _ => h2 hk) (fun e => by cases e)⟩
       | ff => simp only [hc] at h ⊢; obtain ⟨h1, h2⟩ := go_ok hT hm k _ _ _ _ h; exact ⟨h1, fun hk => SX.cond hc rfl (fun e => by cases e) (fun _ => h2 hk)⟩
       | _ => simp only [hc] at h ⊢; exact ⟨h, id⟩
   | _ => simp only [go] at h ⊢; exact ⟨h, id⟩
 | k + 1, l, fr, own, .ex e K, h => by
   cases K with
   | nil => simp only [go] at h ⊢; exact ⟨h, id⟩
   | cons x K =>
     cases x with
     | sq y => cases e <;> (simp only [go] at h ⊢; obtain ⟨h1, h2⟩ := go_ok hT hm k _ _ _ _ h; exact ⟨h1, fun hk => h2 hk⟩)
     | bl id =>
       cases e with
       | exit j =>
         simp only [go] at h ⊢
         cases hb : Nat.beq j id with
         | true =>
           simp only [hb, cond_true] at h ⊢; obtain ⟨h1, h2⟩ := go_ok hT hm k _ _ _ _ h
           exact ⟨h1, fun hk => (h2 hk).imp fun a w q => by simp only [cQ, Exit.inBlock, Nat.eq_of_beq_eq_true hb, if_true]; exact q⟩
         | false =>
           have hne : j ≠ id := fun e => by subst e; simp at hb
           simp only [hb, cond_false] at h ⊢; obtain ⟨h1, h2⟩ := go_ok hT hm k _ _ _ _ h
           exact ⟨h1, fun hk => (h2 hk).imp fun a w q => by simp only [cQ, Exit.inBlock, hne, if_false]; exact q⟩
       | _ => simp only [go] at h ⊢; obtain ⟨h1, h2⟩ := go_ok hT hm k _ _ _ _ h; exact ⟨h1, fun hk => h2 hk⟩
     | sc =>
       simp only [go] at h ⊢
       cases hb : notGoto e with
       | true =>
         simp only [hb, cond_true] at h ⊢; obtain ⟨h1, h2⟩ := go_ok hT hm k _ _ _ _ h
         refine ⟨h1, fun hk => (h2 hk).imp fun a w q => ?_⟩
         cases e <;> first | exact q | cases hb
       | false => simp only [hb, cond_false] at h ⊢; exact ⟨h, id⟩
     | ag A =>
       cases e with
       | normal => simp only [go] at h ⊢; exact ⟨h, id⟩
       | _ => simp only [go] at h ⊢; obtain ⟨h1, h2⟩ := go_ok hT hm k _ _ _ _ h; exact ⟨h1, fun hk => h2 hk⟩
 | k + 1, l, fr, own, .ops ops r K, h => by
   cases r with
   | nil => simp only [go] at h ⊢; obtain ⟨h1, h2⟩ := go_ok hT hm k _ _ _ _ h; exact ⟨h1, fun hk => h2 hk⟩
   | cons o r =>
     simp only [go] at h ⊢
     cases hs : stepO T n ops (lookX fr) (lookO own) o with
     | none => simp only [hs] at h ⊢; exact ⟨h, id⟩
     | some x =>
       obtain ⟨v, f, bl, nw⟩ := x
       simp only [hs] at h ⊢
       cases hf : freshL nw o.dst fr own with
       | false => simp only [hf, cond_false] at h ⊢; exact ⟨h, id⟩
       | true =>
         simp only [hf, cond_true] at h ⊢
         simp only [setsK_eq, accK_eq, putK_eq] at h ⊢
         obtain ⟨h1, h2⟩ := go_ok hT hm k _ _ _ _ h
         obtain ⟨h3, h4⟩ := allP_acc h1
         exact ⟨h3, fun hk => SX.op (stepO_ok hT hs h4).1 (freshL_ok hf) (h2 hk)⟩
 | k + 1, l, fr, own, .dr id ops fr0 own0 us r K, h => by
   cases r with
   | nil =>
     simp only [go] at h ⊢; obtain ⟨h1, h2⟩ := go_ok hT hm k _ _ _ _ h
     obtain ⟨h3, h4⟩ := allP_cons.1 h1
     exact ⟨h3, fun hk D => D.done hm h4 (h2 hk)⟩
   | cons o r =>
     simp only [go, fcL_eq] at h ⊢
     generalize slotsOf ops o = rs at h ⊢
     generalize namesOf fr rs = rn at h ⊢
     cases hs : stepO T n ops (rsX rs (lookX fr)) (rsX rn (lookO own)) o with
     | none => simp only [hs] at h ⊢; exact ⟨h, fun x => x⟩
     | some x =>
       obtain ⟨v, f, bl, nw⟩ := x
       simp only [hs] at h ⊢
       simp only [setsK_eq, accK_eq, putK_eq] at h ⊢
       obtain ⟨h1, h2⟩ := go_ok hT hm k _ _ _ _ h
       obtain ⟨h3, h4⟩ := allP_acc h1
       exact ⟨h3, fun hk D => h2 hk (D.push (stepO_ok hT hs h4).1)⟩
end
end Go.Sx
end

section
set_option maxRecDepth 100000
namespace Go.Sx
open Go Go.Proofs
instance : TyS Tryz.prog 3 := ⟨fun _ => by kernel_rfl, fun _ => by kernel_rfl⟩
instance : TyI Tryz.prog 3 .i64 := ⟨fun _ => by kernel_rfl⟩
instance : TyS Tryz.prog 4 := ⟨fun _ => by kernel_rfl, fun _ => by kernel_rfl⟩
instance : TyZ Tryz.prog 4 (.bool false) := ⟨by kernel_rfl⟩
instance : TyS Tryz.prog 25 := ⟨fun _ => by kernel_rfl, fun _ => by kernel_rfl⟩
instance : TyA Tryz.prog 32 6 := ⟨fun _ => by kernel_rfl, fun _ => by kernel_rfl⟩
instance : TyS Tryz.prog 34 := ⟨fun _ => by kernel_rfl, fun _ => by kernel_rfl⟩
instance : TySl Tryz.prog 34 60 8 112 := ⟨by kernel_rfl, by kernel_rfl⟩
instance : TyN Tryz.prog 34 := ⟨60, by kernel_rfl⟩
instance : TyA Tryz.prog 36 2 := ⟨fun _ => by kernel_rfl, fun _ => by kernel_rfl⟩
instance : TyZ Tryz.prog 36 (.agg ⟨[.int .i64 0, .slice none 0 0]⟩) := ⟨by kernel_rfl⟩
instance : TyF Tryz.prog 36 0 0 := ⟨fun _ _ _ => by kernel_rfl⟩
instance : TyF Tryz.prog 36 1 1 := ⟨fun _ _ _ => by kernel_rfl⟩
instance : TySl Tryz.prog 42 224 1 4 := ⟨by kernel_rfl, by kernel_rfl⟩
instance : TyN Tryz.prog 42 := ⟨224, by kernel_rfl⟩
instance : TyA Tryz.prog 46 6 := ⟨fun _ => by kernel_rfl, fun _ => by kernel_rfl⟩
instance : TyA Tryz.prog 60 8 := ⟨fun _ => by kernel_rfl, fun _ => by kernel_rfl⟩
instance : TyZ Tryz.prog 60 (.agg ⟨[.bool false, .slice none 0 0, .bool false, .slice none 0 0, .bool false, .slice none 0 0, .int .i64 0, .int .i64 0]⟩) := ⟨by kernel_rfl⟩
instance : TyF Tryz.prog 60 0 0 := ⟨fun _ _ _ => by kernel_rfl⟩
instance : TyF Tryz.prog 60 1 6 := ⟨fun _ _ _ => by kernel_rfl⟩
instance : TyF Tryz.prog 60 2 7 := ⟨fun _ _ _ => by kernel_rfl⟩
instance : TySt Tryz.prog 60 [(0, 6), (6, 1), (7, 1)] := ⟨_, fun _ => tyst_u Tryz.underlying60 _, fun _ => by kernel_rfl⟩
instance : TyF Tryz.prog 97 0 0 := ⟨fun _ _ _ => by kernel_rfl⟩
instance : TyF Tryz.prog 97 1 1 := ⟨fun _ _ _ => by kernel_rfl⟩
instance : TyF Tryz.prog 97 2 2 := ⟨fun _ _ _ => by kernel_rfl⟩
instance : TyF Tryz.prog 97 3 8 := ⟨fun _ _ _ => by kernel_rfl⟩
instance : TyF Tryz.prog 97 4 9 := ⟨fun _ _ _ => by kernel_rfl⟩
instance : TyA Tryz.prog 105 9 := ⟨fun _ => by kernel_rfl, fun _ => by kernel_rfl⟩
instance : TyZ Tryz.prog 105 (.agg ⟨[.int .i64 0, .int .i64 0, .pointer none, .int .i64 0, .int .i64 0, .pointer none, .int .i64 0, .int .i64 0, .pointer none]⟩) := ⟨by kernel_rfl⟩
instance : TyS Tryz.prog 108 := ⟨fun _ => by kernel_rfl, fun _ => by kernel_rfl⟩
instance : TySl Tryz.prog 111 196 17 128 := ⟨by kernel_rfl, by kernel_rfl⟩
instance : TyN Tryz.prog 111 := ⟨196, by kernel_rfl⟩
instance : TySl Tryz.prog 112 196 17 128 := ⟨by kernel_rfl, by kernel_rfl⟩
instance : TyF Tryz.prog 132 0 0 := ⟨fun _ _ _ => by kernel_rfl⟩
instance : TyF Tryz.prog 132 1 9 := ⟨fun _ _ _ => by kernel_rfl⟩
instance : TyF Tryz.prog 132 2 10 := ⟨fun _ _ _ => by kernel_rfl⟩
instance : TyF Tryz.prog 132 3 11 := ⟨fun _ _ _ => by kernel_rfl⟩
instance : TyS Tryz.prog 165 := ⟨fun _ => by kernel_rfl, fun _ => by kernel_rfl⟩
instance : TySl Tryz.prog 165 4 1 1 := ⟨by kernel_rfl, by kernel_rfl⟩
instance : TyS Tryz.prog 186 := ⟨fun _ => by kernel_rfl, fun _ => by kernel_rfl⟩
instance : TyZ Tryz.prog 186 (.nilFunc) := ⟨by kernel_rfl⟩
instance : TyI Tryz.prog 199 .u64 := ⟨fun _ => by kernel_rfl⟩
instance : TyZ Tryz.prog 204 (.agg ⟨[.slice none 0 0, .slice none 0 0, .int .i64 0, .bool false]⟩) := ⟨by kernel_rfl⟩
instance : TyF Tryz.prog 204 0 0 := ⟨fun _ _ _ => by kernel_rfl⟩
instance : TyF Tryz.prog 204 1 1 := ⟨fun _ _ _ => by kernel_rfl⟩
instance : TyF Tryz.prog 204 2 2 := ⟨fun _ _ _ => by kernel_rfl⟩
instance : TyF Tryz.prog 204 3 3 := ⟨fun _ _ _ => by kernel_rfl⟩
instance : TySt Tryz.prog 204 [(0, 1), (1, 1), (2, 1), (3, 1)] := ⟨_, fun _ => tyst_u Tryz.underlying204 _, fun _ => by kernel_rfl⟩
instance : TyS Tryz.prog 224 := ⟨fun _ => by kernel_rfl, fun _ => by kernel_rfl⟩
instance : TyZ Tryz.prog 224 (.int .u32 0) := ⟨by kernel_rfl⟩
instance : TyI Tryz.prog 224 .u32 := ⟨fun _ => by kernel_rfl⟩
instance : TyI Tryz.prog 235 .u64 := ⟨fun _ => by kernel_rfl⟩
theorem follows : Tryz.prog.follows .mixedOrders = true := by kernel_rfl
end Go.Sx
end

section
set_option maxRecDepth 100000
namespace Go.Sx
open Go
def tt : TT := [
 (2, ⟨.int .i64, 1, some [.d (.v (.int .i64 0))], false⟩),
 (3, ⟨.int .i64, 1, some [.d (.v (.int .i64 0))], false⟩),
 (4, ⟨.bl, 1, some [.ff], false⟩),
 (5, ⟨.int .u8, 1, some [.d (.v (.int .u8 0))], false⟩),
 (9, ⟨.sc, 1, some [.d (.v (.string ⟨#[]⟩))], false⟩),
 (20, ⟨.fc, 1, some [.d (.v (.nilIface))], false⟩),
 (22, ⟨.sl 3 1 8, 1, some [.nl], false⟩),
 (23, ⟨.pt, 1, some [.d (.v (.pointer none))], false⟩),
 (25, ⟨.pt, 1, some [.d (.v (.pointer none))], false⟩),
 (27, ⟨.sl 224 1 4, 1, some [.nl], false⟩),
 (28, ⟨.sl 224 1 4, 1, some [.nl], false⟩),
 (30, ⟨.st [(0, 4, 1), (1, 28, 1)], 2, some [.ff, .nl], true⟩),
 (32, ⟨.st [(0, 30, 2), (2, 30, 2), (4, 30, 2)], 6, some [.ff, .nl, .ff, .nl, .ff, .nl], true⟩),
 (34, ⟨.sl 60 8 112, 1, some [.nl], false⟩),
 (36, ⟨.st [(0, 3, 1), (1, 34, 1)], 2, some [.d (.v (.int .i64 0)), .nl], true⟩),
 (38, ⟨.fc, 1, some [.d (.v (.nilIface))], false⟩),
 (42, ⟨.sl 224 1 4, 1, some [.nl], false⟩),
 (44, ⟨.st [(0, 4, 1), (1, 42, 1)], 2, some [.ff, .nl], true⟩),
 (46, ⟨.st [(0, 44, 2), (2, 44, 2), (4, 44, 2)], 6, some [.ff, .nl, .ff, .nl, .ff, .nl], true⟩),
 (51, ⟨.sl 32 6 96, 1, some [.nl], false⟩),
 (56, ⟨.sl 65 1 24, 1, some [.nl], false⟩),
 (60, ⟨.st [(0, 46, 6), (6, 3, 1), (7, 3, 1)], 8, some [.ff, .nl, .ff, .nl, .ff, .nl, .d (.v (.int .i64 0)), .d (.v (.int .i64 0))], true⟩),
 (63, ⟨.sl 46 6 96, 1, some [.nl], false⟩),
 (65, ⟨.st [(0, 63, 1)], 1, some [.nl], true⟩),
 (84, ⟨.sl 36 2 32, 1, some [.nl], false⟩),
 (87, ⟨.st [(0, 30, 2), (2, 28, 1)], 3, some [.ff, .nl, .nl], true⟩),
 (89, ⟨.st [(0, 87, 3), (3, 87, 3)], 6, some [.ff, .nl, .nl, .ff, .nl, .nl], true⟩),
 (93, ⟨.st [(0, 22, 1), (1, 3, 1)], 2, some [.nl, .d (.v (.int .i64 0))], true⟩),
 (97, ⟨.st [(0, 4, 1), (1, 4, 1), (2, 32, 6), (8, 25, 1), (9, 25, 1)], 10, some [.ff, .ff, .ff, .nl, .ff, .nl, .ff, .nl, .d (.v (.pointer none)), .d (.v (.pointer none))], true⟩),
 (101, ⟨.pt, 1, some [.d (.v (.pointer none))], false⟩),
 (103, ⟨.st [(0, 2, 1), (1, 2, 1), (2, 101, 1)], 3, some [.d (.v (.int .i64 0)), .d (.v (.int .i64 0)), .d (.v (.pointer none))], true⟩),
 (105, ⟨.st [(0, 103, 3), (3, 103, 3), (6, 103, 3)], 9, some [.d (.v (.int .i64 0)), .d (.v (.int .i64 0)), .d (.v (.pointer none)), .d (.v (.int .i64 0)), .d (.v (.int .i64 0)), .d (.v (.pointer none)), .d (.v (.int .i64 0)), .d (.v (.int .i64 0)), .d (.v (.pointer none))], true⟩),
 (108, ⟨.pt, 1, some [.d (.v (.pointer none))], false⟩),
 (111, ⟨.sl 196 17 128, 1, some [.nl], false⟩),
 (112, ⟨.sl 196 17 128, 1, some [.nl], false⟩),
 (126, ⟨.sl 130 2 32, 1, some [.nl], false⟩),
 (130, ⟨.st [(0, 112, 1), (1, 108, 1)], 2, some [.nl, .d (.v (.pointer none))], true⟩),
 (132, ⟨.st [(0, 105, 9), (9, 108, 1), (10, 108, 1), (11, 4, 1)], 12, some [.d (.v (.int .i64 0)), .d (.v (.int .i64 0)), .d (.v (.pointer none)), .d (.v (.int .i64 0)), .d (.v (.int .i64 0)), .d (.v (.pointer none)), .d (.v (.int .i64 0)), .d (.v (.int .i64 0)), .d (.v (.pointer none)), .d (.v (.pointer none)), .d (.v (.pointer none)), .ff], true⟩),
 (139, ⟨.sl 105 9 72, 1, some [.nl], false⟩),
 (157, ⟨.st [(0, 87, 3), (3, 87, 3), (6, 4, 1), (7, 4, 1)], 8, some [.ff, .nl, .nl, .ff, .nl, .nl, .ff, .ff], true⟩),
 (165, ⟨.sl 4 1 1, 1, some [.nl], false⟩),
 (169, ⟨.sl 108 1 8, 1, some [.nl], false⟩),
 (194, ⟨.st [(0, 103, 3), (3, 103, 3), (6, 4, 1), (7, 4, 1)], 8, some [.d (.v (.int .i64 0)), .d (.v (.int .i64 0)), .d (.v (.pointer none)), .d (.v (.int .i64 0)), .d (.v (.int .i64 0)), .d (.v (.pointer none)), .ff, .ff], true⟩),
 (196, ⟨.st [(0, 105, 9), (9, 194, 8)], 17, some [.d (.v (.int .i64 0)), .d (.v (.int .i64 0)), .d (.v (.pointer none)), .d (.v (.int .i64 0)), .d (.v (.int .i64 0)), .d (.v (.pointer none)), .d (.v (.int .i64 0)), .d (.v (.int .i64 0)), .d (.v (.pointer none)), .d (.v (.int .i64 0)), .d (.v (.int .i64 0)), .d (.v (.pointer none)), .d (.v (.int .i64 0)), .d (.v (.int .i64 0)), .d (.v (.pointer none)), .ff, .ff], true⟩),
 (199, ⟨.int .u64, 1, some [.d (.v (.int .u64 0))], false⟩),
 (202, ⟨.pt, 1, some [.d (.v (.pointer none))], false⟩),
 (204, ⟨.st [(0, 34, 1), (1, 165, 1), (2, 3, 1), (3, 4, 1)], 4, some [.nl, .nl, .d (.v (.int .i64 0)), .ff], true⟩),
 (215, ⟨.sl 38 1 16, 1, some [.nl], false⟩),
 (217, ⟨.sl 42 1 24, 1, some [.nl], false⟩),
 (224, ⟨.int .u32, 1, some [.d (.v (.int .u32 0))], false⟩),
 (235, ⟨.int .u64, 1, some [.d (.v (.int .u64 0))], false⟩),
 (253, ⟨.st [(0, 103, 3), (3, 103, 3)], 6, some [.d (.v (.int .i64 0)), .d (.v (.int .i64 0)), .d (.v (.pointer none)), .d (.v (.int .i64 0)), .d (.v (.int .i64 0)), .d (.v (.pointer none))], true⟩),
 (277, ⟨.st [(0, 44, 2), (2, 42, 1)], 3, some [.ff, .nl, .nl], true⟩),
 (309, ⟨.pt, 1, some [.d (.v (.pointer none))], false⟩),
 (334, ⟨.st [(0, 9, 1)], 1, some [.d (.v (.string ⟨#[]⟩))], true⟩)]
theorem tt_ok : TOK Go.Proofs.Tryz.prog tt := TOK.of (by kernel_rfl)
end Go.Sx
end

section
set_option maxRecDepth 100000
namespace Go.Sx
open Go Go.Proofs
def args0X : Nat → List DV → FrX
 | _, [] => []
 | i, v :: t => (i, .d v) :: args0X (i + 1) t
class Fu where n : Nat
instance fu0 : Fu := ⟨400⟩
section
variable {GB : Gh} {C : Ctx} {n : Nat} {Q0 : Exit → Act → World → Prop} {fr fr' : FrX} {own own' : OwX} {cf cf' : Cf} {vc vc' : List Prop} {ops : Array Oper} {r : List Oper} {o : Oper} {K : List Kt}
theorem gx' {q : Nat} (h : go tt n q [] fr own cf = ⟨vc, fr', own', cf'⟩) (hv : allP vc) (k : CfS Tryz.prog GB C n Q0 fr' own' cf') : CfS Tryz.prog GB C n Q0 fr own cf := by
 have := (go_ok (GB := GB) (C := C) (Q0 := Q0) tt_ok follows q [] fr own cf (by rw [h]; exact hv)).2
 rw [h] at this
 exact this k
theorem gx [fu : Fu] (h : go tt n fu.n [] fr own cf = ⟨vc, fr', own', cf'⟩) (k : CfS Tryz.prog GB C n Q0 fr' own' cf') (hv : allP vc := by first | exact trivial | (simp only [allP]; kernel_rfl) | (simp only [allP]; omega) | (simp only [allP, List.length_map, List.length_set, List.length_replicate]; omega)) : CfS Tryz.prog GB C n Q0 fr own cf := gx' h hv k
/-! ### functions -/
theorem look_args0X : ∀ {ds : List DV} {vs : List Value} {ρ : NE} {G : Gh} (i : Nat), IsLs G ds vs → ∀ k f, lookX (args0X i ds) k = some f → ∃ y, (∃ j, k = i + j ∧ vs[j]? = some y) ∧ IsX ρ G f y
 | [], vs, ρ, G, i, h, k, f, e => by cases e
 | d :: t, vs, ρ, G, i, h, k, f, e => by
   obtain ⟨y, m, rfl, h1, h2⟩ := isl_cons.1 h
   simp only [args0X] at e
   rw [lookX_cons] at e
   split at e
   · cases e; rename_i hk; exact ⟨y, ⟨0, hk, rfl⟩, h1⟩
   · obtain ⟨u, ⟨j, hj, hu⟩, h3⟩ := look_args0X (i + 1) h2 k f e
     exact ⟨u, ⟨j + 1, by omega, by simpa using hu⟩, h3⟩
theorem args_fr {ds : List DV} {vs : List Value} {ρ : NE} {G : Gh} {a : Act} (h : IsLs G ds vs) (hf : FrOk (args0 0 vs) a) (k : Nat) (f : FX) (e : lookX (args0X 0 ds) k = some f) : ∃ y, a.tmps[k]? = some y ∧ IsX ρ G f y := by
 obtain ⟨y, ⟨j, hj, hy⟩, h1⟩ := look_args0X (ρ := ρ) 0 h k f e
 refine ⟨y, hf k y ?_, h1⟩
 rw [hj]; exact look_args0' vs 0 j y hy
theorem fn [fu : Fu] {f : FuncId} {fb : Func} {c : Code} {m : Nat} {ds : List DV} {rv : DV} (hf : Tryz.prog.funcs[f]? = some fb) (hb : fb.body = some c) (hn : (fb.name == "runtime.NumGoroutine") = false) (hm : fb.ntmps = m) (hlen : Nat.ble ds.length m = true)
  (hgo : go tt m fu.n [] (args0X 0 ds) [] (.code c []) = ⟨vc, fr, own, cf⟩) (k : ∀ C : Ctx, CfS Tryz.prog GB C m (bodyPost Tryz.prog fb (RPost C (fun v G' => Is G' rv v))) fr own cf)
  (hv : allP vc := by first | exact trivial | (simp only [allP]; kernel_rfl) | (simp only [allP]; omega) | (simp only [allP, List.length_map, List.length_set, List.length_replicate]; omega)) : PF GB Tryz.prog f ds rv := by
 intro G vs hg hvs
 refine Fn.intro hf hb hn hm (by rw [hvs.len]; exact hlen) fun C _ _ => ?_
 intro a w rl
 have h := gx' (GB := GB) (C := C) (Q0 := bodyPost Tryz.prog fb (RPost C (fun v G' => Is G' rv v))) hgo hv (k C)
 exact h.run (fun _ => ⟨none, 0, 0⟩) G [] a w ⟨hg, rl.h, rl.sz, rl.df, (fun k f e => args_fr hvs rl.fr k f e), (fun nm B e => by cases e), (fun nm nm' B B' e => by cases e)⟩
/-! ### branches -/
theorem CfS.cond {c : Operand} {x y : Code} {b : Bool} {f : FX} (hc : evX (lookX fr) c = some f) (hb : toB f = some b) (h1 : b = true → CfS Tryz.prog GB C n Q0 fr own (.code x K)) (h2 : b = false → CfS Tryz.prog GB C n Q0 fr own (.code y K)) : CfS Tryz.prog GB C n Q0 fr own (.code (.cond c x y) K) := SX.cond hc hb h1 h2
variable {fr1 fr2 : FrX} {own1 own2 : OwX} {cf1 cf2 : Cf} {vc1 vc2 : List Prop}
theorem br [fu1 : Fu] [fu2 : Fu] {p : Prop} {hp : Decidable p} {c : Operand} {x y : Code} (hc : evX (lookX fr) c = some (.pr p hp)) (g1 : go tt n fu1.n [] fr own (.code x K) = ⟨vc1, fr1, own1, cf1⟩) (g2 : go tt n fu2.n [] fr own (.code y K) = ⟨vc2, fr2, own2, cf2⟩)
  (k1 : p → CfS Tryz.prog GB C n Q0 fr1 own1 cf1) (k2 : ¬ p → CfS Tryz.prog GB C n Q0 fr2 own2 cf2)
  (v1 : p → allP vc1 := by intro; first | exact trivial | (simp only [allP]; omega) | (simp only [allP, List.length_map, List.length_set, List.length_replicate]; omega)) (v2 : ¬ p → allP vc2 := by intro; first | exact trivial | (simp only [allP]; omega) | (simp only [allP, List.length_map, List.length_set, List.length_replicate]; omega)) : CfS Tryz.prog GB C n Q0 fr own (.code (.cond c x y) K) :=
 .cond hc rfl (fun h => gx' g1 (v1 (of_decide_eq_true h)) (k1 (of_decide_eq_true h))) (fun h => gx' g2 (v2 (of_decide_eq_false h)) (k2 (of_decide_eq_false h)))
theorem bd [fu1 : Fu] [fu2 : Fu] {p : Prop} {hp : Decidable p} {c : Operand} {x y : Code} (hc : evX (lookX fr) c = some (.d (.v (.bool (@decide p hp))))) (g1 : go tt n fu1.n [] fr own (.code x K) = ⟨vc1, fr1, own1, cf1⟩) (g2 : go tt n fu2.n [] fr own (.code y K) = ⟨vc2, fr2, own2, cf2⟩)
  (k1 : p → CfS Tryz.prog GB C n Q0 fr1 own1 cf1) (k2 : ¬ p → CfS Tryz.prog GB C n Q0 fr2 own2 cf2)
  (v1 : p → allP vc1 := by intro; first | exact trivial | (simp only [allP]; omega) | (simp only [allP, List.length_map, List.length_set, List.length_replicate]; omega)) (v2 : ¬ p → allP vc2 := by intro; first | exact trivial | (simp only [allP]; omega) | (simp only [allP, List.length_map, List.length_set, List.length_replicate]; omega)) : CfS Tryz.prog GB C n Q0 fr own (.code (.cond c x y) K) :=
 .cond hc rfl (fun h => gx' g1 (v1 (of_decide_eq_true h)) (k1 (of_decide_eq_true h))) (fun h => gx' g2 (v2 (of_decide_eq_false h)) (k2 (of_decide_eq_false h)))
theorem bb [fu1 : Fu] [fu2 : Fu] {b : Bool} {c : Operand} {x y : Code} (hc : evX (lookX fr) c = some (.d (.v (.bool b)))) (g1 : go tt n fu1.n [] fr own (.code x K) = ⟨vc1, fr1, own1, cf1⟩) (g2 : go tt n fu2.n [] fr own (.code y K) = ⟨vc2, fr2, own2, cf2⟩)
  (k1 : b = true → CfS Tryz.prog GB C n Q0 fr1 own1 cf1) (k2 : b = false → CfS Tryz.prog GB C n Q0 fr2 own2 cf2)
  (v1 : b = true → allP vc1 := by intro; first | exact trivial | (simp only [allP]; omega) | (simp only [allP, List.length_map, List.length_set, List.length_replicate]; omega)) (v2 : b = false → allP vc2 := by intro; first | exact trivial | (simp only [allP]; omega) | (simp only [allP, List.length_map, List.length_set, List.length_replicate]; omega)) : CfS Tryz.prog GB C n Q0 fr own (.code (.cond c x y) K) :=
 .cond hc rfl (fun h => gx' g1 (v1 h) (k1 h)) (fun h => gx' g2 (v2 h) (k2 h))
theorem lookX_same {d : Nat} {f g : FX} (hl : lookX fr d = some f) (hi : ∀ ρ G y, IsX ρ G f y → IsX ρ G g y) {Φ : Act → World → Prop} (h : SX GB C n (lookX ((d, g) :: fr)) (lookO own) Φ) : SX GB C n (lookX fr) (lookO own) Φ := by
 refine ⟨fun ρ G ov a w r => h.run ρ G ov a w ⟨r.gb, r.h, r.sz, r.df, fun k f' e => ?_, r.bx, r.dj⟩⟩
 rw [lookX_cons] at e
 split at e
 · cases e; rename_i hk; subst hk
   obtain ⟨y, h1, h2⟩ := r.fx _ _ hl
   exact ⟨y, h1, hi _ _ _ h2⟩
 · exact r.fx k f' e
theorem eqF (d : Nat) {f : FX} (g : FX) (hl : lookX fr d = some f) (e : f = g) (h : CfS Tryz.prog GB C n Q0 ((d, g) :: fr) own cf) : CfS Tryz.prog GB C n Q0 fr own cf := by
 have hs : lookX ((d, g) :: fr) = lookX fr := by
   funext k
   rw [lookX_cons]
   split
   · rename_i hk; rw [hk, hl, e]
   · rfl
 cases cf with
 | dr id ops fr0 own0 us r K => exact fun D => h ⟨D.pre, by rw [hs]; exact D.st, D.snd⟩
 | _ => unfold CfS at h ⊢; rw [hs] at h; exact h
theorem kT (d : Nat) {p : Prop} {hp : Decidable p} (hl : lookX fr d = some (.pr p hp)) (h : p) (k : CfS Tryz.prog GB C n Q0 ((d, .tt) :: fr) own (.ops ops r K)) : CfS Tryz.prog GB C n Q0 fr own (.ops ops r K) :=
 lookX_same hl (fun _ _ _ e => by rw [show _ = _ from e, decide_eq_true h]; exact rfl) k
theorem kF (d : Nat) {p : Prop} {hp : Decidable p} (hl : lookX fr d = some (.pr p hp)) (h : ¬ p) (k : CfS Tryz.prog GB C n Q0 ((d, .ff) :: fr) own (.ops ops r K)) : CfS Tryz.prog GB C n Q0 fr own (.ops ops r K) :=
 lookX_same hl (fun _ _ _ e => by rw [show _ = _ from e, decide_eq_false h]; exact rfl) k
theorem nlD (d : Nat) (hl : lookX fr d = some .nl) {e : Exit} (h : CfS Tryz.prog GB C n Q0 ((d, .d (.sl [])) :: fr) own (.ex e K)) : CfS Tryz.prog GB C n Q0 fr own (.ex e K) :=
 lookX_same (g := .d (.sl [])) hl (fun ρ G y hy => (show Is G (.sl []) y from toDX_is (ρ := ρ) (f := .nl) hy rfl)) h
theorem PF.to {f : FuncId} {ds : List DV} {r1 r2 : DV} {P : Program} (h : PF GB P f ds r1) (e : r1 = r2) : PF GB P f ds r2 := e ▸ h
theorem cs [fu1 : Fu] [fu2 : Fu] (d : Nat) {p : Prop} {hp : Decidable p} (hl : lookX fr d = some (.pr p hp)) (g1 : go tt n fu1.n [] ((d, .tt) :: fr) own (.ops ops r K) = ⟨vc1, fr1, own1, cf1⟩) (g2 : go tt n fu2.n [] ((d, .ff) :: fr) own (.ops ops r K) = ⟨vc2, fr2, own2, cf2⟩)
   (k1 : p → CfS Tryz.prog GB C n Q0 fr1 own1 cf1) (k2 : ¬ p → CfS Tryz.prog GB C n Q0 fr2 own2 cf2)
   (v1 : p → allP vc1 := by intro; first | exact trivial | (simp only [allP]; omega) | (simp only [allP, List.length_map, List.length_set, List.length_replicate]; omega)) (v2 : ¬ p → allP vc2 := by intro; first | exact trivial | (simp only [allP]; omega) | (simp only [allP, List.length_map, List.length_set, List.length_replicate]; omega)) : CfS Tryz.prog GB C n Q0 fr own (.ops ops r K) := by
 by_cases h : p
 · exact lookX_same hl (fun _ _ _ e => by rw [show _ = _ from e, decide_eq_true h]; exact rfl) (gx' g1 (v1 h) (k1 h))
 · exact lookX_same hl (fun _ _ _ e => by rw [show _ = _ from e, decide_eq_false h]; exact rfl) (gx' g2 (v2 h) (k2 h))
theorem csb [fu1 : Fu] [fu2 : Fu] (d : Nat) {b : Bool} (hl : lookX fr d = some (.d (.v (.bool b)))) (g1 : go tt n fu1.n [] ((d, .tt) :: fr) own (.ops ops r K) = ⟨vc1, fr1, own1, cf1⟩) (g2 : go tt n fu2.n [] ((d, .ff) :: fr) own (.ops ops r K) = ⟨vc2, fr2, own2, cf2⟩)
   (k1 : b = true → CfS Tryz.prog GB C n Q0 fr1 own1 cf1) (k2 : b = false → CfS Tryz.prog GB C n Q0 fr2 own2 cf2)
   (v1 : b = true → allP vc1 := by intro; first | exact trivial | (simp only [allP]; omega) | (simp only [allP, List.length_map, List.length_set, List.length_replicate]; omega)) (v2 : b = false → allP vc2 := by intro; first | exact trivial | (simp only [allP]; omega) | (simp only [allP, List.length_map, List.length_set, List.length_replicate]; omega)) : CfS Tryz.prog GB C n Q0 fr own (.ops ops r K) := by
 cases h : b with
 | true => exact lookX_same hl (fun _ G _ e => by rw [(is_v (G := G)).1 e, h]; exact rfl) (gx' g1 (v1 h) (k1 h))
 | false => exact lookX_same hl (fun _ G _ e => by rw [(is_v (G := G)).1 e, h]; exact rfl) (gx' g2 (v2 h) (k2 h))
/-! ### an operation that the run does not reckon -/
def hdC : Cf → Option (Array Oper × Oper)
 | .ops ops (o :: _) _ => some (ops, o)
 | .dr _ ops _ _ _ (o :: _) _ => some (ops, o)
 | _ => none
def lkC (fr : FrX) : Cf → LK
 | .dr _ ops _ _ _ (o :: _) _ => rsX (slotsOf ops o) (lookX fr)
 | _ => lookX fr
def bkC (fr : FrX) (own : OwX) : Cf → BM
 | .dr _ ops _ _ _ (o :: _) _ => rsX (namesOf fr (slotsOf ops o)) (lookO own)
 | _ => lookO own
def bad : Res := ⟨[False], [], [], .ex .normal []⟩
def goA (T : TT) (n q : Nat) (fr : FrX) (own : OwX) (cf : Cf) (f : FX) (bl : List (Nat × Option Bk)) (nw : List Nat) : Res := match cf with
 | .ops ops (o :: r) K => bif freshL nw o.dst fr own && dstOk n o.dst then setsK own bl fun own' => putK fr o.dst f fun fr' => go T n q [] fr' own' (.ops ops r K) else bad
 | .dr id ops fr0 own0 us (o :: r) K => bif dstOk n o.dst then fcL (slotsOf ops o) fun rs => fcL (namesOf fr rs) fun rn => setsK own bl fun own' => fcL (us ++ [⟨rs, o.dst, f, rn, bl, nw⟩]) fun us' => putK fr o.dst f fun fr' => go T n q [] fr' own' (.dr id ops fr0 own0 us' r K) else bad
 | _ => bad
def grd (ops : Array Oper) (lk : LK) : Option (Nat × Bool) → Bool
 | none => true
 | some (j, b) => match ops[j]? with
   | some oj => match oj.dst with
     | some d => match lk d with
       | some .tt => b
       | some .ff => !b
       | _ => false
     | none => false
   | none => false
theorem grd_ok {lk : LK} {bk : BM} {o : Oper} (h : grd ops lk o.guard = true) : ∀ ρ G ov a w, RlX GB C n lk bk ρ G ov a w → Region.wanted o (yielded ops a.tmps) = true := fun ρ G ov a w r => by
 unfold Region.wanted
 unfold grd at h
 split at h
 · rename_i e; rw [e]
 · rename_i j b e
   rw [e]
   split at h <;> try (cases h; done)
   rename_i oj hj
   split at h <;> try (cases h; done)
   rename_i d hd
   split at h <;> try (cases h; done)
   · rename_i hl
     obtain ⟨y, h1, h2⟩ := yielded_x r hj hd hl
     cases h1; simp only [h2]; subst h; rfl
   · rename_i hl
     obtain ⟨y, h1, h2⟩ := yielded_x r hj hd hl
     cases h1; simp only [h2]; cases b <;> first | rfl | (simp at h)
theorem uo {q : Nat} {f : FX} {bl : List (Nat × Option Bk)} {nw : List Nat} (hh : hdC cf = some (ops, o)) (hg : grd ops (lkC fr cf) o.guard = true) (h : OpR Tryz.prog GB C n (lkC fr cf) (bkC fr own cf) o f bl nw)
   (hgo : goA tt n q fr own cf f bl nw = ⟨vc, fr', own', cf'⟩) (hv : allP vc) (k : CfS Tryz.prog GB C n Q0 fr' own' cf') : CfS Tryz.prog GB C n Q0 fr own cf := by
 obtain ⟨dst, op, ty, pos, af, gd⟩ := o
 cases cf with
 | ops ops' r K =>
   cases r with
   | nil => cases hh
   | cons o' r =>
     cases hh
     unfold goA at hgo
     cases hc : (freshL nw dst fr own && dstOk n dst) with
     | false => simp only [hc, cond_false, bad] at hgo; cases hgo; exact absurd hv (fun x => x)
     | true =>
       simp only [hc, cond_true] at hgo
       simp only [setsK_eq, putK_eq] at hgo
       simp only [Bool.and_eq_true] at hc
       exact SX.op (h.toS hc.2 (grd_ok hg)) (freshL_ok hc.1) (gx' hgo hv k)
 | dr id ops' fr0 own0 us r K =>
   cases r with
   | nil => cases hh
   | cons o' r =>
     cases hh
     unfold goA at hgo
     cases hc : dstOk n dst with
     | false => simp only [hc, cond_false, bad] at hgo; cases hgo; exact absurd hv (fun x => x)
     | true =>
       simp only [hc, cond_true, fcL_eq] at hgo
       simp only [setsK_eq, putK_eq] at hgo
       intro D
       exact gx' hgo hv k (D.push (h.toS hc (grd_ok hg)))
 | _ => cases hh
def cargs (lk : LK) (fo : Operand) (args : Array Operand) : Option (FuncId × List DV) := match evX lk fo with
 | some (.d (.v (.func (.func f) ⟨[]⟩ ⟨[]⟩))) => match evDs lk args.toList with
   | some ds => some (f, ds)
   | none => none
 | _ => none
theorem cargs_ok {lk : LK} {fo : Operand} {args : Array Operand} {f : FuncId} {ds : List DV} (h : cargs lk fo args = some (f, ds)) : evX lk fo = some (.d (.v (.func (.func f) #[] #[]))) ∧ evDs lk args.toList = some ds := by
 unfold cargs at h
 split at h <;> try (cases h; done)
 rename_i h1
 split at h <;> cases h
 rename_i h2
 exact ⟨h1, h2⟩
theorem ok_call {lk : LK} {bk : BM} {fo : Operand} {args : Array Operand} {tys : Array TypeId} {f : FuncId} {ds : List DV} {rv : DV} {dst : Option Nat} {ty : TypeId} {pos : String} {af : Array Edge} {gd : Option (Nat × Bool)} (ha : cargs lk fo args = some (f, ds)) (hF : PF GB Tryz.prog f ds rv) :
  OpR Tryz.prog GB C n lk bk ⟨dst, .call ⟨.value fo, args, tys⟩, ty, pos, af, gd⟩ (.d rv) [] [] := by
 intro hd tl tb K' s1 s2 hf hk
 refine ⟨fun ρ G ov a w r Q => ?_⟩
 obtain ⟨h1, h2⟩ := cargs_ok ha
 obtain ⟨y, hy, hy'⟩ := (r.mono s1 s2).ev h1
 rw [(is_v (G := G)).1 hy'] at hy
 obtain ⟨vs, h3, h4⟩ := (r.mono s1 s2).evDs h2
 refine zC hy h3 (hF G vs r.gb h4) hd (fun v G' hG hK a' w' rl => ?_) a w Q ⟨r.h, r.sz, frA_ok a, r.df⟩
 exact hk.run ρ G' ov a' w' ⟨r.gb.trans hG.le, rl.h, rl.sz, rl.df, (putA_rel rl).fx (fun k g _ e => by obtain ⟨u, h5, h6⟩ := r.fx k g e; exact ⟨u, h5, h6.up hG.le⟩) hK,
  fun nm B e => by obtain ⟨os, h5, h6⟩ := r.bx nm B e; exact ⟨os, h5.up hG.le, h6⟩, r.dj⟩
theorem ca [fu : Fu] {fo : Operand} {args : Array Operand} {tys : Array TypeId} {f : FuncId} {ds : List DV} {rv : DV} {dst : Option Nat} {ty : TypeId} {pos : String} {af : Array Edge} {gd : Option (Nat × Bool)} (hh : hdC cf = some (ops, ⟨dst, .call ⟨.value fo, args, tys⟩, ty, pos, af, gd⟩))
  (hg : grd ops (lkC fr cf) gd = true) (ha : cargs (lkC fr cf) fo args = some (f, ds)) (hF : PF GB Tryz.prog f ds rv) (hgo : goA tt n fu.n fr own cf (.d rv) [] [] = ⟨vc, fr', own', cf'⟩) (k : CfS Tryz.prog GB C n Q0 fr' own' cf') (hv : allP vc := by first | exact trivial | (simp only [allP]; kernel_rfl) | (simp only [allP]; omega) | (simp only [allP, List.length_map, List.length_set, List.length_replicate]; omega)) : CfS Tryz.prog GB C n Q0 fr own cf :=
 uo hh hg (ok_call ha hF) hgo hv k
/-! ### results -/
def resX (T : TT) (fr : FrX) (own : OwX) : List ResultVar → Option (List DV)
 | [] => some []
 | .tmp t :: rs => match lookX fr t with
   | some f => match toDX f with
     | some d => match resX T fr own rs with
       | some l => some (d :: l)
       | none => none
     | none => none
   | none => none
 | .cell a t :: rs => match lookX fr a with
   | some (.ov nm 0) => match lookT T t with
     | some i => match lookO own nm with
       | some (.o _ cs _) => match i.ag with
         | some (some k) => match takeX cs 0 k with
           | some c => match toDXs c with
             | some d => match resX T fr own rs with
               | some l => some (.ag d :: l)
               | none => none
             | none => none
           | none => none
         | some none => match cs[0]? with
           | some c => match toDX c with
             | some d => match resX T fr own rs with
               | some l => some (d :: l)
               | none => none
             | none => none
           | none => none
         | none => none
       | _ => none
     | none => none
   | _ => none
theorem resX_ok {ρ : NE} {G : Gh} {ov : List Own} {a : Act} {w : World} (h : RlX GB C n (lookX fr) (lookO own) ρ G ov a w) : ∀ {rs : List ResultVar} {ds : List DV}, resX tt fr own rs = some ds → ∃ vs, RVs Tryz.prog (frA a) ov rs vs ∧ IsLs G ds vs := by
 intro rs
 induction rs with
 | nil => intro ds e; cases e; exact ⟨[], .nil, .nil⟩
 | cons x rs ih =>
   intro ds e
   cases x with
   | tmp t =>
     simp only [resX] at e
     split at e <;> try (cases e; done)
     rename_i f hf
     split at e <;> try (cases e; done)
     rename_i d hd
     split at e <;> cases e
     rename_i l hl
     obtain ⟨vs, h1, h2⟩ := ih hl
     obtain ⟨y, h3, h4⟩ := h.fx t f hf
     exact ⟨y :: vs, .tmp (look_frA h3) h1, .cons (toDX_is h4 hd) h2⟩
   | cell t ty =>
     simp only [resX] at e
     split at e <;> try (cases e; done)
     rename_i nm hf
     split at e <;> try (cases e; done)
     rename_i i hi
     split at e <;> try (cases e; done)
     rename_i hb
     obtain ⟨y, h3, h4⟩ := h.fx t _ hf
     obtain ⟨b, m, rfl, h5, h6, h7⟩ := h.own h4 hb
     have oat : OAt ov b m _ _ := ⟨h7⟩
     split at e <;> try (cases e; done)
     · rename_i k ha
       split at e <;> try (cases e; done)
       rename_i c hc
       split at e <;> try (cases e; done)
       rename_i d hd
       split at e <;> cases e
       rename_i l hl
       obtain ⟨vs, h1, h2⟩ := ih hl
       obtain ⟨l', h8, h9⟩ := h6.takeX hc
       exact ⟨.agg ⟨l'⟩ :: vs, .agg (look_frA h3) oat (ti_agA (tt_ok _ _ hi) ha) h8 h1, .cons (is_ag.2 ⟨l', rfl, toDXs_is h9 hd⟩) h2⟩
     · rename_i ha
       split at e <;> try (cases e; done)
       rename_i c hc
       split at e <;> try (cases e; done)
       rename_i d hd
       split at e <;> cases e
       rename_i l hl
       obtain ⟨vs, h1, h2⟩ := ih hl
       obtain ⟨l', h8, h9⟩ := h6.get hc
       exact ⟨l' :: vs, .sc (look_frA h3) oat (ti_agS (tt_ok _ _ hi) ha) h8 h1, .cons (toDX_is h9 hd) h2⟩
def isEnd : Exit → Bool
 | .ret => true
 | .normal => true
 | _ => false
theorem rz {fb : Func} {e : Exit} {ds : List DV} {rv : DV} (hr : resX tt fr own fb.results.toList = some ds) (hd : tupD ds = rv) (he : isEnd e = true := by rfl) : CfS Tryz.prog GB C n (bodyPost Tryz.prog fb (RPost C (fun v G' => Is G' rv v))) fr own (.ex e []) := by
 refine ⟨fun ρ G ov a w r => ?_⟩
 obtain ⟨vs, h1, h2⟩ := resX_ok r hr
 have hk : Is G rv (tupled vs) := hd ▸ tupD_is h2
 cases e with
 | ret => exact zD (C := C) (n := n) (fr := frA a) (own := ov) (G := G) (K := fun v G' => Is G' rv v) h1 hk a w ⟨r.h, r.sz, frA_ok a, r.df⟩
 | normal => exact st_doneN (C := C) (n := n) (fr := frA a) (own := ov) (G := G) (K := fun v G' => Is G' rv v) h1 hk a w ⟨r.h, r.sz, frA_ok a, r.df⟩
 | _ => cases he
end
end Go.Sx
end
