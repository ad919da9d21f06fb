/-
  The abstract machine: names anew; calls that borrow a variable. The abstract machine: functions whose result is one of a family. The abstract machine: calls whose outcome is one of a family (borrowed variables, new variables, rows handed back). The abstract machine: calls that borrow a variable and hand back a row. The abstract machine: functions that hand back a new variable. Zero values of the program's types as deep values. Package nat: the functions without a loop over two numbers. DERIVED: THE SHELF's CONTRACTS AT THIS DUMP, IN PLAIN WORDS (tools/lay-plain.mjs out of 'TryzShelf.lean', which tools/lay-shelf.mjs wrote): THE SAME DECLARATIONS UNDER THE SAME NAMES: 'import', 'namespace', 'open', 'def', 'theorem' AND NOTHING ELSE: no command of the shelf's: FOR A HAND-IN. Each laying: the table of numbers ('.._ren') and one theorem, a field a fact of the dump's own or the kernel's comparison; each contract: ONE APPLICATION. Package nat: words, the number of digits, comparison.
-/
import Derived.Test.YtkijgpopaaknfaaGreatDoorMd7
import Derived.Shelf.Small.Bits
import Derived.Shelf.Bits.Mul64
import Derived.Test.YtkijgpopaaknfaaGreatDoorProg
set_option linter.unusedSimpArgs false
set_option linter.unusedVariables false
section
set_option maxRecDepth 100000
namespace Go.Sx
open Go Go.Proofs
section
variable {GB : Gh} {C : Ctx} {n : Nat} {Q0 : Exit → Act → World → Prop} {fr fr' : FrX} {own own' : OwX} {cf cf' : Cf} {vc : List Prop} {ops : Array Oper} {o : Oper} {K : List Kt} {r : List Oper}
/-! ### names anew -/
def rnN (x y m : Nat) (k : Option Nat) : Option Nat := bif Nat.beq m x then some y else bif Nat.beq m y then none else k
def rnX (x y : Nat) : FX → FX
 | .rw m => bif Nat.beq m x then .rw y else bif Nat.beq m y then .no else .rw m
 | .ov m o => bif Nat.beq m x then .ov y o else bif Nat.beq m y then .no else .ov m o
 | .be m s i j => bif Nat.beq m x then .be y s i j else bif Nat.beq m y then .no else .be m s i j
 | .bx tp pre m post => bif Nat.beq m x then .bx tp pre y post else bif Nat.beq m y then .no else .bx tp pre m post
 | f => f
def rnB (x y : Nat) : Option Bk → Option Bk
 | some (.o ty cs lo) => some (.o ty (cs.map (rnX x y)) lo)
 | B => B
def rnK (x y k : Nat) : Nat := bif Nat.beq k x then y else bif Nat.beq k y then x else k
def mapK {α : Type} (g : FX → FX) : List FX → (List FX → α) → α
 | [], k => k []
 | f :: t, k => mapK g t fun t' => fcX (g f) fun f' => k (f' :: t')
theorem mapK_eq {α : Type} {g : FX → FX} : ∀ {cs : List FX} {k : List FX → α}, mapK g cs k = k (cs.map g)
 | [], k => rfl
 | f :: t, k => by simp only [mapK, fcX_eq]; rw [mapK_eq]; rfl
def mapF {α : Type} (g : FX → FX) : FrX → (FrX → α) → α
 | [], k => k []
 | (j, f) :: t, k => mapF g t fun t' => fcX (g f) fun f' => k ((j, f') :: t')
theorem mapF_eq {α : Type} {g : FX → FX} : ∀ {fr : FrX} {k : FrX → α}, mapF g fr k = k (fr.map fun e => (e.1, g e.2))
 | [], k => rfl
 | (j, f) :: t, k => by simp only [mapF, fcX_eq]; rw [mapF_eq]; rfl
def rnO {α : Type} (x y : Nat) : OwX → (OwX → α) → α
 | [], k => k []
 | (j, B) :: t, k => rnO x y t fun t' => bif Nat.beq j y then k ((x, none) :: t') else match B with
   | some (.o ty cs lo) => mapK (rnX x y) cs fun cs' => bif Nat.beq j x then k ((y, some (.o ty cs' lo)) :: t') else k ((j, some (.o ty cs' lo)) :: t')
   | B => bif Nat.beq j x then k ((y, B) :: t') else k ((j, B) :: t')
theorem rnO_eq {α : Type} {x y : Nat} : ∀ {own : OwX} {k : OwX → α}, rnO x y own k = k (own.map fun e => (bif Nat.beq e.1 y then x else bif Nat.beq e.1 x then y else e.1, bif Nat.beq e.1 y then none else rnB x y e.2))
 | [], k => rfl
 | (j, B) :: t, k => by
   simp only [rnO, rnO_eq (own := t), List.map_cons]
   cases Nat.beq j y with
   | true => rfl
   | false =>
     cases B with
     | none => cases Nat.beq j x <;> rfl
     | some B => cases B <;> cases Nat.beq j x <;> simp only [cond_false, cond_true, mapK_eq, rnB]
theorem rnO_look {x y : Nat} (hxy : x ≠ y) : ∀ {own : OwX} {k : Nat}, lookO (own.map fun e => (bif Nat.beq e.1 y then x else bif Nat.beq e.1 x then y else e.1, bif Nat.beq e.1 y then none else rnB x y e.2)) k = if k = x then none else if k = y then rnB x y (lookO own x) else rnB x y (lookO own k)
 | [], k => by simp [lookO, rnB]
 | (j, B) :: t, k => by
   have bq : ∀ a b : Nat, Nat.beq a b = decide (a = b) := fun a b => by
     by_cases h : a = b
     · subst h; simp
     · rw [decide_eq_false h]
       cases hb : Nat.beq a b with
       | false => rfl
       | true => exact absurd (Nat.eq_of_beq_eq_true hb) h
   simp only [List.map_cons]
   rw [lookO_cons, rnO_look hxy (own := t), lookO_cons, lookO_cons]
   by_cases h1 : j = y
   · subst h1
     simp only [bq, decide_true, cond_true]
     by_cases h2 : k = x
     · simp [h2]
     · by_cases h3 : k = j
       · subst h3; simp [h2, Ne.symm h2, hxy]
       · simp [h2, h3]
   · by_cases h4 : j = x
     · subst h4
       simp only [bq, h1, decide_false, cond_false, decide_true, cond_true]
       by_cases h2 : k = y
       · subst h2; simp [Ne.symm h1]
       · by_cases h3 : k = j
         · subst h3; simp [h1]
         · simp [h2, h3]
     · simp only [bq, h1, h4, decide_false, cond_false]
       by_cases h2 : k = j
       · subst h2; simp [h1, h4]
       · by_cases h3 : k = x
         · subst h3; simp [h2]
         · by_cases h5 : k = y
           · subst h5; simp [h2, h3, Ne.symm h4]
           · simp [h2, h3, h5]
theorem rnX_is {x y : Nat} (hxy : x ≠ y) {ρ : NE} {G : Gh} {f : FX} {v : Value} (h : IsX ρ G f v) : IsX (fun k => if k = y then ρ x else ρ k) G (rnX x y f) v := by
 have key : ∀ m : Nat, Nat.beq m y = false → (fun k => if k = y then ρ x else ρ k) m = ρ m := fun m hm => if_neg fun e => by subst e; simp at hm
 cases f with
 | rw m =>
   simp only [rnX]
   cases hb : Nat.beq m x with
   | true => cases Nat.eq_of_beq_eq_true hb; simp only [cond_true]; show v = _; simp; exact h
   | false =>
     cases hb' : Nat.beq m y with
     | true => trivial
     | false => simp only [cond_false]; show v = _; rw [key m hb']; exact h
 | ov m off =>
   simp only [rnX]
   cases hb : Nat.beq m x with
   | true => cases Nat.eq_of_beq_eq_true hb; simp only [cond_true]; obtain ⟨b, h1, h2⟩ := h; exact ⟨b, by simp; exact h1, h2⟩
   | false =>
     cases hb' : Nat.beq m y with
     | true => trivial
     | false => simp only [cond_false]; obtain ⟨b, h1, h2⟩ := h; exact ⟨b, by rw [key m hb']; exact h1, h2⟩
 | be m s i j =>
   simp only [rnX]
   cases hb : Nat.beq m x with
   | true => cases Nat.eq_of_beq_eq_true hb; simp only [cond_true]; obtain ⟨b, h1, h2⟩ := h; exact ⟨b, by simp; exact h1, h2⟩
   | false =>
     cases hb' : Nat.beq m y with
     | true => trivial
     | false => simp only [cond_false]; obtain ⟨b, h1, h2⟩ := h; exact ⟨b, by rw [key m hb']; exact h1, h2⟩
 | bx tp pre m post =>
   simp only [rnX]
   cases hb : Nat.beq m x with
   | true => cases Nat.eq_of_beq_eq_true hb; simp only [cond_true]; obtain ⟨m1, m2, e, h1, h2⟩ := h; exact ⟨m1, m2, by simpa using e, h1, h2⟩
   | false =>
     cases hb' : Nat.beq m y with
     | true => trivial
     | false => simp only [cond_false]; obtain ⟨m1, m2, e, h1, h2⟩ := h; exact ⟨m1, m2, by rw [key m hb']; exact e, h1, h2⟩
 | _ => exact h
theorem rnXs_is {x y : Nat} (hxy : x ≠ y) {ρ : NE} {G : Gh} : ∀ {cs : List FX} {m : List Value}, IsXs ρ G cs m → IsXs (fun k => if k = y then ρ x else ρ k) G (cs.map (rnX x y)) m
 | [], m, h => h
 | f :: t, m, ⟨v, q, e, h1, h2⟩ => ⟨v, q, e, rnX_is hxy h1, rnXs_is hxy h2⟩
def rnA (x y : Nat) (fr : FrX) (own : OwX) : Option FzR := bif Nat.beq x y then none else mapF (rnX x y) fr fun fr' => rnO x y own fun own' => some ⟨fr', own'⟩
theorem rnA_ok {x y : Nat} {Φ : Act → World → Prop} {R : FzR} (h : rnA x y fr own = some R) (hk : SX GB C n (lookX R.fr) (lookO R.own) Φ) : SX GB C n (lookX fr) (lookO own) Φ := by
 unfold rnA at h
 rw [cond_eq_ite] at h
 split at h <;> try (cases h; done)
 rename_i hb
 have hxy : x ≠ y := fun e => hb (by subst e; simp)
 rw [mapF_eq, rnO_eq] at h; cases h
 refine ⟨fun ρ G ov a w r => hk.run (fun k => if k = y then ρ x else ρ k) G ov a w ?_⟩
 have inv : ∀ m B, lookO (own.map fun e => (bif Nat.beq e.1 y then x else bif Nat.beq e.1 x then y else e.1, bif Nat.beq e.1 y then none else rnB x y e.2)) m = some B → ∃ m0 B0, lookO own m0 = some B0 ∧ rnB x y (some B0) = some B ∧ (m = y ∧ m0 = x ∨ m ≠ y ∧ m ≠ x ∧ m0 = m) := fun m B e => by
   rw [rnO_look hxy] at e
   split at e
   · cases e
   · rename_i hm
     split at e
     · cases hl : lookO own x with
       | none => rw [hl] at e; cases e
       | some B0 => rw [hl] at e; exact ⟨x, B0, hl, e, .inl ⟨by assumption, rfl⟩⟩
     · cases hl : lookO own m with
       | none => rw [hl] at e; cases e
       | some B0 => rw [hl] at e; exact ⟨m, B0, hl, e, .inr ⟨by assumption, hm, rfl⟩⟩
 have rho : ∀ m m0, (m = y ∧ m0 = x ∨ m ≠ y ∧ m ≠ x ∧ m0 = m) → (fun k => if k = y then ρ x else ρ k) m = ρ m0 := fun m m0 h => by
   rcases h with ⟨h1, h2⟩ | ⟨h1, _, h2⟩
   · subst h1 h2; simp
   · subst h2; exact if_neg h1
 refine ⟨r.gb, r.h, r.sz, r.df, fun k f e => ?_, fun m B e => ?_, fun m m' B B' e e' hne => ?_⟩
 · rw [look_map] at e
   cases hf : lookX fr k with
   | none => rw [hf] at e; cases e
   | some g =>
     rw [hf] at e; cases e
     obtain ⟨v, h1, h2⟩ := r.fx k g hf
     exact ⟨v, h1, rnX_is hxy h2⟩
 · obtain ⟨m0, B0, h1, h2, h3⟩ := inv m B e
   obtain ⟨os, h4, h5⟩ := r.bx m0 B0 h1
   refine ⟨os, ?_, h5⟩
   have hr := rho m m0 h3
   cases B0 with
   | b => cases h2; obtain ⟨vs, q1, q2, q3, q4⟩ := h4; exact ⟨vs, by rw [hr]; exact q1, q2, q3, q4⟩
   | o ty cs lo => cases h2; obtain ⟨b, q, q1, q2, q3⟩ := h4; exact ⟨b, q, by rw [hr]; exact q1, q2, rnXs_is hxy q3⟩
 · obtain ⟨m0, B0, h1, _, h3⟩ := inv m B e
   obtain ⟨m1, B1, h4, _, h6⟩ := inv m' B' e'
   have q1 := rho m m0 h3
   have q2 := rho m' m1 h6
   simp only at q1 q2
   rw [q1, q2]
   refine r.dj m0 m1 B0 B1 h1 h4 fun e => ?_
   rcases h3 with ⟨h7, h8⟩ | ⟨h7, h8, h9⟩ <;> rcases h6 with ⟨g7, g8⟩ | ⟨g7, g8, g9⟩
   · exact hne (h7.trans g7.symm)
   · exact g8 (by rw [← g9, ← e, h8])
   · exact h8 (by rw [← h9, e, g8])
   · exact hne (by rw [← h9, e, g9])
theorem rnE (x y : Nat) {fr1 : FrX} {own1 : OwX} {e : Exit} (h : rnA x y fr own = some ⟨fr1, own1⟩) (k : CfS Tryz.prog GB C n Q0 fr1 own1 (.ex e K)) : CfS Tryz.prog GB C n Q0 fr own (.ex e K) := rnA_ok h k
theorem lookX_nl {d nm : Nat} (hl : lookX fr d = some .nl) {Φ : Act → World → Prop} {ty s : Nat} (hf : FreshX [nm] none (lookX fr) (lookO own)) (h : SX GB C n (lookX ((d, .rw nm) :: fr)) (lookO (setO own nm (some (.b ty s [] true)))) Φ) : SX GB C n (lookX fr) (lookO own) Φ := by
 refine ⟨fun ρ G ov a w r => ?_⟩
 obtain ⟨f1, f2⟩ := hf nm List.mem_cons_self
 have hset : lookO (setO own nm (some (.b ty s [] true))) = upB (lookO own) [(nm, some (.b ty s [] true))] := by funext j; rw [lookO_set]; rfl
 rw [hset] at h
 refine h.run (fun k => if k = nm then ⟨none, 0, 0⟩ else ρ k) G ov a w ⟨r.gb, r.h, r.sz, r.df, fun k f e => ?_, fun m B e => ?_, fun m m' B B' e e' hne => ?_⟩
 · rw [lookX_cons] at e
   split at e
   · cases e; rename_i hk; subst hk
     obtain ⟨v, h1, h2⟩ := r.fx _ _ hl
     exact ⟨v, h1, by rw [show v = _ from h2]; show _ = _; simp⟩
   · obtain ⟨v, h1, h2⟩ := r.fx k f e
     exact ⟨v, h1, h2.ren fun m hm => neN _ fun hc => f1 k f (by simp) e (by rw [hm, hc])⟩
 · simp only [upB] at e
   by_cases hm : m = nm
   · subst hm; simp only [if_true] at e; cases e
     exact ⟨[], ⟨[], by simp only [if_true]; exact .inl ⟨rfl, rfl, rfl⟩, .nil, by simp, fun _ o ho => by cases ho⟩, fun o ho => by cases ho⟩
   · simp only [hm, if_false] at e
     obtain ⟨os, h1, h2⟩ := r.bx m B e
     exact ⟨os, h1.ren (if_neg hm) fun q hq => neN _ fun hc => f2 m B hm e (by rw [← hc]; exact hq), h2⟩
 · simp only [upB] at e e'
   intro b hb hb'
   by_cases hm : m = nm
   · simp [hm] at hb
   · by_cases hm' : m' = nm
     · simp [hm'] at hb'
     · simp only [hm, hm', if_false] at e e' hb hb'
       exact r.dj m m' B B' e e' hne b hb hb'
theorem nr (d nm ty s : Nat) {own1 : OwX} {c : Code} (hl : lookX fr d = some .nl) (hf : freshL [nm] none fr own = true) (ho : setK own nm (some (.b ty s [] true)) id = own1) (k : CfS Tryz.prog GB C n Q0 ((d, .rw nm) :: fr) own1 (.code c K)) : CfS Tryz.prog GB C n Q0 fr own (.code c K) := by
 subst ho
 exact lookX_nl hl (freshL_ok hf) k
/-! ### calls that borrow a variable -/
def mkP : List (Option DV) → Nat → List DV
 | [], _ => []
 | some d :: t, b => d :: mkP t b
 | none :: t, b => .v (.pointer (some ⟨b, 0, none⟩)) :: mkP t b
def evMs (lk : LK) : List Operand → Option (Option Nat × List (Option DV))
 | [] => some (none, [])
 | x :: t => match evX lk x, evMs lk t with
   | some (.ov nm 0), some (none, l) => some (some nm, none :: l)
   | some f, some (q, l) => match toDX f with
     | some d => some (q, some d :: l)
     | none => none
   | _, _ => none
def cargM (lk : LK) (fo : Operand) (args : Array Operand) : Option (FuncId × Nat × List (Option DV)) := match evX lk fo with
 | some (.d (.v (.func (.func f) ⟨[]⟩ ⟨[]⟩))) => match evMs lk args.toList with
   | some (some nm, l) => some (f, nm, l)
   | _ => none
 | _ => none
theorem evMs_ok {lk : LK} {bk : BM} {ρ : NE} {G : Gh} {ov : List Own} {a : Act} {w : World} (r : RlX GB C n lk bk ρ G ov a w) {b : Nat} : ∀ {x : List Operand} {q : Option Nat} {l : List (Option DV)}, evMs lk x = some (q, l) → (∀ nm, q = some nm → (ρ nm).a = some ⟨b, 0, none⟩) →
   ∃ y, opvs (frA a) x = some y ∧ IsLs G (mkP l b) y
 | [], q, l, e, _ => by cases e; exact ⟨[], rfl, .nil⟩
 | x :: t, q, l, e, hb => by
   simp only [evMs] at e
   split at e
   · rename_i nm l' h1 h2
     cases e
     obtain ⟨y, h3, b', h4, rfl⟩ := r.ev h1
     have := hb nm rfl
     rw [h4] at this; cases this
     obtain ⟨ys, h5, h6⟩ := evMs_ok r (b := b) h2 (fun nm e => by cases e)
     exact ⟨_ :: ys, by simp only [opvs, h3, h5], .cons ((is_v (G := G)).2 rfl) h6⟩
   · rename_i f q' l' _ h1 h2
     cases hd : toDX f with
     | none => rw [hd] at e; cases e
     | some d =>
     rw [hd] at e; cases e
     obtain ⟨y, h3, h4⟩ := r.ev h1
     obtain ⟨ys, h5, h6⟩ := evMs_ok r (b := b) h2 hb
     exact ⟨y :: ys, by simp only [opvs, h3, h5], .cons (toDX_is h4 hd) h6⟩
   · cases e
theorem RlX.lend {lk : LK} {bk : BM} {ρ : NE} {G : Gh} {ov : List Own} {a : Act} {w : World} {nm : Nat} {ty : TypeId} {cs : List FX} {lo : Bool} {csd : List DV} (r : RlX GB C n lk bk ρ G ov a w) (hb : bk nm = some (.o ty cs lo)) (hc : toDXs cs = some csd) :
   ∃ b m rest, (ρ nm).a = some ⟨b, 0, none⟩ ∧ IsLs G csd m ∧ ov.Perm ([⟨b, m, ty, lo⟩] ++ rest) ∧ ∀ o ∈ ov, o.b ≠ b → o ∈ rest := by
 obtain ⟨os, ⟨b, m, h1, rfl, h2⟩, h3⟩ := r.bx _ _ hb
 obtain ⟨l1, l2, rfl⟩ := List.append_of_mem (h3 _ List.mem_cons_self)
 refine ⟨b, m, l1 ++ l2, h1, toDXs_is h2 hc, List.perm_middle, fun o ho hne => ?_⟩
 rcases List.mem_append.1 ho with ho | ho
 · exact List.mem_append_left _ ho
 · rcases List.mem_cons.1 ho with rfl | ho
   · exact absurd rfl hne
   · exact List.mem_append_right _ ho
theorem ok_callM {P : Program} {lk : LK} {bk : BM} {fo : Operand} {args : Array Operand} {tys : Array TypeId} {f : FuncId} {nm : Nat} {l : List (Option DV)} {rv : DV} {dst : Option Nat} {ty ty0 : TypeId} {pos : String} {af : Array Edge} {gd : Option (Nat × Bool)} {cs : List FX} {csd cs' : List DV} {lo : Bool}
  (ha : cargM lk fo args = some (f, nm, l)) (hb : bk nm = some (.o ty0 cs lo)) (hc : toDXs cs = some csd) (hF : ∀ b, PM GB P f (mkP l b) b ty0 csd rv cs') {csx : List FX} (hx : cs'.map .d = csx) : OpR P GB C n lk bk ⟨dst, .call ⟨.value fo, args, tys⟩, ty, pos, af, gd⟩ (.d rv) [(nm, some (.o ty0 csx lo))] [] := by
 intro hd tl tb K' s1 s2 hf hk
 refine ⟨fun ρ G ov a w r Q => ?_⟩
 subst hx
 have r1 := r.mono s1 s2
 unfold cargM at ha
 split at ha <;> try (cases ha; done)
 rename_i h1
 split at ha <;> cases ha
 rename_i h2
 obtain ⟨y, hy, hy'⟩ := r1.ev h1
 rw [(is_v (G := G)).1 hy'] at hy
 obtain ⟨b, m, rest, h3, h4, h5, h6⟩ := r1.lend hb hc
 obtain ⟨vs, h7, h8⟩ := evMs_ok r1 (b := b) h2 (fun nm e => by cases e; exact h3)
 refine ch_callM (M := [⟨b, m, ty0, lo⟩]) (rest := rest) hy h7 h5 (hF b G vs m lo r.gb h8 h4) hd (fun v css G' hG hl hK a' w' rl => ?_) a w Q ⟨r.h, r.sz, frA_ok a, r.df⟩
 obtain ⟨hr, m', rfl, hm'⟩ := hK
 have rl' : Rel C n (Sx.put (frA a) dst v) (⟨b, m', ty0, lo⟩ :: rest) G' a' w' := rl
 have r2 := r.upB (G' := G') (ov' := ⟨b, m', ty0, lo⟩ :: rest) (w' := w') (B' := .o ty0 (cs'.map .d) lo) (os := [⟨b, m', ty0, lo⟩]) hG.le rl'.h ⟨b, m', h3, rfl, isXs_d hm'⟩ (fun o ho => by rw [List.mem_singleton.1 ho]; exact List.mem_cons_self)
  (fun o ho hne => List.mem_cons_of_mem _ (h6 o ho fun e => hne (by rw [h3, e]))) ⟨_, s2 _ _ hb⟩
 exact hk.run ρ G' _ a' w' (r2.put (f := .d rv) hr (putA_rel rl'))
structure CmA where
 f : FuncId
 nm : Nat
 l : List (Option DV)
 ty : TypeId
 cs : List DV
 lo : Bool
def calM (fr : FrX) (own : OwX) (cf : Cf) : Option CmA := match opC fr cf with
 | some ⟨_, .call ⟨.value fo, args, _⟩, _, _, _, _⟩ => match cargM (lkC fr cf) fo args with
   | some (f, nm, l) => match bkC fr own cf nm with
     | some (.o ty cs lo) => match toDXs cs with
       | some csd => some ⟨f, nm, l, ty, csd, lo⟩
       | none => none
     | _ => none
   | none => none
 | _ => none
def mapD {α : Type} : List DV → (List FX → α) → α
 | [], k => k []
 | d :: t, k => mapD t fun t' => k (.d d :: t')
theorem mapD_eq {α : Type} : ∀ {l : List DV} {k : List FX → α}, mapD l k = k (l.map .d)
 | [], k => rfl
 | d :: t, k => by simp only [mapD]; rw [mapD_eq]; rfl
theorem cm [fu : Fu] {f : FuncId} {nm : Nat} {l : List (Option DV)} {ty : TypeId} {cs cs' : List DV} {lo : Bool} {rv : DV} (ha : calM fr own cf = some ⟨f, nm, l, ty, cs, lo⟩) (hF : ∀ b, PM GB Tryz.prog f (mkP l b) b ty cs rv cs')
  (hgo : (mapD cs' fun csx => goA tt n fu.n fr own cf (.d rv) [(nm, some (.o ty csx lo))] []) = ⟨vc, fr', own', cf'⟩) (k : CfS Tryz.prog GB C n Q0 fr' own' cf')
  (hv : allP vc := by first | exact trivial | (simp only [allP]; kernel_rfl) | (simp only [allP]; omega) | (simp only [allP, List.length_map, List.length_set, List.length_replicate]; omega)) : CfS Tryz.prog GB C n Q0 fr own cf := by
 unfold calM at ha
 split at ha <;> try (cases ha; done)
 rename_i hh
 split at ha <;> try (cases ha; done)
 rename_i h1
 split at ha <;> try (cases ha; done)
 rename_i h2
 split at ha <;> cases ha
 rename_i h3
 rw [mapD_eq] at hgo
 exact us hh (ok_callM h1 h2 h3 hF rfl) hgo hv k
abbrev NM : Nat := 1000000
def args0M : Nat → List (Option DV) → FrX
 | _, [] => []
 | i, some v :: t => (i, .d v) :: args0M (i + 1) t
 | i, none :: t => (i, .ov NM 0) :: args0M (i + 1) t
theorem mkP_len (b : Nat) : ∀ l : List (Option DV), (mkP l b).length = l.length
 | [] => rfl
 | some d :: t => by simp [mkP, mkP_len b t]
 | none :: t => by simp [mkP, mkP_len b t]
theorem look_args0M {b : Nat} {ρ : NE} {G : Gh} (hρ : (ρ NM).a = some ⟨b, 0, none⟩) : ∀ {ds : List (Option DV)} {vs : List Value} (i : Nat), IsLs G (mkP ds b) vs → ∀ k f, lookX (args0M i ds) k = some f → ∃ y, (∃ j, k = i + j ∧ vs[j]? = some y) ∧ IsX ρ G f y
 | [], vs, i, h, k, f, e => by cases e
 | some d :: t, vs, i, h, k, f, e => by
   obtain ⟨y, m, rfl, h1, h2⟩ := isl_cons.1 h
   simp only [args0M] at e
   rw [lookX_cons] at e
   split at e
   · cases e; rename_i hk; exact ⟨y, ⟨0, hk, rfl⟩, h1⟩
   · obtain ⟨u, ⟨j, hj, hu⟩, h3⟩ := look_args0M hρ (i + 1) h2 k f e
     exact ⟨u, ⟨j + 1, by omega, by simpa using hu⟩, h3⟩
 | none :: t, vs, i, h, k, f, e => by
   obtain ⟨y, m, rfl, h1, h2⟩ := isl_cons.1 h
   simp only [args0M] at e
   rw [lookX_cons] at e
   split at e
   · cases e; rename_i hk; exact ⟨y, ⟨0, hk, rfl⟩, b, hρ, (is_v (G := G)).1 h1⟩
   · obtain ⟨u, ⟨j, hj, hu⟩, h3⟩ := look_args0M hρ (i + 1) h2 k f e
     exact ⟨u, ⟨j + 1, by omega, by simpa using hu⟩, h3⟩
def PMpost (C : Ctx) (b : Nat) (m : List Value) (ty : TypeId) (lo : Bool) (rv : DV) (cs' : List DV) : Ending → World → Prop := RPostM C [⟨b, m, ty, lo⟩] (fun v css G' => Is G' rv v ∧ ∃ m', css = [m'] ∧ IsLs G' cs' m')
theorem fnM [fu : Fu] {b : Nat} {f : FuncId} {fb : Func} {c : Code} {k : Nat} {l : List (Option DV)} {cs cs' : List DV} {ty : TypeId} {rv : DV} (hf : Tryz.prog.funcs[f]? = some fb) (hb : fb.body = some c) (hn : (fb.name == "runtime.NumGoroutine") = false) (hm : fb.ntmps = k) (hlen : Nat.ble l.length k = true)
   (hgo : (mapD cs fun csx => go tt k fu.n [] (args0M 0 l) [(NM, some (.o ty csx false))] (.code c [])) = ⟨vc, fr, own, cf⟩) (h : ∀ C b m lo, C.mb = [b] → CfS Tryz.prog GB C k (bodyPost Tryz.prog fb (PMpost C b m ty lo rv cs')) fr own cf)
   (hv : allP vc := by first | exact trivial | (simp only [allP]; kernel_rfl) | (simp only [allP]; omega) | (simp only [allP, List.length_map, List.length_set, List.length_replicate]; omega)) : PM GB Tryz.prog f (mkP l b) b ty cs rv cs' := by
 intro G vs m lo hg hvs hm'
 refine FnM.intro hf hb hn hm (by rw [hvs.len, mkP_len]; exact hlen) fun C _ hmb => ?_
 intro a w rl
 rw [mapD_eq] at hgo
 have h1 := gx' (GB := GB) (C := C) (Q0 := bodyPost Tryz.prog fb (PMpost C b m ty lo rv cs')) hgo hv (h C b m lo (by simpa using hmb))
 refine h1.run (fun _ => ⟨some ⟨b, 0, none⟩, 0, 0⟩) G [⟨b, m, ty, false⟩] a w ⟨hg, rl.h, rl.sz, rl.df, fun k f e => ?_, fun nm B e => ?_, fun nm nm' B B' e e' hne => ?_⟩
 · obtain ⟨y, ⟨j, hj, hy⟩, h2⟩ := look_args0M (ρ := fun _ => ⟨some ⟨b, 0, none⟩, 0, 0⟩) (b := b) rfl 0 hvs k f e
   refine ⟨y, rl.fr k y ?_, h2⟩
   rw [hj]; exact look_args0' vs 0 j y hy
 · rw [lookO_cons] at e
   split at e
   · cases e; exact ⟨[⟨b, m, ty, false⟩], ⟨b, m, rfl, rfl, isXs_d hm'⟩, fun o ho => ho⟩
   · cases e
 · rw [lookO_cons] at e e'
   split at e <;> split at e'
   · rename_i h2 h3; exact absurd (h2.trans h3.symm) hne
   · cases e'
   · cases e
   · cases e
def ownD (own : OwX) (nm : Nat) : Option (TypeId × List DV) := match lookO own nm with
 | some (.o ty cs false) => match toDXs cs with
   | some l => some (ty, l)
   | none => none
 | _ => none
theorem rzM {fb : Func} {b : Nat} {m : List Value} {ty : TypeId} {lo : Bool} {ds cs1 cs' : List DV} {rv : DV} (hmb : C.mb = [b]) (hr : resX tt fr own fb.results.toList = some ds) (ho : ownD own NM = some (ty, cs1)) (hd : tupD ds = rv) (hc : cs1 = cs') :
  CfS Tryz.prog GB C n (bodyPost Tryz.prog fb (PMpost C b m ty lo rv cs')) fr own (.ex .ret []) := by
 refine ⟨fun ρ G ov a w r => ?_⟩
 obtain ⟨vs, h1, h2⟩ := resX_ok r hr
 have hk : Is G rv (tupled vs) := hd ▸ tupD_is h2
 unfold ownD at ho
 split at ho <;> try (cases ho; done)
 rename_i hb
 split at ho <;> cases ho
 rename_i hl
 obtain ⟨b', m', rest, h3, h4, h5, h6⟩ := r.lend hb hl
 have hbb : b' = b := by
  have := (r.h.hown _ (h5.mem_iff.2 (List.mem_append_left _ List.mem_cons_self))).2.2.2 rfl
  rw [hmb] at this; simpa using this
 subst hbb hc
 exact st_doneM (C := C) (n := n) (fr := frA a) (own := ov) (G := G) (M := [⟨b', m, ty, lo⟩]) (css := [m']) (K := fun v css G' => Is G' rv v ∧ ∃ m', css = [m'] ∧ IsLs G' cs1 m') h1 rfl ([⟨b', m', ty, false⟩] ++ rest) h5 (List.sublist_append_left _ _) ⟨hk, m', rfl, h4⟩ a w ⟨r.h, r.sz, frA_ok a, r.df⟩
end
end Go.Sx
end

section
set_option maxRecDepth 100000
namespace Go.Sx
open Go Go.Proofs
section
variable {GB : Gh} {C : Ctx} {n : Nat} {fr1 fr2 : FrX} {own1 own2 : OwX} {cf1 cf2 : Cf} {vc1 vc2 : List Prop} {Q0 : Exit → Act → World → Prop} {fr fr' : FrX} {own own' : OwX} {cf cf' : Cf} {vc : List Prop} {ops : Array Oper} {o : Oper} {K : List Kt} {r : List Oper}
theorem csd [fu1 : Fu] [fu2 : Fu] (d : Nat) {p : Prop} {hp : Decidable p} (hl : lookX fr d = some (.d (.v (.bool (@decide p hp))))) (g1 : go tt n fu1.n [] ((d, .tt) :: fr) own (.ops ops r K) = ⟨vc1, fr1, own1, cf1⟩) (g2 : go tt n fu2.n [] ((d, .ff) :: fr) own (.ops ops r K) = ⟨vc2, fr2, own2, cf2⟩)
  (k1 : p → CfS Tryz.prog GB C n Q0 fr1 own1 cf1) (k2 : ¬ p → CfS Tryz.prog GB C n Q0 fr2 own2 cf2)
  (v1 : p → allP vc1 := by intro; first | exact trivial | (simp only [allP]; omega) | (simp only [allP, List.length_map, List.length_set, List.length_replicate]; omega)) (v2 : ¬ p → allP vc2 := by intro; first | exact trivial | (simp only [allP]; omega) | (simp only [allP, List.length_map, List.length_set, List.length_replicate]; omega)) : CfS Tryz.prog GB C n Q0 fr own (.ops ops r K) :=
 csb (fu1 := fu1) (fu2 := fu2) d hl g1 g2 (fun h => k1 (of_decide_eq_true h)) (fun h => k2 (of_decide_eq_false h)) (fun h => v1 (of_decide_eq_true h)) (fun h => v2 (of_decide_eq_false h))
theorem nlC (d : Nat) (hl : lookX fr d = some .nl) {c : Code} (h : CfS Tryz.prog GB C n Q0 ((d, .d (.sl [])) :: fr) own (.code c K)) : CfS Tryz.prog GB C n Q0 fr own (.code c K) :=
 lookX_same (g := .d (.sl [])) hl (fun ρ G y hy => (show Is G (.sl []) y from toDX_is (ρ := ρ) (f := .nl) hy rfl)) h
theorem OpR.to {lk : LK} {bk : BM} {o : Oper} {f g : FX} (h : OpR Tryz.prog GB C n lk bk o f [] []) (e : ∀ ρ G y, IsX ρ G f y → IsX ρ G g y) : OpR Tryz.prog GB C n lk bk o g [] [] := fun hd tl tb Q h1 h2 hf hk =>
 h hd tl tb Q h1 h2 hf ⟨fun ρ G ov a w r => hk.run ρ G ov a w ⟨r.gb, r.h, r.sz, r.df, fun k f' e' => by
   cases ho : o.dst with
   | none => exact r.fx k f' (by simpa only [ho, upL] using e')
   | some d =>
     have hr := r.fx
     simp only [ho, upL] at e' hr
     by_cases q : k = d
     · rw [if_pos q] at e'; cases e'
       obtain ⟨y, h3, h4⟩ := hr k f (by rw [if_pos q])
       exact ⟨y, h3, e _ _ _ h4⟩
     · rw [if_neg q] at e'
       exact hr k f' (by rw [if_neg q]; exact e'), r.bx, r.dj⟩⟩
def opS (fr : FrX) (own : OwX) (cf : Cf) : Option (Oper × FX) := match opC fr cf with
 | some o => match core tt (lkC fr cf) (bkC fr own cf) o.dst o.op with
   | some ⟨none, f, [], []⟩ => some (o, f)
   | _ => none
 | none => none
theorem csS [fu1 : Fu] [fu2 : Fu] {f : FX} {p : Prop} {hp : Decidable p} (hs : opS fr own cf = some (o, f)) (hb : toB f = some (@decide p hp)) (g1 : goA tt n fu1.n fr own cf .tt [] [] = ⟨vc1, fr1, own1, cf1⟩) (g2 : goA tt n fu2.n fr own cf .ff [] [] = ⟨vc2, fr2, own2, cf2⟩)
   (k1 : p → CfS Tryz.prog GB C n Q0 fr1 own1 cf1) (k2 : ¬ p → CfS Tryz.prog GB C n Q0 fr2 own2 cf2)
   (v1 : p → allP vc1 := by intro; first | exact trivial | (simp only [allP]; kernel_rfl) | (simp only [allP]; omega) | (simp only [allP, List.length_map, List.length_set, List.length_replicate]; omega)) (v2 : ¬ p → allP vc2 := by intro; first | exact trivial | (simp only [allP]; kernel_rfl) | (simp only [allP]; omega) | (simp only [allP, List.length_map, List.length_set, List.length_replicate]; omega)) : CfS Tryz.prog GB C n Q0 fr own cf := by
 unfold opS at hs
 split at hs <;> try (cases hs; done)
 rename_i o' hh
 split at hs <;> cases hs
 rename_i hc
 obtain ⟨dst, op, ty, pos, af, gd⟩ := o
 have h0 := core_ok (P := Tryz.prog) (GB := GB) (C := C) (n := n) (ty' := ty) (pos := pos) (af := af) (gd := gd) tt_ok hc (fun p e => by cases e)
 by_cases h : p
 · exact us hh (OpR.to h0 fun ρ G y hy => by rw [toB_is hy hb, decide_eq_true h]; exact rfl) g1 (v1 h) (k1 h)
 · exact us hh (OpR.to h0 fun ρ G y hy => by rw [toB_is hy hb, decide_eq_false h]; exact rfl) g2 (v2 h) (k2 h)
theorem frz_sx {tl : LK} {tb : BM} {Ψ : Act → World → Prop} {d : Nat} {B : Bk} {f : FX} {v : DV}
   (hz : ∀ lk bk ρ G ov a w, RlX GB C n lk bk ρ G ov a w → bk d = some B → ∃ G' ov', GLe G G' ∧ HRel C ov' G' w ∧ (∀ o ∈ ov, (ρ d).a ≠ some ⟨o.b, 0, none⟩ → o ∈ ov') ∧ ∀ y, IsX ρ G f y → Is G' v y) (hk : SX GB C n (upL tl (some d) (.d v)) (Sx.upB tb [(d, none)]) Ψ) : SX GB C n (upL tl (some d) f) (Sx.upB tb [(d, some B)]) Ψ := by
 refine ⟨fun ρ G ov a w r => ?_⟩
 have hbd : Sx.upB tb [(d, some B)] d = some B := by simp [Sx.upB]
 obtain ⟨G', ov', h1, h2, h3, h4⟩ := hz _ _ ρ G ov a w r hbd
 refine hk.run ρ G' ov' a w ⟨r.gb.trans h1, h2, r.sz, r.df, fun k g e => ?_, fun m B' e => ?_, fun m m' B1 B2 e e' => ?_⟩
 · by_cases hk : k = d
   · subst hk
     simp only [upL, if_true] at e; cases e
     obtain ⟨y, g1, g2⟩ := r.fx k f (by simp [upL])
     exact ⟨y, g1, h4 y g2⟩
   · simp only [upL, hk, if_false] at e
     obtain ⟨y, g1, g2⟩ := r.fx k g (by simp [upL, hk, e])
     exact ⟨y, g1, g2.up h1⟩
 · simp only [Sx.upB] at e
   split at e
   · cases e
   · rename_i hm
     have e' : Sx.upB tb [(d, some B)] m = some B' := by simp [Sx.upB, hm, e]
     obtain ⟨os, g1, g2⟩ := r.bx m B' e'
     exact ⟨os, g1.up h1, fun o ho => h3 o (g2 o ho) fun hc => r.dj m d B' B e' hbd hm _ (g1.blk ho) hc⟩
 · simp only [Sx.upB] at e e'
   split at e
   · cases e
   · rename_i hm
     split at e'
     · cases e'
     · rename_i hm'
       exact r.dj m m' B1 B2 (by simp [Sx.upB, hm, e]) (by simp [Sx.upB, hm', e'])
theorem OpR.frz2 {lk : LK} {bk : BM} {o : Oper} {d nm : Nat} {B : Bk} {f : FX} {v : DV} (hd : o.dst = some d) (h : OpR Tryz.prog GB C n lk bk o f [(nm, none), (d, some B)] [d])
  (hz : ∀ lk bk ρ G ov a w, RlX GB C n lk bk ρ G ov a w → bk d = some B → ∃ G' ov', GLe G G' ∧ HRel C ov' G' w ∧ (∀ o ∈ ov, (ρ d).a ≠ some ⟨o.b, 0, none⟩ → o ∈ ov') ∧ ∀ y, IsX ρ G f y → Is G' v y) : OpR Tryz.prog GB C n lk bk o (.d v) [(nm, none), (d, none)] [d] := by
 intro hd' tl tb K s1 s2 hf hk
 refine h hd' tl tb K s1 s2 hf ?_
 rw [hd] at hk ⊢
 exact frz_sx (tb := Sx.upB tb [(nm, none)]) hz hk
def aBlN (d : Nat) (nm : Option Nat) : List (Nat × Option Bk) := match nm with
 | some nm => [(nm, none), (d, none)]
 | none => [(d, none)]
theorem apf [fu : Fu] {d : Nat} {nm : Option Nat} {e s b : Nat} {ds ds2 : List DV} (ds' : List DV) (h : appA fr own cf = some ⟨d, nm, e, s, b, ds, ds2⟩) (hds : ds ++ ds2 = ds') (ho2 : slOk s ds2) (hgo : goA tt n fu.n fr own cf (.d (.sl ds')) (aBlN d nm) [d] = ⟨vc, fr', own', cf'⟩) (k : CfS Tryz.prog GB C n Q0 fr' own' cf')
   (ho : nm.isNone = true → slOk s ds ∧ 0 < ds2.length := by intro h; first | (cases h; done) | exact ⟨okRow_spec rfl, by simp⟩) (hbd : (ds.length + ds2.length) * b ≤ 140737488355328 := by simp; omega)
   (hv : allP vc := by first | exact trivial | (simp only [allP]; kernel_rfl) | (simp only [allP]; omega) | (simp only [allP, List.length_map, List.length_set, List.length_replicate]; omega)) : CfS Tryz.prog GB C n Q0 fr own cf := by
 obtain ⟨o, h1, h2, h3⟩ := appA_ok (GB := GB) (C := C) (n := n) h ds' hds ho ho2 hbd
 cases nm with
 | none => exact us h1 (h3.frzRow h2) hgo hv k
 | some nm => exact us h1 (OpR.frz2 h2 h3 fun _ _ _ _ _ _ _ r hb => r.frzRow hb) hgo hv k
theorem knT [fu : Fu] {f : FX} (hs : opS fr own cf = some (o, f)) (hb : toB f = some true) (hgo : goA tt n fu.n fr own cf .tt [] [] = ⟨vc, fr', own', cf'⟩) (k : CfS Tryz.prog GB C n Q0 fr' own' cf')
  (hv : allP vc := by first | exact trivial | (simp only [allP]; kernel_rfl) | (simp only [allP]; omega) | (simp only [allP, List.length_map, List.length_set, List.length_replicate]; omega)) : CfS Tryz.prog GB C n Q0 fr own cf := by
 unfold opS at hs
 split at hs <;> try (cases hs; done)
 rename_i o' hh
 split at hs <;> cases hs
 rename_i hc
 obtain ⟨dst, op, ty, pos, af, gd⟩ := o
 have h0 := core_ok (P := Tryz.prog) (GB := GB) (C := C) (n := n) (ty' := ty) (pos := pos) (af := af) (gd := gd) tt_ok hc (fun p e => by cases e)
 exact us hh (OpR.to h0 fun ρ G y hy => by rw [toB_is hy hb]; exact rfl) hgo hv k
theorem knF [fu : Fu] {f : FX} (hs : opS fr own cf = some (o, f)) (hb : toB f = some false) (hgo : goA tt n fu.n fr own cf .ff [] [] = ⟨vc, fr', own', cf'⟩) (k : CfS Tryz.prog GB C n Q0 fr' own' cf')
  (hv : allP vc := by first | exact trivial | (simp only [allP]; kernel_rfl) | (simp only [allP]; omega) | (simp only [allP, List.length_map, List.length_set, List.length_replicate]; omega)) : CfS Tryz.prog GB C n Q0 fr own cf := by
 unfold opS at hs
 split at hs <;> try (cases hs; done)
 rename_i o' hh
 split at hs <;> cases hs
 rename_i hc
 obtain ⟨dst, op, ty, pos, af, gd⟩ := o
 have h0 := core_ok (P := Tryz.prog) (GB := GB) (C := C) (n := n) (ty' := ty) (pos := pos) (af := af) (gd := gd) tt_ok hc (fun p e => by cases e)
 exact us hh (OpR.to h0 fun ρ G y hy => by rw [toB_is hy hb]; exact rfl) hgo hv k
theorem dpE (nm : Nat) {ty : TypeId} {cs : List FX} {lo : Bool} {ds : List DV} {own1 : OwX} {e : Exit} (hb : lookO own nm = some (.o ty cs lo)) (hc : toDXs cs = some ds) (ho : (nm, some (.o ty (ds.map .d) lo)) :: own = own1) (k : CfS Tryz.prog GB C n Q0 fr own1 (.ex e K)) : CfS Tryz.prog GB C n Q0 fr own (.ex e K) := by
 subst ho
 have old : ∀ m B, lookO ((nm, some (.o ty (ds.map .d) lo)) :: own) m = some B → ∃ B0, lookO own m = some B0 := fun m B e => by
   rw [lookO_cons] at e
   split at e
   · rename_i h; subst h; exact ⟨_, hb⟩
   · exact ⟨_, e⟩
 refine ⟨fun ρ G ov a w r => k.run ρ G ov a w ⟨r.gb, r.h, r.sz, r.df, r.fx, fun m B e => ?_, fun m m' B B' e e' => ?_⟩⟩
 · rw [lookO_cons] at e
   split at e
   · rename_i h; subst h; cases e
     obtain ⟨os, ⟨b, m, h1, rfl, h2⟩, h3⟩ := r.bx _ _ hb
     exact ⟨_, ⟨b, m, h1, rfl, isXs_d (toDXs_is h2 hc)⟩, h3⟩
   · exact r.bx _ _ e
 · obtain ⟨B0, h0⟩ := old _ _ e
   obtain ⟨B1, h1⟩ := old _ _ e'
   exact r.dj m m' B0 B1 h0 h1
end
end Go.Sx
end

section
set_option maxRecDepth 100000
namespace Go.Sx
open Go Go.Proofs
section
variable {GB : Gh} {C : Ctx} {n : Nat} {Q0 : Exit → Act → World → Prop} {fr fr' : FrX} {own own' : OwX} {cf cf' : Cf} {vc : List Prop} {ops : Array Oper} {o : Oper} {K : List Kt} {r : List Oper}
def OpF (GB : Gh) (C : Ctx) (n : Nat) (lk : LK) (bk : BM) (o : Oper) (ι : Type) (f : ι → FX) (bl : ι → List (Nat × Option Bk)) (nw : List Nat) : Prop :=
 dstOk n o.dst = true → ∀ (tl : LK) (tb : BM) (K : Act → World → Prop), SubX lk tl → SubX bk tb → FreshX nw o.dst tl tb → (∀ x, SX GB C n (upL tl o.dst (f x)) (Sx.upB tb (bl x)) K) → SX GB C n tl tb (fun a w => ∀ Q, o.wp Tryz.prog a w K Q)
def hdO : Cf → Option (Array Oper × Oper × List Oper × List Kt)
 | .ops ops (o :: r) K => some (ops, o, r, K)
 | _ => none
def goF (n q : Nat) (fr : FrX) (own : OwX) (cf : Cf) (f : FX) (bl : List (Nat × Option Bk)) : Res := match cf with
 | .ops ops (o :: r) K => setsK own bl fun own' => putK fr o.dst f fun fr' => go tt n q [] fr' own' (.ops ops r K)
 | _ => bad
def okF (n : Nat) (fr : FrX) (own : OwX) (cf : Cf) (nw : List Nat) : Bool := match cf with
 | .ops ops (o :: _) _ => freshL nw o.dst fr own && dstOk n o.dst && grd ops (lookX fr) o.guard
 | _ => false
theorem usF {q : Nat} {ι : Type} {f : ι → FX} {bl : ι → List (Nat × Option Bk)} {nw : List Nat} {vc : ι → List Prop} {fr' : ι → FrX} {own' : ι → OwX} {cf' : ι → Cf} (hh : opC fr cf = some o) (ho : okF n fr own cf nw = true) (h : OpF GB C n (lkC fr cf) (bkC fr own cf) o ι f bl nw)
   (hgo : ∀ x, goF n q fr own cf (f x) (bl x) = ⟨vc x, fr' x, own' x, cf' x⟩) (hv : ∀ x, allP (vc x)) (k : ∀ x, CfS Tryz.prog GB C n Q0 (fr' x) (own' x) (cf' x)) : CfS Tryz.prog GB C n Q0 fr own cf := by
 obtain ⟨ops, h1, h2⟩ := opC_ok hh
 cases cf with
 | ops ops' r K =>
   cases r with
   | nil => cases h1
   | cons o' r =>
     cases h1
     simp only [okF, Bool.and_eq_true] at ho
     refine ⟨fun ρ G ov a w rl => ?_⟩
     show wpL _ _ _ (o :: r) a w
     unfold wpL
     rw [if_pos (grd_ok ho.2 ρ G ov a w rl)]
     refine (h ho.1.2 _ _ (wpL Tryz.prog ops (cQ Tryz.prog Q0 K) r) (SubX.refl _) (SubX.refl _) (freshL_ok ho.1.1) (fun x => ?_)).run ρ G ov a w rl _
     have hx := hgo x
     unfold goF at hx
     simp only [setsK_eq, putK_eq] at hx
     have := gx' (GB := GB) (C := C) (Q0 := Q0) hx (hv x) (k x)
     show SX GB C n (upL (lookX fr) o.dst (f x)) (Sx.upB (lookO own) (bl x)) _
     rw [← lookX_put, ← lookO_sets]
     exact this
 | _ => cases ho
theorem ok_callN {lk : LK} {bk : BM} {fo : Operand} {args : Array Operand} {tys : Array TypeId} {f : FuncId} {d : Nat} {ds : List DV} {ι : Type} {ty ty0 : TypeId} {pos : String} {af : Array Edge} {gd : Option (Nat × Bool)} {cs' : ι → List DV}
  (ha : cargs lk fo args = some (f, ds)) (hF : PN GB Tryz.prog f ds ty0 ι cs') : OpF GB C n lk bk ⟨some d, .call ⟨.value fo, args, tys⟩, ty, pos, af, gd⟩ ι (fun _ => .ov d 0) (fun x => [(d, some (.o ty0 ((cs' x).map .d) true))]) [d] := by
 intro hd tl tb K' s1 s2 hf hk
 refine ⟨fun ρ G ov a w r Q => ?_⟩
 have r1 := r.mono s1 s2
 obtain ⟨h1, h2⟩ := cargs_ok ha
 obtain ⟨y, hy, hy'⟩ := r1.ev h1
 rw [(is_v (G := G)).1 hy'] at hy
 obtain ⟨vs, h3, h4⟩ := r1.evDs h2
 refine ch_callO (M := []) (rest := ov) hy h3 (List.Perm.refl _) (hF G vs r.gb h4) hd (fun v own1 G' hG hK a' w' rl => ?_) a w Q ⟨r.h, r.sz, frA_ok a, r.df⟩
 obtain ⟨x, b, m, rfl, rfl, hm⟩ := hK
 have rl' : Rel C n (Sx.put (frA a) (some d) (.pointer (some ⟨b, 0, none⟩))) (⟨b, m, ty0, true⟩ :: ov) G' a' w' := by simpa [relo, flM] using rl
 have hnd := (List.pairwise_cons.1 rl'.h.nd).1
 exact (hk x).run _ G' _ a' w' (r.new (x := ⟨some ⟨b, 0, none⟩, 0, 0⟩) (B' := .o ty0 ((cs' x).map .d) true) (os := [⟨b, m, ty0, true⟩]) hf hG.le rl'.h ⟨b, m, by simp, rfl, isXs_d hm⟩ (fun o ho => by rw [List.mem_singleton.1 ho]; exact List.mem_cons_self)
  (fun o ho => List.mem_cons_of_mem _ ho) (fun o ho e => by cases e; exact hnd o ho rfl) (f := .ov d 0) (y := .pointer (some ⟨b, 0, none⟩)) ⟨b, by simp, rfl⟩ (putA_rel rl'))
def calN (fr : FrX) (cf : Cf) : Option (FuncId × List DV × Nat) := match opC fr cf with
 | some ⟨some d, .call ⟨.value fo, args, _⟩, _, _, _, _⟩ => match cargs (lkC fr cf) fo args with
   | some (f, ds) => some (f, ds, d)
   | none => none
 | _ => none
theorem cn [fu : Fu] {f : FuncId} {d : Nat} {ds : List DV} {ty : TypeId} {ι : Type} {cs' : ι → List DV} {vc : ι → List Prop} {fr' : ι → FrX} {own' : ι → OwX} {cf' : ι → Cf} (ha : calN fr cf = some (f, ds, d)) (hF : PN GB Tryz.prog f ds ty ι cs')
  (hgo : ∀ x, (mapD (cs' x) fun csx => goF n fu.n fr own cf (.ov d 0) [(d, some (.o ty csx true))]) = ⟨vc x, fr' x, own' x, cf' x⟩) (k : ∀ x, CfS Tryz.prog GB C n Q0 (fr' x) (own' x) (cf' x)) (ho : okF n fr own cf [d] = true := by rfl)
  (hv : ∀ x, allP (vc x) := by intro; first | exact trivial | (simp only [allP]; kernel_rfl) | (simp only [allP]; omega) | (simp only [allP, List.length_map, List.length_set, List.length_replicate]; omega)) : CfS Tryz.prog GB C n Q0 fr own cf := by
 unfold calN at ha
 split at ha <;> try (cases ha; done)
 rename_i hh
 split at ha <;> cases ha
 rename_i h1
 simp only [mapD_eq] at hgo
 exact usF hh ho (ok_callN h1 hF) hgo hv k
def PMXpost (C : Ctx) (b : Nat) (m : List Value) (ty : TypeId) (lo : Bool) (ι : Type) (rv : ι → DV) (cs' : ι → List DV) : Ending → World → Prop := RPostM C [⟨b, m, ty, lo⟩] (fun v css G' => ∃ x, Is G' (rv x) v ∧ ∃ m', css = [m'] ∧ IsLs G' (cs' x) m')
end
end Go.Sx
end

section
set_option maxRecDepth 100000
namespace Go.Sx
open Go Go.Proofs
section
variable {GB : Gh} {C : Ctx} {n : Nat} {Q0 : Exit → Act → World → Prop} {fr fr' : FrX} {own own' : OwX} {cf cf' : Cf} {vc : List Prop} {ops : Array Oper} {o : Oper} {K : List Kt} {r : List Oper}
/-! ### a row handed back beside the borrowed variable -/
theorem ok_callMR {lk : LK} {bk : BM} {fo : Operand} {args : Array Operand} {tys : Array TypeId} {f : FuncId} {nm d : Nat} {l : List (Option DV)} {ι : Type} {s : Nat} {ty2 : TypeId} {rows : ι → List DV} {ty ty0 : TypeId} {pos : String} {af : Array Edge} {gd : Option (Nat × Bool)} {cs : List FX} {csd : List DV} {cs' : ι → List DV} {lo : Bool} (hne : Nat.beq nm d = false)
   (ha : cargM lk fo args = some (f, nm, l)) (hb : bk nm = some (.o ty0 cs lo)) (hc : toDXs cs = some csd) (hF : ∀ b, PMR GB Tryz.prog f (mkP l b) b ty0 csd s ty2 ι rows cs') : OpF GB C n lk bk ⟨some d, .call ⟨.value fo, args, tys⟩, ty, pos, af, gd⟩ ι (fun _ => .rw d) (fun x => [(nm, some (.o ty0 ((cs' x).map .d) lo)), (d, some (.b ty2 s (rows x) true))]) [d] := by
 intro hd tl tb K' s1 s2 hf hk
 refine ⟨fun ρ G ov a w r Q => ?_⟩
 have r1 := r.mono s1 s2
 unfold cargM at ha
 split at ha <;> try (cases ha; done)
 rename_i h1
 split at ha <;> cases ha
 rename_i h2
 obtain ⟨y, hy, hy'⟩ := r1.ev h1
 rw [(is_v (G := G)).1 hy'] at hy
 obtain ⟨b, m, rest, h3, h4, h5, h6⟩ := r1.lend hb hc
 obtain ⟨vs, h7, h8⟩ := evMs_ok r1 (b := b) h2 (fun nm e => by cases e; exact h3)
 refine ch_callO (M := [⟨b, m, ty0, lo⟩]) (rest := rest) hy h7 h5 (hF b G vs m lo r.gb h8 h4) hd (fun v own1 G' hG hK a' w' rl => ?_) a w Q ⟨r.h, r.sz, frA_ok a, r.df⟩
 obtain ⟨x, z, m', B, rfl, rfl, hm', ⟨vs', k1, k2, k3, k4⟩, hne'⟩ := hK
 have e1 : relo (flM [⟨b, m, ty0, lo⟩]) ⟨b, m', ty0, false⟩ = ⟨b, m', ty0, lo⟩ := by
   have hb : Nat.beq b b = true := Nat.beq_refl b
   simp [relo, flM]
 have e2 : ∀ o ∈ B.map (relo (flM [(⟨b, m, ty0, lo⟩ : Own)])), o.lo = true := by
   intro o ho
   obtain ⟨o', ho', rfl⟩ := List.mem_map.1 ho
   have hb : Nat.beq b o'.b = false := by
     cases h : Nat.beq b o'.b with
     | false => rfl
     | true => exact absurd (Nat.eq_of_beq_eq_true h) (hne' o' ho')
   have hb' : (b == o'.b) = false := by simpa using hne' o' ho'
   simp [relo, flM, hb, hb', hne' o' ho']
 have k1' := k1.relo (flM [⟨b, m, ty0, lo⟩])
 rw [List.map_cons, e1] at rl
 generalize B.map (relo (flM [(⟨b, m, ty0, lo⟩ : Own)])) = B' at rl e2 k1'
 have rl' : Rel C n (Sx.put (frA a) (some d) (.slice z.a z.n z.c)) (⟨b, m', ty0, lo⟩ :: (B' ++ rest)) G' a' w' := rl
 have hnn : nm ≠ d := fun e => by subst e; rw [Nat.beq_refl] at hne; cases hne
 have r2 := r.upB (G' := G') (ov' := ⟨b, m', ty0, lo⟩ :: (B' ++ rest)) (w' := w') (B' := .o ty0 ((cs' x).map .d) lo) (os := [⟨b, m', ty0, lo⟩]) hG.le rl'.h ⟨b, m', h3, rfl, isXs_d hm'⟩ (fun o ho => by rw [List.mem_singleton.1 ho]; exact List.mem_cons_self)
   (fun o ho hne => List.mem_cons_of_mem _ (List.mem_append_right _ (h6 o ho fun e => hne (by rw [h3, e])))) ⟨_, s2 _ _ hb⟩
 have hf2 : FreshX [d] (some d) tl (Sx.upB tb [(nm, some (.o ty0 ((cs' x).map .d) lo))]) := fun q hq => by
   obtain ⟨f1, f2⟩ := hf q hq
   refine ⟨f1, fun k B e1 e => ?_⟩
   simp only [Sx.upB] at e
   split at e
   · cases e
     rintro ⟨g, hg, hg'⟩
     obtain ⟨u, _, rfl⟩ := List.mem_map.1 hg
     cases hg'
   · exact f2 k B e1 e
 have hdis : ∀ o ∈ B', ∀ o' ∈ (⟨b, m', ty0, lo⟩ :: rest : List Own), o.b ≠ o'.b := by
   intro o ho o' ho'
   have hp : (⟨b, m', ty0, lo⟩ :: (B' ++ rest)).Perm (B' ++ (⟨b, m', ty0, lo⟩ :: rest)) := List.perm_middle.symm
   have := (List.pairwise_append.1 (rl'.h.perm hp).nd).2.2
   exact this o ho o' ho'
 have r3 := r2.new' (x := z) (B' := .b ty2 s (rows x) true) (os := B') (ov' := ⟨b, m', ty0, lo⟩ :: (B' ++ rest)) (f := .rw d) (y := .slice z.a z.n z.c) hf2 (GLe.refl _) rl'.h ⟨vs', by simpa using k1', k2, k3, fun _ => e2⟩ (fun o ho => List.mem_cons_of_mem _ (List.mem_append_left _ ho))
   (fun q B0 hq e o ho hbq => ⟨ho, fun hc => by
     have hx : ∃ o1 ∈ B', o1.b = o.b := by
       rcases k1' with ⟨_, h, _⟩ | ⟨b0, rest0, lo0, h, hB, _⟩
       · rw [show z = _ from h] at hc; cases hc
       · rw [show z = _ from h] at hc; cases hc; exact ⟨⟨_, flatL vs' ++ rest0, _, lo0⟩, by rw [hB]; exact List.mem_cons_self, rfl⟩
     obtain ⟨o1, ho1, he1⟩ := hx
     by_cases hqn : q = nm
     · subst hqn; rw [h3] at hbq; cases hbq; exact hdis o1 ho1 _ List.mem_cons_self he1
     · simp only [Sx.upB, hqn, if_false] at e
       obtain ⟨os, g1, g2⟩ := r.bx q B0 e
       obtain ⟨o2, ho2, he2⟩ := g1.mem_of hbq
       have hne2 : o2.b ≠ b := fun e' => r.dj nm q _ _ (s2 _ _ hb) e (Ne.symm hqn) b h3 (by rw [hbq, ← e', he2])
       exact hdis o1 ho1 o2 (List.mem_cons_of_mem _ (h6 o2 (g2 o2 ho2) hne2)) (by rw [he1, he2])⟩) (by simp [IsX]) (putA_rel rl')
 exact (hk x).run _ G' _ a' w' r3
def dstC (fr : FrX) (cf : Cf) : Option Nat := match opC fr cf with
 | some o => o.dst
 | none => none
theorem cmR [fu : Fu] {f : FuncId} {nm d : Nat} {l : List (Option DV)} {ty : TypeId} {cs : List DV} {ι : Type} {s : Nat} {ty2 : TypeId} {rows cs' : ι → List DV} {lo : Bool} {vc : ι → List Prop} {fr' : ι → FrX} {own' : ι → OwX} {cf' : ι → Cf} (ha : calM fr own cf = some ⟨f, nm, l, ty, cs, lo⟩) (hd : dstC fr cf = some d) (hF : ∀ b, PMR GB Tryz.prog f (mkP l b) b ty cs s ty2 ι rows cs')
  (hgo : ∀ x, (mapD (cs' x) fun csx => goF n fu.n fr own cf (.rw d) [(nm, some (.o ty csx lo)), (d, some (.b ty2 s (rows x) true))]) = ⟨vc x, fr' x, own' x, cf' x⟩) (k : ∀ x, CfS Tryz.prog GB C n Q0 (fr' x) (own' x) (cf' x)) (ho : okF n fr own cf [d] = true := by rfl) (hne : Nat.beq nm d = false := by rfl)
  (hv : ∀ x, allP (vc x) := by intro; first | exact trivial | (simp only [allP]; kernel_rfl) | (simp only [allP]; omega) | (simp only [allP, List.length_map, List.length_set, List.length_replicate]; omega)) : CfS Tryz.prog GB C n Q0 fr own cf := by
 unfold calM at ha
 unfold dstC at hd
 split at ha <;> try (cases ha; done)
 rename_i hh
 rw [hh] at hd
 cases hd
 split at ha <;> try (cases ha; done)
 rename_i h1
 split at ha <;> try (cases ha; done)
 rename_i h2
 split at ha <;> cases ha
 rename_i h3
 simp only [mapD_eq] at hgo
 exact usF hh ho (ok_callMR hne h1 h2 h3 hF) hgo hv k
def PMRpost (C : Ctx) (b : Nat) (ty : TypeId) (s : Nat) (ty2 : TypeId) (ι : Type) (rows cs' : ι → List DV) : Ending → World → Prop := RPostO C (fun v own' G' => ∃ x w m' B, v = .slice w.a w.n w.c ∧ own' = ⟨b, m', ty, false⟩ :: B ∧ IsLs G' (cs' x) m' ∧ BufIs G' ⟨w, s, ty2, rows x, true⟩ B ∧ ∀ o ∈ B, b ≠ o.b)
theorem fnMR [fu : Fu] {b : Nat} {f : FuncId} {fb : Func} {c : Code} {k : Nat} {l : List (Option DV)} {cs : List DV} {ι : Type} {s : Nat} {ty2 : TypeId} {rows cs' : ι → List DV} {ty : TypeId} (hf : Tryz.prog.funcs[f]? = some fb) (hb : fb.body = some c) (hn : (fb.name == "runtime.NumGoroutine") = false) (hm : fb.ntmps = k) (hlen : Nat.ble l.length k = true)
   (hgo : (mapD cs fun csx => go tt k fu.n [] (args0M 0 l) [(NM, some (.o ty csx false))] (.code c [])) = ⟨vc, fr, own, cf⟩) (h : ∀ C b, C.mb = [b] → CfS Tryz.prog GB C k (bodyPost Tryz.prog fb (PMRpost C b ty s ty2 ι rows cs')) fr own cf)
   (hv : allP vc := by first | exact trivial | (simp only [allP]; kernel_rfl) | (simp only [allP]; omega) | (simp only [allP, List.length_map, List.length_set, List.length_replicate]; omega)) : PMR GB Tryz.prog f (mkP l b) b ty cs s ty2 ι rows cs' := by
 intro G vs m lo hg hvs hm'
 refine FnO.intro hf hb hn hm (by rw [hvs.len, mkP_len]; exact hlen) fun C _ hmb => ?_
 intro a w rl
 rw [mapD_eq] at hgo
 have h1 := gx' (GB := GB) (C := C) (Q0 := bodyPost Tryz.prog fb (PMRpost C b ty s ty2 ι rows cs')) hgo hv (h C b (by simpa using hmb))
 refine h1.run (fun _ => ⟨some ⟨b, 0, none⟩, 0, 0⟩) G [⟨b, m, ty, false⟩] a w ⟨hg, rl.h, rl.sz, rl.df, fun k f e => ?_, fun nm B e => ?_, fun nm nm' B B' e e' hne => ?_⟩
 · obtain ⟨y, ⟨j, hj, hy⟩, h2⟩ := look_args0M (ρ := fun _ => ⟨some ⟨b, 0, none⟩, 0, 0⟩) (b := b) rfl 0 hvs k f e
   refine ⟨y, rl.fr k y ?_, h2⟩
   rw [hj]; exact look_args0' vs 0 j y hy
 · rw [lookO_cons] at e
   split at e
   · cases e; exact ⟨[⟨b, m, ty, false⟩], ⟨b, m, rfl, rfl, isXs_d hm'⟩, fun o ho => ho⟩
   · cases e
 · rw [lookO_cons] at e e'
   split at e <;> split at e'
   · rename_i h2 h3; exact absurd (h2.trans h3.symm) hne
   · cases e'
   · cases e
   · cases e
theorem rzMR {fb : Func} {b t d s : Nat} {ty ty2 : TypeId} {ι : Type} {rows cs' : ι → List DV} {cs1 rws : List DV} (x : ι) (hmb : C.mb = [b]) (hr : fb.results.toList = [.tmp t]) (hl : lookX fr t = some (.rw d)) (hw : lookO own d = some (.b ty2 s rws true)) (ho : ownD own NM = some (ty, cs1)) (er : rws = rows x) (ec : cs1 = cs' x) (hne : Nat.beq NM d = false := by rfl) :
   CfS Tryz.prog GB C n (bodyPost Tryz.prog fb (PMRpost C b ty s ty2 ι rows cs')) fr own (.ex .ret []) := by
 refine ⟨fun ρ G ov a w r => ?_⟩
 have hnn : NM ≠ d := fun e => by rw [← e, Nat.beq_refl] at hne; cases hne
 unfold ownD at ho
 split at ho <;> try (cases ho; done)
 rename_i hb
 split at ho <;> cases ho
 rename_i hc
 obtain ⟨b', m', rest, h3, h4, h5, h6⟩ := r.lend hb hc
 have hbb : b' = b := by
   have := (r.h.hown _ (h5.mem_iff.2 (List.mem_append_left _ List.mem_cons_self))).2.2.2 rfl
   rw [hmb] at this; simpa using this
 subst hbb er ec
 obtain ⟨os, g1, g2⟩ := r.bx _ _ hw
 have hdis : ∀ o ∈ os, o.b ≠ b' := fun o ho e => r.dj NM d _ _ hb hw hnn b' h3 (by rw [g1.blk ho, e])
 obtain ⟨y, hy, hy'⟩ := r.ev (x := .tmp t) (f := .rw d) hl
 cases (show y = .slice (ρ d).a (ρ d).n (ρ d).c from hy')
 refine st_doneO' (C := C) (n := n) (fr := frA a) (own := ov) (G := G) (vs := [.slice (ρ d).a (ρ d).n (ρ d).c]) (by rw [hr]; exact .tmp hy .nil) (⟨b', m', ty, false⟩ :: rest) (⟨b', m', ty, false⟩ :: os) (by simpa using h5) (.cons_cons _ ?_) (fun _ => ⟨x, ρ d, m', os, rfl, rfl, h4, g1, fun o ho => (hdis o ho).symm⟩) a w ⟨r.h, r.sz, frA_ok a, r.df⟩
 obtain ⟨vs, ⟨_, _, h⟩ | ⟨b0, r0, lo0, _, h, _⟩, _⟩ := g1
 · rw [h]; exact List.nil_sublist _
 · rw [h]; exact List.singleton_sublist.2 (h6 _ (g2 _ (by rw [h]; exact List.mem_cons_self)) (hdis _ (by rw [h]; exact List.mem_cons_self)))
end
end Go.Sx
end

section
set_option maxRecDepth 100000
namespace Go.Sx
open Go Go.Proofs
section
variable {GB : Gh} {C : Ctx} {n : Nat} {Q0 : Exit → Act → World → Prop} {fr fr' : FrX} {own own' : OwX} {cf cf' : Cf} {vc : List Prop} {ops : Array Oper} {o : Oper} {K : List Kt} {r : List Oper}
def PNpost (C : Ctx) (ty : TypeId) (ι : Type) (cs : ι → List DV) : Ending → World → Prop := RPostO C (fun v own' G' => ∃ x b m, v = .pointer (some ⟨b, 0, none⟩) ∧ own' = [⟨b, m, ty, true⟩] ∧ IsLs G' (cs x) m)
theorem fnN [fu : Fu] {f : FuncId} {fb : Func} {c : Code} {m : Nat} {ds : List DV} {ty : TypeId} {ι : Type} {cs : ι → List DV} (hf : Tryz.prog.funcs[f]? = some fb) (hb : fb.body = some c) (hn : (fb.name == "runtime.NumGoroutine") = false) (hm : fb.ntmps = m) (hlen : Nat.ble ds.length m = true)
  (hgo : go tt m fu.n [] (args0X 0 ds) [] (.code c []) = ⟨vc, fr, own, cf⟩) (k : ∀ C : Ctx, C.mb = [] → CfS Tryz.prog GB C m (bodyPost Tryz.prog fb (PNpost C ty ι cs)) fr own cf)
  (hv : allP vc := by first | exact trivial | (simp only [allP]; kernel_rfl) | (simp only [allP]; omega) | (simp only [allP, List.length_map, List.length_set, List.length_replicate]; omega)) : PN GB Tryz.prog f ds ty ι cs := by
 intro G vs hg hvs
 refine FnO.intro hf hb hn hm (by rw [hvs.len]; exact hlen) fun C _ hmb => ?_
 intro a w rl
 have h := gx' (GB := GB) (C := C) (Q0 := bodyPost Tryz.prog fb (PNpost C ty ι cs)) hgo hv (k C (by simpa using hmb))
 exact h.run (fun _ => ⟨none, 0, 0⟩) G [] a w ⟨hg, rl.h, rl.sz, rl.df, (fun k f e => args_fr hvs rl.fr k f e), (fun nm B e => by cases e), (fun nm nm' B B' e => by cases e)⟩
theorem rzN {fb : Func} {t d : Nat} {ty : TypeId} {ι : Type} {cs : ι → List DV} {cs1 : List FX} {l : List DV} (x : ι) (hr : fb.results.toList = [.tmp t]) (hl : lookX fr t = some (.ov d 0)) (hw : lookO own d = some (.o ty cs1 true)) (hc : toDXs cs1 = some l) (hd : l = cs x) :
  CfS Tryz.prog GB C n (bodyPost Tryz.prog fb (PNpost C ty ι cs)) fr own (.ex .ret []) := by
 refine ⟨fun ρ G ov a w r => ?_⟩
 subst hd
 obtain ⟨b, m, rest, h3, h4, h5, h6⟩ := r.lend hw hc
 obtain ⟨y, hy, b', hb', hy'⟩ := r.ev (x := .tmp t) (f := .ov d 0) hl
 rw [h3] at hb'; cases hb'; subst hy'
 exact st_doneO' (C := C) (n := n) (fr := frA a) (own := ov) (G := G) (vs := [.pointer (some ⟨b, 0, none⟩)]) (by rw [hr]; exact .tmp hy .nil) (⟨b, m, ty, true⟩ :: rest) [⟨b, m, ty, true⟩] (by simpa using h5) (.cons_cons _ (List.nil_sublist _)) (fun _ => ⟨x, b, m, rfl, rfl, h4⟩) a w ⟨r.h, r.sz, frA_ok a, r.df⟩
theorem bxf [fu : Fu] {d : Nat} {l : List DV} (h : boxA fr cf = some (d, l)) (hgo : goA tt n fu.n fr own cf (.d (.pt l)) [(d, none)] [d] = ⟨vc, fr', own', cf'⟩) (k : CfS Tryz.prog GB C n Q0 fr' own' cf')
  (hv : allP vc := by first | exact trivial | (simp only [allP]; kernel_rfl) | (simp only [allP]; omega) | (simp only [allP, List.length_map, List.length_set, List.length_replicate]; omega)) : CfS Tryz.prog GB C n Q0 fr own cf := by
 unfold boxA at h
 split at h <;> try (cases h; done)
 rename_i hh
 split at h <;> try (cases h; done)
 rename_i g hx
 rw [cond_eq_ite] at h
 split at h <;> try (cases h; done)
 rename_i hc
 simp only [Bool.and_eq_true] at hc
 split at h <;> cases h
 rename_i hl
 exact us hh (ok_boxF hx hc.1 hc.2 hl) hgo hv k
end
end Go.Sx
end

section
set_option maxRecDepth 100000
namespace Go.Sx
open Go Go.Proofs
theorem isNilS (G : Gh) : Is G (.sl []) (.slice none 0 0) := is_sl.2 ⟨0, ⟨none, 0, 0⟩, [], rfl, IsSl.nil G 0, .nil⟩
instance : TyZD Tryz.prog 36 (.agg ⟨[.int .i64 0, .slice none 0 0]⟩) [.v (.int .i64 0), .sl []] := ⟨inferInstance, (.cons ((is_v.2 rfl)) (.cons (isNilS _) .nil))⟩
instance : TyZD Tryz.prog 60 (.agg ⟨[.bool false, .slice none 0 0, .bool false, .slice none 0 0, .bool false, .slice none 0 0, .int .i64 0, .int .i64 0]⟩) [.v (.bool false), .sl [], .v (.bool false), .sl [], .v (.bool false), .sl [], .v (.int .i64 0), .v (.int .i64 0)] := ⟨inferInstance, (.cons ((is_v.2 rfl)) (.cons (isNilS _) (.cons ((is_v.2 rfl)) (.cons (isNilS _) (.cons ((is_v.2 rfl)) (.cons (isNilS _) (.cons ((is_v.2 rfl)) (.cons ((is_v.2 rfl)) .nil))))))))⟩
instance : TyZE Tryz.prog 60 (.ag [.v (.bool false), .sl [], .v (.bool false), .sl [], .v (.bool false), .sl [], .v (.int .i64 0), .v (.int .i64 0)]) := ⟨⟨_, inferInstance, is_ag.2 ⟨_, rfl, (.cons ((is_v.2 rfl)) (.cons (isNilS _) (.cons ((is_v.2 rfl)) (.cons (isNilS _) (.cons ((is_v.2 rfl)) (.cons (isNilS _) (.cons ((is_v.2 rfl)) (.cons ((is_v.2 rfl)) .nil))))))))⟩, rfl⟩⟩
end Go.Sx
end

section
set_option maxRecDepth 100000
namespace Go.Sx
open Go Go.Proofs
theorem trimD_step {ds : List Nat} {k : Nat} (hk : k < ds.length) (h : trimD ds = trimD (ds.take (k + 1))) (h0 : ds.getD k 0 = 0) : trimD ds = trimD (ds.take k) := by
 rw [h, List.take_succ_eq_append_getElem hk]
 have : ds[k] = 0 := by rw [List.getD_eq_getElem?_getD, List.getElem?_eq_getElem hk] at h0; simpa using h0
 rw [this, trimD_snoc0]
theorem trimD_stop {ds : List Nat} {k : Nat} (hk : k < ds.length) (h : trimD ds = trimD (ds.take (k + 1))) (h0 : ds.getD k 0 ≠ 0) : trimD ds = ds.take (k + 1) := by
 rw [h, List.take_succ_eq_append_getElem hk]
 have : ds[k] ≠ 0 := by rw [List.getD_eq_getElem?_getD, List.getElem?_eq_getElem hk] at h0; simpa using h0
 exact trimD_snoc this
theorem nat_trim {A G : Gh} {x : SV} {ds : List Nat} (hx : IsD A x ds) [GL A G] (hb : ds.length ≤ 1125899906842624) : Fn Tryz.prog 181 [x.v] G (fun v _ => v = .slice x.a (trimD ds).length x.c) := by
 have hlen := hx.len
 have hcap := hx.sl.cap
 refine Fn.intro Tryz.func181 rfl rfl Tryz.ntmps181 rfl ?_
 intro C _ _
 refine sR <| sa rfl rfl <| zE <| st_seq <| st_block <| ?_
 refine st_loop (X := Nat) (fun k => [(0, .slice x.a k x.c)]) (fun _ => []) (fun k _ => k ≤ ds.length ∧ trimD ds = trimD (ds.take k)) (fun k => k) ds.length ⟨Nat.le_refl _, by simp⟩ (hlen ▸ .cons rfl .nil) rfl ?_
 rintro k Gx _ ⟨hk, ht⟩
 refine st_seq <| sR <| sm rfl rfl <| slen rfl rfl <| sy (yd_gtr rfl rfl) rfl <| sm rfl rfl <| ?_
 refine st_caseP 6 rfl (fun hg => ?_) (fun hg => ?_)
 · have hk1 : k - 1 < ds.length := by omega
   have hkt : ((k : Int) - 1).toNat = k - 1 := by omega
   have hk2 : k = k - 1 + 1 := by omega
   refine syg rfl rfl (yd_move rfl) rfl <| syg rfl rfl (yd_move rfl) rfl <| syg rfl rfl (yd_len rfl) rfl <| syg rfl rfl (yd_sub64 rfl rfl) rfl <| ?_
   refine syg rfl rfl (yd_ixD (z := ⟨x.a, k, x.c⟩) (hx.take k hk) rfl rfl (by omega) (by show _ < (k : Int); omega)) rfl <| syg rfl rfl (yd_ldD hx rfl (by omega)) rfl <| syg rfl rfl (yd_eql rfl rfl) rfl <| sy (yd_pickT rfl rfl) rfl <| zE <| ?_
   rw [hkt]
   refine st_condE rfl (fun hc => ?_) (fun hc => ?_) -- slot 14
   · refine st_exit <| st_te <| st_te <| st_inBlock_eq <| sR <| sm rfl rfl <| sa rfl rfl <| zE <| st_ret <| ?_
     have hs := trimD_stop hk1 (hk2 ▸ ht) (fun e => hc (by rw [e]; rfl))
     refine zD (.tmp rfl .nil) ?_
     rw [hs, ← hk2]
     simp [tupled, hk]
   refine zK <| st_block <| st_region <| sm rfl rfl <| sm rfl rfl <| slen rfl rfl <| sy (yd_sub64 rfl rfl) rfl <| sy (yd_slice_hi rfl rfl (by omega) (by omega)) rfl <| ?_
   refine sa rfl rfl <| zE <| ?_
   exact st_again (k - 1) ⟨by omega, trimD_step hk1 (hk2 ▸ ht) (by omega)⟩ (by omega) (.cons (by rw [← hkt]; rfl) .nil) rfl
 refine ss rfl rfl rfl rfl <| ss rfl rfl rfl rfl <| ss rfl rfl rfl rfl <| ss rfl rfl rfl rfl <| ss rfl rfl rfl rfl <| ss rfl rfl rfl rfl <| ?_
 refine ss rfl rfl rfl rfl <| sy (yd_pickF rfl rfl) rfl <| zE <| st_condF rfl <| st_exit <| st_te <| st_te <| st_inBlock_eq <| sR <| sm rfl rfl <| sa rfl rfl <| zE <| st_ret <| ?_
 have hk0 : k = 0 := by omega
 subst hk0
 refine zD (.tmp rfl .nil) ?_
 rw [ht]
 rfl
/-! ### Normal, Clone, Norm -/
theorem nat_Normal {A G : Gh} {x : SV} {ds : List Nat} (hx : IsD A x ds) [GL A G] (hb : ds.length ≤ 1125899906842624) : Fn Tryz.prog 139 [x.v] G (fun v _ => v = .bool (decide (Nrm ds))) := by
 have hlen := hx.len
 refine Fn.intro Tryz.func139 rfl rfl Tryz.ntmps139 rfl ?_
 intro C _ _
 refine sR <| sa rfl rfl <| zE <| sR <| sm rfl rfl <| slen rfl rfl <| sy (yd_eql rfl rfl) rfl <| sm rfl rfl <| ?_
 refine st_caseP 6 rfl (fun hg => ?_) (fun hg => ?_)
 · refine ss rfl rfl rfl rfl <| ss rfl rfl rfl rfl <| ss rfl rfl rfl rfl <| ss rfl rfl rfl rfl <| ss rfl rfl rfl rfl <| ss rfl rfl rfl rfl <| ss rfl rfl rfl rfl <| sy (yd_pickT rfl rfl) rfl <| sa rfl rfl <| ?_
   refine zE <| st_ret <| ?_
   refine zD (.tmp rfl .nil) ?_
   have : ds = [] := List.eq_nil_of_length_eq_zero (by omega)
   subst this
   simp [tupled, Nrm]
 have hne : 0 < ds.length := by omega
 have hkt : ((x.n : Int) - 1).toNat = ds.length - 1 := by omega
 refine syg rfl rfl (yd_move rfl) rfl <| syg rfl rfl (yd_move rfl) rfl <| syg rfl rfl (yd_len rfl) rfl <| syg rfl rfl (yd_sub64 rfl rfl) rfl <| syg rfl rfl (yd_ixD hx rfl rfl (by omega) (by omega)) rfl <| ?_
 refine syg rfl rfl (yd_ldD hx rfl (by omega)) rfl <| syg rfl rfl (yd_neq rfl rfl) rfl <| sy (yd_pickF rfl rfl) rfl <| sa rfl rfl <| zE <| st_ret <| ?_
 refine zD (.tmp rfl .nil) ?_
 rw [hkt]
 simp only [tupled, Value.bool.injEq, decide_eq_decide, Nrm, List.getLast?_eq_getElem?, List.getD_eq_getElem?_getD, List.getElem?_eq_getElem (show ds.length - 1 < ds.length by omega), Option.getD_some, ne_eq, Option.some.injEq]
 exact not_congr (by omega)
theorem dI_flat (ds : List Nat) : ∀ v ∈ ds.map dI, flat v = true := fun v hv => by
 obtain ⟨d, _, rfl⟩ := List.mem_map.1 hv; rfl
theorem nat_Clone {A G : Gh} {x : SV} {ds : List Nat} (hx : IsD A x ds) [GL A G] (hb : ds.length ≤ 1125899906842) : Fn Tryz.prog 212 [x.v] G (fun v G' => ∃ z : SV, v = z.v ∧ IsD G' z ds) := by
 have hlen := hx.len
 refine Fn.intro Tryz.func212 rfl rfl Tryz.ntmps212 rfl ?_
 intro C _ _
 refine sR <| sa rfl rfl <| zE <| st_seq <| sR <| sm rfl rfl <| sy (yd_eqS rfl rfl) rfl <| zE <| ?_
 refine st_condB rfl (fun hc => ?_) (fun hc => ?_)
 · refine sR <| sa rfl rfl <| zE <| st_ret <| ?_
   refine zD (.tmp rfl .nil) ⟨⟨none, 0, 0⟩, rfl, ?_⟩
   rcases hx.sl.mem with h | ⟨b, off, cs, ha, _⟩
   · have : ds = [] := by simpa using h
     subst this; exact .nil _
   · rw [ha] at hc; cases hc
 refine zK <| sR <| ?_
 refine sc (ch_slice0 rfl ?_)
 intro b1
 refine sm rfl rfl <| ?_
 refine sc (ch_append_own (xs := []) (rest := []) (ys := ds.map dI) rfl rfl (.hd ..) rfl rfl (Nat.le_refl _) (src_D hx) (by simp [hlen]) (dI_flat ds) (by decide) (by omega) rfl rfl ?_)
 intro b cap rest h1 h2
 refine sa rfl rfl <| zE <| st_freeze b (.hd ..) (fun G' _ hgb => ?_)
 refine st_ret <| ?_
 refine zD (.tmp rfl .nil) ⟨⟨some ⟨b, 0, none⟩, x.n, cap⟩, by simp [tupled, SV.v], ?_⟩
 exact .of_block hx.ok hgb.h hlen (by omega) (by simp)
theorem nat_Norm {A G : Gh} {x : SV} {ds : List Nat} {k : Nat} (hx : IsD A x ds) [GL A G] (hk : dv ds < 2 ^ k) (hb : ds.length ≤ 1125899906842) : Fn Tryz.prog 180 [x.v] G (fun v G' => ∃ z : SV, v = z.v ∧ IsN k G' z (dv ds)) := by
 have htl := trimD_len ds
 refine Fn.intro Tryz.func180 rfl rfl Tryz.ntmps180 rfl ?_
 intro C _ _
 refine sR <| sa rfl rfl <| zE <| sR <| sm rfl rfl <| ?_
 refine sc (zC rfl rfl (nat_trim hx (by omega)) rfl ?_)
 rintro _ G1 _ rfl
 refine sc (zC rfl rfl (nat_Clone hx.trim (by omega)) rfl ?_)
 rintro _ G2 _ ⟨z, rfl, hz⟩
 refine sa rfl rfl <| zE <| st_ret <| ?_
 refine zD (.tmp rfl .nil) ⟨z, rfl, ?_⟩
 exact ⟨by rw [dg_trim hx.ok]; exact hz, hk⟩
end Go.Sx
end

section
namespace Go.Proofs
open Go.Shelf
def Tryz.lays128_ren : Go.Shelf.Ren := ⟨fun | 128 => 225 | n => n, fun | 51 => 224 | 3 => 3 | 4 => 4 | 46 => 235 | 5 => 5 | 9 => 9 | n => n, fun | n => n⟩
def Tryz.lays133_ren : Go.Shelf.Ren := ⟨fun | 133 => 202 | 128 => 225 | n => n, fun | 51 => 224 | 3 => 3 | 4 => 4 | 46 => 235 | 5 => 5 | 9 => 9 | n => n, fun | n => n⟩
theorem Tryz.lays133 : Go.Proofs.Lays.n133 Tryz.prog Tryz.lays133_ren := {
 mixed := by kernel_rfl
 f128 := Tryz.func225.trans (congrArg some (by kernel_rfl))
 f133 := Tryz.func202.trans (congrArg some (by kernel_rfl))
 t3 := Tryz.underlying3
 a3 := Tryz.isAgg3
 z3 := Tryz.sizeOf3
 v3 := Tryz.zeroValue3
 t4 := Tryz.underlying4
 a4 := Tryz.isAgg4
 z4 := Tryz.sizeOf4
 v4 := Tryz.zeroValue4
 t5 := Tryz.underlying5
 a5 := Tryz.isAgg5
 z5 := Tryz.sizeOf5
 v5 := Tryz.zeroValue5
 t9 := Tryz.underlying9
 a9 := Tryz.isAgg9
 z9 := Tryz.sizeOf9
 v9 := Tryz.zeroValue9
 t46 := Tryz.underlying235
 a46 := Tryz.isAgg235
 z46 := Tryz.sizeOf235
 v46 := Tryz.zeroValue235
 t51 := Tryz.underlying224
 a51 := Tryz.isAgg224
 z51 := Tryz.sizeOf224
 v51 := Tryz.zeroValue224 }
theorem Tryz.bits_LeadingZeros32 (x : Int) (w : World) (h0 : 0 ≤ x) (h1 : x ≤ 4294967295) :
  Calls Tryz.prog 202 #[.int .u32 x] w fun e w' => e = .returned (.int .i64 (32 - (Lib.bitLen x.toNat : Int))) ∧ w' = w := Any.bits_LeadingZeros32 Tryz.lays133 x w h0 h1
def Tryz.lays264_ren : Go.Shelf.Ren := ⟨fun | 264 => 233 | n => n, fun | 53 => 199 | 46 => 235 | n => n, fun | n => n⟩
theorem Tryz.lays264 : Go.Proofs.Lays.n264 Tryz.prog Tryz.lays264_ren := {
 mixed := by kernel_rfl
 f264 := Tryz.func233.trans (congrArg some (by kernel_rfl))
 t46 := Tryz.underlying235
 a46 := Tryz.isAgg235
 z46 := Tryz.sizeOf235
 v46 := Tryz.zeroValue235
 t53 := Tryz.underlying199
 a53 := Tryz.isAgg199
 z53 := Tryz.sizeOf199
 v53 := Tryz.zeroValue199 }
open Go.RowKit Go.Lib in
theorem Tryz.bits_Mul64 (x y : Nat) (hx : x < 18446744073709551616) (hy : y < 18446744073709551616) (w : World) :
  Calls Tryz.prog 233 #[.int .u64 x, .int .u64 y] w fun e w' => e = .returned (.tuple #[.int .u64 ((x * y / 18446744073709551616 : Nat) : Int), .int .u64 ((x * y % 18446744073709551616 : Nat) : Int)]) ∧ w' = w := Any.bits_Mul64 Tryz.lays264 x y hx hy w
end Go.Proofs
end

section
set_option maxRecDepth 100000
namespace Go.Sx
open Go Go.Proofs
/-! ### the number of binary digits -/
def bl (x : Nat) : Nat := if x = 0 then 0 else Nat.log2 x + 1
theorem bl_zero : bl 0 = 0 := rfl
theorem lt_bl (x : Nat) : x < 2 ^ bl x := by
 unfold bl
 split
 · rename_i h; subst h; decide
 · exact Nat.lt_log2_self
theorem bl_le {x k : Nat} : bl x ≤ k ↔ x < 2 ^ k := by
 constructor
 · intro h; exact Nat.lt_of_lt_of_le (lt_bl x) (Nat.pow_le_pow_right (by omega) h)
 · intro h
   unfold bl
   split
   · omega
   · rename_i h0
     have := (Nat.log2_lt h0).2 h
     omega
theorem bl_half {x : Nat} (h : x ≠ 0) : bl x = 1 + bl (x / 2) := by
 have h1 : ∀ k, bl x ≤ k + 1 ↔ bl (x / 2) ≤ k := fun k => by
  rw [bl_le, bl_le, Nat.pow_succ]; omega
 have h2 : bl x ≠ 0 := fun e => by
  have := lt_bl x; rw [e] at this; simp at this; exact h this
 have h3 := (h1 (bl (x / 2))).2 (Nat.le_refl _)
 have h4 := (h1 (bl x - 1)).1 (by omega)
 omega
theorem bitLenAux_eq : ∀ (f x : Nat), x < 2 ^ f → Lib.bitLenAux f x = bl x
 | 0, x, h => by
   have : x = 0 := by simpa using h
   subst this; rfl
 | f + 1, x, h => by
   unfold Lib.bitLenAux
   split
   · rename_i h0; subst h0; rfl
   · rename_i h0
     rw [bitLenAux_eq f (x / 2) (by rw [Nat.pow_succ] at h; omega), bl_half h0]
theorem bitLen_eq {x : Nat} (h : x < 2 ^ 64) : Lib.bitLen x = bl x := bitLenAux_eq 64 x h
theorem bl_shift {x k : Nat} (d : Nat) (h : x < 2 ^ k) (hd : d ≠ 0) : bl (x + 2 ^ k * d) = k + bl d := by
 have h1 : ∀ j, bl (x + 2 ^ k * d) ≤ k + j ↔ bl d ≤ j := fun j => by
   rw [bl_le, bl_le, Nat.pow_add]
   constructor
   · intro h'
     exact Nat.lt_of_mul_lt_mul_left (a := 2 ^ k) (by omega)
   · intro h'
     have : 2 ^ k * (d + 1) ≤ 2 ^ k * 2 ^ j := Nat.mul_le_mul_left _ h'
     rw [Nat.mul_add] at this
     omega
 have h2 : k < bl (x + 2 ^ k * d) := by
   rcases Nat.lt_or_ge k (bl (x + 2 ^ k * d)) with h' | h'
   · exact h'
   · have := bl_le.1 h'
     have h3 : 2 ^ k * 1 ≤ 2 ^ k * d := Nat.mul_le_mul_left _ (by omega)
     omega
 have h3 := (h1 (bl d)).2 (Nat.le_refl _)
 have h4 := (h1 (bl (x + 2 ^ k * d) - k)).1 (by omega)
 omega
theorem bl_dv {ds : List Nat} (h : DOk ds) (hn : Nrm ds) (hne : ds ≠ []) : bl (dv ds) = 32 * (ds.length - 1) + bl (ds.getD (ds.length - 1) 0) := by
 rcases List.eq_nil_or_concat ds with rfl | ⟨l, d, rfl⟩
 · exact absurd rfl hne
 · rw [List.concat_eq_append] at *
   have hd : d ≠ 0 := fun e => by subst e; simp [Nrm] at hn
   have hl : DOk l := fun x hx => h x (List.mem_append_left _ hx)
   have h1 := dv_lt hl
   rw [dv_append]
   have h2 : (4294967296 : Nat) ^ l.length = 2 ^ (32 * l.length) := by rw [Nat.pow_mul]
   rw [h2] at h1 ⊢
   have h3 : dv [d] = d := by simp [dv]
   rw [h3, bl_shift d h1 hd]
   have h4 : (l ++ [d]).length - 1 = l.length := by simp
   rw [h4, List.getD_eq_getElem?_getD, List.getElem?_append_right (Nat.le_refl _)]
   simp
theorem callable_of {P : Program} {f : FuncId} {fn : Func} {c : Code} (h : P.funcs[f]? = some fn) (hb : fn.body = some c) (hn : (fn.name == "runtime.NumGoroutine") = false) : Callable P f := ⟨fn, h, hn, by rw [hb]; rfl⟩
theorem bits_lz32 {G : Gh} {x : Nat} (hx : x < 4294967296) : Fn Tryz.prog 202 [.int .u32 (x : Int)] G (fun v _ => v = .int .i64 (32 - (bl x : Int))) := by
 have h := Fn.of_calls (G := G) (callable_of Tryz.func202 rfl rfl) (fun w => Tryz.bits_LeadingZeros32 (x : Int) w (by omega) (by omega))
 rw [Int.toNat_natCast, bitLen_eq (Nat.lt_trans hx (by decide))] at h
 exact h
/-! ### FromUint, Uint, Bits -/
theorem nat_FromUint {G : Gh} {u : Nat} (hu : u < 18446744073709551616) : Fn Tryz.prog 182 [.int .u64 (u : Int)] G (fun v G' => ∃ z : SV, v = z.v ∧ IsN 64 G' z u) := by
 refine Fn.intro Tryz.func182 rfl rfl Tryz.ntmps182 rfl ?_
 intro C _ _
 refine sR <| sa rfl rfl <| zE <| sR <| sm rfl rfl <| sy (yd_toU32 rfl) rfl <| sm rfl rfl <| ?_
 refine sy (yd_shr rfl rfl (by decide)) rfl <| sy (yd_toU32 rfl) rfl <| ?_
 refine sc (ch_slice (by rfl) (by rfl) (by rfl) (by rfl) rfl ?_)
 intro b1
 refine st_freeze b1 (.hd ..) (fun G1 _ hgb => ?_)
 have h1 : ((u : Int) % 4294967296) = ((u % 4294967296 : Nat) : Int) := by omega
 have h2 : ((u : Int).fdiv (2 ^ min (32 : Int).toNat IntKind.u64.bits) % 4294967296) = ((u / 4294967296 : Nat) : Int) := by
  have : (2 ^ min (32 : Int).toNat IntKind.u64.bits : Int) = 4294967296 := by decide
  rw [this, Int.fdiv_eq_ediv_of_nonneg _ (by omega)]
  omega
 have hok : DOk [u % 4294967296, u / 4294967296] := .cons (by omega) (.cons (by omega) .nil)
 have hd : IsD G1 ⟨some ⟨b1, 0, none⟩, 2, 2⟩ [u % 4294967296, u / 4294967296] := .of_block hok hgb.h rfl (Nat.le_refl _) (by rw [h1, h2]; rfl)
 have hv : dv [u % 4294967296, u / 4294967296] = u := by simp only [dv]; omega
 refine sc (zC rfl rfl (nat_trim hd (by simp)) rfl ?_)
 rintro _ G2 _ rfl
 refine sa rfl rfl <| zE <| st_ret <| ?_
 refine zD (.tmp rfl .nil) ⟨⟨some ⟨b1, 0, none⟩, (trimD [u % 4294967296, u / 4294967296]).length, 2⟩, rfl, ?_⟩
 have := hd.trim.up (G := G2)
 rw [← dg_trim hok, hv] at this
 exact ⟨by rw [← dg_trim hok, hv]; exact this, Nat.lt_of_lt_of_le hu (by decide)⟩
theorem or_add {P : Program} {t : TypeId} (a b k : Nat) (ha : a < 2 ^ k) (h : a + b * 2 ^ k < 18446744073709551616) (w : World) : (binOp .or t (.int .u64 (a : Int)) (.int .u64 ((b * 2 ^ k : Nat) : Int))).run P w = .ok (.int .u64 ((a + b * 2 ^ k : Nat) : Int)) w := by
 have h1 : (BitVec.ofInt 64 (a : Int) ||| BitVec.ofInt 64 ((b * 2 ^ k : Nat) : Int)).toNat = a + b * 2 ^ k := by
  rw [BitVec.toNat_or, BitVec.ofInt_natCast, BitVec.ofInt_natCast, BitVec.toNat_ofNat, BitVec.toNat_ofNat, Nat.mod_eq_of_lt (by omega), Nat.mod_eq_of_lt (by omega)]
  rw [← Nat.shiftLeft_eq, Nat.or_comm, ← Nat.shiftLeft_add_eq_or_of_lt ha, Nat.shiftLeft_eq]
  omega
 have h2 : IntKind.u64.wrap ((a + b * 2 ^ k : Nat) : Int) = ((a + b * 2 ^ k : Nat) : Int) := by rw [wrap_u64]; omega
 simp only [binOp]
 show (Op.intBits .or .u64 (a : Int) ((b * 2 ^ k : Nat) : Int)).run P w = _
 unfold Op.intBits
 show (pure (Value.int .u64 (IntKind.u64.wrap ((BitVec.ofInt 64 (a : Int) ||| BitVec.ofInt 64 ((b * 2 ^ k : Nat) : Int)).toNat : Int))) : Sem Value).run P w = _
 rw [h1, h2, run_pure]
theorem nat_Uint {A G : Gh} {x : SV} {ds : List Nat} (hx : IsD A x ds) [GL A G] (hb : ds.length ≤ 1125899906842624) : Fn Tryz.prog 178 [x.v] G (fun v _ => v = .tuple #[.int .u64 ((if dv ds < 18446744073709551616 then dv ds else 0 : Nat) : Int), .bool (decide (dv ds < 18446744073709551616))]) := by
 have htl := trimD_len ds
 have hdv := dv_trimD ds
 have hok := hx.ok.trimD
 have hnr := Nrm.trimD ds
 have hxt := hx.trim
 have hcall := fun G1 (_ : GL A G1) => nat_trim (G := G1) hx (by omega)
 generalize trimD ds = es at *
 have hlen := hxt.len
 rw [← hdv]
 have hbig : (if dv es < 18446744073709551616 then dv es else 0) = if es.length ≤ 2 then dv es else 0 := by
   by_cases h2 : es.length ≤ 2
   · have h3 := dv_lt hok
     have h4 : (4294967296 : Nat) ^ es.length ≤ 4294967296 ^ 2 := Nat.pow_le_pow_right (by omega) h2
     rw [if_pos h2, if_pos (by omega)]
   · have h3 := nrm_ge hnr (fun e => by subst e; simp at h2)
     have h4 : (4294967296 : Nat) ^ 2 ≤ 4294967296 ^ (es.length - 1) := Nat.pow_le_pow_right (by omega) (by omega)
     rw [if_neg h2, if_neg (by omega)]
 have hbig2 : decide (dv es < 18446744073709551616) = decide (es.length ≤ 2) := by
   rw [decide_eq_decide]
   by_cases h2 : es.length ≤ 2
   · have h3 := dv_lt hok
     have h4 : (4294967296 : Nat) ^ es.length ≤ 4294967296 ^ 2 := Nat.pow_le_pow_right (by omega) h2
     exact ⟨fun _ => h2, fun _ => by omega⟩
   · have h3 := nrm_ge hnr (fun e => by subst e; simp at h2)
     have h4 : (4294967296 : Nat) ^ 2 ≤ 4294967296 ^ (es.length - 1) := Nat.pow_le_pow_right (by omega) (by omega)
     exact ⟨fun _ => by omega, fun h => absurd h h2⟩
 rw [hbig, hbig2]
 refine Fn.intro Tryz.func178 rfl rfl Tryz.ntmps178 rfl ?_
 intro C _ _
 refine sR <| sa rfl rfl <| sa rfl rfl <| zE <| sR <| sm rfl rfl <| ?_
 refine sc (zC rfl rfl (hcall _ inferInstance) rfl ?_)
 rintro _ G1 _ rfl
 refine sa rfl rfl <| zE <| st_seq <| sR <| sm rfl rfl <| slen rfl rfl <| sy (yd_gtr rfl rfl) rfl <| zE <| ?_
 refine st_condP rfl (fun hc => ?_) (fun hc => ?_) -- slot 11
 · refine sR <| sa rfl rfl <| sa rfl rfl <| zE <| st_ret <| ?_
   refine zD (.tmp rfl (.tmp rfl .nil)) ?_
   have : ¬ es.length ≤ 2 := by omega
   simp [tupled, this]
 have h2 : es.length ≤ 2 := by omega
 refine zK <| sR <| sa rfl rfl <| zE <| st_seq <| sR <| sm rfl rfl <| slen rfl rfl <| sm rfl rfl <| zE <| st_block <| ?_
 refine st_loop (X := Nat) (fun k => [(14, .int .i64 k), (13, .int .i64 es.length), (12, .slice x.a es.length x.c), (4, .int .u64 ((dv (es.take k) : Nat) : Int))]) (fun _ => []) (fun k _ => k ≤ es.length) (fun k => es.length - k) 0 (Nat.zero_le _) (.cons rfl (.cons rfl (.cons rfl (.cons rfl .nil)))) rfl ?_
 rintro k Gx _ hk
 refine sR <| sy (yd_lss rfl rfl) rfl <| zE <| st_seq <| ?_
 refine st_condE rfl (fun hc => ?_) (fun hc => ?_) -- slot 15
 · refine st_exit <| st_te <| st_te <| st_inBlock_eq <| sR <| sm rfl rfl <| sa rfl rfl <| sa rfl rfl <| zE <| st_ret <| ?_
   refine zD (.tmp rfl (.tmp rfl .nil)) ?_
   have hk' : k = es.length := by omega
   subst hk'
   simp [tupled, h2]
 have hk' : k < es.length := by omega
 have hdk := hok.get k
 have hdt := dv_lt (hok.take k)
 rw [List.length_take, Nat.min_eq_left (by omega)] at hdt
 have hds := dv_take_succ es k
 have hd2 := dv_lt (hok.take (k + 1))
 rw [List.length_take, Nat.min_eq_left (by omega)] at hd2
 have hp2 : (4294967296 : Nat) ^ (k + 1) ≤ 4294967296 ^ 2 := Nat.pow_le_pow_right (by omega) (by omega)
 have hpk : (4294967296 : Nat) ^ k = 2 ^ (32 * k) := by rw [Nat.pow_mul]
 refine zK <| st_seq <| st_block <| sR <| sm rfl rfl <| sy (yd_ixD (z := ⟨x.a, es.length, x.c⟩) hxt rfl rfl (by omega) (by show (k : Int) < (es.length : Nat); omega)) rfl <| sy (yd_ldD hxt rfl (by omega)) rfl <| sa rfl rfl <| sa rfl rfl <| zE <| st_region <| ?_
 refine sm rfl rfl <| sm rfl rfl <| sy (yd_toU64 rfl (by omega) (by rw [Int.toNat_natCast]; omega)) rfl <| sm rfl rfl <| sy (yd_mul64 rfl rfl (by omega) (by omega)) rfl <| ?_
 have hsh : IntKind.u64.wrap (((es.getD (k : Int).toNat 0 : Nat) : Int) * 2 ^ min ((32 : Int) * (k : Int)).toNat IntKind.u64.bits) = ((es.getD k 0 * 2 ^ (32 * k) : Nat) : Int) := by
   have e1 : ((32 : Int) * (k : Int)).toNat = 32 * k := by omega
   rw [e1, Int.toNat_natCast, Nat.min_eq_left (by show 32 * k ≤ 64; omega), wrap_u64]
   have e2 : ((es.getD k 0 : Nat) : Int) * 2 ^ (32 * k) = ((es.getD k 0 * 2 ^ (32 * k) : Nat) : Int) := by push_cast; rfl
   rw [e2]
   have e3 : es.getD k 0 * 2 ^ (32 * k) < 18446744073709551616 := by rw [← hpk, Nat.mul_comm]; omega
   omega
 refine sy (yd_shl rfl rfl (by omega)) rfl <| ?_
 rw [hsh]
 refine sy (yd_int rfl rfl (or_add (dv (es.take k)) (es.getD k 0) (32 * k) (by rw [← hpk]; exact hdt) (by rw [← hpk, Nat.mul_comm]; omega))) rfl <| sa rfl rfl <| zE <| st_region <| sy (yd_add64 rfl rfl) rfl <| sm rfl rfl <| zE <| ?_
 refine st_again (k + 1) (by omega) (by omega) (.cons rfl (.cons rfl (.cons rfl (.cons ?_ .nil)))) rfl
 rw [hds, hpk, Nat.mul_comm (2 ^ (32 * k))]
 rfl
theorem nat_Bits {A G : Gh} {x : SV} {ds : List Nat} (hx : IsD A x ds) [GL A G] (hb : ds.length ≤ 1125899906842624) : Fn Tryz.prog 174 [x.v] G (fun v _ => v = .int .i64 ((bl (dv ds) : Nat) : Int)) := by
 have htl := trimD_len ds
 have hdv := dv_trimD ds
 have hok := hx.ok.trimD
 have hnr := Nrm.trimD ds
 have hxt := hx.trim
 have hcall := fun G1 (_ : GL A G1) => nat_trim (G := G1) hx (by omega)
 generalize trimD ds = es at *
 have hlen := hxt.len
 rw [← hdv]
 refine Fn.intro Tryz.func174 rfl rfl Tryz.ntmps174 rfl ?_
 intro C _ _
 refine sR <| sa rfl rfl <| zE <| sR <| sm rfl rfl <| ?_
 refine sc (zC rfl rfl (hcall _ inferInstance) rfl ?_)
 rintro _ G1 _ rfl
 refine sa rfl rfl <| zE <| st_seq <| sR <| sm rfl rfl <| slen rfl rfl <| sy (yd_eql rfl rfl) rfl <| zE <| ?_
 refine st_condP rfl (fun hc => ?_) (fun hc => ?_) -- slot 7
 · refine sR <| sa rfl rfl <| zE <| st_ret <| ?_
   refine zD (.tmp rfl .nil) ?_
   have : es = [] := List.eq_nil_of_length_eq_zero (by omega)
   subst this
   rfl
 have hne : 0 < es.length := by omega
 have hkt : ((es.length : Int) - 1).toNat = es.length - 1 := by omega
 have hg := hok.get (es.length - 1)
 have hbl : bl (es.getD (es.length - 1) 0) ≤ 32 := bl_le.2 (by omega)
 refine zK <| sR <| sm rfl rfl <| slen rfl rfl <| sy (yd_mul64 rfl rfl (by omega) (by omega)) rfl <| sm rfl rfl <| sm rfl rfl <| slen rfl rfl <| sy (yd_sub64 rfl rfl) rfl <| ?_
 refine sy (yd_ixD (z := ⟨x.a, es.length, x.c⟩) hxt rfl rfl (by omega) (by show _ < ((es.length : Nat) : Int); omega)) rfl <| sy (yd_ldD hxt rfl (by omega)) rfl <| ?_
 rw [hkt]
 refine sc (zC rfl rfl (bits_lz32 hg) rfl ?_)
 rintro _ G2 _ rfl
 refine sy (yd_sub64 rfl rfl) rfl <| sa rfl rfl <| zE <| st_ret <| ?_
 refine zD (.tmp rfl .nil) ?_
 rw [bl_dv hok hnr (fun e => by subst e; simp at hne)]
 simp only [tupled, Value.int.injEq, true_and]
 omega
def cmpN (a b : Nat) : Int := if a < b then -1 else if a = b then 0 else 1
theorem nat_Cmp {A B G : Gh} {x y : SV} {ds es : List Nat} (hx : IsD A x ds) (hy : IsD B y es) [GL A G] [GL B G] (hb : ds.length ≤ 1125899906842624) (hb2 : es.length ≤ 1125899906842624) :
   Fn Tryz.prog 211 [x.v, y.v] G (fun v _ => v = .int .i64 (cmpN (dv ds) (dv es))) := by
 have htl := trimD_len ds
 have htl2 := trimD_len es
 have hcall := fun G1 (_ : GL A G1) => nat_trim (G := G1) hx (by omega)
 have hcall2 := fun G1 (_ : GL B G1) => nat_trim (G := G1) hy (by omega)
 have hxt := hx.trim
 have hyt := hy.trim
 have hok := hx.ok.trimD
 have hok2 := hy.ok.trimD
 have hnr := Nrm.trimD ds
 have hnr2 := Nrm.trimD es
 rw [← dv_trimD ds, ← dv_trimD es]
 generalize trimD ds = a at *
 generalize trimD es = b at *
 refine Fn.intro Tryz.func211 rfl rfl Tryz.ntmps211 rfl ?_
 intro C _ _
 refine sR <| sa rfl rfl <| zE <| sR <| sm rfl rfl <| ?_
 refine sc (zC rfl rfl (hcall _ inferInstance) rfl ?_)
 rintro _ G1 _ rfl
 refine sm rfl rfl <| ?_
 refine sc (zC rfl rfl (hcall2 _ inferInstance) rfl ?_)
 rintro _ G2 _ rfl
 refine sa rfl rfl <| sa rfl rfl <| zE <| st_seq <| sR <| sm rfl rfl <| slen rfl rfl <| sm rfl rfl <| slen rfl rfl <| sy (yd_neq rfl rfl) rfl <| zE <| ?_
 refine st_condP rfl (fun hc => ?_) (fun hc => ?_) -- slot 14
 · refine st_seq <| sR <| sm rfl rfl <| slen rfl rfl <| sm rfl rfl <| slen rfl rfl <| sy (yd_lss rfl rfl) rfl <| zE <| ?_
   refine st_condP rfl (fun hc2 => ?_) (fun hc2 => ?_) -- slot 19
   · refine sR <| sa rfl rfl <| zE <| st_ret <| ?_
     refine zD (.tmp rfl .nil) ?_
     have := dv_len_lt hok hnr2 (by omega)
     simp [tupled, cmpN, this]
   refine zK <| sR <| sa rfl rfl <| zE <| st_ret <| ?_
   refine zD (.tmp rfl .nil) ?_
   have := dv_len_lt hok2 hnr (by omega)
   have h1 : ¬ dv a < dv b := by omega
   have h2 : ¬ dv a = dv b := by omega
   simp [tupled, cmpN, h1, h2]
 have hl : a.length = b.length := by omega
 refine zK <| st_seq <| sR <| sm rfl rfl <| slen rfl rfl <| sy (yd_sub64 rfl rfl) rfl <| sa rfl rfl <| zE <| st_block <| ?_
 refine st_loop (X := Nat) (fun k => [(5, .int .i64 (k - 1)), (0, .slice x.a a.length x.c), (1, .slice y.a b.length y.c)]) (fun _ => []) (fun k _ => k ≤ a.length ∧ a.drop k = b.drop k) (fun k => k) a.length ⟨Nat.le_refl _, by rw [List.drop_length, hl, List.drop_length]⟩ (.cons rfl (.cons rfl (.cons rfl .nil))) rfl ?_
 rintro k Gx _ ⟨hk, hd⟩
 refine st_seq <| sR <| sm rfl rfl <| sy (yd_geq rfl rfl) rfl <| zE <| ?_
 refine st_condE rfl (fun hc => ?_) (fun hc => ?_) -- slot 24
 · refine st_exit <| st_te <| st_te <| st_inBlock_eq <| sR <| sa rfl rfl <| zE <| st_ret <| ?_
   refine zD (.tmp rfl .nil) ?_
   have : k = 0 := by omega
   subst this
   have hab : a = b := by simpa using hd
   subst hab
   simp [tupled, cmpN]
 have hk1 : 0 < k := by omega
 have hkt : ((k : Int) - 1).toNat = k - 1 := by omega
 have hga := hok.get (k - 1)
 have hgb := hok2.get (k - 1)
 have hk2 : k - 1 + 1 = k := by omega
 refine zK <| st_seq <| st_block <| st_block <| st_seq <| dr (fun _ => false) [(0, true), (1, true), (2, true), (3, true), (4, true), (5, true), (6, true), (7, true), (8, true), (9, true)] follows (by kernel_rfl) <| ?_
 refine dM rfl rfl rfl <| dM rfl rfl rfl <| dy rfl (fun _ => yd_ixD (z := ⟨x.a, a.length, x.c⟩) hxt rfl rfl (by omega) (by show _ < ((a.length : Nat) : Int); omega)) rfl rfl <| dy rfl (fun _ => yd_ldD hxt rfl (by omega)) rfl rfl <| ?_
 refine dM rfl rfl rfl <| dM rfl rfl rfl <| dy rfl (fun _ => yd_ixD (z := ⟨y.a, b.length, y.c⟩) hyt rfl rfl (by omega) (by show _ < ((b.length : Nat) : Int); omega)) rfl rfl <| dy rfl (fun _ => yd_ldD hyt rfl (by omega)) rfl rfl <| ?_
 refine dy rfl (fun _ => yd_lss rfl rfl) rfl rfl <| dA rfl rfl rfl <| dn <| ?_
 refine st_condP rfl (fun hc2 => ?_) (fun hc2 => ?_) -- slot 27
 · refine sR <| sa rfl rfl <| zE <| st_ret <| ?_
   refine zD (.tmp rfl .nil) ?_
   rw [hkt] at hc2
   have := dv_cmp hok hok2 (k - 1) (by omega) (by omega) hl (by rw [hk2]; exact hd) (by omega)
   simp [tupled, cmpN, this]
 refine st_seq <| dr (fun _ => false) [(0, true), (1, true), (2, true), (3, true), (4, true), (5, true), (6, true), (7, true), (8, true), (9, true)] follows (by kernel_rfl) <| dM rfl rfl rfl <| ?_
 refine dM rfl rfl rfl <| dy rfl (fun _ => yd_ixD (z := ⟨x.a, a.length, x.c⟩) hxt rfl rfl (by omega) (by show _ < ((a.length : Nat) : Int); omega)) rfl rfl <| dy rfl (fun _ => yd_ldD hxt rfl (by omega)) rfl rfl <| dM rfl rfl rfl <| ?_
 refine dM rfl rfl rfl <| dy rfl (fun _ => yd_ixD (z := ⟨y.a, b.length, y.c⟩) hyt rfl rfl (by omega) (by show _ < ((b.length : Nat) : Int); omega)) rfl rfl <| dy rfl (fun _ => yd_ldD hyt rfl (by omega)) rfl rfl <| dy rfl (fun _ => yd_gtr rfl rfl) rfl rfl <| ?_
 refine dA rfl rfl rfl <| dn <| ?_
 rw [hkt] at *
 refine st_condP rfl (fun hc3 => ?_) (fun hc3 => ?_) -- slot 37
 · refine sR <| sa rfl rfl <| zE <| st_ret <| ?_
   refine zD (.tmp rfl .nil) ?_
   have := dv_cmp hok2 hok (k - 1) (by omega) (by omega) hl.symm (by rw [hk2]; exact hd.symm) (by omega)
   have h1 : ¬ dv a < dv b := by omega
   have h2 : ¬ dv a = dv b := by omega
   simp [tupled, cmpN, h1, h2]
 refine zK <| st_region <| sm rfl rfl <| sy (yd_sub64 rfl rfl) rfl <| sa rfl rfl <| zE <| ?_
 refine st_again (k - 1) ⟨by omega, ?_⟩ (by omega) (.cons (by rw [show ((k - 1 : Nat) : Int) = (k : Int) - 1 by omega]; rfl) (.cons rfl (.cons rfl .nil))) rfl
 have heq : a.getD (k - 1) 0 = b.getD (k - 1) 0 := by omega
 rw [List.getD_eq_getElem?_getD, List.getD_eq_getElem?_getD, List.getElem?_eq_getElem (by omega), List.getElem?_eq_getElem (by omega)] at heq
 rw [List.drop_eq_getElem_cons (by omega : k - 1 < a.length), List.drop_eq_getElem_cons (by omega : k - 1 < b.length), hk2, hd]
 congr 1
end Go.Sx
end
