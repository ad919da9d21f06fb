/-
  Steps that change the world, results, loops, regions that draw their order. More operations: equality, fields, composite values, make, append; short names for the steps.
-/
import Derived.Test.YtkijgpopaaknfaaGreatDoorMa1
section
namespace Go.Sx
open Go

def cellsL : Value → List Value
  | .agg ⟨l⟩ => l
  | v => [v]
theorem cells_eq (v : Value) : v.cells = ⟨cellsL v⟩ := by
  cases v <;> first | rfl | (rename_i a; cases a; rfl)

def flat : Value → Bool
  | .agg _ => false
  | .tuple _ => false
  | _ => true

def opvs (fr : Fr) : List Operand → Option (List Value)
  | [] => some []
  | x :: t => match opv fr x, opvs fr t with
    | some v, some l => some (v :: l)
    | _, _ => none
theorem opvs_eval {fr : Fr} {a : Act} (h : FrOk fr a) : ∀ {l : List Operand} {vs : List Value}, opvs fr l = some vs → l.map a.eval = vs
  | [], vs, e => by simp [opvs] at e; subst e; rfl
  | x :: t, vs, e => by
    simp only [opvs] at e
    split at e
    · rename_i v l hv hl
      cases e
      simp [opv_eval h hv, opvs_eval h hl]
    · cases e

section
variable {P : Program} {C : Ctx} {n : Nat} {fr : Fr} {own own' : List Own} {G : Gh} {ops : Array Oper} {Q : Exit → Act → World → Prop} {r : List Oper}
variable {dst : Option Nat} {t t' ty' : TypeId} {pos : String} {af : Array Edge} {x y : Operand}

/-- An operation that may change the world; the way on is Φ, for text order and for drawn regions alike. -/
def Ch (P : Program) (C : Ctx) (n : Nat) (fr : Fr) (own : List Own) (G : Gh) (o : Oper) (Φ : Act → World → Prop) : Prop :=
  ∀ (a : Act) (w : World) (Q : Exit → Act → World → Prop), Rel C n fr own G a w → o.wp P a w Φ Q

theorem st_ch {o : Oper} (hg : o.guard = none) (hc : Ch P C n fr own G o (wpL P ops Q r)) : St C n fr own G (wpL P ops Q (o :: r)) := by
  intro a w rl
  simp only [wpL, Region.wanted, hg, if_true]
  exact hc a w _ rl
theorem st_chg {o : Oper} {j d : Nat} {b : Bool} (hg : o.guard = some (j, b)) (hj : (ops[j]?).bind (·.dst) = some d) (hl : look fr d = some (.bool b)) (hc : Ch P C n fr own G o (wpL P ops Q r)) : St C n fr own G (wpL P ops Q (o :: r)) := by
  intro a w rl
  have : Region.wanted o (yielded ops a.tmps) = true := by simp [Region.wanted, hg, yielded_of rl.fr hj hl]
  simp only [wpL, this, if_true]
  exact hc a w _ rl

variable {Φ : Act → World → Prop} {gd : Option (Nat × Bool)}

theorem run_newVar {w : World} {ty : TypeId} {v : Value} : (newVar ty v).run P w = .ok ⟨w.heap.size, 0, none⟩ (w.alloc (.cells ⟨cellsL v⟩ ty)) := by
  unfold newVar newRow
  rw [cells_eq]
  rfl

theorem ch_value {o : Oper} {v : Value} {w' : World} {a : Act} {w : World} {Φ : Act → World → Prop} {Q : Exit → Act → World → Prop} (h : (execOp a.eval o).run P w = .ok (.value v) w') (hk : Φ (a.put o.dst v) w') : o.wp P a w Φ Q := by
  simp only [Oper.wp, h, Oper.upon]; exact hk

theorem ch_alloc {z : Value} [hz : TyZ P t z] (hd : dstOk n dst = true) (h : ∀ b, St C n (put fr dst (.pointer (some ⟨b, 0, none⟩))) (⟨b, cellsL z, t, true⟩ :: own) G Φ) :
    Ch P C n fr own G ⟨dst, .alloc t, ty', pos, af, gd⟩ Φ := by
  intro a w Q rl
  have h1 : (Instr.alloc t true (.tuple #[])).run P w = .ok (.pointer (some ⟨w.heap.size, 0, none⟩)) (w.alloc (.cells ⟨cellsL z⟩ t)) := by
    unfold Instr.alloc
    rw [run_ok_bind (hz.zero w)]
    show (newVar t z >>= _).run P w = _
    rw [run_ok_bind run_newVar]; rfl
  refine ch_value (value_of h1) (h w.heap.size _ _ ?_)
  exact (rl.heap (rl.h.alloc _ _)).put _ hd
theorem ch_box {v : Value} (hx : opv fr x = some v) (hd : dstOk n dst = true) (h : ∀ b, St C n (put fr dst (.pointer (some ⟨b, 0, none⟩))) (⟨b, cellsL v, t, true⟩ :: own) G Φ) :
    Ch P C n fr own G ⟨dst, .box t x, ty', pos, af, gd⟩ Φ := by
  intro a w Q rl
  have h1 : (Instr.box t (a.eval x)).run P w = .ok (.pointer (some ⟨w.heap.size, 0, none⟩)) (w.alloc (.cells ⟨cellsL v⟩ t)) := by
    unfold Instr.box
    rw [opv_eval rl.fr hx, run_ok_bind run_newVar]; rfl
  refine ch_value (value_of h1) (h w.heap.size _ _ ?_)
  exact (rl.heap (rl.h.alloc _ _)).put _ hd

/-! ### stores -/
theorem setCell_setBlk {w : World} {b off : Nat} {cs : List Value} {ty : TypeId} {fz : Nat × Nat} {v : Value} (h : w.heap[b]? = some (.cells ⟨cs⟩ ty fz)) : w.setCell ⟨b, off, none⟩ v = setBlk w b (.cells ⟨cs.set off v⟩ ty fz) := by
  unfold World.setCell setBlk
  congr 1
  apply Array.ext_getElem?
  intro i
  rw [Array.getElem?_modify, Array.getElem?_setIfInBounds]
  by_cases hi : b = i
  · subst hi
    have := blk_lt h
    simp only [if_true, h, Option.map_some, this]
    simp
  · simp [hi]

theorem run_store {w : World} {b off : Nat} {cs : List Value} {ty : TypeId} {v : Value} (hv : flat v = true) (h : w.heap[b]? = some (.cells ⟨cs⟩ ty (0, 0))) (ho : off < cs.length) :
    (store ⟨b, off, none⟩ v).run P w = .ok () (setBlk w b (.cells ⟨cs.set off v⟩ ty (0, 0))) := by
  have hc : w.cell? ⟨b, off, none⟩ = some cs[off] := by rw [cell_of_block h, List.getElem?_eq_getElem ho]
  have hf : w.frozen? ⟨b, off, none⟩ = false := by simp [World.frozen?, h]
  cases v <;> first | (simp [flat] at hv; done) | (simp only [store, Sem.run, hc, hf, setCell_setBlk h]; rfl)

theorem setBlk_setBlk (w : World) (b : Nat) (o o' : Obj) : setBlk (setBlk w b o) b o' = setBlk w b o' := by
  simp [setBlk]
theorem setBlk_self {w : World} {b : Nat} {o : Obj} (h : w.heap[b]? = some o) : setBlk w b o = w := by
  unfold setBlk
  congr 1
  apply Array.ext_getElem?
  intro i
  rw [Array.getElem?_setIfInBounds]
  by_cases hi : b = i
  · subst hi
    have hlt := blk_lt h
    simp only [if_true, hlt]
    rw [h]
  · simp [hi]

theorem run_storeCells {b : Nat} {ty : TypeId} : ∀ (vs : List Value) (w : World) (off i : Nat) (cs : List Value), (∀ v ∈ vs, flat v = true) → w.heap[b]? = some (.cells ⟨cs⟩ ty (0, 0)) → off + i + vs.length ≤ cs.length →
    (storeCells ⟨b, off, none⟩ vs i).run P w = .ok () (setBlk w b (.cells ⟨ovw cs (off + i) vs⟩ ty (0, 0)))
  | [], w, off, i, cs, _, h, _ => by
    unfold storeCells ovw
    rw [setBlk_self h]; rfl
  | v :: vs, w, off, i, cs, hf, h, hl => by
    unfold storeCells
    simp only [List.length_cons] at hl
    rw [addr_add, run_ok_bind (run_store (hf v List.mem_cons_self) h (by omega))]
    rw [run_storeCells vs _ off (i + 1) (cs.set (off + i) v) (fun u hu => hf u (List.mem_cons_of_mem _ hu)) (setBlk_same (blk_lt h)) (by simp; omega)]
    rw [setBlk_setBlk]
    rfl

theorem ch_store {v : Value} {b off k : Nat} {cs : List Value} {ty : TypeId} {lo : Bool} (hx : opv fr x = some (.pointer (some ⟨b, off, none⟩))) (hy : opv fr y = some v) [hs : TyA P t k]
    (hu : OUpd own b cs ty lo (ovw cs off (cellsL v)) own') (hk : (cellsL v).length = k) (hl : off + k ≤ cs.length) (hf : (cellsL v).all flat = true) (hd : dstOk n dst = true) (h : St C n (put fr dst undef) own' G Φ) :
    Ch P C n fr own G ⟨dst, .store t x y, ty', pos, af, gd⟩ Φ := by
  intro a w Q rl
  have hb := (rl.h.hown _ (hu.spec rl.h.nd).1).1
  have h1 : (Instr.storeAt t (a.eval x) (a.eval y)).run P w = .ok () (setBlk w b (.cells ⟨ovw cs off (cellsL v)⟩ ty (0, 0))) := by
    rw [opv_eval rl.fr hx, opv_eval rl.fr hy]
    simp only [Instr.storeAt, Instr.sureAddr]
    show (storeVar t ⟨b, off, none⟩ v).run P w = _
    unfold storeVar
    rw [run_ok_bind (hs.siz w), cells_eq]
    simp only [List.size_toArray, hk, ne_eq, not_true_eq_false, if_false]
    have := run_storeCells (P := P) (cellsL v) w off 0 cs (by simpa using hf) hb (by omega)
    simpa using this
  have h2 : (execOp a.eval ⟨dst, .store t x y, ty', pos, af, gd⟩).run P w = .ok .skip (setBlk w b (.cells ⟨ovw cs off (cellsL v)⟩ ty (0, 0))) := by
    simp only [execOp]
    rw [run_ok_bind h1]; rfl
  simp only [Oper.wp, h2, Oper.upon]
  exact h _ _ ((rl.heap (rl.h.store hu)).put _ hd)
theorem ch_store1 {v : Value} {b off : Nat} {cs : List Value} {ty : TypeId} {lo : Bool} (hx : opv fr x = some (.pointer (some ⟨b, off, none⟩))) (hy : opv fr y = some v) [hs : TyS P t]
    (hu : OUpd own b cs ty lo (cs.set off v) own') (hl : off < cs.length) (hf : flat v = true) (hd : dstOk n dst = true) (h : St C n (put fr dst undef) own' G Φ) :
    Ch P C n fr own G ⟨dst, .store t x y, ty', pos, af, gd⟩ Φ := by
  intro a w Q rl
  have hb := (rl.h.hown _ (hu.spec rl.h.nd).1).1
  have hc : v.cells = #[v] := by cases v <;> first | rfl | (simp [flat] at hf)
  have h1 : (Instr.storeAt t (a.eval x) (a.eval y)).run P w = .ok () (setBlk w b (.cells ⟨cs.set off v⟩ ty (0, 0))) := by
    rw [opv_eval rl.fr hx, opv_eval rl.fr hy]
    simp only [Instr.storeAt, Instr.sureAddr]
    show (storeVar t ⟨b, off, none⟩ v).run P w = _
    unfold storeVar
    rw [run_ok_bind (hs.siz w), hc]
    simp only [List.size_toArray, List.length_cons, List.length_nil, ne_eq, not_true_eq_false, if_false, Nat.zero_add]
    have := run_storeCells (P := P) [v] w off 0 cs (by simpa using hf) hb (by simp; omega)
    simpa [ovw] using this
  have h2 : (execOp a.eval ⟨dst, .store t x y, ty', pos, af, gd⟩).run P w = .ok .skip (setBlk w b (.cells ⟨cs.set off v⟩ ty (0, 0))) := by
    simp only [execOp]
    rw [run_ok_bind h1]; rfl
  simp only [Oper.wp, h2, Oper.upon]
  exact h _ _ ((rl.heap (rl.h.store hu)).put _ hd)

/-! ### calls -/
theorem run_callFunc {f : FuncId} (h : Callable P f) (args : Array Value) (w : World) : (callFunc f args).run P w = .ok (.enter f args) w := by
  obtain ⟨fn, h1, h2, h3⟩ := h
  unfold callFunc
  show (program >>= _).run P w = _
  rw [run_ok_bind (a := P) (w' := w) rfl]
  simp only [h1, h2, h3]
  rfl

theorem run_call {f : FuncId} {fo : Operand} {args : Array Operand} {tys : Array TypeId} {vs c1 c2 : List Value} {a : Act} {w : World} (h : Callable P f) (hf : FrOk fr a) (ho : opv fr fo = some (.func (.func f) ⟨c1⟩ ⟨c2⟩)) (hv : opvs fr args.toList = some vs) :
    (execOp a.eval ⟨dst, .call ⟨.value fo, args, tys⟩, ty', pos, af, gd⟩).run P w = .ok (.enter f ⟨c1 ++ vs ++ c2⟩) w := by
  have e : args.map a.eval = ⟨vs⟩ := by apply Array.ext'; simpa using opvs_eval hf hv
  simp only [execOp, resolve, opv_eval hf ho, e, Deferred.ofValue]
  show (invoke (.fn (.func f) ⟨c2⟩) (⟨c1⟩ ++ ⟨vs⟩)).run P w = _
  simp only [invoke]
  rw [run_callFunc h]
  simp

theorem ch_callc {f : FuncId} {fo : Operand} {args : Array Operand} {tys : Array TypeId} {vs c1 c2 : List Value} {K : Value → Gh → Prop} (ho : opv fr fo = some (.func (.func f) ⟨c1⟩ ⟨c2⟩)) (hv : opvs fr args.toList = some vs)
    (hF : Fn P f (c1 ++ vs ++ c2) G K) (hd : dstOk n dst = true) (h : ∀ v (G' : Gh), [GE G G'] → K v G' → St C n (put fr dst v) own G' Φ) :
    Ch P C n fr own G ⟨dst, .call ⟨.value fo, args, tys⟩, ty', pos, af, gd⟩ Φ := by
  intro a w Q rl
  have h2 := run_call (P := P) (dst := dst) (ty' := ty') (pos := pos) (af := af) (gd := gd) (tys := tys) (w := w) hF.able rl.fr ho hv
  simp only [Oper.wp, h2, Oper.upon]
  refine (hF.run w rl.h.sub).mono ?_
  rintro e w' ⟨v, G', rfl, hh, hK⟩
  exact @h v G' ⟨hh.gle⟩ hK _ _ ((rl.heap (rl.h.called hh)).put _ hd)
theorem ch_call {f : FuncId} {fo : Operand} {args : Array Operand} {tys : Array TypeId} {vs : List Value} {K : Value → Gh → Prop} (ho : opv fr fo = some (.func (.func f) #[] #[])) (hv : opvs fr args.toList = some vs)
    (hF : Fn P f vs G K) (hd : dstOk n dst = true) (h : ∀ v (G' : Gh), [GE G G'] → K v G' → St C n (put fr dst v) own G' Φ) :
    Ch P C n fr own G ⟨dst, .call ⟨.value fo, args, tys⟩, ty', pos, af, gd⟩ Φ :=
  ch_callc (c1 := []) (c2 := []) ho hv (by simpa using hF) hd h
theorem ch_callcM {f : FuncId} {fo : Operand} {args : Array Operand} {tys : Array TypeId} {vs c1 c2 : List Value} {M rest : List Own} {K : Value → List (List Value) → Gh → Prop} (ho : opv fr fo = some (.func (.func f) ⟨c1⟩ ⟨c2⟩)) (hv : opvs fr args.toList = some vs)
    (hp : own.Perm (M ++ rest)) (hF : FnM P f (c1 ++ vs ++ c2) M G K) (hd : dstOk n dst = true) (h : ∀ v css (G' : Gh), [GE G G'] → css.length = M.length → K v css G' → St C n (put fr dst v) (reown M css ++ rest) G' Φ) :
    Ch P C n fr own G ⟨dst, .call ⟨.value fo, args, tys⟩, ty', pos, af, gd⟩ Φ := by
  intro a w Q rl
  have h2 := run_call (P := P) (dst := dst) (ty' := ty') (pos := pos) (af := af) (gd := gd) (tys := tys) (w := w) hF.able rl.fr ho hv
  simp only [Oper.wp, h2, Oper.upon]
  have hh0 := rl.h.perm hp
  refine (hF.run w hh0.lend).mono ?_
  rintro e w' ⟨v, css, G', rfl, hl, hh, hK⟩
  exact @h v css G' ⟨hh.gle⟩ hl hK _ _ ((rl.heap (hh0.calledM hl hh)).put _ hd)
theorem ch_callM {f : FuncId} {fo : Operand} {args : Array Operand} {tys : Array TypeId} {vs : List Value} {M rest : List Own} {K : Value → List (List Value) → Gh → Prop} (ho : opv fr fo = some (.func (.func f) #[] #[])) (hv : opvs fr args.toList = some vs)
    (hp : own.Perm (M ++ rest)) (hF : FnM P f vs M G K) (hd : dstOk n dst = true) (h : ∀ v css (G' : Gh), [GE G G'] → css.length = M.length → K v css G' → St C n (put fr dst v) (reown M css ++ rest) G' Φ) :
    Ch P C n fr own G ⟨dst, .call ⟨.value fo, args, tys⟩, ty', pos, af, gd⟩ Φ :=
  ch_callcM (c1 := []) (c2 := []) ho hv hp (by simpa using hF) hd h
end

section
variable {P : Program} {C : Ctx} {n : Nat} {fr : Fr} {own own' : List Own} {G : Gh}

/-! ### results -/
inductive RVs (P : Program) (fr : Fr) (own : List Own) : List ResultVar → List Value → Prop
  | nil : RVs P fr own [] []
  | tmp {t : Nat} {v : Value} {rs : List ResultVar} {vs : List Value} (h : look fr t = some v) (k : RVs P fr own rs vs) : RVs P fr own (.tmp t :: rs) (v :: vs)
  | agg {a b k : Nat} {t ty : TypeId} {cs l : List Value} {lo : Bool} {rs : List ResultVar} {vs : List Value} (h : look fr a = some (.pointer (some ⟨b, 0, none⟩))) (ho : OAt own b cs ty lo) (ht : TyA P t k) (hl : takeL cs 0 k = some l) (h2 : RVs P fr own rs vs) :
      RVs P fr own (.cell a t :: rs) (.agg ⟨l⟩ :: vs)
  | sc {a b : Nat} {t ty : TypeId} {cs : List Value} {v : Value} {lo : Bool} {rs : List ResultVar} {vs : List Value} (h : look fr a = some (.pointer (some ⟨b, 0, none⟩))) (ho : OAt own b cs ty lo) (ht : TyS P t) (hl : cs[0]? = some v) (h2 : RVs P fr own rs vs) :
      RVs P fr own (.cell a t :: rs) (v :: vs)

def rv1 (a : Act) : ResultVar → Sem Value
  | .tmp t => pure (a.tmps.getD t undef)
  | .cell x t => do loadVar t (← asAddr (a.tmps.getD x undef))

theorem RVs.run {rs : List ResultVar} {vs : List Value} (h : RVs P fr own rs vs) {a : Act} {w : World} (hf : FrOk fr a) (hh : HRel C own G w) :
    (rs.mapM (rv1 a)).run P w = .ok vs w := by
  induction h with
  | nil => rfl
  | @tmp t v rs vs h k ih =>
    rw [List.mapM_cons]
    have e := hf _ _ h
    have e2 : a.tmps.getD t undef = v := by rw [Array.getD_eq_getD_getElem?, e]; rfl
    rw [run_ok_bind (a := v) (w' := w) (by simp only [rv1, e2]; exact run_pure _ _ _), run_ok_bind ih]
    rfl
  | @agg x b k t ty cs l lo rs vs h ho ht hl h2 ih =>
    rw [List.mapM_cons]
    have e := hf _ _ h
    have e2 : a.tmps.getD x undef = .pointer (some ⟨b, 0, none⟩) := by rw [Array.getD_eq_getD_getElem?, e]; rfl
    rw [run_ok_bind (a := .agg ⟨l⟩) (w' := w) (by simp only [rv1, e2, asAddr]; rw [run_ok_bind (run_pure _ _ _)]; exact run_loadVar_agg (hh.hown _ ho.mem).1 hl), run_ok_bind ih]
    rfl
  | @sc x b t ty cs v lo rs vs h ho ht hl h2 ih =>
    rw [List.mapM_cons]
    have e := hf _ _ h
    have e2 : a.tmps.getD x undef = .pointer (some ⟨b, 0, none⟩) := by rw [Array.getD_eq_getD_getElem?, e]; rfl
    rw [run_ok_bind (a := v) (w' := w) (by simp only [rv1, e2, asAddr]; rw [run_ok_bind (run_pure _ _ _)]; exact run_loadVar_sc (hh.hown _ ho.mem).1 hl), run_ok_bind ih]
    rfl

def tupled : List Value → Value
  | [v] => v
  | vs => .tuple ⟨vs⟩

theorem run_results {fn : Func} {vs : List Value} {a : Act} {w : World} (hr : RVs P fr own fn.results.toList vs) (hf : FrOk fr a) (hh : HRel C own G w) : (results fn a.tmps).run P w = .ok (tupled vs) w := by
  have h0 := RVs.run (C := C) (G := G) hr hf hh
  have h1 : (fn.results.mapM (rv1 a)).run P w = .ok (⟨vs⟩ : Array Value) w := by
    rw [← Array.toArray_toList (xs := fn.results), List.mapM_toArray, map_eq_pure_bind, run_ok_bind h0]
    rfl
  have h2 : results fn a.tmps = (do
      let vs ← fn.results.mapM (rv1 a)
      pure (if h : vs.size = 1 then vs[0] else .tuple vs)) := by
    unfold results
    congr 1
  rw [h2, run_ok_bind h1]
  match vs with
  | [] => rfl
  | [v] => rfl
  | _ :: _ :: _ => rfl

def RPost (C : Ctx) (K : Value → Gh → Prop) : Ending → World → Prop := fun e w' => ∃ v G', e = .returned v ∧ HRel C [] G' w' ∧ K v G'
def RPostM (C : Ctx) (M : List Own) (K : Value → List (List Value) → Gh → Prop) : Ending → World → Prop := fun e w' => ∃ v css G', e = .returned v ∧ css.length = M.length ∧ HRel C (reown (asB M) css) G' w' ∧ K v css G'

theorem st_done {fn : Func} {K : Value → Gh → Prop} {vs : List Value} (hr : RVs P fr own fn.results.toList vs) (hk : K (tupled vs) G) : St C n fr own G (bodyPost P fn (RPost C K) .ret) :=
  fun a w rl => ⟨rl.df, _, run_results hr rl.fr rl.h, _, G, rfl, rl.h.drop (List.nil_sublist _), hk⟩
theorem st_doneN {fn : Func} {K : Value → Gh → Prop} {vs : List Value} (hr : RVs P fr own fn.results.toList vs) (hk : K (tupled vs) G) : St C n fr own G (bodyPost P fn (RPost C K) .normal) :=
  fun a w rl => ⟨rl.df, _, run_results hr rl.fr rl.h, _, G, rfl, rl.h.drop (List.nil_sublist _), hk⟩
theorem st_doneM {fn : Func} {M : List Own} {css : List (List Value)} {K : Value → List (List Value) → Gh → Prop} {vs : List Value} (hr : RVs P fr own fn.results.toList vs) (hl : css.length = M.length) (own2 : List Own) (hp : own.Perm own2) (hs : (reown (asB M) css).Sublist own2) (hk : K (tupled vs) css G) : St C n fr own G (bodyPost P fn (RPostM C M K) .ret) :=
  fun a w rl => ⟨rl.df, _, run_results hr rl.fr rl.h, _, css, G, rfl, hl, (rl.h.perm hp).drop hs, hk⟩

/-! ### the function's beginning -/
def args0 : Nat → List Value → Fr
  | _, [] => []
  | i, v :: t => (i, v) :: args0 (i + 1) t

theorem look_args0 : ∀ (vs : List Value) (i k : Nat) (v : Value), look (args0 i vs) k = some v → ∃ j, k = i + j ∧ vs[j]? = some v
  | [], i, k, v, h => by cases h
  | u :: vs, i, k, v, h => by
    rw [args0, look_cons] at h
    split at h
    · subst_vars; cases h; exact ⟨0, rfl, rfl⟩
    · obtain ⟨j, rfl, hj⟩ := look_args0 vs (i + 1) k v h
      exact ⟨j + 1, by omega, by simpa using hj⟩

theorem Fn.intro {f : FuncId} {fn : Func} {c : Code} {vs : List Value} {m : Nat} {K : Value → Gh → Prop} (hf : P.funcs[f]? = some fn) (hb : fn.body = some c) (hn : (fn.name == "runtime.NumGoroutine") = false) (hm : fn.ntmps = m) (hlen : Nat.ble vs.length m = true)
    (h : ∀ C : Ctx, C.G0 = G → C.mb = [] → St C m (args0 0 vs) [] G (c.wp P (bodyPost P fn (RPost C K)))) : Fn P f vs G K := by
  refine ⟨⟨fn, hf, hn, by simp [hb]⟩, fun w hw => ?_⟩
  have hlen' : vs.length ≤ m := by simpa using hlen
  have := calls_of_wp (P := P) (f := f) (args := ⟨vs⟩) (w := w) (R := RPost ⟨w, G, []⟩ K) hf hb (h ⟨w, G, []⟩ rfl rfl _ w
    ⟨⟨rfl, rfl, rfl, Nat.le_refl _, fun _ _ _ => rfl, hw, GLe.refl _, fun _ _ => rfl, fun o ho => (by cases ho), .nil⟩, by simp; omega, fun k v hk => by
      obtain ⟨j, rfl, hj⟩ := look_args0 vs 0 k v hk
      have hj' := (List.getElem?_eq_some_iff.1 hj).1
      rw [Array.getElem?_append_left (by simpa using hj')]
      simpa using hj, rfl⟩)
  exact this
theorem FnM.intro {f : FuncId} {fn : Func} {c : Code} {vs : List Value} {m : Nat} {M : List Own} {K : Value → List (List Value) → Gh → Prop} (hf : P.funcs[f]? = some fn) (hb : fn.body = some c) (hn : (fn.name == "runtime.NumGoroutine") = false) (hm : fn.ntmps = m) (hlen : Nat.ble vs.length m = true)
    (h : ∀ C : Ctx, C.G0 = G → C.mb = M.map (·.b) → St C m (args0 0 vs) (asB M) G (c.wp P (bodyPost P fn (RPostM C M K)))) : FnM P f vs M G K := by
  refine ⟨⟨fn, hf, hn, by simp [hb]⟩, fun w hw => ?_⟩
  have hlen' : vs.length ≤ m := by simpa using hlen
  have := calls_of_wp (P := P) (f := f) (args := ⟨vs⟩) (w := w) (R := RPostM ⟨w, G, M.map (·.b)⟩ M K) hf hb (h ⟨w, G, M.map (·.b)⟩ rfl rfl _ w
    ⟨hw, by simp; omega, fun k v hk => by
      obtain ⟨j, rfl, hj⟩ := look_args0 vs 0 k v hk
      have hj' := (List.getElem?_eq_some_iff.1 hj).1
      rw [Array.getElem?_append_left (by simpa using hj')]
      simpa using hj, rfl⟩)
  exact this

/-! ### freezing, weakening -/
theorem st_freeze {Φ : Act → World → Prop} (b : Nat) {cs : List Value} {ty : TypeId} (hr : ORem own ⟨b, cs, ty, true⟩ own') (h : ∀ G' : Gh, [GE G G'] → [GHas G' b cs] → St C n fr own' G' Φ) : St C n fr own G Φ :=
  fun a w rl => by
    obtain ⟨h1, h2⟩ := rl.h.freeze hr
    exact @h _ ⟨h2⟩ ⟨by simp⟩ a w (rl.heap h1)
theorem st_drop {Φ : Act → World → Prop} (own' : List Own) (hs : own'.Sublist own) (h : St C n fr own' G Φ) : St C n fr own G Φ :=
  fun a w rl => h a w (rl.heap (rl.h.drop hs))
theorem st_perm {Φ : Act → World → Prop} (own' : List Own) (hs : own.Perm own') (h : St C n fr own' G Φ) : St C n fr own G Φ :=
  fun a w rl => h a w (rl.heap (rl.h.perm hs))

/-! ### loops -/
def Again (C : Ctx) (n : Nat) {X : Type} (F : X → Fr) (O : X → List Own) (I : X → Gh → Prop) (μ : X → Nat) (m : Nat) (G : Gh) (a : Act) (w : World) : Prop :=
  ∃ x G', GLe G G' ∧ I x G' ∧ μ x < m ∧ Rel C n (F x) (O x) G' a w

theorem st_loop {Q : Exit → Act → World → Prop} {c : Code} {X : Type} (F : X → Fr) (O : X → List Own) (I : X → Gh → Prop) (μ : X → Nat) (x0 : X) (hI : I x0 G) (hF : FrLe (F x0) fr) (hO : O x0 = own)
    (round : ∀ (x : X) (G' : Gh), [GE G G'] → I x G' → St C n (F x) (O x) G' (c.wp P (Exit.then (Again C n F O I μ (μ x) G') Q))) : St C n fr own G ((Code.loop c).wp P Q) := by
  intro a w rl
  subst hO
  intro b k cs
  have key : ∀ m a w, (∃ x G', GLe G G' ∧ I x G' ∧ μ x = m ∧ Rel C n (F x) (O x) G' a w) →
      ∃ e a' w', Q e a' w' ∧ Arrives P (lone (b.at a (.code c :: .inLoop c :: k)) cs w) b k cs e a' w' := by
    intro m
    induction m using Nat.strongRecOn with
    | _ m ih =>
      intro a w ⟨x, G', hle, hx, hm, hr⟩
      obtain ⟨e, a₁, w₁, hq, harr⟩ := @round x G' ⟨hle⟩ hx a w hr b (.inLoop c :: k) cs
      cases e with
      | normal =>
        obtain ⟨x', G'', hle', hx', hlt, hr'⟩ := hq
        obtain ⟨e₂, a₂, w₂, hq₂, harr₂⟩ := ih (μ x') (hm ▸ hlt) a₁ w₁ ⟨x', G'', hle.trans hle', hx', rfl, hr'⟩
        exact ⟨e₂, a₂, w₂, hq₂, .of_steps (Steps.trans harr (.one step_inLoop)) harr₂⟩
      | exit id => exact ⟨_, a₁, w₁, hq, .pass (x := .inLoop c) rfl (fun _ _ => .inl (by simp)) harr⟩
      | goto l => exact ⟨_, a₁, w₁, hq, .pass (x := .inLoop c) rfl (fun _ _ => .inl (by simp)) harr⟩
      | ret => exact ⟨_, a₁, w₁, hq, .pass (x := .inLoop c) rfl (fun _ _ => .inl (by simp)) harr⟩
      | panic ch => exact ⟨_, a₁, w₁, hq, .pass (x := .inLoop c) rfl (fun _ _ => .inl (by simp)) harr⟩
      | outgrown => exact ⟨_, a₁, w₁, hq, .pass (x := .inLoop c) rfl (fun _ _ => .inl (by simp)) harr⟩
  obtain ⟨e, a', w', q, r⟩ := key (μ x0) a w ⟨x0, G, GLe.refl _, hI, rfl, rl.h, rl.sz, fun k v hk => rl.fr _ _ (hF _ _ hk), rl.df⟩
  exact ⟨e, a', w', q, .of_steps (.one step_loop) r⟩

/-! ### where ways meet again -/
def At (C : Ctx) (n : Nat) {X : Type} (F : X → Fr) (O : X → List Own) (I : X → Gh → Prop) (G : Gh) (a : Act) (w : World) : Prop :=
  ∃ x G', GLe G G' ∧ I x G' ∧ Rel C n (F x) (O x) G' a w
theorem st_cut {Q : Exit → Act → World → Prop} {c d : Code} (X : Type) (F : X → Fr) (O : X → List Own) (I : X → Gh → Prop) (h1 : St C n fr own G (c.wp P (Exit.then (At C n F O I G) Q)))
    (h2 : ∀ (x : X) (G' : Gh), [GE G G'] → I x G' → St C n (F x) (O x) G' (d.wp P Q)) : St C n fr own G ((Code.seq c d).wp P Q) := by
  intro a w rl
  refine wp_seq (wp_mono (h1 a w rl) ?_)
  intro e a w h
  cases e with
  | normal => obtain ⟨x, G', hle, hI, hr⟩ := h; exact @h2 x G' ⟨hle⟩ hI a w hr
  | _ => exact h
theorem st_at {X : Type} {F : X → Fr} {O : X → List Own} {I : X → Gh → Prop} {G0 : Gh} [hg : GL G0 G] (x : X) (hI : I x G) (hF : FrLe (F x) fr) (hO : O x = own) : St C n fr own G (At C n F O I G0) :=
  fun a w rl => ⟨x, G, hg.le, hI, ⟨hO ▸ rl.h, rl.sz, fun k v hk => rl.fr _ _ (hF _ _ hk), rl.df⟩⟩
theorem st_again {X : Type} {F : X → Fr} {O : X → List Own} {I : X → Gh → Prop} {μ : X → Nat} {m : Nat} {G0 : Gh} [hg : GL G0 G] (x : X) (hI : I x G) (hμ : μ x < m) (hF : FrLe (F x) fr) (hO : O x = own) : St C n fr own G (Again C n F O I μ m G0) :=
  fun a w rl => ⟨x, G, hg.le, hI, hμ, ⟨hO ▸ rl.h, rl.sz, fun k v hk => rl.fr _ _ (hF _ _ hk), rl.df⟩⟩
end

def NoPan (Q : Exit → Act → World → Prop) : Exit → Act → World → Prop
  | .panic _, _, _ => False
  | e, a, w => Q e a w
theorem NoPan.imp {Q : Exit → Act → World → Prop} : ∀ (e : Exit) (a : Act) (w : World), NoPan Q e a w → Q e a w := fun e a w h => by
  cases e <;> first | exact h | exact (h : False).elim

section
variable {P : Program} {ops : Array Oper} {Q : Exit → Act → World → Prop} {S : World → Prop} {fin : Nat → Bool}

def wpAnyZ (P : Program) (ops : Array Oper) (Q : Exit → Act → World → Prop) (S : World → Prop) (fin : Nat → Bool) : Nat → Array Bool → Act → World → Prop
  | 0, listed, a, w => Region.ready .any ops listed = [] ∧ Q .normal a w
  | fuel + 1, listed, a, w =>
    (Region.ready .any ops listed = [] → Q .normal a w) ∧
    ∀ i ∈ Region.ready .any ops listed, wpOp P ops Q i (fun a' w' => (fin i = true ∨ S w') ∧ wpAnyZ P ops Q S fin fuel (listed.setIfInBounds i true) a' w') a w

theorem wpAny_of_Z : ∀ (fuel : Nat) (listed : Array Bool) (a : Act) (w : World), wpAnyZ P ops Q S fin fuel listed a w → wpAny P .any ops Q fuel listed a w
  | 0, _, _, _, h => h
  | fuel + 1, _, _, _, h => ⟨h.1, fun i hi => wpOp_mono (fun a' w' h' => wpAny_of_Z fuel _ a' w' h'.2) (h.2 i hi)⟩

def finOk (ops : Array Oper) (fin : Nat → Bool) (i : Nat) : Bool :=
  !fin i && (List.range ops.size).all fun j => !fin j || ((ops[j]?).map fun o => o.after.any fun e => Region.binds .any e && e.on == i).getD true

theorem finOk_spec {i : Nat} (h : finOk ops fin i = true) : fin i = false ∧ ∀ j oj, ops[j]? = some oj → fin j = true → ∃ e ∈ oj.after, Region.binds .any e = true ∧ e.on = i := by
  simp only [finOk, Bool.and_eq_true, Bool.not_eq_true'] at h
  refine ⟨h.1, fun j oj hoj hf => ?_⟩
  have hj : j < ops.size := (Array.getElem?_eq_some_iff.1 hoj).1
  have h1 := List.all_eq_true.1 h.2 j (by simpa using hj)
  rw [hf, hoj] at h1
  simp only [Bool.not_true, Option.map_some, Option.getD_some, Bool.false_or] at h1
  obtain ⟨e, he, hb⟩ := Array.any_eq_true'.1 h1
  simp only [Bool.and_eq_true, beq_iff_eq] at hb
  exact ⟨e, he, hb.1, hb.2⟩

theorem wpAnyZ_first {i : Nat} {oi : Oper} {v : Value} (hi : ops[i]? = some oi) (hsel : ∀ (j : Nat) (o : Oper) cs b, ops[j]? = some o → o.op ≠ .select cs b)
    (hQ : ∀ c a w, Q (.panic c) (a.put oi.dst v) w → Q (.panic c) a w) (hfi : fin i = false)
    (hfin : ∀ j oj, ops[j]? = some oj → fin j = true → ∃ e ∈ oj.after, Region.binds .any e = true ∧ e.on = i) :
    ∀ (fuel : Nat) (listed : Array Bool) (a : Act) (w : World),
      (∀ j oj, ops[j]? = some oj → j ≠ i → listed.getD j true = false → (∀ e ∈ oj.after, Region.binds .any e = true → e.on ≠ i) → oi.apart ops oj = true) →
      i ∈ Region.ready .any ops listed → YieldsIf P ops S oi v a → S w →
      wpAnyZ P ops Q S fin fuel (listed.setIfInBounds i true) (a.put oi.dst v) w → wpAnyZ P ops Q S fin (fuel + 1) listed a w := by
  intro fuel
  induction fuel with
  | zero =>
    intro listed a w _ hr hy hS H
    refine ⟨fun h => (by rw [h] at hr; cases hr), fun j hj => ?_⟩
    by_cases hji : j = i
    · subst hji; exact hy.wpOp hi hS ⟨.inr hS, H⟩
    · have := ready_mono hj hji
      rw [H.1] at this
      cases this
  | succ fuel ih =>
    intro listed a w hfree hr hy hS H
    refine ⟨fun h => (by rw [h] at hr; cases hr), fun j hj => ?_⟩
    by_cases hji : j = i
    · subst hji; exact hy.wpOp hi hS ⟨.inr hS, H⟩
    · have h1 := H.2 j (ready_mono hj hji)
      obtain ⟨hjun, oj, hoj, hall⟩ := mem_ready.1 hj
      have hnot : ∀ e ∈ oj.after, Region.binds .any e = true → e.on ≠ i := fun e he hb heq => by
        have h1 := hall e he hb
        have h0 := (mem_ready.1 hr).1
        rw [heq] at h1
        rcases Nat.lt_or_ge i listed.size with h' | h'
        · simp [h'] at h0 h1; rw [h0] at h1; cases h1
        · simp [Array.getElem?_eq_none h'] at h1
      have hnf : fin j = false := by
        cases hf : fin j with
        | false => rfl
        | true => obtain ⟨e, he, hb, heq⟩ := hfin j oj hoj hf; exact absurd heq (hnot e he hb)
      have h2 := wpOp_putIf hoj (hfree j oj hoj hji hjun hnot) (fun cs b => hsel i oi cs b hi) (fun cs b => hsel j oj cs b hoj) hQ hy h1
      have hfree' : ∀ k ok, ops[k]? = some ok → k ≠ i → (listed.setIfInBounds j true).getD k true = false →
          (∀ e ∈ ok.after, Region.binds .any e = true → e.on ≠ i) → oi.apart ops ok = true := fun k ok hk hki hun hno => by
        refine hfree k ok hk hki ?_ hno
        by_cases hjk : j = k
        · subst hjk; exact hjun
        · rw [getD_set_ne true hjk] at hun; exact hun
      refine wpOp_mono (fun a' w' h3 => ?_) h2
      have hS' : S w' := h3.2.1.resolve_left (by rw [hnf]; simp)
      refine ⟨.inr hS', ih (listed.setIfInBounds j true) a' w' hfree' (ready_mono hr (Ne.symm hji)) h3.1 hS' ?_⟩
      rw [Array.setIfInBounds_comm _ _ hji]
      exact h3.2.2

theorem wpAnyZ_all {i : Nat} {fuel : Nat} {listed : Array Bool} {a : Act} {w : World} (hr : Region.ready .any ops listed = [i])
    (h : wpOp P ops Q i (fun a' w' => (fin i = true ∨ S w') ∧ wpAnyZ P ops Q S fin fuel (listed.setIfInBounds i true) a' w') a w) : wpAnyZ P ops Q S fin (fuel + 1) listed a w :=
  ⟨fun h0 => absurd (hr.symm.trans h0) (by simp), fun j hj => by rw [hr, List.mem_singleton] at hj; subst hj; exact h⟩

/-- May number 'i' be taken first? -/
def takeOk (ops : Array Oper) (fin : Nat → Bool) (listed : Array Bool) (i : Nat) : Bool :=
  Region.noSelect ops && Region.free .any ops listed i && (Region.ready .any ops listed).contains i && finOk ops fin i
end

class SubL (l m : List Own) : Prop where s : l.Sublist m
instance SubL.refl (l : List Own) : SubL l l := ⟨List.Sublist.refl l⟩
instance SubL.cons (l m : List Own) (o : Own) [h : SubL l m] : SubL l (o :: m) := ⟨h.s.cons o⟩

def HS (C : Ctx) (own : List Own) (G : Gh) : World → Prop := fun w => ∃ G', GLe G G' ∧ HRel C own G' w

section
variable {P : Program} {C : Ctx} {n : Nat} {fr : Fr} {own own0 : List Own} {G G0 : Gh} {ops : Array Oper} {Q : Exit → Act → World → Prop} {fin : Nat → Bool}

theorem dr_region {id : Nat} (fin : Nat → Bool) (hm : P.follows .mixedOrders = true)
    (h : St C n fr own G (wpAnyZ P ops (NoPan Q) (HS C own G) fin ops.size (Array.replicate ops.size false))) : St C n fr own G ((Code.region id ops true).wp P Q) := by
  intro a w rl
  exact wp_mono (wp_region_any hm (wpAny_of_Z _ _ _ _ (h a _ (rl.heap rl.h.drew)))) NoPan.imp

theorem dr_take (i : Nat) {o : Oper} {v : Value} {fuel : Nat} {listed : Array Bool} (ho : ops[i]? = some o) (hk : takeOk ops fin listed i = true) (hg : o.guard = none)
    [hs : SubL own0 own] [hl : GL G0 G] (hd : dstOk n o.dst = true) (hy : ∀ G' : Gh, [GE G0 G'] → Yd P C fr own0 G' o v)
    (h : St C n (put fr o.dst v) own G (wpAnyZ P ops (NoPan Q) (HS C own0 G0) fin fuel (listed.setIfInBounds i true))) :
    St C n fr own G (wpAnyZ P ops (NoPan Q) (HS C own0 G0) fin (fuel + 1) listed) := by
  intro a w rl
  simp only [takeOk, Bool.and_eq_true] at hk
  obtain ⟨⟨⟨h1, h2⟩, h3⟩, h45⟩ := hk
  obtain ⟨h4, h5⟩ := finOk_spec h45
  refine wpAnyZ_first ho (Region.noSelect_spec h1) (fun _ _ _ h => h) h4 h5 fuel listed a w (Region.free_spec ho h2) (by simpa using h3) ?_ ⟨G, hl.le, rl.h.drop hs.s⟩ (h _ _ (rl.put v hd))
  · exact .inl ⟨by simp [Region.wanted, hg], fun w' ⟨G', hle, hr⟩ => @hy G' ⟨hle⟩ a w' rl.fr hr⟩

/-- A guarded operation: its guard says yes, or it is passed over. -/
theorem dr_takeg (i : Nat) {o : Oper} {v : Value} {fuel : Nat} {listed : Array Bool} (ho : ops[i]? = some o) (hk : takeOk ops fin listed i = true) {j d : Nat} {b : Bool} (hg : o.guard = some (j, b)) (hj : (ops[j]?).bind (·.dst) = some d) (hlk : look fr d = some (.bool b))
    [hs : SubL own0 own] [hl : GL G0 G] (hd : dstOk n o.dst = true) (hy : ∀ G' : Gh, [GE G0 G'] → Yd P C fr own0 G' o v)
    (h : St C n (put fr o.dst v) own G (wpAnyZ P ops (NoPan Q) (HS C own0 G0) fin fuel (listed.setIfInBounds i true))) :
    St C n fr own G (wpAnyZ P ops (NoPan Q) (HS C own0 G0) fin (fuel + 1) listed) := by
  intro a w rl
  simp only [takeOk, Bool.and_eq_true] at hk
  obtain ⟨⟨⟨h1, h2⟩, h3⟩, h45⟩ := hk
  obtain ⟨h4, h5⟩ := finOk_spec h45
  refine wpAnyZ_first ho (Region.noSelect_spec h1) (fun _ _ _ h => h) h4 h5 fuel listed a w (Region.free_spec ho h2) (by simpa using h3) ?_ ⟨G, hl.le, rl.h.drop hs.s⟩ (h _ _ (rl.put v hd))
  · exact .inl ⟨by simp [Region.wanted, hg, yielded_of rl.fr hj hlk], fun w' ⟨G', hle, hr⟩ => @hy G' ⟨hle⟩ a w' rl.fr hr⟩
theorem dr_pass (i : Nat) {o : Oper} {fuel : Nat} {listed : Array Bool} (ho : ops[i]? = some o) (hk : takeOk ops fin listed i = true) {j d : Nat} {b c : Bool} (hg : o.guard = some (j, b)) (hj : (ops[j]?).bind (·.dst) = some d) (hlk : look fr d = some (.bool c)) (hbc : (c == b) = false)
    [hs : SubL own0 own] [hl : GL G0 G] (hd : dstOk n o.dst = true)
    (h : St C n (put fr o.dst undef) own G (wpAnyZ P ops (NoPan Q) (HS C own0 G0) fin fuel (listed.setIfInBounds i true))) :
    St C n fr own G (wpAnyZ P ops (NoPan Q) (HS C own0 G0) fin (fuel + 1) listed) := by
  intro a w rl
  simp only [takeOk, Bool.and_eq_true] at hk
  obtain ⟨⟨⟨h1, h2⟩, h3⟩, h45⟩ := hk
  obtain ⟨h4, h5⟩ := finOk_spec h45
  refine wpAnyZ_first (v := undef) ho (Region.noSelect_spec h1) (fun _ _ _ h => h) h4 h5 fuel listed a w (Region.free_spec ho h2) (by simpa using h3) ?_ ⟨G, hl.le, rl.h.drop hs.s⟩ (h _ _ (rl.put undef hd))
  · exact .inr ⟨by simp [Region.wanted, hg, yielded_of rl.fr hj hlk, hbc], rfl⟩

theorem dr_ch (i : Nat) {o : Oper} {fuel : Nat} {listed : Array Bool} (ho : ops[i]? = some o) (hr : Region.ready .any ops listed = [i]) (hg : o.guard = none)
    (hc : Ch P C n fr own G o (fun a w => (fin i = true ∨ HS C own0 G0 w) ∧ wpAnyZ P ops (NoPan Q) (HS C own0 G0) fin fuel (listed.setIfInBounds i true) a w)) :
    St C n fr own G (wpAnyZ P ops (NoPan Q) (HS C own0 G0) fin (fuel + 1) listed) := by
  intro a w rl
  refine wpAnyZ_all hr ?_
  unfold wpOp
  simp only [ho, Region.wanted, hg, if_true]
  exact .inl (hc a w _ rl)
theorem dr_s {b : Bool} {Φ : Act → World → Prop} [hs : SubL own0 own] [hl : GL G0 G] (h : St C n fr own G Φ) : St C n fr own G (fun a w => (b = true ∨ HS C own0 G0 w) ∧ Φ a w) :=
  fun a w rl => ⟨.inr ⟨G, hl.le, rl.h.drop hs.s⟩, h a w rl⟩
theorem dr_f {b : Bool} {S : World → Prop} {Φ : Act → World → Prop} (hb : b = true) (h : St C n fr own G Φ) : St C n fr own G (fun a w => (b = true ∨ S w) ∧ Φ a w) :=
  fun a w rl => ⟨.inl hb, h a w rl⟩
theorem dr_done {S : World → Prop} {fuel : Nat} {listed : Array Bool} (hr : Region.ready .any ops listed = []) (h : St C n fr own G (Q .normal)) : St C n fr own G (wpAnyZ P ops (NoPan Q) S fin fuel listed) := by
  intro a w rl
  cases fuel with
  | zero => exact ⟨hr, h a w rl⟩
  | succ k => exact ⟨fun _ => h a w rl, by rw [hr]; simp⟩
end

end Go.Sx
end

section
namespace Go.Sx
open Go

theorem tyst_u {P : Program} {t : TypeId} {d : TypeDesc} (h : P.underlying t = some d) (w : World) : (underlying t).run P w = .ok d w := by
  simp [underlying, program, Sem.run_bind, Sem.run, h, run_pure]
class TyB (P : Program) (t : TypeId) : Prop where u : ∀ w, (underlying t).run P w = .ok .bool w
class TyP (P : Program) (t : TypeId) : Prop where u : ∃ e, ∀ w, (underlying t).run P w = .ok (.pointer e) w
class TyIf (P : Program) (t : TypeId) : Prop where u : ∃ ms, ∀ w, (underlying t).run P w = .ok (.interface ms) w
/-- a field, as a part of a struct's value -/
class TyFd (P : Program) (t : TypeId) (f : Nat) (off ft : outParam Nat) : Prop where
  u : ∃ fs fd, (∀ w, (underlying t).run P w = .ok (.struct fs) w) ∧ fs[f]? = some fd ∧ fd.offset = off ∧ fd.type = ft
/-- a slice type (of append's second argument) -/
class TyN (P : Program) (t : TypeId) : Prop where
  un : ∃ e, P.underlying t = some (.slice e)

section
variable {P : Program} {C : Ctx} {n : Nat} {fr : Fr} {own own' : List Own} {G : Gh} {Φ : Act → World → Prop}
variable {dst : Option Nat} {t t' ty' : TypeId} {pos : String} {af : Array Edge} {gd : Option (Nat × Bool)} {x y : Operand}

theorem run_equal {w : World} {p q : Value} {b : Bool} (h : (Op.equalIn (9999 + 1) t p q).run P w = .ok b w) : (Op.equal t p q).run P w = .ok b w := h

theorem yd_eqB [hT : TyB P t] {p q : Bool} (hx : opv fr x = some (.bool p)) (hy : opv fr y = some (.bool q)) : Yd P C fr own G ⟨dst, .binOp .eql t x y t', ty', pos, af, gd⟩ (.bool (p == q)) := by
  intro a w hf hh
  simp only [execOp, opv_eval hf hx, opv_eval hf hy]
  have h1 : (Op.equal t (.bool p) (.bool q)).run P w = .ok (p == q) w := run_equal (by unfold Op.equalIn; rw [run_ok_bind (hT.u w)]; rfl)
  have h2 : (eqGuard .eql t x y (.bool p) (.bool q)).run P w = .ok () w := rfl
  have h3 : (binOp .eql t (.bool p) (.bool q)).run P w = .ok (.bool (p == q)) w := by simp only [binOp]; rw [run_ok_bind h1]; rfl
  exact value_of (by rw [run_ok_bind h2]; exact h3)
theorem yd_neB [hT : TyB P t] {p q : Bool} (hx : opv fr x = some (.bool p)) (hy : opv fr y = some (.bool q)) : Yd P C fr own G ⟨dst, .binOp .neq t x y t', ty', pos, af, gd⟩ (.bool (!(p == q))) := by
  intro a w hf hh
  simp only [execOp, opv_eval hf hx, opv_eval hf hy]
  have h1 : (Op.equal t (.bool p) (.bool q)).run P w = .ok (p == q) w := run_equal (by unfold Op.equalIn; rw [run_ok_bind (hT.u w)]; rfl)
  have h2 : (eqGuard .neq t x y (.bool p) (.bool q)).run P w = .ok () w := rfl
  have h3 : (binOp .neq t (.bool p) (.bool q)).run P w = .ok (.bool (!(p == q))) w := by simp only [binOp]; rw [run_ok_bind h1]; rfl
  exact value_of (by rw [run_ok_bind h2]; exact h3)
theorem yd_eqP [hT : TyP P t] {p : Option Addr} (hx : opv fr x = some (.pointer p)) (hy : opv fr y = some (.pointer none)) : Yd P C fr own G ⟨dst, .binOp .eql t x y t', ty', pos, af, gd⟩ (.bool p.isNone) := by
  obtain ⟨e, he⟩ := hT.u
  intro a w hf hh
  simp only [execOp, opv_eval hf hx, opv_eval hf hy]
  have h1 : (Op.equal t (.pointer p) (.pointer none)).run P w = .ok p.isNone w := run_equal (by unfold Op.equalIn; rw [run_ok_bind (he w)]; cases p <;> rfl)
  have h2 : (eqGuard .eql t x y (.pointer p) (.pointer none)).run P w = .ok () w := by cases p <;> rfl
  have h3 : (binOp .eql t (.pointer p) (.pointer none)).run P w = .ok (.bool p.isNone) w := by cases p <;> (simp only [binOp]; rw [run_ok_bind h1]; rfl)
  exact value_of (by rw [run_ok_bind h2]; exact h3)
theorem yd_neP [hT : TyP P t] {p : Option Addr} (hx : opv fr x = some (.pointer p)) (hy : opv fr y = some (.pointer none)) : Yd P C fr own G ⟨dst, .binOp .neq t x y t', ty', pos, af, gd⟩ (.bool (!p.isNone)) := by
  obtain ⟨e, he⟩ := hT.u
  intro a w hf hh
  simp only [execOp, opv_eval hf hx, opv_eval hf hy]
  have h1 : (Op.equal t (.pointer p) (.pointer none)).run P w = .ok p.isNone w := run_equal (by unfold Op.equalIn; rw [run_ok_bind (he w)]; cases p <;> rfl)
  have h2 : (eqGuard .neq t x y (.pointer p) (.pointer none)).run P w = .ok () w := by cases p <;> rfl
  have h3 : (binOp .neq t (.pointer p) (.pointer none)).run P w = .ok (.bool (!p.isNone)) w := by cases p <;> (simp only [binOp]; rw [run_ok_bind h1]; rfl)
  exact value_of (by rw [run_ok_bind h2]; exact h3)
/-- 'err == nil', 'err != nil' against the literal -/
theorem yd_eqN {v : Value} [hT : TyIf P t] (hv : v = .nilIface ∨ ∃ k u, v = .iface k u) (hx : opv fr x = some v) :
    Yd P C fr own G ⟨dst, .binOp .eql t x (.const .nilIface) t', ty', pos, af, gd⟩ (.bool (match v with | .nilIface => true | _ => false)) := by
  obtain ⟨e, he⟩ := hT.u
  intro a w hf hh
  simp only [execOp, opv_eval hf hx, show a.eval (.const .nilIface) = .nilIface from rfl]
  rcases hv with rfl | ⟨k, u, rfl⟩
  · have h1 : (Op.equal t .nilIface .nilIface).run P w = .ok true w := run_equal (by unfold Op.equalIn; rw [run_ok_bind (he w)]; rfl)
    have h2 : (eqGuard .eql t x (.const .nilIface) .nilIface .nilIface).run P w = .ok () w := by cases x <;> rfl
    exact value_of (by rw [run_ok_bind h2]; simp only [binOp]; rw [run_ok_bind h1]; rfl)
  · have h1 : (Op.equal t (.iface k u) .nilIface).run P w = .ok false w := run_equal (by unfold Op.equalIn; rw [run_ok_bind (he w)]; rfl)
    exact value_of (by rw [run_ok_bind (a := ()) (w' := w) rfl]; simp only [binOp]; rw [run_ok_bind h1]; rfl)
theorem yd_neN {v : Value} [hT : TyIf P t] (hv : v = .nilIface ∨ ∃ k u, v = .iface k u) (hx : opv fr x = some v) :
    Yd P C fr own G ⟨dst, .binOp .neq t x (.const .nilIface) t', ty', pos, af, gd⟩ (.bool (match v with | .nilIface => false | _ => true)) := by
  obtain ⟨e, he⟩ := hT.u
  intro a w hf hh
  simp only [execOp, opv_eval hf hx, show a.eval (.const .nilIface) = .nilIface from rfl]
  rcases hv with rfl | ⟨k, u, rfl⟩
  · have h1 : (Op.equal t .nilIface .nilIface).run P w = .ok true w := run_equal (by unfold Op.equalIn; rw [run_ok_bind (he w)]; rfl)
    have h2 : (eqGuard .neq t x (.const .nilIface) .nilIface .nilIface).run P w = .ok () w := by cases x <;> rfl
    exact value_of (by rw [run_ok_bind h2]; simp only [binOp]; rw [run_ok_bind h1]; rfl)
  · have h1 : (Op.equal t (.iface k u) .nilIface).run P w = .ok false w := run_equal (by unfold Op.equalIn; rw [run_ok_bind (he w)]; rfl)
    exact value_of (by rw [run_ok_bind (a := ()) (w' := w) rfl]; simp only [binOp]; rw [run_ok_bind h1]; rfl)

theorem yd_fieldA {cs l : List Value} {f off ft k : Nat} [hF : TyFd P t f off ft] [hA : TyA P ft k] (hx : opv fr x = some (.agg ⟨cs⟩)) (hl : takeL cs off k = some l) : Yd P C fr own G ⟨dst, .field t x f, ty', pos, af, gd⟩ (.agg ⟨l⟩) := by
  obtain ⟨fs, fd, h1, h2, h3, h4⟩ := hF.u
  intro a w hf hh
  simp only [execOp, opv_eval hf hx]
  have : (Instr.field t (.agg ⟨cs⟩) f).run P w = .ok (.agg ⟨l⟩) w := by
    unfold Instr.field
    rw [run_ok_bind (h1 w)]
    simp only [h2, h3, h4, asAgg]
    rw [run_ok_bind (run_pure _ _ _)]
    unfold part
    rw [run_ok_bind (hA.agg w)]
    simp only [if_true]
    rw [run_ok_bind (hA.siz w)]
    obtain ⟨k1, k2⟩ := takeL_spec _ _ _ _ hl
    have : (⟨cs⟩ : Array Value).extract off (off + k) = ⟨l⟩ := by
      apply Array.ext'
      rw [Array.toList_extract]
      apply List.ext_getElem?
      intro i
      rw [List.extract_eq_take_drop, List.getElem?_take]
      split
      · rw [List.getElem?_drop]; exact k2 i (by omega)
      · exact (List.getElem?_eq_none (show l.length ≤ i by omega)).symm
    rw [this]; rfl
  exact value_of this
theorem yd_fieldS {cs : List Value} {f off ft : Nat} {v : Value} [hF : TyFd P t f off ft] [hA : TyS P ft] (hx : opv fr x = some (.agg ⟨cs⟩)) (hl : cs[off]? = some v) : Yd P C fr own G ⟨dst, .field t x f, ty', pos, af, gd⟩ v := by
  obtain ⟨fs, fd, h1, h2, h3, h4⟩ := hF.u
  intro a w hf hh
  simp only [execOp, opv_eval hf hx]
  have : (Instr.field t (.agg ⟨cs⟩) f).run P w = .ok v w := by
    unfold Instr.field
    rw [run_ok_bind (h1 w)]
    simp only [h2, h3, h4, asAgg]
    rw [run_ok_bind (run_pure _ _ _)]
    unfold part
    rw [run_ok_bind (hA.agg w)]
    have : (⟨cs⟩ : Array Value)[off]? = some v := by simpa using hl
    simp only [Bool.false_eq_true, if_false, this]
    rfl
  exact value_of this

/-! ### composite values -/
class TySt (P : Program) (t : TypeId) (offs : outParam (List (Nat × Nat))) : Prop where
  u : ∃ fs : Array Field, (∀ w, (underlying t).run P w = .ok (.struct fs) w) ∧ (∀ w, (fs.mapM (m := Sem) fun f => do pure (f.offset, ← sizeOf f.type)).run P w = .ok ⟨offs⟩ w)
/-- What 'build' gives: the zero value's cells with the parts laid over them. -/
def bld (fr : Fr) (offs : List (Nat × Nat)) : List Value → List (Nat × Operand) → Option (List Value)
  | cs, [] => some cs
  | cs, (i, x) :: r => match offs[i]?, opv fr x with
    | some (off, k), some v => if (cellsL v).length = k ∧ off + k ≤ cs.length then bld fr offs (ovw cs off (cellsL v)) r else none
    | _, _ => none

theorem fold_ovw : ∀ (vs : List Value) (cs : Array Value) (off j : Nat), (vs.zipIdx j).foldl (fun cs (c, j) => cs.setIfInBounds (off + j) c) cs = ⟨ovw cs.toList (off + j) vs⟩
  | [], cs, off, j => rfl
  | v :: vs, cs, off, j => by
    simp only [List.zipIdx_cons, List.foldl_cons]
    rw [fold_ovw vs _ off (j + 1)]
    simp [ovw, Nat.add_assoc]

theorem fill_bld {a : Act} (hf : FrOk fr a) (offs : List (Nat × Nat)) : ∀ (ps : List (Nat × Operand)) (cs out : List Value), bld fr offs cs ps = some out →
    Instr.fill ((⟨offs⟩ : Array (Nat × Nat))[·]?) ⟨cs⟩ (ps.map fun (i, x) => (i, a.eval x)) = some ⟨out⟩
  | [], cs, out, h => by simp only [bld] at h; cases h; rfl
  | (i, x) :: ps, cs, out, h => by
    simp only [bld] at h
    split at h
    · rename_i off k v ho hv
      split at h
      · rename_i hc
        simp only [List.map_cons, Instr.fill]
        have : (⟨offs⟩ : Array (Nat × Nat))[i]? = some (off, k) := by simpa using ho
        simp only [this, opv_eval hf hv, cells_eq]
        have h1 : ¬ ((⟨cellsL v⟩ : Array Value).size ≠ k) := by simp [hc.1]
        have h2 : ¬ (off + (⟨cellsL v⟩ : Array Value).size > (⟨cs⟩ : Array Value).size) := by simp only [List.size_toArray, hc.1]; omega
        rw [if_neg (by simp only [Bool.or_eq_true, decide_eq_true_eq, not_or]; exact ⟨by simpa using h1, by simpa using h2⟩)]
        have e := fold_ovw (cellsL v) ⟨cs⟩ off 0
        have e' : (⟨cellsL v⟩ : Array Value).zipIdx.foldl (fun cs (c, j) => cs.setIfInBounds (off + j) c) (⟨cs⟩ : Array Value) = ⟨ovw cs off (cellsL v)⟩ := by
          rw [← Array.foldl_toList, Array.toList_zipIdx]
          simpa using e
        rw [e']
        exact fill_bld hf offs ps _ _ h
      · cases h
    · cases h

theorem yd_build {parts : Array (Nat × Operand)} {offs : List (Nat × Nat)} {z : Value} {out : List Value} [hT : TySt P t offs] [hz : TyZ P t z] (hb : bld fr offs (cellsL z) parts.toList = some out) : Yd P C fr own G ⟨dst, .build t parts, ty', pos, af, gd⟩ (.agg ⟨out⟩) := by
  obtain ⟨fs, h1, h2⟩ := hT.u
  intro a w hf hh
  simp only [execOp]
  have : (Instr.build t (parts.map fun (i, x) => (i, a.eval x))).run P w = .ok (.agg ⟨out⟩) w := by
    unfold Instr.build
    rw [run_ok_bind (hz.zero w), cells_eq]
    rw [run_ok_bind (h1 w)]
    simp only []
    rw [run_ok_bind (h2 w)]
    have := fill_bld hf offs parts.toList _ _ hb
    simp only [Array.toList_map, this]
    rfl
  exact value_of this

end

/-- k values' zero cells -/
def zeros (z : Value) (k : Nat) : List Value := (List.replicate k (cellsL z)).flatten

theorem flat_rep_get {α : Type} (l : List α) : ∀ (k i : Nat), i < k * l.length → (List.replicate k l).flatten[i]? = l[i % l.length]?
  | 0, i, h => by omega
  | k + 1, i, h => by
    rw [List.replicate_succ, List.flatten_cons]
    by_cases hi : i < l.length
    · rw [List.getElem?_append_left hi, Nat.mod_eq_of_lt hi]
    · rw [List.getElem?_append_right (by omega), flat_rep_get l k (i - l.length) (by rw [Nat.add_mul] at h; omega)]
      rw [Nat.mod_eq_sub_mod (Nat.ge_of_not_lt hi)]

theorem zeros_len (z : Value) (k : Nat) : (zeros z k).length = k * (cellsL z).length := by simp [zeros]

theorem range_zeros {z : Value} {k m : Nat} (h : m = k * (cellsL z).length) : ((Array.range m).map fun i => (⟨cellsL z⟩ : Array Value)[i % (⟨cellsL z⟩ : Array Value).size]!) = ⟨zeros z k⟩ := by
  subst h
  apply Array.ext'
  apply List.ext_getElem?
  intro i
  simp only [Array.toList_map, Array.toList_range, List.getElem?_map, List.size_toArray]
  by_cases hi : i < k * (cellsL z).length
  · rw [List.getElem?_range hi]
    simp only [Option.map_some]
    have h1 := flat_rep_get (cellsL z) k i hi
    have hpos : 0 < (cellsL z).length := by
      rcases Nat.eq_zero_or_pos (cellsL z).length with h | h
      · rw [h, Nat.mul_zero] at hi; omega
      · exact h
    have hm := Nat.mod_lt i hpos
    show _ = (zeros z k)[i]?
    unfold zeros
    rw [h1]
    simp [hm]
  · rw [List.getElem?_eq_none (by simpa using hi)]
    rw [List.getElem?_eq_none (by show (zeros z k).length ≤ i; rw [zeros_len]; omega)]
    rfl

section
variable {P : Program} {C : Ctx} {n : Nat} {fr : Fr} {own own' : List Own} {G : Gh} {Φ : Act → World → Prop}
variable {dst : Option Nat} {t t' ty' : TypeId} {pos : String} {af : Array Edge} {gd : Option (Nat × Bool)} {x y : Operand} {e s by_ : Nat}

theorem run_bytes [hT : TySl P t e s by_] (w : World) : ∃ i : TypeInfo, (typeInfo e).run P w = .ok i w ∧ i.bytes = by_ := by
  obtain ⟨i, h1, _, h2⟩ := hT.info
  exact ⟨i, by simp [typeInfo, program, Sem.run_bind, Sem.run, h1, run_pure], h2⟩

theorem ch_make [hT : TySl P t e s by_] {z : Value} [hz : TyZ P e z] {k k' : IntKind} {l : Int} (hx : opv fr x = some (.int k l)) (hy : opv fr y = some (.int k' l)) (h0 : 0 ≤ l) (hb : by_ * l ≤ 2 ^ 47) (hl : l ≤ 2 ^ 60) (hs : (cellsL z).length = s) (hd : dstOk n dst = true)
    (h : ∀ b, St C n (put fr dst (.slice (some ⟨b, 0, none⟩) l.toNat l.toNat)) (⟨b, zeros z l.toNat, e, true⟩ :: own) G Φ) :
    Ch P C n fr own G ⟨dst, .makeSlice t x y, ty', pos, af, gd⟩ Φ := by
  intro a w Q rl
  have h1 : (Instr.makeSlice t (a.eval x) (a.eval y)).run P w = .ok (.slice (some ⟨w.heap.size, 0, none⟩) l.toNat l.toNat) (w.alloc (.cells ⟨zeros z l.toNat⟩ e)) := by
    obtain ⟨i, hi, hib⟩ := run_bytes (P := P) (t := t) (e := e) (s := s) (by_ := by_) w
    rw [opv_eval rl.fr hx, opv_eval rl.fr hy]
    unfold Instr.makeSlice
    rw [run_ok_bind (hT.u w)]
    simp only [asInt, asIntOf]
    rw [run_ok_bind (a := l) (w' := w) rfl, run_ok_bind (a := l) (w' := w) rfl, run_ok_bind hi, hib]
    have hw : IntKind.i64.wrap l = l := wrap_in (by simp [IntKind.min, IntKind.max, IntKind.signed, IntKind.bits]; omega)
    simp only [hw]
    have c1 : ¬ ((by_ : Int) * l > 2 ^ 48) := by
      have : (2:Int)^47 ≤ 2^48 := by decide
      omega
    have c2 : (decide (l < 0) || decide ((by_ : Int) * l > 2 ^ 48)) = false := by simp [c1]; omega
    simp only [c2, Int.lt_irrefl, decide_false, Bool.or_false, Bool.false_or]
    have c3 : decide (l < 0) = false := by simp; omega
    simp only [c3, Bool.false_eq_true, if_false, gt_iff_lt, Int.lt_irrefl, decide_false, Bool.or_false]
    have hr : ¬ (l.toNat * by_ > roomBytes) := by
      unfold roomBytes
      have : ((l.toNat * by_ : Nat) : Int) = by_ * l := by rw [Int.natCast_mul, Int.toNat_of_nonneg h0, Int.mul_comm]
      have h47 : ((2 ^ 47 : Nat) : Int) = 2 ^ 47 := by decide
      omega
    unfold askRoom
    simp only [hr, if_false]
    rw [run_ok_bind (run_pure _ _ _), run_ok_bind (hT.siz w)]
    have hn : l.toNat * s = l.toNat * (cellsL z).length := by rw [hs]
    by_cases h00 : l.toNat * s = 0
    · rw [if_pos h00, run_ok_bind (run_pure _ _ _)]
      have e0 : zeros z l.toNat = [] := List.eq_nil_of_length_eq_zero (by rw [zeros_len, hs]; exact h00)
      rw [h00, e0, show (Array.range 0) = #[] from rfl, Array.map_empty]
      rfl
    · rw [if_neg h00, run_ok_bind (hz.zero w), cells_eq]
      rw [run_ok_bind (run_pure _ _ _), range_zeros hn]
      rfl
  refine (fun hk => ?_ : Φ (a.put dst (.slice (some ⟨w.heap.size, 0, none⟩) l.toNat l.toNat)) (w.alloc (.cells ⟨zeros z l.toNat⟩ e)) → _) (h w.heap.size _ _ ((rl.heap (rl.h.alloc _ _)).put _ hd))
  exact ch_value (v := .slice (some ⟨w.heap.size, 0, none⟩) l.toNat l.toNat) (value_of h1) hk

theorem ovw_all : ∀ (vs cs pre : List Value), vs.length = cs.length → ovw (pre ++ cs) pre.length vs = pre ++ vs
  | [], cs, pre, h => by have : cs = [] := List.eq_nil_of_length_eq_zero h.symm; subst this; rfl
  | v :: vs, [], pre, h => by simp at h
  | v :: vs, c :: cs, pre, h => by
    simp only [ovw, List.set_append_right _ _ (Nat.le_refl _), Nat.sub_self, List.set_cons_zero]
    have := ovw_all vs cs (pre ++ [v]) (by simpa using h)
    simpa using this

/-- '[]T{x}', and the row that 'append(s, x)' makes -/
theorem ch_slice1 [hT : TySl P t e s by_] {z v : Value} [hz : TyZ P e z] (hx : opv fr x = some v) (hs : (cellsL z).length = s) (hv : (cellsL v).length = s) (hsm : s ≤ 1000) (hs0 : 0 < s) (hd : dstOk n dst = true)
    (h : ∀ b, St C n (put fr dst (.slice (some ⟨b, 0, none⟩) 1 1)) (⟨b, cellsL v, e, true⟩ :: own) G Φ) :
    Ch P C n fr own G ⟨dst, .buildSlice t 1 #[(0, x)], ty', pos, af, gd⟩ Φ := by
  intro a w Q rl
  have h1 : (Instr.buildSlice t 1 #[(0, v)]).run P w = .ok (.slice (some ⟨w.heap.size, 0, none⟩) 1 1) (w.alloc (.cells ⟨cellsL v⟩ e)) := by
    unfold Instr.buildSlice
    rw [run_ok_bind (hT.u w)]
    simp only []
    rw [run_ok_bind (hT.siz w)]
    have c1 : ¬ (1 * s > 2 ^ 24) := by omega
    have c2 : ¬ (1 * s = 0) := by omega
    simp only [c1, if_false]
    rw [if_neg c2, run_ok_bind (hz.zero w), cells_eq, run_ok_bind (run_pure _ _ _)]
    rw [range_zeros (k := 1) (by rw [hs])]
    have hzl : (zeros z 1).length = s := by rw [zeros_len, hs, Nat.one_mul]
    have hf : Instr.fill (fun i => some (i * s, s)) ⟨zeros z 1⟩ [(0, v)] = some ⟨cellsL v⟩ := by
      simp only [Instr.fill, cells_eq]
      rw [if_neg (by simp [hv, hzl])]
      have e1 := fold_ovw (cellsL v) ⟨zeros z 1⟩ (0 * s) 0
      have e2 : (⟨cellsL v⟩ : Array Value).zipIdx.foldl (fun cs (c, j) => cs.setIfInBounds (0 * s + j) c) (⟨zeros z 1⟩ : Array Value) = ⟨cellsL v⟩ := by
        rw [← Array.foldl_toList, Array.toList_zipIdx]
        have e3 := ovw_all (cellsL v) (zeros z 1) [] (by rw [hv, hzl])
        simp only [List.nil_append, List.length_nil] at e3
        rw [Nat.zero_mul, Nat.zero_add] at e1
        rw [e3] at e1
        simpa using e1
      rw [e2]
    simp only [hf]
    rfl
  refine ch_value (v := .slice (some ⟨w.heap.size, 0, none⟩) 1 1) (w' := w.alloc (.cells ⟨cellsL v⟩ e)) ?_ (h w.heap.size _ _ ((rl.heap (rl.h.alloc _ _)).put _ hd))
  simp only [execOp, List.map_toArray, List.map_cons, List.map_nil, opv_eval rl.fr hx]
  exact value_of h1
end

section
variable {P : Program} {C : Ctx} {n : Nat} {fr : Fr} {own own' : List Own} {G : Gh} {Φ : Act → World → Prop}
variable {dst : Option Nat} {t t' ty' : TypeId} {pos : String} {af : Array Edge} {gd : Option (Nat × Bool)} {x y : Operand} {e s by_ : Nat}
def bldS (fr : Fr) (s : Nat) : List Value → List (Nat × Operand) → Option (List Value)
  | cs, [] => some cs
  | cs, (i, x) :: r => match opv fr x with
    | some v => if (cellsL v).length = s ∧ i * s + s ≤ cs.length then bldS fr s (ovw cs (i * s) (cellsL v)) r else none
    | none => none
theorem fill_bldS {a : Act} (hf : FrOk fr a) (s : Nat) : ∀ (ps : List (Nat × Operand)) (cs out : List Value), bldS fr s cs ps = some out →
    Instr.fill (fun i => some (i * s, s)) ⟨cs⟩ (ps.map fun (i, x) => (i, a.eval x)) = some ⟨out⟩
  | [], cs, out, h => by simp only [bldS] at h; cases h; rfl
  | (i, x) :: ps, cs, out, h => by
    simp only [bldS] at h
    split at h
    · rename_i v hv
      split at h
      · rename_i hc
        simp only [List.map_cons, Instr.fill, opv_eval hf hv, cells_eq]
        have h1 : ¬ ((⟨cellsL v⟩ : Array Value).size ≠ s) := by simp [hc.1]
        have h2 : ¬ (i * s + (⟨cellsL v⟩ : Array Value).size > (⟨cs⟩ : Array Value).size) := by simp only [List.size_toArray, hc.1]; omega
        rw [if_neg (by simp only [Bool.or_eq_true, decide_eq_true_eq, not_or]; exact ⟨by simpa using h1, by simpa using h2⟩)]
        have e := fold_ovw (cellsL v) ⟨cs⟩ (i * s) 0
        have e' : (⟨cellsL v⟩ : Array Value).zipIdx.foldl (fun cs (c, j) => cs.setIfInBounds (i * s + j) c) (⟨cs⟩ : Array Value) = ⟨ovw cs (i * s) (cellsL v)⟩ := by
          rw [← Array.foldl_toList, Array.toList_zipIdx]
          simpa using e
        rw [e']
        exact fill_bldS hf s ps _ _ h
      · cases h
    · cases h
/-- '[]T{x, y, ..}' -/
theorem ch_slice [hT : TySl P t e s by_] {z : Value} [hz : TyZ P e z] {len : Nat} {parts : Array (Nat × Operand)} {out : List Value} (hs : (cellsL z).length = s) (hb : bldS fr s (zeros z len) parts.toList = some out) (hsm : Nat.ble (len * s) 1000 = true) (hs0 : Nat.blt 0 (len * s) = true) (hd : dstOk n dst = true)
    (h : ∀ b, St C n (put fr dst (.slice (some ⟨b, 0, none⟩) len len)) (⟨b, out, e, true⟩ :: own) G Φ) :
    Ch P C n fr own G ⟨dst, .buildSlice t len parts, ty', pos, af, gd⟩ Φ := by
  intro a w Q rl
  have hsm' : len * s ≤ 1000 := by simpa using hsm
  have hs0' : 0 < len * s := by simpa [Nat.blt_eq] using hs0
  have h1 : (Instr.buildSlice t len (parts.map fun (i, x) => (i, a.eval x))).run P w = .ok (.slice (some ⟨w.heap.size, 0, none⟩) len len) (w.alloc (.cells ⟨out⟩ e)) := by
    unfold Instr.buildSlice
    rw [run_ok_bind (hT.u w)]
    simp only []
    rw [run_ok_bind (hT.siz w)]
    have c1 : ¬ (len * s > 2 ^ 24) := by omega
    have c2 : ¬ (len * s = 0) := by omega
    simp only [c1, if_false]
    rw [if_neg c2, run_ok_bind (hz.zero w), cells_eq, run_ok_bind (run_pure _ _ _)]
    rw [range_zeros (k := len) (by rw [hs])]
    have hf := fill_bldS rl.fr s parts.toList _ _ hb
    simp only [Array.toList_map, hf]
    rfl
  refine ch_value (v := .slice (some ⟨w.heap.size, 0, none⟩) len len) (w' := w.alloc (.cells ⟨out⟩ e)) ?_ (h w.heap.size _ _ ((rl.heap (rl.h.alloc _ _)).put _ hd))
  simp only [execOp]
  exact value_of h1
theorem ch_slice0 [hT : TySl P t e s by_] (hd : dstOk n dst = true) (h : ∀ b, St C n (put fr dst (.slice (some ⟨b, 0, none⟩) 0 0)) (⟨b, [], e, true⟩ :: own) G Φ) :
    Ch P C n fr own G ⟨dst, .buildSlice t 0 #[], ty', pos, af, gd⟩ Φ := by
  intro a w Q rl
  have h1 : (Instr.buildSlice t 0 #[]).run P w = .ok (.slice (some ⟨w.heap.size, 0, none⟩) 0 0) (w.alloc (.cells ⟨[]⟩ e)) := by
    unfold Instr.buildSlice
    rw [run_ok_bind (hT.u w)]
    simp only []
    rw [run_ok_bind (hT.siz w)]
    simp only [Nat.zero_mul, gt_iff_lt, Nat.not_lt_zero, if_false, if_true]
    rw [run_ok_bind (run_pure _ _ _), show (Array.range 0) = #[] from rfl, Array.map_empty]
    rfl
  refine ch_value (v := .slice (some ⟨w.heap.size, 0, none⟩) 0 0) (w' := w.alloc (.cells ⟨[]⟩ e)) ?_ (h w.heap.size _ _ ((rl.heap (rl.h.alloc _ _)).put _ hd))
  simp only [execOp, List.map_toArray, List.map_nil]
  exact value_of h1
/-- a slice against nil -/
theorem yd_eqS [hT : TySl P t e s by_] {ad : Option Addr} {len cap l2 c2 : Nat} (hx : opv fr x = some (.slice ad len cap)) (hy : opv fr y = some (.slice none l2 c2)) : Yd P C fr own G ⟨dst, .binOp .eql t x y t', ty', pos, af, gd⟩ (.bool ad.isNone) := by
  intro a w hf hh
  simp only [execOp, opv_eval hf hx, opv_eval hf hy]
  have h1 : (Op.equal t (.slice ad len cap) (.slice none l2 c2)).run P w = .ok ad.isNone w := run_equal (by unfold Op.equalIn; rw [run_ok_bind (hT.u w)]; cases ad <;> rfl)
  have h2 : (eqGuard .eql t x y (.slice ad len cap) (.slice none l2 c2)).run P w = .ok () w := rfl
  have h3 : (binOp .eql t (.slice ad len cap) (.slice none l2 c2)).run P w = .ok (.bool ad.isNone) w := by simp only [binOp]; rw [run_ok_bind h1]; rfl
  exact value_of (by rw [run_ok_bind h2]; exact h3)
theorem yd_neS [hT : TySl P t e s by_] {ad : Option Addr} {len cap l2 c2 : Nat} (hx : opv fr x = some (.slice ad len cap)) (hy : opv fr y = some (.slice none l2 c2)) : Yd P C fr own G ⟨dst, .binOp .neq t x y t', ty', pos, af, gd⟩ (.bool (!ad.isNone)) := by
  intro a w hf hh
  simp only [execOp, opv_eval hf hx, opv_eval hf hy]
  have h1 : (Op.equal t (.slice ad len cap) (.slice none l2 c2)).run P w = .ok ad.isNone w := run_equal (by unfold Op.equalIn; rw [run_ok_bind (hT.u w)]; cases ad <;> rfl)
  have h2 : (eqGuard .neq t x y (.slice ad len cap) (.slice none l2 c2)).run P w = .ok () w := rfl
  have h3 : (binOp .neq t (.slice ad len cap) (.slice none l2 c2)).run P w = .ok (.bool (!ad.isNone)) w := by simp only [binOp]; rw [run_ok_bind h1]; rfl
  exact value_of (by rw [run_ok_bind h2]; exact h3)
end

theorem takeL_of : ∀ (cs : List Value) (off k : Nat), off + k ≤ cs.length → takeL cs off k = some ((cs.drop off).take k)
  | cs, 0, 0, _ => by cases cs <;> rfl
  | [], 0, k + 1, h => by simp at h
  | v :: t, 0, k + 1, h => by
    simp only [takeL, takeL_of t 0 k (by simp at h; omega)]
    simp
  | [], _ + 1, k, h => by simp at h
  | _ :: t, off + 1, k, h => by
    simp only [takeL, takeL_of t off k (by simp at h; omega)]
    simp

section
variable {P : Program} {C : Ctx} {n : Nat} {fr : Fr} {own own' own1 : List Own} {G : Gh} {Φ : Act → World → Prop}
variable {dst : Option Nat} {t t' ty' : TypeId} {pos : String} {af : Array Edge} {gd : Option (Nat × Bool)} {x y : Operand} {e s by_ : Nat}

/-- The cells of the first m elements of a slice. -/
def Src (P : Program) (C : Ctx) (own : List Own) (G : Gh) (s m : Nat) (v : Value) (ys : List Value) : Prop :=
  ∀ w, HRel C own G w → (Builtin.firstCells s m v).run P w = .ok ⟨ys⟩ w

theorem run_loadCells {w : World} {b off k : Nat} {cs l : List Value} {ty : TypeId} {fz : Nat × Nat} (h : w.heap[b]? = some (.cells ⟨cs⟩ ty fz)) (hl : takeL cs off k = some l) : (loadCells ⟨b, off, none⟩ k).run P w = .ok ⟨l⟩ w := by
  obtain ⟨h1, h2⟩ := takeL_spec _ _ _ _ hl
  unfold loadCells
  rw [run_loadCellsFrom (l := l) k 0 #[] (fun j hj => by rw [cell_of_block h]; simpa using h2 j hj) (by omega)]
  simp [← h1]
theorem src_nil {a c : Nat} : Src P C own G s 0 (.slice none a c) [] := fun w _ => rfl
theorem src_own {b off m len cap : Nat} {cs ys : List Value} {ty : TypeId} {lo : Bool} (ho : OAt own b cs ty lo) (hl : takeL cs off (m * s) = some ys) : Src P C own G s m (.slice (some ⟨b, off, none⟩) len cap) ys :=
  fun w h => run_loadCells (h.hown _ ho.mem).1 hl
theorem src_gh {b off m len cap : Nat} {cs ys : List Value} (hg : G b = some cs) (hl : takeL cs off (m * s) = some ys) : Src P C own G s m (.slice (some ⟨b, off, none⟩) len cap) ys :=
  fun w h => by obtain ⟨ty, fz, hb⟩ := h.sub _ _ hg; exact run_loadCells hb hl
theorem src_zero {ad : Option Addr} {len cap : Nat} : Src P C own G s 0 (.slice ad len cap) [] := fun w _ => by
  cases ad with
  | none => rfl
  | some a => unfold Builtin.firstCells loadCells; simp [loadCellsFrom, run_pure]

theorem run_zeroCells (z : Value) (k : Nat) : Builtin.zeroCells ⟨cellsL z⟩ k = ⟨zeros z k⟩ := by
  unfold Builtin.zeroCells
  exact range_zeros rfl

theorem run_append_grow {w w' : World} [hT : TySl P t e s by_] [hN : TyN P t'] {z : Value} [hz : TyZ P e z] {ad : Option Addr} {len cap m cap2 : Nat} {ad2 : Option Addr} {xs ys : List Value}
    (hsx : (Builtin.firstCells s len (.slice ad len cap)).run P w.drew = .ok ⟨xs⟩ w.drew) (hsy : (Builtin.firstCells s m (.slice ad2 m cap2)).run P w.drew = .ok ⟨ys⟩ w.drew)
    (hneed : cap < len + m) (hby : 0 < by_) (hb : (len + m) * by_ ≤ 140737488355328) :
    (Builtin.append_ #[t, t'] ty' #[.slice ad len cap, .slice ad2 m cap2]).run P w =
      .ok (.slice (some ⟨w.heap.size, 0, none⟩) (len + m) (grownCap w (len + m) cap e)) (w.drew.alloc (.cells ⟨xs ++ ys ++ zeros z (grownCap w (len + m) cap e - (len + m))⟩ e)) := by
  obtain ⟨d, hd1⟩ := hN.un
  obtain ⟨i, hi, his, hib⟩ := hT.info
  obtain ⟨i', hi', hiz⟩ := hz.info
  rw [hi] at hi'; cases hi'
  have hfit := growslice_fits (old := cap) (need := len + m) (bytes := by_) hneed hb
  have hlen : len + m ≤ 140737488355328 := Nat.le_trans (Nat.le_mul_of_pos_right _ hby) hb
  have hn : ¬ (len + m ≤ cap) := by omega
  have h63' : ¬ (9223372036854775807 < ((len : Int) + (m : Int))) := by omega
  have h48' : ¬ (281474976710656 < Builtin.nextslicecap (len + m) cap * i.bytes) := by rw [hib]; omega
  subst his
  simp [Builtin.append_, run_underlying hT.un, run_underlying hd1, sizeOf, typeInfo, zeroValue, hi, hiz, Builtin.lenOf, hn, h63', h48', Question.forced, hsx, hsy, newRow, grownCap]
  congr 2
  apply Array.ext'
  rw [cells_eq, run_zeroCells]
  simp [List.append_assoc]

theorem ch_append_grow [hT : TySl P t e s by_] [hN : TyN P t'] {z : Value} [hz : TyZ P e z] {ad : Option Addr} {len cap m cap2 : Nat} {ad2 : Option Addr} {xs ys : List Value}
    (hx : opv fr x = some (.slice ad len cap)) (hy : opv fr y = some (.slice ad2 m cap2)) (hsx : Src P C own G s len (.slice ad len cap) xs) (hsy : Src P C own G s m (.slice ad2 m cap2) ys)
    (hneed : cap < len + m) (hby : 0 < by_) (hb : (len + m) * by_ ≤ 140737488355328) (hd : dstOk n dst = true)
    (h : ∀ b cap', len + m ≤ cap' → St C n (put fr dst (.slice (some ⟨b, 0, none⟩) (len + m) cap')) (⟨b, xs ++ ys ++ zeros z (cap' - (len + m)), e, true⟩ :: own) G Φ) :
    Ch P C n fr own G ⟨dst, .call ⟨.builtin .append, #[x, y], #[t, t']⟩, ty', pos, af, gd⟩ Φ := by
  intro a w Q rl
  have hcap : len + m ≤ grownCap w (len + m) cap e := by unfold grownCap; simp only [Question.cut]; omega
  have hrun := run_append_grow (P := P) (t := t) (t' := t') (ty' := ty') (w := w) (w' := w) (hsx _ rl.h.drew) (hsy _ rl.h.drew) hneed hby hb
  refine ch_value (v := .slice (some ⟨w.heap.size, 0, none⟩) (len + m) (grownCap w (len + m) cap e)) (w' := w.drew.alloc (.cells ⟨xs ++ ys ++ zeros z (grownCap w (len + m) cap e - (len + m))⟩ e)) ?_ ?_
  · simp only [execOp, resolve, List.map_toArray, List.map_cons, List.map_nil, opv_eval rl.fr hx, opv_eval rl.fr hy]
    exact value_of hrun
  · exact h w.heap.size _ hcap _ _ ((rl.heap ((rl.h.drew).alloc _ _)).put _ hd)

theorem ORem.perm {o : Own} (h : ORem own o own1) : own.Perm (o :: own1) := by
  induction h with
  | hd o t => exact List.Perm.refl _
  | tl x t t' o h ih => exact (List.Perm.cons x ih).trans (List.Perm.swap _ _ _)

theorem run_append_room {w : World} [hT : TySl P t e s by_] [hN : TyN P t'] {b len cap m cap2 : Nat} {ad2 : Option Addr} {cs ys : List Value}
    (hb : w.heap[b]? = some (.cells ⟨cs⟩ e (0, 0))) (hcs : cs.length = cap * s) (hsy : (Builtin.firstCells s m (.slice ad2 m cap2)).run P w = .ok ⟨ys⟩ w) (hys : ys.length = m * s) (hf : ∀ v ∈ ys, flat v = true)
    (hneed : len + m ≤ cap) :
    (Builtin.append_ #[t, t'] ty' #[.slice (some ⟨b, 0, none⟩) len cap, .slice ad2 m cap2]).run P w =
      .ok (.slice (some ⟨b, 0, none⟩) (len + m) cap) (setBlk w b (.cells ⟨ovw cs (len * s) ys⟩ e (0, 0))) := by
  obtain ⟨d, hd1⟩ := hN.un
  obtain ⟨i, hi, his, hib⟩ := hT.info
  subst his
  have hl : len * i.size + ys.length ≤ cs.length := by rw [hys, hcs, ← Nat.add_mul]; exact Nat.mul_le_mul_right _ hneed
  have hst := run_storeCells (P := P) ys w (len * i.size) 0 cs hf hb (by omega)
  rw [Nat.add_zero] at hst
  simp [Builtin.append_, run_underlying hT.un, run_underlying hd1, sizeOf, typeInfo, hi, Builtin.lenOf, hneed, hsy, addr_add, hst]

theorem ovw_len : ∀ (vs cs : List Value) (off : Nat), (ovw cs off vs).length = cs.length
  | [], cs, off => rfl
  | v :: vs, cs, off => by simp [ovw, ovw_len vs]
theorem ovw_spec : ∀ (vs cs : List Value) (off : Nat), off + vs.length ≤ cs.length → ovw cs off vs = cs.take off ++ vs ++ cs.drop (off + vs.length)
  | [], cs, off, h => by simp [ovw]
  | v :: vs, cs, off, h => by
    simp only [List.length_cons] at h
    rw [ovw, ovw_spec vs _ _ (by simp; omega)]
    rw [List.take_set, List.drop_set_of_lt (by omega)]
    have h1 : (cs.take (off + 1)).set off v = cs.take off ++ [v] := by
      rw [List.take_succ_eq_append_getElem (by omega), List.set_append_right _ _ (by simp; omega)]
      simp [Nat.min_eq_left (by omega : off ≤ cs.length)]
    rw [h1]
    simp only [List.length_cons, List.append_assoc, List.cons_append, List.nil_append]
    congr 4
    omega

/-- append to a slice of the call's own, whatever room there is -/
theorem ch_append_own [hT : TySl P t e s by_] [hN : TyN P t'] {z : Value} [hz : TyZ P e z] {b len cap m cap2 : Nat} {ad2 : Option Addr} {xs ys rest : List Value}
    (hx : opv fr x = some (.slice (some ⟨b, 0, none⟩) len cap)) (hy : opv fr y = some (.slice ad2 m cap2)) (hr : ORem own ⟨b, xs ++ rest, e, true⟩ own1) (hxs : xs.length = len * s) (hcap : xs.length + rest.length = cap * s) (hlc : len ≤ cap)
    (hsy : Src P C own G s m (.slice ad2 m cap2) ys) (hys : ys.length = m * s) (hf : ∀ v ∈ ys, flat v = true)
    (hby : 0 < by_) (hb : (len + m) * by_ ≤ 140737488355328) (hzs : (cellsL z).length = s) (hd : dstOk n dst = true)
    (h : ∀ b cap' rest', len + m ≤ cap' → rest'.length + (len + m) * s = cap' * s → St C n (put fr dst (.slice (some ⟨b, 0, none⟩) (len + m) cap')) (⟨b, xs ++ ys ++ rest', e, true⟩ :: own1) G Φ) :
    Ch P C n fr own G ⟨dst, .call ⟨.builtin .append, #[x, y], #[t, t']⟩, ty', pos, af, gd⟩ Φ := by
  intro a w Q rl
  have hp := rl.h.perm hr.perm
  have hblk := (hp.hown _ List.mem_cons_self).1
  simp only [] at hblk
  by_cases hneed : len + m ≤ cap
  · have hcs : (xs ++ rest).length = cap * s := by simp; omega
    have hrun := run_append_room (P := P) (t := t) (t' := t') (ty' := ty') (w := w) (len := len) hblk hcs (hsy w rl.h) hys hf hneed
    have hle : len * s + m * s ≤ cap * s := by rw [← Nat.add_mul]; exact Nat.mul_le_mul_right _ hneed
    have hov : ovw (xs ++ rest) (len * s) ys = xs ++ ys ++ rest.drop (m * s) := by
      rw [ovw_spec _ _ _ (by rw [hys]; omega), ← hxs]
      simp [hys, List.drop_append]
    refine ch_value (v := .slice (some ⟨b, 0, none⟩) (len + m) cap) (w' := setBlk w b (.cells ⟨ovw (xs ++ rest) (len * s) ys⟩ e (0, 0))) ?_ ?_
    · simp only [execOp, resolve, List.map_toArray, List.map_cons, List.map_nil, opv_eval rl.fr hx, opv_eval rl.fr hy]
      exact value_of hrun
    · rw [hov]
      refine h b cap (rest.drop (m * s)) hneed ?_ _ _ ((rl.heap (hp.store (.hd ..))).put _ hd)
      rw [List.length_drop, Nat.add_mul]
      omega
  · have hx' : Src P C own G s len (.slice (some ⟨b, 0, none⟩) len cap) xs := fun w' hw' => by
      have hb' := (((hw'.perm hr.perm).hown _ List.mem_cons_self).1)
      refine run_loadCells hb' ?_
      rw [takeL_of _ _ _ (by simp; omega), ← hxs]
      simp
    have hcap' : len + m ≤ grownCap w (len + m) cap e := by unfold grownCap; simp only [Question.cut]; omega
    have hrun := run_append_grow (P := P) (t := t) (t' := t') (ty' := ty') (w := w) (w' := w) (hx' _ rl.h.drew) (hsy _ rl.h.drew) (by omega) hby hb
    refine ch_value (v := .slice (some ⟨w.heap.size, 0, none⟩) (len + m) (grownCap w (len + m) cap e)) (w' := w.drew.alloc (.cells ⟨xs ++ ys ++ zeros z (grownCap w (len + m) cap e - (len + m))⟩ e)) ?_ ?_
    · simp only [execOp, resolve, List.map_toArray, List.map_cons, List.map_nil, opv_eval rl.fr hx, opv_eval rl.fr hy]
      exact value_of hrun
    · refine h w.heap.size _ _ hcap' ?_ _ _ ((rl.heap (((hp.drew).drop (List.sublist_cons_self _ _)).alloc _ _)).put _ hd)
      rw [zeros_len, hzs, ← Nat.add_mul]
      congr 1
      omega
end

section
variable {P : Program} {ops : Array Oper} {Q : Exit → Act → World → Prop} {S : World → Prop} {fin : Nat → Bool}

/-! ### a drawn region in one order: 'true' for what is taken first, 'false' for what comes up alone -/
def orderOk (ops : Array Oper) (fin : Nat → Bool) : List (Nat × Bool) → Array Bool → Bool
  | [], listed => (Region.ready .any ops listed).isEmpty
  | (i, true) :: r, listed => takeOk ops fin listed i && orderOk ops fin r (listed.setIfInBounds i true)
  | (i, false) :: r, listed => (Region.ready .any ops listed == [i]) && orderOk ops fin r (listed.setIfInBounds i true)
def dwL (P : Program) (ops : Array Oper) (Q : Exit → Act → World → Prop) (S : World → Prop) (fin : Nat → Bool) : List (Nat × Bool) → Act → World → Prop
  | [], a, w => Q .normal a w
  | (i, true) :: r, a, w => ∃ o v, ops[i]? = some o ∧ S w ∧ YieldsIf P ops S o v a ∧ dwL P ops Q S fin r (a.put o.dst v) w
  | (i, false) :: r, a, w => wpOp P ops Q i (fun a' w' => (fin i = true ∨ S w') ∧ dwL P ops Q S fin r a' w') a w

theorem wpAnyZ_of_order (hQ : ∀ c a d v w, Q (.panic c) (Act.put a d v) w → Q (.panic c) a w) : ∀ (π : List (Nat × Bool)) (listed : Array Bool) (a : Act) (w : World), orderOk ops fin π listed = true → dwL P ops Q S fin π a w → ∀ fuel, π.length ≤ fuel → wpAnyZ P ops Q S fin fuel listed a w
  | [], listed, a, w, ho, h, fuel, hf => by
    have hr : Region.ready .any ops listed = [] := by simpa [orderOk] using ho
    cases fuel with
    | zero => exact ⟨hr, h⟩
    | succ k => exact ⟨fun _ => h, by rw [hr]; simp⟩
  | (i, true) :: r, listed, a, w, ho, h, 0, hf => by simp at hf
  | (i, false) :: r, listed, a, w, ho, h, 0, hf => by simp at hf
  | (i, true) :: r, listed, a, w, ho, h, fuel + 1, hf => by
    obtain ⟨o, v, hoi, hS, hy, hk⟩ := h
    simp only [orderOk, takeOk, Bool.and_eq_true] at ho
    obtain ⟨⟨⟨⟨h1, h2⟩, h3⟩, h4⟩, h5⟩ := ho
    obtain ⟨h6, h7⟩ := finOk_spec h4
    exact wpAnyZ_first hoi (Region.noSelect_spec h1) (fun c a w => hQ c a _ _ w) h6 h7 fuel listed a w (Region.free_spec hoi h2) (by simpa using h3) hy hS
      (wpAnyZ_of_order hQ r _ _ _ h5 hk fuel (by simpa using hf))
  | (i, false) :: r, listed, a, w, ho, h, fuel + 1, hf => by
    simp only [orderOk, Bool.and_eq_true, beq_iff_eq] at ho
    exact wpAnyZ_all ho.1 (wpOp_mono (fun a' w' h' => ⟨h'.1, wpAnyZ_of_order hQ r _ _ _ ho.2 h'.2 fuel (by simpa using hf)⟩) h)
end

section
variable {P : Program} {C : Ctx} {n : Nat} {fr : Fr} {own own0 : List Own} {G G0 : Gh} {ops : Array Oper} {Q : Exit → Act → World → Prop} {fin : Nat → Bool} {π : List (Nat × Bool)}

/-- The start of a drawn region. -/
theorem dr (fin : Nat → Bool) (π : List (Nat × Bool)) {id : Nat} (hm : P.follows .mixedOrders = true) (ho : (orderOk ops fin π (Array.replicate ops.size false) && Nat.ble π.length ops.size) = true)
    (h : St C n fr own G (dwL P ops (NoPan Q) (HS C own G) fin π)) : St C n fr own G ((Code.region id ops true).wp P Q) := by
  simp only [Bool.and_eq_true] at ho
  refine dr_region fin hm fun a w rl => wpAnyZ_of_order (fun _ _ _ _ _ h => h) π _ a w ho.1 (h a w rl) _ (by simpa using ho.2)

/-- taken first -/
theorem dy {i : Nat} {o : Oper} {v : Value} (ho : ops[i]? = some o) (hy : ∀ G' : Gh, [GE G0 G'] → Yd P C fr own0 G' o v) (hg : o.guard = none) (hd : dstOk n o.dst = true) [hs : SubL own0 own] [hl : GL G0 G]
    (h : St C n (put fr o.dst v) own G (dwL P ops (NoPan Q) (HS C own0 G0) fin π)) : St C n fr own G (dwL P ops (NoPan Q) (HS C own0 G0) fin ((i, true) :: π)) :=
  fun a w rl => ⟨o, v, ho, ⟨G, hl.le, rl.h.drop hs.s⟩, .inl ⟨by simp [Region.wanted, hg], fun w' ⟨G', hle, hr⟩ => @hy G' ⟨hle⟩ a w' rl.fr hr⟩, h _ _ (rl.put v hd)⟩
theorem dyg {i : Nat} {o : Oper} {v : Value} (ho : ops[i]? = some o) {j d : Nat} {b : Bool} (hg : o.guard = some (j, b)) (hj : (ops[j]?).bind (·.dst) = some d) (hlk : look fr d = some (.bool b)) (hy : ∀ G' : Gh, [GE G0 G'] → Yd P C fr own0 G' o v) (hd : dstOk n o.dst = true) [hs : SubL own0 own] [hl : GL G0 G]
    (h : St C n (put fr o.dst v) own G (dwL P ops (NoPan Q) (HS C own0 G0) fin π)) : St C n fr own G (dwL P ops (NoPan Q) (HS C own0 G0) fin ((i, true) :: π)) :=
  fun a w rl => ⟨o, v, ho, ⟨G, hl.le, rl.h.drop hs.s⟩, .inl ⟨by simp [Region.wanted, hg, yielded_of rl.fr hj hlk], fun w' ⟨G', hle, hr⟩ => @hy G' ⟨hle⟩ a w' rl.fr hr⟩, h _ _ (rl.put v hd)⟩
theorem dys {i : Nat} {o : Oper} (ho : ops[i]? = some o) {j d : Nat} {b c : Bool} (hg : o.guard = some (j, b)) (hj : (ops[j]?).bind (·.dst) = some d) (hlk : look fr d = some (.bool c)) (hbc : (c == b) = false) (hd : dstOk n o.dst = true) [hs : SubL own0 own] [hl : GL G0 G]
    (h : St C n (put fr o.dst undef) own G (dwL P ops (NoPan Q) (HS C own0 G0) fin π)) : St C n fr own G (dwL P ops (NoPan Q) (HS C own0 G0) fin ((i, true) :: π)) :=
  fun a w rl => ⟨o, undef, ho, ⟨G, hl.le, rl.h.drop hs.s⟩, .inr ⟨by simp [Region.wanted, hg, yielded_of rl.fr hj hlk, hbc], rfl⟩, h _ _ (rl.put undef hd)⟩
/-- comes up alone -/
theorem dc {i : Nat} {o : Oper} (ho : ops[i]? = some o) (hg : o.guard = none) (hc : Ch P C n fr own G o (fun a w => (fin i = true ∨ HS C own0 G0 w) ∧ dwL P ops (NoPan Q) (HS C own0 G0) fin π a w)) : St C n fr own G (dwL P ops (NoPan Q) (HS C own0 G0) fin ((i, false) :: π)) := by
  intro a w rl
  show wpOp P ops (NoPan Q) i _ a w
  unfold wpOp
  simp only [ho, Region.wanted, hg, if_true]
  exact .inl (hc a w _ rl)
theorem dcg {i : Nat} {o : Oper} (ho : ops[i]? = some o) {j d : Nat} {b : Bool} (hg : o.guard = some (j, b)) (hj : (ops[j]?).bind (·.dst) = some d) (hlk : look fr d = some (.bool b)) (hc : Ch P C n fr own G o (fun a w => (fin i = true ∨ HS C own0 G0 w) ∧ dwL P ops (NoPan Q) (HS C own0 G0) fin π a w)) : St C n fr own G (dwL P ops (NoPan Q) (HS C own0 G0) fin ((i, false) :: π)) := by
  intro a w rl
  show wpOp P ops (NoPan Q) i _ a w
  unfold wpOp
  have : Region.wanted o (yielded ops a.tmps) = true := by simp [Region.wanted, hg, yielded_of rl.fr hj hlk]
  simp only [ho, this, if_true]
  exact .inl (hc a w _ rl)
theorem dcs {i : Nat} {o : Oper} (ho : ops[i]? = some o) {j d : Nat} {b c : Bool} (hg : o.guard = some (j, b)) (hj : (ops[j]?).bind (·.dst) = some d) (hlk : look fr d = some (.bool c)) (hbc : (c == b) = false) (hd : dstOk n o.dst = true)
    (h : St C n (put fr o.dst undef) own G (fun a w => (fin i = true ∨ HS C own0 G0 w) ∧ dwL P ops (NoPan Q) (HS C own0 G0) fin π a w)) : St C n fr own G (dwL P ops (NoPan Q) (HS C own0 G0) fin ((i, false) :: π)) := by
  intro a w rl
  show wpOp P ops (NoPan Q) i _ a w
  unfold wpOp
  have : Region.wanted o (yielded ops a.tmps) = false := by simp [Region.wanted, hg, yielded_of rl.fr hj hlk, hbc]
  simp only [ho, this]
  exact h _ _ (rl.put undef hd)
theorem dn (h : St C n fr own G (Q .normal)) : St C n fr own G (dwL P ops (NoPan Q) (HS C own0 G0) fin []) := h

theorem ghi {A G : Gh} {b : Nat} {cs : List Value} [h : GHas A b cs] [k : GL A G] : G b = some cs := k.le _ _ h.h

/-! ### text order, in short -/
variable {dst : Option Nat} {t t' ty' : TypeId} {pos : String} {af : Array Edge} {x y : Operand} {r : List Oper}
theorem sm {v : Value} (hx : opv fr x = some v) (hd : dstOk n dst = true) (h : St C n (put fr dst v) own G (wpL P ops Q r)) : St C n fr own G (wpL P ops Q (⟨dst, .move x, ty', pos, af, none⟩ :: r)) := st_y (yd_move hx) rfl hd h
theorem sa {v : Value} (hx : opv fr x = some v) (hd : dstOk n dst = true) (h : St C n (put fr dst v) own G (wpL P ops Q r)) : St C n fr own G (wpL P ops Q (⟨dst, .assign x, ty', pos, af, none⟩ :: r)) := st_y (yd_assign hx) rfl hd h
theorem sn {ad : Addr} (hx : opv fr x = some (.pointer (some ad))) (hd : dstOk n dst = true) (h : St C n (put fr dst (.pointer (some ad))) own G (wpL P ops Q r)) : St C n fr own G (wpL P ops Q (⟨dst, .nilCheck x, ty', pos, af, none⟩ :: r)) := st_y (yd_nilCheck hx) rfl hd h
theorem sf {b o f off : Nat} [hF : TyF P t f off] (hx : opv fr x = some (.pointer (some ⟨b, o, none⟩))) (hd : dstOk n dst = true) (h : St C n (put fr dst (.pointer (some ⟨b, o + off, none⟩))) own G (wpL P ops Q r)) : St C n fr own G (wpL P ops Q (⟨dst, .fieldAddr t x f, ty', pos, af, none⟩ :: r)) := st_y (yd_fieldAddr hx) rfl hd h
theorem slo {b off k : Nat} {cs l : List Value} {lo : Bool} {ty : TypeId} (hx : opv fr x = some (.pointer (some ⟨b, off, none⟩))) [ho : OAt own b cs ty lo] [TyA P t k] (hl : takeL cs off k = some l) (hd : dstOk n dst = true)
    (h : St C n (put fr dst (.agg ⟨l⟩)) own G (wpL P ops Q r)) : St C n fr own G (wpL P ops Q (⟨dst, .load t x, ty', pos, af, none⟩ :: r)) := st_y (yd_load_own hx hl) rfl hd h
theorem slo1 {b off : Nat} {cs : List Value} {v : Value} {lo : Bool} {ty : TypeId} (hx : opv fr x = some (.pointer (some ⟨b, off, none⟩))) [ho : OAt own b cs ty lo] [TyS P t] (hl : cs[off]? = some v) (hd : dstOk n dst = true)
    (h : St C n (put fr dst v) own G (wpL P ops Q r)) : St C n fr own G (wpL P ops Q (⟨dst, .load t x, ty', pos, af, none⟩ :: r)) := st_y (yd_load_own1 hx hl) rfl hd h
theorem slg {A : Gh} {b off k : Nat} {cs l : List Value} (hx : opv fr x = some (.pointer (some ⟨b, off, none⟩))) [hg : GHas A b cs] [hk : GL A G] [TyA P t k] (hl : takeL cs off k = some l) (hd : dstOk n dst = true)
    (h : St C n (put fr dst (.agg ⟨l⟩)) own G (wpL P ops Q r)) : St C n fr own G (wpL P ops Q (⟨dst, .load t x, ty', pos, af, none⟩ :: r)) := st_y (yd_load_gh hx (hk.le _ _ hg.h) hl) rfl hd h
theorem slg1 {A : Gh} {b off : Nat} {cs : List Value} {v : Value} (hx : opv fr x = some (.pointer (some ⟨b, off, none⟩))) [hg : GHas A b cs] [hk : GL A G] [TyS P t] (hl : cs[off]? = some v) (hd : dstOk n dst = true)
    (h : St C n (put fr dst v) own G (wpL P ops Q r)) : St C n fr own G (wpL P ops Q (⟨dst, .load t x, ty', pos, af, none⟩ :: r)) := st_y (yd_load_gh1 hx (hk.le _ _ hg.h) hl) rfl hd h
theorem slen {e s by_ : Nat} {ad : Option Addr} {len cap : Nat} [hT : TySl P t e s by_] (hx : opv fr x = some (.slice ad len cap)) (hd : dstOk n dst = true)
    (h : St C n (put fr dst (.int .i64 len)) own G (wpL P ops Q r)) : St C n fr own G (wpL P ops Q (⟨dst, .call ⟨.builtin .len, #[x], #[t]⟩, ty', pos, af, none⟩ :: r)) := st_y (yd_len hx) rfl hd h
theorem sx {vs : Array Value} {i : Nat} {v : Value} (hx : opv fr x = some (.tuple vs)) (hv : vs[i]? = some v) (hd : dstOk n dst = true) (h : St C n (put fr dst v) own G (wpL P ops Q r)) : St C n fr own G (wpL P ops Q (⟨dst, .extract x i, ty', pos, af, none⟩ :: r)) := st_y (yd_extract hx hv) rfl hd h
theorem st_te {C : Ctx} {n : Nat} {fr : Fr} {own : List Own} {G : Gh} {K : Act → World → Prop} {Q : Exit → Act → World → Prop} {id : Nat} (h : St C n fr own G (Q (.exit id))) : St C n fr own G (Exit.then K Q (.exit id)) := h
/-- guarded, the guard says yes; the guard says no -/
theorem syg {op : Op} {v : Value} {j d : Nat} {b : Bool} (hj : (ops[j]?).bind (·.dst) = some d) (hl : look fr d = some (.bool b)) (hy : Yd P C fr own G ⟨dst, op, ty', pos, af, some (j, b)⟩ v) (hd : dstOk n dst = true) (h : St C n (put fr dst v) own G (wpL P ops Q r)) : St C n fr own G (wpL P ops Q (⟨dst, op, ty', pos, af, some (j, b)⟩ :: r)) := st_yg rfl hj hl hy hd h
theorem ss {op : Op} {j d : Nat} {b c : Bool} (hj : (ops[j]?).bind (·.dst) = some d) (hl : look fr d = some (.bool c)) (hbc : (c == b) = false) (hd : dstOk n dst = true) (h : St C n (put fr dst undef) own G (wpL P ops Q r)) : St C n fr own G (wpL P ops Q (⟨dst, op, ty', pos, af, some (j, b)⟩ :: r)) := st_skip rfl hj hl hbc hd h
/-- any other that yields -/
theorem sy {op : Op} {v : Value} (hy : Yd P C fr own G ⟨dst, op, ty', pos, af, none⟩ v) (hd : dstOk n dst = true) (h : St C n (put fr dst v) own G (wpL P ops Q r)) : St C n fr own G (wpL P ops Q (⟨dst, op, ty', pos, af, none⟩ :: r)) := st_y hy rfl hd h
/-- an operation that changes the world -/
theorem sc {op : Op} (hc : Ch P C n fr own G ⟨dst, op, ty', pos, af, none⟩ (wpL P ops Q r)) : St C n fr own G (wpL P ops Q (⟨dst, op, ty', pos, af, none⟩ :: r)) := st_ch rfl hc
end


/-- A contract that leaves the world alone. -/
theorem Fn.of_calls {P : Program} {f : FuncId} {vs : List Value} {G : Gh} {v : Value} (ha : Callable P f) (h : ∀ w, Calls P f ⟨vs⟩ w fun e w' => e = .returned v ∧ w' = w) : Fn P f vs G (fun u _ => u = v) :=
  ⟨ha, fun w hw => (h w).mono fun e w' ⟨he, hww⟩ => ⟨v, G, he, by
    subst hww
    exact ⟨rfl, rfl, rfl, Nat.le_refl _, fun _ _ _ => rfl, hw, GLe.refl _, fun _ _ => rfl, fun o ho => (by cases ho), .nil⟩, rfl⟩⟩
end Go.Sx
end
