/-
  More operations: equality, fields, composite values, make, append; short names for the steps. Instances about the program's types.
-/
import Derived.Test.YtkijgpopaaknfaaGreatDoorMb1
import Derived.Test.YtkijgpopaaknfaaGreatDoorProg
section
namespace Go.Sx
open Go

theorem tyst_u {P : Program} {t : TypeId} {d : TypeDesc} (h : P.underlying t = some d) (w : World) : (underlying t).run P w = .ok d w := by
  simp [underlying, program, Sem.run_bind, Sem.run, h, run_pure]
class TyB (P : Program) (t : TypeId) : Prop where u : ∀ w, (underlying t).run P w = .ok .bool w
class TyP (P : Program) (t : TypeId) : Prop where u : ∃ e, ∀ w, (underlying t).run P w = .ok (.pointer e) w
class TyIf (P : Program) (t : TypeId) : Prop where u : ∃ ms, ∀ w, (underlying t).run P w = .ok (.interface ms) w
/-- a field, as a part of a struct's value -/
class TyFd (P : Program) (t : TypeId) (f : Nat) (off ft : outParam Nat) : Prop where
  u : ∃ fs fd, (∀ w, (underlying t).run P w = .ok (.struct fs) w) ∧ fs[f]? = some fd ∧ fd.offset = off ∧ fd.type = ft
/-- a slice type (of append's second argument) -/
class TyN (P : Program) (t : TypeId) : Prop where
  un : ∃ e, P.underlying t = some (.slice e)

section
variable {P : Program} {C : Ctx} {n : Nat} {fr : Fr} {own own' : List Own} {G : Gh} {Φ : Act → World → Prop}
variable {dst : Option Nat} {t t' ty' : TypeId} {pos : String} {af : Array Edge} {gd : Option (Nat × Bool)} {x y : Operand}

theorem run_equal {w : World} {p q : Value} {b : Bool} (h : (Op.equalIn (9999 + 1) t p q).run P w = .ok b w) : (Op.equal t p q).run P w = .ok b w := h

theorem yd_eqB [hT : TyB P t] {p q : Bool} (hx : opv fr x = some (.bool p)) (hy : opv fr y = some (.bool q)) : Yd P C fr own G ⟨dst, .binOp .eql t x y t', ty', pos, af, gd⟩ (.bool (p == q)) := by
  intro a w hf hh
  simp only [execOp, opv_eval hf hx, opv_eval hf hy]
  have h1 : (Op.equal t (.bool p) (.bool q)).run P w = .ok (p == q) w := run_equal (by unfold Op.equalIn; rw [run_ok_bind (hT.u w)]; rfl)
  have h2 : (eqGuard .eql t x y (.bool p) (.bool q)).run P w = .ok () w := rfl
  have h3 : (binOp .eql t (.bool p) (.bool q)).run P w = .ok (.bool (p == q)) w := by simp only [binOp]; rw [run_ok_bind h1]; rfl
  exact value_of (by rw [run_ok_bind h2]; exact h3)
theorem yd_neB [hT : TyB P t] {p q : Bool} (hx : opv fr x = some (.bool p)) (hy : opv fr y = some (.bool q)) : Yd P C fr own G ⟨dst, .binOp .neq t x y t', ty', pos, af, gd⟩ (.bool (!(p == q))) := by
  intro a w hf hh
  simp only [execOp, opv_eval hf hx, opv_eval hf hy]
  have h1 : (Op.equal t (.bool p) (.bool q)).run P w = .ok (p == q) w := run_equal (by unfold Op.equalIn; rw [run_ok_bind (hT.u w)]; rfl)
  have h2 : (eqGuard .neq t x y (.bool p) (.bool q)).run P w = .ok () w := rfl
  have h3 : (binOp .neq t (.bool p) (.bool q)).run P w = .ok (.bool (!(p == q))) w := by simp only [binOp]; rw [run_ok_bind h1]; rfl
  exact value_of (by rw [run_ok_bind h2]; exact h3)
theorem yd_eqP [hT : TyP P t] {p : Option Addr} (hx : opv fr x = some (.pointer p)) (hy : opv fr y = some (.pointer none)) : Yd P C fr own G ⟨dst, .binOp .eql t x y t', ty', pos, af, gd⟩ (.bool p.isNone) := by
  obtain ⟨e, he⟩ := hT.u
  intro a w hf hh
  simp only [execOp, opv_eval hf hx, opv_eval hf hy]
  have h1 : (Op.equal t (.pointer p) (.pointer none)).run P w = .ok p.isNone w := run_equal (by unfold Op.equalIn; rw [run_ok_bind (he w)]; cases p <;> rfl)
  have h2 : (eqGuard .eql t x y (.pointer p) (.pointer none)).run P w = .ok () w := by cases p <;> rfl
  have h3 : (binOp .eql t (.pointer p) (.pointer none)).run P w = .ok (.bool p.isNone) w := by cases p <;> (simp only [binOp]; rw [run_ok_bind h1]; rfl)
  exact value_of (by rw [run_ok_bind h2]; exact h3)
theorem yd_neP [hT : TyP P t] {p : Option Addr} (hx : opv fr x = some (.pointer p)) (hy : opv fr y = some (.pointer none)) : Yd P C fr own G ⟨dst, .binOp .neq t x y t', ty', pos, af, gd⟩ (.bool (!p.isNone)) := by
  obtain ⟨e, he⟩ := hT.u
  intro a w hf hh
  simp only [execOp, opv_eval hf hx, opv_eval hf hy]
  have h1 : (Op.equal t (.pointer p) (.pointer none)).run P w = .ok p.isNone w := run_equal (by unfold Op.equalIn; rw [run_ok_bind (he w)]; cases p <;> rfl)
  have h2 : (eqGuard .neq t x y (.pointer p) (.pointer none)).run P w = .ok () w := by cases p <;> rfl
  have h3 : (binOp .neq t (.pointer p) (.pointer none)).run P w = .ok (.bool (!p.isNone)) w := by cases p <;> (simp only [binOp]; rw [run_ok_bind h1]; rfl)
  exact value_of (by rw [run_ok_bind h2]; exact h3)
/-- 'err == nil', 'err != nil' against the literal -/
theorem yd_eqN {v : Value} [hT : TyIf P t] (hv : v = .nilIface ∨ ∃ k u, v = .iface k u) (hx : opv fr x = some v) :
    Yd P C fr own G ⟨dst, .binOp .eql t x (.const .nilIface) t', ty', pos, af, gd⟩ (.bool (match v with | .nilIface => true | _ => false)) := by
  obtain ⟨e, he⟩ := hT.u
  intro a w hf hh
  simp only [execOp, opv_eval hf hx, show a.eval (.const .nilIface) = .nilIface from rfl]
  rcases hv with rfl | ⟨k, u, rfl⟩
  · have h1 : (Op.equal t .nilIface .nilIface).run P w = .ok true w := run_equal (by unfold Op.equalIn; rw [run_ok_bind (he w)]; rfl)
    have h2 : (eqGuard .eql t x (.const .nilIface) .nilIface .nilIface).run P w = .ok () w := by cases x <;> rfl
    exact value_of (by rw [run_ok_bind h2]; simp only [binOp]; rw [run_ok_bind h1]; rfl)
  · have h1 : (Op.equal t (.iface k u) .nilIface).run P w = .ok false w := run_equal (by unfold Op.equalIn; rw [run_ok_bind (he w)]; rfl)
    exact value_of (by rw [run_ok_bind (a := ()) (w' := w) rfl]; simp only [binOp]; rw [run_ok_bind h1]; rfl)
theorem yd_neN {v : Value} [hT : TyIf P t] (hv : v = .nilIface ∨ ∃ k u, v = .iface k u) (hx : opv fr x = some v) :
    Yd P C fr own G ⟨dst, .binOp .neq t x (.const .nilIface) t', ty', pos, af, gd⟩ (.bool (match v with | .nilIface => false | _ => true)) := by
  obtain ⟨e, he⟩ := hT.u
  intro a w hf hh
  simp only [execOp, opv_eval hf hx, show a.eval (.const .nilIface) = .nilIface from rfl]
  rcases hv with rfl | ⟨k, u, rfl⟩
  · have h1 : (Op.equal t .nilIface .nilIface).run P w = .ok true w := run_equal (by unfold Op.equalIn; rw [run_ok_bind (he w)]; rfl)
    have h2 : (eqGuard .neq t x (.const .nilIface) .nilIface .nilIface).run P w = .ok () w := by cases x <;> rfl
    exact value_of (by rw [run_ok_bind h2]; simp only [binOp]; rw [run_ok_bind h1]; rfl)
  · have h1 : (Op.equal t (.iface k u) .nilIface).run P w = .ok false w := run_equal (by unfold Op.equalIn; rw [run_ok_bind (he w)]; rfl)
    exact value_of (by rw [run_ok_bind (a := ()) (w' := w) rfl]; simp only [binOp]; rw [run_ok_bind h1]; rfl)

theorem yd_fieldA {cs l : List Value} {f off ft k : Nat} [hF : TyFd P t f off ft] [hA : TyA P ft k] (hx : opv fr x = some (.agg ⟨cs⟩)) (hl : takeL cs off k = some l) : Yd P C fr own G ⟨dst, .field t x f, ty', pos, af, gd⟩ (.agg ⟨l⟩) := by
  obtain ⟨fs, fd, h1, h2, h3, h4⟩ := hF.u
  intro a w hf hh
  simp only [execOp, opv_eval hf hx]
  have : (Instr.field t (.agg ⟨cs⟩) f).run P w = .ok (.agg ⟨l⟩) w := by
    unfold Instr.field
    rw [run_ok_bind (h1 w)]
    simp only [h2, h3, h4, asAgg]
    rw [run_ok_bind (run_pure _ _ _)]
    unfold part
    rw [run_ok_bind (hA.agg w)]
    simp only [if_true]
    rw [run_ok_bind (hA.siz w)]
    obtain ⟨k1, k2⟩ := takeL_spec _ _ _ _ hl
    have : (⟨cs⟩ : Array Value).extract off (off + k) = ⟨l⟩ := by
      apply Array.ext'
      rw [Array.toList_extract]
      apply List.ext_getElem?
      intro i
      rw [List.extract_eq_take_drop, List.getElem?_take]
      split
      · rw [List.getElem?_drop]; exact k2 i (by omega)
      · exact (List.getElem?_eq_none (show l.length ≤ i by omega)).symm
    rw [this]; rfl
  exact value_of this
theorem yd_fieldS {cs : List Value} {f off ft : Nat} {v : Value} [hF : TyFd P t f off ft] [hA : TyS P ft] (hx : opv fr x = some (.agg ⟨cs⟩)) (hl : cs[off]? = some v) : Yd P C fr own G ⟨dst, .field t x f, ty', pos, af, gd⟩ v := by
  obtain ⟨fs, fd, h1, h2, h3, h4⟩ := hF.u
  intro a w hf hh
  simp only [execOp, opv_eval hf hx]
  have : (Instr.field t (.agg ⟨cs⟩) f).run P w = .ok v w := by
    unfold Instr.field
    rw [run_ok_bind (h1 w)]
    simp only [h2, h3, h4, asAgg]
    rw [run_ok_bind (run_pure _ _ _)]
    unfold part
    rw [run_ok_bind (hA.agg w)]
    have : (⟨cs⟩ : Array Value)[off]? = some v := by simpa using hl
    simp only [Bool.false_eq_true, if_false, this]
    rfl
  exact value_of this

/-! ### composite values -/
class TySt (P : Program) (t : TypeId) (offs : outParam (List (Nat × Nat))) : Prop where
  u : ∃ fs : Array Field, (∀ w, (underlying t).run P w = .ok (.struct fs) w) ∧ (∀ w, (fs.mapM (m := Sem) fun f => do pure (f.offset, ← sizeOf f.type)).run P w = .ok ⟨offs⟩ w)
/-- What 'build' gives: the zero value's cells with the parts laid over them. -/
def bld (fr : Fr) (offs : List (Nat × Nat)) : List Value → List (Nat × Operand) → Option (List Value)
  | cs, [] => some cs
  | cs, (i, x) :: r => match offs[i]?, opv fr x with
    | some (off, k), some v => if (cellsL v).length = k ∧ off + k ≤ cs.length then bld fr offs (ovw cs off (cellsL v)) r else none
    | _, _ => none

theorem fold_ovw : ∀ (vs : List Value) (cs : Array Value) (off j : Nat), (vs.zipIdx j).foldl (fun cs (c, j) => cs.setIfInBounds (off + j) c) cs = ⟨ovw cs.toList (off + j) vs⟩
  | [], cs, off, j => rfl
  | v :: vs, cs, off, j => by
    simp only [List.zipIdx_cons, List.foldl_cons]
    rw [fold_ovw vs _ off (j + 1)]
    simp [ovw, Nat.add_assoc]

theorem fill_bld {a : Act} (hf : FrOk fr a) (offs : List (Nat × Nat)) : ∀ (ps : List (Nat × Operand)) (cs out : List Value), bld fr offs cs ps = some out →
    Instr.fill ((⟨offs⟩ : Array (Nat × Nat))[·]?) ⟨cs⟩ (ps.map fun (i, x) => (i, a.eval x)) = some ⟨out⟩
  | [], cs, out, h => by simp only [bld] at h; cases h; rfl
  | (i, x) :: ps, cs, out, h => by
    simp only [bld] at h
    split at h
    · rename_i off k v ho hv
      split at h
      · rename_i hc
        simp only [List.map_cons, Instr.fill]
        have : (⟨offs⟩ : Array (Nat × Nat))[i]? = some (off, k) := by simpa using ho
        simp only [this, opv_eval hf hv, cells_eq]
        have h1 : ¬ ((⟨cellsL v⟩ : Array Value).size ≠ k) := by simp [hc.1]
        have h2 : ¬ (off + (⟨cellsL v⟩ : Array Value).size > (⟨cs⟩ : Array Value).size) := by simp only [List.size_toArray, hc.1]; omega
        rw [if_neg (by simp only [Bool.or_eq_true, decide_eq_true_eq, not_or]; exact ⟨by simpa using h1, by simpa using h2⟩)]
        have e := fold_ovw (cellsL v) ⟨cs⟩ off 0
        have e' : (⟨cellsL v⟩ : Array Value).zipIdx.foldl (fun cs (c, j) => cs.setIfInBounds (off + j) c) (⟨cs⟩ : Array Value) = ⟨ovw cs off (cellsL v)⟩ := by
          rw [← Array.foldl_toList, Array.toList_zipIdx]
          simpa using e
        rw [e']
        exact fill_bld hf offs ps _ _ h
      · cases h
    · cases h

theorem yd_build {parts : Array (Nat × Operand)} {offs : List (Nat × Nat)} {z : Value} {out : List Value} [hT : TySt P t offs] [hz : TyZ P t z] (hb : bld fr offs (cellsL z) parts.toList = some out) : Yd P C fr own G ⟨dst, .build t parts, ty', pos, af, gd⟩ (.agg ⟨out⟩) := by
  obtain ⟨fs, h1, h2⟩ := hT.u
  intro a w hf hh
  simp only [execOp]
  have : (Instr.build t (parts.map fun (i, x) => (i, a.eval x))).run P w = .ok (.agg ⟨out⟩) w := by
    unfold Instr.build
    rw [run_ok_bind (hz.zero w), cells_eq]
    rw [run_ok_bind (h1 w)]
    simp only []
    rw [run_ok_bind (h2 w)]
    have := fill_bld hf offs parts.toList _ _ hb
    simp only [Array.toList_map, this]
    rfl
  exact value_of this

end

/-- k values' zero cells -/
def zeros (z : Value) (k : Nat) : List Value := (List.replicate k (cellsL z)).flatten

theorem flat_rep_get {α : Type} (l : List α) : ∀ (k i : Nat), i < k * l.length → (List.replicate k l).flatten[i]? = l[i % l.length]?
  | 0, i, h => by omega
  | k + 1, i, h => by
    rw [List.replicate_succ, List.flatten_cons]
    by_cases hi : i < l.length
    · rw [List.getElem?_append_left hi, Nat.mod_eq_of_lt hi]
    · rw [List.getElem?_append_right (by omega), flat_rep_get l k (i - l.length) (by rw [Nat.add_mul] at h; omega)]
      rw [Nat.mod_eq_sub_mod (Nat.ge_of_not_lt hi)]

theorem zeros_len (z : Value) (k : Nat) : (zeros z k).length = k * (cellsL z).length := by simp [zeros]

theorem range_zeros {z : Value} {k m : Nat} (h : m = k * (cellsL z).length) : ((Array.range m).map fun i => (⟨cellsL z⟩ : Array Value)[i % (⟨cellsL z⟩ : Array Value).size]!) = ⟨zeros z k⟩ := by
  subst h
  apply Array.ext'
  apply List.ext_getElem?
  intro i
  simp only [Array.toList_map, Array.toList_range, List.getElem?_map, List.size_toArray]
  by_cases hi : i < k * (cellsL z).length
  · rw [List.getElem?_range hi]
    simp only [Option.map_some]
    have h1 := flat_rep_get (cellsL z) k i hi
    have hpos : 0 < (cellsL z).length := by
      rcases Nat.eq_zero_or_pos (cellsL z).length with h | h
      · rw [h, Nat.mul_zero] at hi; omega
      · exact h
    have hm := Nat.mod_lt i hpos
    show _ = (zeros z k)[i]?
    unfold zeros
    rw [h1]
    simp [hm]
  · rw [List.getElem?_eq_none (by simpa using hi)]
    rw [List.getElem?_eq_none (by show (zeros z k).length ≤ i; rw [zeros_len]; omega)]
    rfl

section
variable {P : Program} {C : Ctx} {n : Nat} {fr : Fr} {own own' : List Own} {G : Gh} {Φ : Act → World → Prop}
variable {dst : Option Nat} {t t' ty' : TypeId} {pos : String} {af : Array Edge} {gd : Option (Nat × Bool)} {x y : Operand} {e s by_ : Nat}

theorem run_bytes [hT : TySl P t e s by_] (w : World) : ∃ i : TypeInfo, (typeInfo e).run P w = .ok i w ∧ i.bytes = by_ := by
  obtain ⟨i, h1, _, h2⟩ := hT.info
  exact ⟨i, by simp [typeInfo, program, Sem.run_bind, Sem.run, h1, run_pure], h2⟩

theorem ch_make [hT : TySl P t e s by_] {z : Value} [hz : TyZ P e z] {k k' : IntKind} {l : Int} (hx : opv fr x = some (.int k l)) (hy : opv fr y = some (.int k' l)) (h0 : 0 ≤ l) (hb : by_ * l ≤ 2 ^ 47) (hl : l ≤ 2 ^ 60) (hs : (cellsL z).length = s) (hd : dstOk n dst = true)
    (h : ∀ b, St C n (put fr dst (.slice (some ⟨b, 0, none⟩) l.toNat l.toNat)) (⟨b, zeros z l.toNat, e, true⟩ :: own) G Φ) :
    Ch P C n fr own G ⟨dst, .makeSlice t x y, ty', pos, af, gd⟩ Φ := by
  intro a w Q rl
  have h1 : (Instr.makeSlice t (a.eval x) (a.eval y)).run P w = .ok (.slice (some ⟨w.heap.size, 0, none⟩) l.toNat l.toNat) (w.alloc (.cells ⟨zeros z l.toNat⟩ e)) := by
    obtain ⟨i, hi, hib⟩ := run_bytes (P := P) (t := t) (e := e) (s := s) (by_ := by_) w
    rw [opv_eval rl.fr hx, opv_eval rl.fr hy]
    unfold Instr.makeSlice
    rw [run_ok_bind (hT.u w)]
    simp only [asInt, asIntOf]
    rw [run_ok_bind (a := l) (w' := w) rfl, run_ok_bind (a := l) (w' := w) rfl, run_ok_bind hi, hib]
    have hw : IntKind.i64.wrap l = l := wrap_in (by simp [IntKind.min, IntKind.max, IntKind.signed, IntKind.bits]; omega)
    simp only [hw]
    have c1 : ¬ ((by_ : Int) * l > 2 ^ 48) := by
      have : (2:Int)^47 ≤ 2^48 := by decide
      omega
    have c2 : (decide (l < 0) || decide ((by_ : Int) * l > 2 ^ 48)) = false := by simp [c1]; omega
    simp only [c2, Int.lt_irrefl, decide_false, Bool.or_false, Bool.false_or]
    have c3 : decide (l < 0) = false := by simp; omega
    simp only [c3, Bool.false_eq_true, if_false, gt_iff_lt, Int.lt_irrefl, decide_false, Bool.or_false]
    have hr : ¬ (l.toNat * by_ > roomBytes) := by
      unfold roomBytes
      have : ((l.toNat * by_ : Nat) : Int) = by_ * l := by rw [Int.natCast_mul, Int.toNat_of_nonneg h0, Int.mul_comm]
      have h47 : ((2 ^ 47 : Nat) : Int) = 2 ^ 47 := by decide
      omega
    unfold askRoom
    simp only [hr, if_false]
    rw [run_ok_bind (run_pure _ _ _), run_ok_bind (hT.siz w)]
    have hn : l.toNat * s = l.toNat * (cellsL z).length := by rw [hs]
    by_cases h00 : l.toNat * s = 0
    · rw [if_pos h00, run_ok_bind (run_pure _ _ _)]
      have e0 : zeros z l.toNat = [] := List.eq_nil_of_length_eq_zero (by rw [zeros_len, hs]; exact h00)
      rw [h00, e0, show (Array.range 0) = #[] from rfl, Array.map_empty]
      rfl
    · rw [if_neg h00, run_ok_bind (hz.zero w), cells_eq]
      rw [run_ok_bind (run_pure _ _ _), range_zeros hn]
      rfl
  refine (fun hk => ?_ : Φ (a.put dst (.slice (some ⟨w.heap.size, 0, none⟩) l.toNat l.toNat)) (w.alloc (.cells ⟨zeros z l.toNat⟩ e)) → _) (h w.heap.size _ _ ((rl.heap (rl.h.alloc _ _)).put _ hd))
  exact ch_value (v := .slice (some ⟨w.heap.size, 0, none⟩) l.toNat l.toNat) (value_of h1) hk

theorem ovw_all : ∀ (vs cs pre : List Value), vs.length = cs.length → ovw (pre ++ cs) pre.length vs = pre ++ vs
  | [], cs, pre, h => by have : cs = [] := List.eq_nil_of_length_eq_zero h.symm; subst this; rfl
  | v :: vs, [], pre, h => by simp at h
  | v :: vs, c :: cs, pre, h => by
    simp only [ovw, List.set_append_right _ _ (Nat.le_refl _), Nat.sub_self, List.set_cons_zero]
    have := ovw_all vs cs (pre ++ [v]) (by simpa using h)
    simpa using this

/-- '[]T{x}', and the row that 'append(s, x)' makes -/
theorem ch_slice1 [hT : TySl P t e s by_] {z v : Value} [hz : TyZ P e z] (hx : opv fr x = some v) (hs : (cellsL z).length = s) (hv : (cellsL v).length = s) (hsm : s ≤ 1000) (hs0 : 0 < s) (hd : dstOk n dst = true)
    (h : ∀ b, St C n (put fr dst (.slice (some ⟨b, 0, none⟩) 1 1)) (⟨b, cellsL v, e, true⟩ :: own) G Φ) :
    Ch P C n fr own G ⟨dst, .buildSlice t 1 #[(0, x)], ty', pos, af, gd⟩ Φ := by
  intro a w Q rl
  have h1 : (Instr.buildSlice t 1 #[(0, v)]).run P w = .ok (.slice (some ⟨w.heap.size, 0, none⟩) 1 1) (w.alloc (.cells ⟨cellsL v⟩ e)) := by
    unfold Instr.buildSlice
    rw [run_ok_bind (hT.u w)]
    simp only []
    rw [run_ok_bind (hT.siz w)]
    have c1 : ¬ (1 * s > 2 ^ 24) := by omega
    have c2 : ¬ (1 * s = 0) := by omega
    simp only [c1, if_false]
    rw [if_neg c2, run_ok_bind (hz.zero w), cells_eq, run_ok_bind (run_pure _ _ _)]
    rw [range_zeros (k := 1) (by rw [hs])]
    have hzl : (zeros z 1).length = s := by rw [zeros_len, hs, Nat.one_mul]
    have hf : Instr.fill (fun i => some (i * s, s)) ⟨zeros z 1⟩ [(0, v)] = some ⟨cellsL v⟩ := by
      simp only [Instr.fill, cells_eq]
      rw [if_neg (by simp [hv, hzl])]
      have e1 := fold_ovw (cellsL v) ⟨zeros z 1⟩ (0 * s) 0
      have e2 : (⟨cellsL v⟩ : Array Value).zipIdx.foldl (fun cs (c, j) => cs.setIfInBounds (0 * s + j) c) (⟨zeros z 1⟩ : Array Value) = ⟨cellsL v⟩ := by
        rw [← Array.foldl_toList, Array.toList_zipIdx]
        have e3 := ovw_all (cellsL v) (zeros z 1) [] (by rw [hv, hzl])
        simp only [List.nil_append, List.length_nil] at e3
        rw [Nat.zero_mul, Nat.zero_add] at e1
        rw [e3] at e1
        simpa using e1
      rw [e2]
    simp only [hf]
    rfl
  refine ch_value (v := .slice (some ⟨w.heap.size, 0, none⟩) 1 1) (w' := w.alloc (.cells ⟨cellsL v⟩ e)) ?_ (h w.heap.size _ _ ((rl.heap (rl.h.alloc _ _)).put _ hd))
  simp only [execOp, List.map_toArray, List.map_cons, List.map_nil, opv_eval rl.fr hx]
  exact value_of h1
end

section
variable {P : Program} {C : Ctx} {n : Nat} {fr : Fr} {own own' : List Own} {G : Gh} {Φ : Act → World → Prop}
variable {dst : Option Nat} {t t' ty' : TypeId} {pos : String} {af : Array Edge} {gd : Option (Nat × Bool)} {x y : Operand} {e s by_ : Nat}
def bldS (fr : Fr) (s : Nat) : List Value → List (Nat × Operand) → Option (List Value)
  | cs, [] => some cs
  | cs, (i, x) :: r => match opv fr x with
    | some v => if (cellsL v).length = s ∧ i * s + s ≤ cs.length then bldS fr s (ovw cs (i * s) (cellsL v)) r else none
    | none => none
theorem fill_bldS {a : Act} (hf : FrOk fr a) (s : Nat) : ∀ (ps : List (Nat × Operand)) (cs out : List Value), bldS fr s cs ps = some out →
    Instr.fill (fun i => some (i * s, s)) ⟨cs⟩ (ps.map fun (i, x) => (i, a.eval x)) = some ⟨out⟩
  | [], cs, out, h => by simp only [bldS] at h; cases h; rfl
  | (i, x) :: ps, cs, out, h => by
    simp only [bldS] at h
    split at h
    · rename_i v hv
      split at h
      · rename_i hc
        simp only [List.map_cons, Instr.fill, opv_eval hf hv, cells_eq]
        have h1 : ¬ ((⟨cellsL v⟩ : Array Value).size ≠ s) := by simp [hc.1]
        have h2 : ¬ (i * s + (⟨cellsL v⟩ : Array Value).size > (⟨cs⟩ : Array Value).size) := by simp only [List.size_toArray, hc.1]; omega
        rw [if_neg (by simp only [Bool.or_eq_true, decide_eq_true_eq, not_or]; exact ⟨by simpa using h1, by simpa using h2⟩)]
        have e := fold_ovw (cellsL v) ⟨cs⟩ (i * s) 0
        have e' : (⟨cellsL v⟩ : Array Value).zipIdx.foldl (fun cs (c, j) => cs.setIfInBounds (i * s + j) c) (⟨cs⟩ : Array Value) = ⟨ovw cs (i * s) (cellsL v)⟩ := by
          rw [← Array.foldl_toList, Array.toList_zipIdx]
          simpa using e
        rw [e']
        exact fill_bldS hf s ps _ _ h
      · cases h
    · cases h
/-- '[]T{x, y, ..}' -/
theorem ch_slice [hT : TySl P t e s by_] {z : Value} [hz : TyZ P e z] {len : Nat} {parts : Array (Nat × Operand)} {out : List Value} (hs : (cellsL z).length = s) (hb : bldS fr s (zeros z len) parts.toList = some out) (hsm : Nat.ble (len * s) 1000 = true) (hs0 : Nat.blt 0 (len * s) = true) (hd : dstOk n dst = true)
    (h : ∀ b, St C n (put fr dst (.slice (some ⟨b, 0, none⟩) len len)) (⟨b, out, e, true⟩ :: own) G Φ) :
    Ch P C n fr own G ⟨dst, .buildSlice t len parts, ty', pos, af, gd⟩ Φ := by
  intro a w Q rl
  have hsm' : len * s ≤ 1000 := by simpa using hsm
  have hs0' : 0 < len * s := by simpa [Nat.blt_eq] using hs0
  have h1 : (Instr.buildSlice t len (parts.map fun (i, x) => (i, a.eval x))).run P w = .ok (.slice (some ⟨w.heap.size, 0, none⟩) len len) (w.alloc (.cells ⟨out⟩ e)) := by
    unfold Instr.buildSlice
    rw [run_ok_bind (hT.u w)]
    simp only []
    rw [run_ok_bind (hT.siz w)]
    have c1 : ¬ (len * s > 2 ^ 24) := by omega
    have c2 : ¬ (len * s = 0) := by omega
    simp only [c1, if_false]
    rw [if_neg c2, run_ok_bind (hz.zero w), cells_eq, run_ok_bind (run_pure _ _ _)]
    rw [range_zeros (k := len) (by rw [hs])]
    have hf := fill_bldS rl.fr s parts.toList _ _ hb
    simp only [Array.toList_map, hf]
    rfl
  refine ch_value (v := .slice (some ⟨w.heap.size, 0, none⟩) len len) (w' := w.alloc (.cells ⟨out⟩ e)) ?_ (h w.heap.size _ _ ((rl.heap (rl.h.alloc _ _)).put _ hd))
  simp only [execOp]
  exact value_of h1
theorem ch_slice0 [hT : TySl P t e s by_] (hd : dstOk n dst = true) (h : ∀ b, St C n (put fr dst (.slice (some ⟨b, 0, none⟩) 0 0)) (⟨b, [], e, true⟩ :: own) G Φ) :
    Ch P C n fr own G ⟨dst, .buildSlice t 0 #[], ty', pos, af, gd⟩ Φ := by
  intro a w Q rl
  have h1 : (Instr.buildSlice t 0 #[]).run P w = .ok (.slice (some ⟨w.heap.size, 0, none⟩) 0 0) (w.alloc (.cells ⟨[]⟩ e)) := by
    unfold Instr.buildSlice
    rw [run_ok_bind (hT.u w)]
    simp only []
    rw [run_ok_bind (hT.siz w)]
    simp only [Nat.zero_mul, gt_iff_lt, Nat.not_lt_zero, if_false, if_true]
    rw [run_ok_bind (run_pure _ _ _), show (Array.range 0) = #[] from rfl, Array.map_empty]
    rfl
  refine ch_value (v := .slice (some ⟨w.heap.size, 0, none⟩) 0 0) (w' := w.alloc (.cells ⟨[]⟩ e)) ?_ (h w.heap.size _ _ ((rl.heap (rl.h.alloc _ _)).put _ hd))
  simp only [execOp, List.map_toArray, List.map_nil]
  exact value_of h1
/-- a slice against nil -/
theorem yd_eqS [hT : TySl P t e s by_] {ad : Option Addr} {len cap l2 c2 : Nat} (hx : opv fr x = some (.slice ad len cap)) (hy : opv fr y = some (.slice none l2 c2)) : Yd P C fr own G ⟨dst, .binOp .eql t x y t', ty', pos, af, gd⟩ (.bool ad.isNone) := by
  intro a w hf hh
  simp only [execOp, opv_eval hf hx, opv_eval hf hy]
  have h1 : (Op.equal t (.slice ad len cap) (.slice none l2 c2)).run P w = .ok ad.isNone w := run_equal (by unfold Op.equalIn; rw [run_ok_bind (hT.u w)]; cases ad <;> rfl)
  have h2 : (eqGuard .eql t x y (.slice ad len cap) (.slice none l2 c2)).run P w = .ok () w := rfl
  have h3 : (binOp .eql t (.slice ad len cap) (.slice none l2 c2)).run P w = .ok (.bool ad.isNone) w := by simp only [binOp]; rw [run_ok_bind h1]; rfl
  exact value_of (by rw [run_ok_bind h2]; exact h3)
end

theorem takeL_of : ∀ (cs : List Value) (off k : Nat), off + k ≤ cs.length → takeL cs off k = some ((cs.drop off).take k)
  | cs, 0, 0, _ => by cases cs <;> rfl
  | [], 0, k + 1, h => by simp at h
  | v :: t, 0, k + 1, h => by
    simp only [takeL, takeL_of t 0 k (by simp at h; omega)]
    simp
  | [], _ + 1, k, h => by simp at h
  | _ :: t, off + 1, k, h => by
    simp only [takeL, takeL_of t off k (by simp at h; omega)]
    simp

section
variable {P : Program} {C : Ctx} {n : Nat} {fr : Fr} {own own' own1 : List Own} {G : Gh} {Φ : Act → World → Prop}
variable {dst : Option Nat} {t t' ty' : TypeId} {pos : String} {af : Array Edge} {gd : Option (Nat × Bool)} {x y : Operand} {e s by_ : Nat}

/-- The cells of the first m elements of a slice. -/
def Src (P : Program) (C : Ctx) (own : List Own) (G : Gh) (s m : Nat) (v : Value) (ys : List Value) : Prop :=
  ∀ w, HRel C own G w → (Builtin.firstCells s m v).run P w = .ok ⟨ys⟩ w

theorem run_loadCells {w : World} {b off k : Nat} {cs l : List Value} {ty : TypeId} {fz : Nat × Nat} (h : w.heap[b]? = some (.cells ⟨cs⟩ ty fz)) (hl : takeL cs off k = some l) : (loadCells ⟨b, off, none⟩ k).run P w = .ok ⟨l⟩ w := by
  obtain ⟨h1, h2⟩ := takeL_spec _ _ _ _ hl
  unfold loadCells
  rw [run_loadCellsFrom (l := l) k 0 #[] (fun j hj => by rw [cell_of_block h]; simpa using h2 j hj) (by omega)]
  simp [← h1]
theorem src_own {b off m len cap : Nat} {cs ys : List Value} {ty : TypeId} {lo : Bool} (ho : OAt own b cs ty lo) (hl : takeL cs off (m * s) = some ys) : Src P C own G s m (.slice (some ⟨b, off, none⟩) len cap) ys :=
  fun w h => run_loadCells (h.hown _ ho.mem).1 hl
theorem src_gh {b off m len cap : Nat} {cs ys : List Value} (hg : G b = some cs) (hl : takeL cs off (m * s) = some ys) : Src P C own G s m (.slice (some ⟨b, off, none⟩) len cap) ys :=
  fun w h => by obtain ⟨ty, fz, hb⟩ := h.sub _ _ hg; exact run_loadCells hb hl
theorem src_zero {ad : Option Addr} {len cap : Nat} : Src P C own G s 0 (.slice ad len cap) [] := fun w _ => by
  cases ad with
  | none => rfl
  | some a => unfold Builtin.firstCells loadCells; simp [loadCellsFrom, run_pure]

theorem run_zeroCells (z : Value) (k : Nat) : Builtin.zeroCells ⟨cellsL z⟩ k = ⟨zeros z k⟩ := by
  unfold Builtin.zeroCells
  exact range_zeros rfl

theorem run_append_grow {w w' : World} [hT : TySl P t e s by_] [hN : TyN P t'] {z : Value} [hz : TyZ P e z] {ad : Option Addr} {len cap m cap2 : Nat} {ad2 : Option Addr} {xs ys : List Value}
    (hsx : (Builtin.firstCells s len (.slice ad len cap)).run P w.drew = .ok ⟨xs⟩ w.drew) (hsy : (Builtin.firstCells s m (.slice ad2 m cap2)).run P w.drew = .ok ⟨ys⟩ w.drew)
    (hneed : cap < len + m) (hby : 0 < by_) (hb : (len + m) * by_ ≤ 140737488355328) :
    (Builtin.append_ #[t, t'] ty' #[.slice ad len cap, .slice ad2 m cap2]).run P w =
      .ok (.slice (some ⟨w.heap.size, 0, none⟩) (len + m) (grownCap w (len + m) cap e)) (w.drew.alloc (.cells ⟨xs ++ ys ++ zeros z (grownCap w (len + m) cap e - (len + m))⟩ e)) := by
  obtain ⟨d, hd1⟩ := hN.un
  obtain ⟨i, hi, his, hib⟩ := hT.info
  obtain ⟨i', hi', hiz⟩ := hz.info
  rw [hi] at hi'; cases hi'
  have hfit := growslice_fits (old := cap) (need := len + m) (bytes := by_) hneed hb
  have hlen : len + m ≤ 140737488355328 := Nat.le_trans (Nat.le_mul_of_pos_right _ hby) hb
  have hn : ¬ (len + m ≤ cap) := by omega
  have h63' : ¬ (9223372036854775807 < ((len : Int) + (m : Int))) := by omega
  have h48' : ¬ (281474976710656 < Builtin.nextslicecap (len + m) cap * i.bytes) := by rw [hib]; omega
  subst his
  simp [Builtin.append_, run_underlying hT.un, run_underlying hd1, sizeOf, typeInfo, zeroValue, hi, hiz, Builtin.lenOf, hn, h63', h48', Question.forced, hsx, hsy, newRow, grownCap]
  congr 2
  apply Array.ext'
  rw [cells_eq, run_zeroCells]
  simp [List.append_assoc]

theorem ch_append_grow [hT : TySl P t e s by_] [hN : TyN P t'] {z : Value} [hz : TyZ P e z] {ad : Option Addr} {len cap m cap2 : Nat} {ad2 : Option Addr} {xs ys : List Value}
    (hx : opv fr x = some (.slice ad len cap)) (hy : opv fr y = some (.slice ad2 m cap2)) (hsx : Src P C own G s len (.slice ad len cap) xs) (hsy : Src P C own G s m (.slice ad2 m cap2) ys)
    (hneed : cap < len + m) (hby : 0 < by_) (hb : (len + m) * by_ ≤ 140737488355328) (hd : dstOk n dst = true)
    (h : ∀ b cap', len + m ≤ cap' → St C n (put fr dst (.slice (some ⟨b, 0, none⟩) (len + m) cap')) (⟨b, xs ++ ys ++ zeros z (cap' - (len + m)), e, true⟩ :: own) G Φ) :
    Ch P C n fr own G ⟨dst, .call ⟨.builtin .append, #[x, y], #[t, t']⟩, ty', pos, af, gd⟩ Φ := by
  intro a w Q rl
  have hcap : len + m ≤ grownCap w (len + m) cap e := by unfold grownCap; simp only [Question.cut]; omega
  have hrun := run_append_grow (P := P) (t := t) (t' := t') (ty' := ty') (w := w) (w' := w) (hsx _ rl.h.drew) (hsy _ rl.h.drew) hneed hby hb
  refine ch_value (v := .slice (some ⟨w.heap.size, 0, none⟩) (len + m) (grownCap w (len + m) cap e)) (w' := w.drew.alloc (.cells ⟨xs ++ ys ++ zeros z (grownCap w (len + m) cap e - (len + m))⟩ e)) ?_ ?_
  · simp only [execOp, resolve, List.map_toArray, List.map_cons, List.map_nil, opv_eval rl.fr hx, opv_eval rl.fr hy]
    exact value_of hrun
  · exact h w.heap.size _ hcap _ _ ((rl.heap ((rl.h.drew).alloc _ _)).put _ hd)

theorem ORem.perm {o : Own} (h : ORem own o own1) : own.Perm (o :: own1) := by
  induction h with
  | hd o t => exact List.Perm.refl _
  | tl x t t' o h ih => exact (List.Perm.cons x ih).trans (List.Perm.swap _ _ _)

theorem run_append_room {w : World} [hT : TySl P t e s by_] [hN : TyN P t'] {b len cap m cap2 : Nat} {ad2 : Option Addr} {cs ys : List Value}
    (hb : w.heap[b]? = some (.cells ⟨cs⟩ e (0, 0))) (hcs : cs.length = cap * s) (hsy : (Builtin.firstCells s m (.slice ad2 m cap2)).run P w = .ok ⟨ys⟩ w) (hys : ys.length = m * s) (hf : ∀ v ∈ ys, flat v = true)
    (hneed : len + m ≤ cap) :
    (Builtin.append_ #[t, t'] ty' #[.slice (some ⟨b, 0, none⟩) len cap, .slice ad2 m cap2]).run P w =
      .ok (.slice (some ⟨b, 0, none⟩) (len + m) cap) (setBlk w b (.cells ⟨ovw cs (len * s) ys⟩ e (0, 0))) := by
  obtain ⟨d, hd1⟩ := hN.un
  obtain ⟨i, hi, his, hib⟩ := hT.info
  subst his
  have hl : len * i.size + ys.length ≤ cs.length := by rw [hys, hcs, ← Nat.add_mul]; exact Nat.mul_le_mul_right _ hneed
  have hst := run_storeCells (P := P) ys w (len * i.size) 0 cs hf hb (by omega)
  rw [Nat.add_zero] at hst
  simp [Builtin.append_, run_underlying hT.un, run_underlying hd1, sizeOf, typeInfo, hi, Builtin.lenOf, hneed, hsy, addr_add, hst]

theorem ovw_len : ∀ (vs cs : List Value) (off : Nat), (ovw cs off vs).length = cs.length
  | [], cs, off => rfl
  | v :: vs, cs, off => by simp [ovw, ovw_len vs]
theorem ovw_spec : ∀ (vs cs : List Value) (off : Nat), off + vs.length ≤ cs.length → ovw cs off vs = cs.take off ++ vs ++ cs.drop (off + vs.length)
  | [], cs, off, h => by simp [ovw]
  | v :: vs, cs, off, h => by
    simp only [List.length_cons] at h
    rw [ovw, ovw_spec vs _ _ (by simp; omega)]
    rw [List.take_set, List.drop_set_of_lt (by omega)]
    have h1 : (cs.take (off + 1)).set off v = cs.take off ++ [v] := by
      rw [List.take_succ_eq_append_getElem (by omega), List.set_append_right _ _ (by simp; omega)]
      simp [Nat.min_eq_left (by omega : off ≤ cs.length)]
    rw [h1]
    simp only [List.length_cons, List.append_assoc, List.cons_append, List.nil_append]
    congr 4
    omega

/-- append to a slice of the call's own, whatever room there is -/
theorem ch_append_own [hT : TySl P t e s by_] [hN : TyN P t'] {z : Value} [hz : TyZ P e z] {b len cap m cap2 : Nat} {ad2 : Option Addr} {xs ys rest : List Value}
    (hx : opv fr x = some (.slice (some ⟨b, 0, none⟩) len cap)) (hy : opv fr y = some (.slice ad2 m cap2)) (hr : ORem own ⟨b, xs ++ rest, e, true⟩ own1) (hxs : xs.length = len * s) (hcap : xs.length + rest.length = cap * s) (hlc : len ≤ cap)
    (hsy : Src P C own G s m (.slice ad2 m cap2) ys) (hys : ys.length = m * s) (hf : ∀ v ∈ ys, flat v = true)
    (hby : 0 < by_) (hb : (len + m) * by_ ≤ 140737488355328) (hzs : (cellsL z).length = s) (hd : dstOk n dst = true)
    (h : ∀ b cap' rest', len + m ≤ cap' → rest'.length + (len + m) * s = cap' * s → St C n (put fr dst (.slice (some ⟨b, 0, none⟩) (len + m) cap')) (⟨b, xs ++ ys ++ rest', e, true⟩ :: own1) G Φ) :
    Ch P C n fr own G ⟨dst, .call ⟨.builtin .append, #[x, y], #[t, t']⟩, ty', pos, af, gd⟩ Φ := by
  intro a w Q rl
  have hp := rl.h.perm hr.perm
  have hblk := (hp.hown _ List.mem_cons_self).1
  simp only [] at hblk
  by_cases hneed : len + m ≤ cap
  · have hcs : (xs ++ rest).length = cap * s := by simp; omega
    have hrun := run_append_room (P := P) (t := t) (t' := t') (ty' := ty') (w := w) (len := len) hblk hcs (hsy w rl.h) hys hf hneed
    have hle : len * s + m * s ≤ cap * s := by rw [← Nat.add_mul]; exact Nat.mul_le_mul_right _ hneed
    have hov : ovw (xs ++ rest) (len * s) ys = xs ++ ys ++ rest.drop (m * s) := by
      rw [ovw_spec _ _ _ (by rw [hys]; omega), ← hxs]
      simp [hys, List.drop_append]
    refine ch_value (v := .slice (some ⟨b, 0, none⟩) (len + m) cap) (w' := setBlk w b (.cells ⟨ovw (xs ++ rest) (len * s) ys⟩ e (0, 0))) ?_ ?_
    · simp only [execOp, resolve, List.map_toArray, List.map_cons, List.map_nil, opv_eval rl.fr hx, opv_eval rl.fr hy]
      exact value_of hrun
    · rw [hov]
      refine h b cap (rest.drop (m * s)) hneed ?_ _ _ ((rl.heap (hp.store (.hd ..))).put _ hd)
      rw [List.length_drop, Nat.add_mul]
      omega
  · have hx' : Src P C own G s len (.slice (some ⟨b, 0, none⟩) len cap) xs := fun w' hw' => by
      have hb' := (((hw'.perm hr.perm).hown _ List.mem_cons_self).1)
      refine run_loadCells hb' ?_
      rw [takeL_of _ _ _ (by simp; omega), ← hxs]
      simp
    have hcap' : len + m ≤ grownCap w (len + m) cap e := by unfold grownCap; simp only [Question.cut]; omega
    have hrun := run_append_grow (P := P) (t := t) (t' := t') (ty' := ty') (w := w) (w' := w) (hx' _ rl.h.drew) (hsy _ rl.h.drew) (by omega) hby hb
    refine ch_value (v := .slice (some ⟨w.heap.size, 0, none⟩) (len + m) (grownCap w (len + m) cap e)) (w' := w.drew.alloc (.cells ⟨xs ++ ys ++ zeros z (grownCap w (len + m) cap e - (len + m))⟩ e)) ?_ ?_
    · simp only [execOp, resolve, List.map_toArray, List.map_cons, List.map_nil, opv_eval rl.fr hx, opv_eval rl.fr hy]
      exact value_of hrun
    · refine h w.heap.size _ _ hcap' ?_ _ _ ((rl.heap (((hp.drew).drop (List.sublist_cons_self _ _)).alloc _ _)).put _ hd)
      rw [zeros_len, hzs, ← Nat.add_mul]
      congr 1
      omega
end

section
variable {P : Program} {ops : Array Oper} {Q : Exit → Act → World → Prop} {S : World → Prop} {fin : Nat → Bool}

/-! ### a drawn region in one order: 'true' for what is taken first, 'false' for what comes up alone -/
def orderOk (ops : Array Oper) (fin : Nat → Bool) : List (Nat × Bool) → Array Bool → Bool
  | [], listed => (Region.ready .any ops listed).isEmpty
  | (i, true) :: r, listed => takeOk ops fin listed i && orderOk ops fin r (listed.setIfInBounds i true)
  | (i, false) :: r, listed => (Region.ready .any ops listed == [i]) && orderOk ops fin r (listed.setIfInBounds i true)
def dwL (P : Program) (ops : Array Oper) (Q : Exit → Act → World → Prop) (S : World → Prop) (fin : Nat → Bool) : List (Nat × Bool) → Act → World → Prop
  | [], a, w => Q .normal a w
  | (i, true) :: r, a, w => ∃ o v, ops[i]? = some o ∧ S w ∧ YieldsIf P ops S o v a ∧ dwL P ops Q S fin r (a.put o.dst v) w
  | (i, false) :: r, a, w => wpOp P ops Q i (fun a' w' => (fin i = true ∨ S w') ∧ dwL P ops Q S fin r a' w') a w

theorem wpAnyZ_of_order (hQ : ∀ c a d v w, Q (.panic c) (Act.put a d v) w → Q (.panic c) a w) : ∀ (π : List (Nat × Bool)) (listed : Array Bool) (a : Act) (w : World), orderOk ops fin π listed = true → dwL P ops Q S fin π a w → ∀ fuel, π.length ≤ fuel → wpAnyZ P ops Q S fin fuel listed a w
  | [], listed, a, w, ho, h, fuel, hf => by
    have hr : Region.ready .any ops listed = [] := by simpa [orderOk] using ho
    cases fuel with
    | zero => exact ⟨hr, h⟩
    | succ k => exact ⟨fun _ => h, by rw [hr]; simp⟩
  | (i, true) :: r, listed, a, w, ho, h, 0, hf => by simp at hf
  | (i, false) :: r, listed, a, w, ho, h, 0, hf => by simp at hf
  | (i, true) :: r, listed, a, w, ho, h, fuel + 1, hf => by
    obtain ⟨o, v, hoi, hS, hy, hk⟩ := h
    simp only [orderOk, takeOk, Bool.and_eq_true] at ho
    obtain ⟨⟨⟨⟨h1, h2⟩, h3⟩, h4⟩, h5⟩ := ho
    obtain ⟨h6, h7⟩ := finOk_spec h4
    exact wpAnyZ_first hoi (Region.noSelect_spec h1) (fun c a w => hQ c a _ _ w) h6 h7 fuel listed a w (Region.free_spec hoi h2) (by simpa using h3) hy hS
      (wpAnyZ_of_order hQ r _ _ _ h5 hk fuel (by simpa using hf))
  | (i, false) :: r, listed, a, w, ho, h, fuel + 1, hf => by
    simp only [orderOk, Bool.and_eq_true, beq_iff_eq] at ho
    exact wpAnyZ_all ho.1 (wpOp_mono (fun a' w' h' => ⟨h'.1, wpAnyZ_of_order hQ r _ _ _ ho.2 h'.2 fuel (by simpa using hf)⟩) h)
end

section
variable {P : Program} {C : Ctx} {n : Nat} {fr : Fr} {own own0 : List Own} {G G0 : Gh} {ops : Array Oper} {Q : Exit → Act → World → Prop} {fin : Nat → Bool} {π : List (Nat × Bool)}

/-- The start of a drawn region. -/
theorem dr (fin : Nat → Bool) (π : List (Nat × Bool)) {id : Nat} (hm : P.follows .mixedOrders = true) (ho : (orderOk ops fin π (Array.replicate ops.size false) && Nat.ble π.length ops.size) = true)
    (h : St C n fr own G (dwL P ops (NoPan Q) (HS C own G) fin π)) : St C n fr own G ((Code.region id ops true).wp P Q) := by
  simp only [Bool.and_eq_true] at ho
  refine dr_region fin hm fun a w rl => wpAnyZ_of_order (fun _ _ _ _ _ h => h) π _ a w ho.1 (h a w rl) _ (by simpa using ho.2)

/-- taken first -/
theorem dy {i : Nat} {o : Oper} {v : Value} (ho : ops[i]? = some o) (hy : ∀ G' : Gh, [GE G0 G'] → Yd P C fr own0 G' o v) (hg : o.guard = none) (hd : dstOk n o.dst = true) [hs : SubL own0 own] [hl : GL G0 G]
    (h : St C n (put fr o.dst v) own G (dwL P ops (NoPan Q) (HS C own0 G0) fin π)) : St C n fr own G (dwL P ops (NoPan Q) (HS C own0 G0) fin ((i, true) :: π)) :=
  fun a w rl => ⟨o, v, ho, ⟨G, hl.le, rl.h.drop hs.s⟩, .inl ⟨by simp [Region.wanted, hg], fun w' ⟨G', hle, hr⟩ => @hy G' ⟨hle⟩ a w' rl.fr hr⟩, h _ _ (rl.put v hd)⟩
theorem dyg {i : Nat} {o : Oper} {v : Value} (ho : ops[i]? = some o) {j d : Nat} {b : Bool} (hg : o.guard = some (j, b)) (hj : (ops[j]?).bind (·.dst) = some d) (hlk : look fr d = some (.bool b)) (hy : ∀ G' : Gh, [GE G0 G'] → Yd P C fr own0 G' o v) (hd : dstOk n o.dst = true) [hs : SubL own0 own] [hl : GL G0 G]
    (h : St C n (put fr o.dst v) own G (dwL P ops (NoPan Q) (HS C own0 G0) fin π)) : St C n fr own G (dwL P ops (NoPan Q) (HS C own0 G0) fin ((i, true) :: π)) :=
  fun a w rl => ⟨o, v, ho, ⟨G, hl.le, rl.h.drop hs.s⟩, .inl ⟨by simp [Region.wanted, hg, yielded_of rl.fr hj hlk], fun w' ⟨G', hle, hr⟩ => @hy G' ⟨hle⟩ a w' rl.fr hr⟩, h _ _ (rl.put v hd)⟩
theorem dys {i : Nat} {o : Oper} (ho : ops[i]? = some o) {j d : Nat} {b c : Bool} (hg : o.guard = some (j, b)) (hj : (ops[j]?).bind (·.dst) = some d) (hlk : look fr d = some (.bool c)) (hbc : (c == b) = false) (hd : dstOk n o.dst = true) [hs : SubL own0 own] [hl : GL G0 G]
    (h : St C n (put fr o.dst undef) own G (dwL P ops (NoPan Q) (HS C own0 G0) fin π)) : St C n fr own G (dwL P ops (NoPan Q) (HS C own0 G0) fin ((i, true) :: π)) :=
  fun a w rl => ⟨o, undef, ho, ⟨G, hl.le, rl.h.drop hs.s⟩, .inr ⟨by simp [Region.wanted, hg, yielded_of rl.fr hj hlk, hbc], rfl⟩, h _ _ (rl.put undef hd)⟩
/-- comes up alone -/
theorem dc {i : Nat} {o : Oper} (ho : ops[i]? = some o) (hg : o.guard = none) (hc : Ch P C n fr own G o (fun a w => (fin i = true ∨ HS C own0 G0 w) ∧ dwL P ops (NoPan Q) (HS C own0 G0) fin π a w)) : St C n fr own G (dwL P ops (NoPan Q) (HS C own0 G0) fin ((i, false) :: π)) := by
  intro a w rl
  show wpOp P ops (NoPan Q) i _ a w
  unfold wpOp
  simp only [ho, Region.wanted, hg, if_true]
  exact .inl (hc a w _ rl)
theorem dcg {i : Nat} {o : Oper} (ho : ops[i]? = some o) {j d : Nat} {b : Bool} (hg : o.guard = some (j, b)) (hj : (ops[j]?).bind (·.dst) = some d) (hlk : look fr d = some (.bool b)) (hc : Ch P C n fr own G o (fun a w => (fin i = true ∨ HS C own0 G0 w) ∧ dwL P ops (NoPan Q) (HS C own0 G0) fin π a w)) : St C n fr own G (dwL P ops (NoPan Q) (HS C own0 G0) fin ((i, false) :: π)) := by
  intro a w rl
  show wpOp P ops (NoPan Q) i _ a w
  unfold wpOp
  have : Region.wanted o (yielded ops a.tmps) = true := by simp [Region.wanted, hg, yielded_of rl.fr hj hlk]
  simp only [ho, this, if_true]
  exact .inl (hc a w _ rl)
theorem dcs {i : Nat} {o : Oper} (ho : ops[i]? = some o) {j d : Nat} {b c : Bool} (hg : o.guard = some (j, b)) (hj : (ops[j]?).bind (·.dst) = some d) (hlk : look fr d = some (.bool c)) (hbc : (c == b) = false) (hd : dstOk n o.dst = true)
    (h : St C n (put fr o.dst undef) own G (fun a w => (fin i = true ∨ HS C own0 G0 w) ∧ dwL P ops (NoPan Q) (HS C own0 G0) fin π a w)) : St C n fr own G (dwL P ops (NoPan Q) (HS C own0 G0) fin ((i, false) :: π)) := by
  intro a w rl
  show wpOp P ops (NoPan Q) i _ a w
  unfold wpOp
  have : Region.wanted o (yielded ops a.tmps) = false := by simp [Region.wanted, hg, yielded_of rl.fr hj hlk, hbc]
  simp only [ho, this]
  exact h _ _ (rl.put undef hd)
theorem dn (h : St C n fr own G (Q .normal)) : St C n fr own G (dwL P ops (NoPan Q) (HS C own0 G0) fin []) := h

theorem ghi {A G : Gh} {b : Nat} {cs : List Value} [h : GHas A b cs] [k : GL A G] : G b = some cs := k.le _ _ h.h

/-! ### text order, in short -/
variable {dst : Option Nat} {t t' ty' : TypeId} {pos : String} {af : Array Edge} {x y : Operand} {r : List Oper}
theorem sm {v : Value} (hx : opv fr x = some v) (hd : dstOk n dst = true) (h : St C n (put fr dst v) own G (wpL P ops Q r)) : St C n fr own G (wpL P ops Q (⟨dst, .move x, ty', pos, af, none⟩ :: r)) := st_y (yd_move hx) rfl hd h
theorem sa {v : Value} (hx : opv fr x = some v) (hd : dstOk n dst = true) (h : St C n (put fr dst v) own G (wpL P ops Q r)) : St C n fr own G (wpL P ops Q (⟨dst, .assign x, ty', pos, af, none⟩ :: r)) := st_y (yd_assign hx) rfl hd h
theorem sn {ad : Addr} (hx : opv fr x = some (.pointer (some ad))) (hd : dstOk n dst = true) (h : St C n (put fr dst (.pointer (some ad))) own G (wpL P ops Q r)) : St C n fr own G (wpL P ops Q (⟨dst, .nilCheck x, ty', pos, af, none⟩ :: r)) := st_y (yd_nilCheck hx) rfl hd h
theorem sf {b o f off : Nat} [hF : TyF P t f off] (hx : opv fr x = some (.pointer (some ⟨b, o, none⟩))) (hd : dstOk n dst = true) (h : St C n (put fr dst (.pointer (some ⟨b, o + off, none⟩))) own G (wpL P ops Q r)) : St C n fr own G (wpL P ops Q (⟨dst, .fieldAddr t x f, ty', pos, af, none⟩ :: r)) := st_y (yd_fieldAddr hx) rfl hd h
theorem slo {b off k : Nat} {cs l : List Value} {lo : Bool} {ty : TypeId} (hx : opv fr x = some (.pointer (some ⟨b, off, none⟩))) [ho : OAt own b cs ty lo] [TyA P t k] (hl : takeL cs off k = some l) (hd : dstOk n dst = true)
    (h : St C n (put fr dst (.agg ⟨l⟩)) own G (wpL P ops Q r)) : St C n fr own G (wpL P ops Q (⟨dst, .load t x, ty', pos, af, none⟩ :: r)) := st_y (yd_load_own hx hl) rfl hd h
theorem slo1 {b off : Nat} {cs : List Value} {v : Value} {lo : Bool} {ty : TypeId} (hx : opv fr x = some (.pointer (some ⟨b, off, none⟩))) [ho : OAt own b cs ty lo] [TyS P t] (hl : cs[off]? = some v) (hd : dstOk n dst = true)
    (h : St C n (put fr dst v) own G (wpL P ops Q r)) : St C n fr own G (wpL P ops Q (⟨dst, .load t x, ty', pos, af, none⟩ :: r)) := st_y (yd_load_own1 hx hl) rfl hd h
theorem slg {A : Gh} {b off k : Nat} {cs l : List Value} (hx : opv fr x = some (.pointer (some ⟨b, off, none⟩))) [hg : GHas A b cs] [hk : GL A G] [TyA P t k] (hl : takeL cs off k = some l) (hd : dstOk n dst = true)
    (h : St C n (put fr dst (.agg ⟨l⟩)) own G (wpL P ops Q r)) : St C n fr own G (wpL P ops Q (⟨dst, .load t x, ty', pos, af, none⟩ :: r)) := st_y (yd_load_gh hx (hk.le _ _ hg.h) hl) rfl hd h
theorem slg1 {A : Gh} {b off : Nat} {cs : List Value} {v : Value} (hx : opv fr x = some (.pointer (some ⟨b, off, none⟩))) [hg : GHas A b cs] [hk : GL A G] [TyS P t] (hl : cs[off]? = some v) (hd : dstOk n dst = true)
    (h : St C n (put fr dst v) own G (wpL P ops Q r)) : St C n fr own G (wpL P ops Q (⟨dst, .load t x, ty', pos, af, none⟩ :: r)) := st_y (yd_load_gh1 hx (hk.le _ _ hg.h) hl) rfl hd h
theorem slen {e s by_ : Nat} {ad : Option Addr} {len cap : Nat} [hT : TySl P t e s by_] (hx : opv fr x = some (.slice ad len cap)) (hd : dstOk n dst = true)
    (h : St C n (put fr dst (.int .i64 len)) own G (wpL P ops Q r)) : St C n fr own G (wpL P ops Q (⟨dst, .call ⟨.builtin .len, #[x], #[t]⟩, ty', pos, af, none⟩ :: r)) := st_y (yd_len hx) rfl hd h
theorem sx {vs : Array Value} {i : Nat} {v : Value} (hx : opv fr x = some (.tuple vs)) (hv : vs[i]? = some v) (hd : dstOk n dst = true) (h : St C n (put fr dst v) own G (wpL P ops Q r)) : St C n fr own G (wpL P ops Q (⟨dst, .extract x i, ty', pos, af, none⟩ :: r)) := st_y (yd_extract hx hv) rfl hd h
theorem st_te {C : Ctx} {n : Nat} {fr : Fr} {own : List Own} {G : Gh} {K : Act → World → Prop} {Q : Exit → Act → World → Prop} {id : Nat} (h : St C n fr own G (Q (.exit id))) : St C n fr own G (Exit.then K Q (.exit id)) := h
/-- guarded, the guard says yes; the guard says no -/
theorem syg {op : Op} {v : Value} {j d : Nat} {b : Bool} (hj : (ops[j]?).bind (·.dst) = some d) (hl : look fr d = some (.bool b)) (hy : Yd P C fr own G ⟨dst, op, ty', pos, af, some (j, b)⟩ v) (hd : dstOk n dst = true) (h : St C n (put fr dst v) own G (wpL P ops Q r)) : St C n fr own G (wpL P ops Q (⟨dst, op, ty', pos, af, some (j, b)⟩ :: r)) := st_yg rfl hj hl hy hd h
theorem ss {op : Op} {j d : Nat} {b c : Bool} (hj : (ops[j]?).bind (·.dst) = some d) (hl : look fr d = some (.bool c)) (hbc : (c == b) = false) (hd : dstOk n dst = true) (h : St C n (put fr dst undef) own G (wpL P ops Q r)) : St C n fr own G (wpL P ops Q (⟨dst, op, ty', pos, af, some (j, b)⟩ :: r)) := st_skip rfl hj hl hbc hd h
/-- any other that yields -/
theorem sy {op : Op} {v : Value} (hy : Yd P C fr own G ⟨dst, op, ty', pos, af, none⟩ v) (hd : dstOk n dst = true) (h : St C n (put fr dst v) own G (wpL P ops Q r)) : St C n fr own G (wpL P ops Q (⟨dst, op, ty', pos, af, none⟩ :: r)) := st_y hy rfl hd h
/-- an operation that changes the world -/
theorem sc {op : Op} (hc : Ch P C n fr own G ⟨dst, op, ty', pos, af, none⟩ (wpL P ops Q r)) : St C n fr own G (wpL P ops Q (⟨dst, op, ty', pos, af, none⟩ :: r)) := st_ch rfl hc
end


/-- A contract that leaves the world alone. -/
theorem Fn.of_calls {P : Program} {f : FuncId} {vs : List Value} {G : Gh} {v : Value} (ha : Callable P f) (h : ∀ w, Calls P f ⟨vs⟩ w fun e w' => e = .returned v ∧ w' = w) : Fn P f vs G (fun u _ => u = v) :=
  ⟨ha, fun w hw => (h w).mono fun e w' ⟨he, hww⟩ => ⟨v, G, he, by
    subst hww
    exact ⟨rfl, rfl, rfl, Nat.le_refl _, fun _ _ _ => rfl, hw, GLe.refl _, fun _ _ => rfl, fun o ho => (by cases ho), .nil⟩, rfl⟩⟩
end Go.Sx
end

section
set_option maxRecDepth 100000
namespace Go.Sx
open Go
instance : TyS Go.Proofs.Tryz.prog 2 := ⟨fun _ => by kernel_rfl, fun _ => by kernel_rfl⟩
instance : TyZ Go.Proofs.Tryz.prog 2 (.int .i64 0) := ⟨by kernel_rfl⟩
instance : TyI Go.Proofs.Tryz.prog 2 .i64 := ⟨fun _ => by kernel_rfl⟩
instance : TyS Go.Proofs.Tryz.prog 3 := ⟨fun _ => by kernel_rfl, fun _ => by kernel_rfl⟩
instance : TyZ Go.Proofs.Tryz.prog 3 (.int .i64 0) := ⟨by kernel_rfl⟩
instance : TyI Go.Proofs.Tryz.prog 3 .i64 := ⟨fun _ => by kernel_rfl⟩
instance : TyS Go.Proofs.Tryz.prog 4 := ⟨fun _ => by kernel_rfl, fun _ => by kernel_rfl⟩
instance : TyZ Go.Proofs.Tryz.prog 4 (.bool false) := ⟨by kernel_rfl⟩
instance : TyB Go.Proofs.Tryz.prog 4 := ⟨fun _ => by kernel_rfl⟩
instance : TyS Go.Proofs.Tryz.prog 5 := ⟨fun _ => by kernel_rfl, fun _ => by kernel_rfl⟩
instance : TyZ Go.Proofs.Tryz.prog 5 (.int .u8 0) := ⟨by kernel_rfl⟩
instance : TyI Go.Proofs.Tryz.prog 5 .u8 := ⟨fun _ => by kernel_rfl⟩
instance : TyS Go.Proofs.Tryz.prog 9 := ⟨fun _ => by kernel_rfl, fun _ => by kernel_rfl⟩
instance : TyZ Go.Proofs.Tryz.prog 9 (.string ⟨#[]⟩) := ⟨by kernel_rfl⟩
instance : TyS Go.Proofs.Tryz.prog 20 := ⟨fun _ => by kernel_rfl, fun _ => by kernel_rfl⟩
instance : TyZ Go.Proofs.Tryz.prog 20 (.nilIface) := ⟨by kernel_rfl⟩
instance : TyIf Go.Proofs.Tryz.prog 20 := ⟨_, fun _ => tyst_u Go.Proofs.Tryz.underlying20 _⟩
instance : TyS Go.Proofs.Tryz.prog 22 := ⟨fun _ => by kernel_rfl, fun _ => by kernel_rfl⟩
instance : TyZ Go.Proofs.Tryz.prog 22 (.slice none 0 0) := ⟨by kernel_rfl⟩
instance : TySl Go.Proofs.Tryz.prog 22 3 1 8 := ⟨by kernel_rfl, by kernel_rfl⟩
instance : TyN Go.Proofs.Tryz.prog 22 := ⟨3, by kernel_rfl⟩
instance : TyS Go.Proofs.Tryz.prog 23 := ⟨fun _ => by kernel_rfl, fun _ => by kernel_rfl⟩
instance : TyZ Go.Proofs.Tryz.prog 23 (.pointer none) := ⟨by kernel_rfl⟩
instance : TyP Go.Proofs.Tryz.prog 23 := ⟨93, fun _ => by kernel_rfl⟩
instance : TyS Go.Proofs.Tryz.prog 25 := ⟨fun _ => by kernel_rfl, fun _ => by kernel_rfl⟩
instance : TyZ Go.Proofs.Tryz.prog 25 (.pointer none) := ⟨by kernel_rfl⟩
instance : TyP Go.Proofs.Tryz.prog 25 := ⟨97, fun _ => by kernel_rfl⟩
instance : TyS Go.Proofs.Tryz.prog 27 := ⟨fun _ => by kernel_rfl, fun _ => by kernel_rfl⟩
instance : TyZ Go.Proofs.Tryz.prog 27 (.slice none 0 0) := ⟨by kernel_rfl⟩
instance : TySl Go.Proofs.Tryz.prog 27 224 1 4 := ⟨by kernel_rfl, by kernel_rfl⟩
instance : TyN Go.Proofs.Tryz.prog 27 := ⟨224, by kernel_rfl⟩
instance : TyS Go.Proofs.Tryz.prog 28 := ⟨fun _ => by kernel_rfl, fun _ => by kernel_rfl⟩
instance : TyZ Go.Proofs.Tryz.prog 28 (.slice none 0 0) := ⟨by kernel_rfl⟩
instance : TySl Go.Proofs.Tryz.prog 28 224 1 4 := ⟨by kernel_rfl, by kernel_rfl⟩
instance : TyN Go.Proofs.Tryz.prog 28 := ⟨224, by kernel_rfl⟩
instance : TyA Go.Proofs.Tryz.prog 30 2 := ⟨fun _ => by kernel_rfl, fun _ => by kernel_rfl⟩
instance : TyZ Go.Proofs.Tryz.prog 30 (.agg ⟨[.bool false, .slice none 0 0]⟩) := ⟨by kernel_rfl⟩
instance : TyF Go.Proofs.Tryz.prog 30 0 0 := ⟨fun _ _ _ => by kernel_rfl⟩
instance : TyFd Go.Proofs.Tryz.prog 30 0 0 4 := ⟨_, _, fun _ => tyst_u Go.Proofs.Tryz.underlying30 _, rfl, rfl, rfl⟩
instance : TyF Go.Proofs.Tryz.prog 30 1 1 := ⟨fun _ _ _ => by kernel_rfl⟩
instance : TyFd Go.Proofs.Tryz.prog 30 1 1 28 := ⟨_, _, fun _ => tyst_u Go.Proofs.Tryz.underlying30 _, rfl, rfl, rfl⟩
instance : TySt Go.Proofs.Tryz.prog 30 [(0, 1), (1, 1)] := ⟨_, fun _ => tyst_u Go.Proofs.Tryz.underlying30 _, fun _ => by kernel_rfl⟩
instance : TyA Go.Proofs.Tryz.prog 32 6 := ⟨fun _ => by kernel_rfl, fun _ => by kernel_rfl⟩
instance : TyZ Go.Proofs.Tryz.prog 32 (.agg ⟨[.bool false, .slice none 0 0, .bool false, .slice none 0 0, .bool false, .slice none 0 0]⟩) := ⟨by kernel_rfl⟩
instance : TyF Go.Proofs.Tryz.prog 32 0 0 := ⟨fun _ _ _ => by kernel_rfl⟩
instance : TyFd Go.Proofs.Tryz.prog 32 0 0 30 := ⟨_, _, fun _ => tyst_u Go.Proofs.Tryz.underlying32 _, rfl, rfl, rfl⟩
instance : TyF Go.Proofs.Tryz.prog 32 1 2 := ⟨fun _ _ _ => by kernel_rfl⟩
instance : TyFd Go.Proofs.Tryz.prog 32 1 2 30 := ⟨_, _, fun _ => tyst_u Go.Proofs.Tryz.underlying32 _, rfl, rfl, rfl⟩
instance : TyF Go.Proofs.Tryz.prog 32 2 4 := ⟨fun _ _ _ => by kernel_rfl⟩
instance : TyFd Go.Proofs.Tryz.prog 32 2 4 30 := ⟨_, _, fun _ => tyst_u Go.Proofs.Tryz.underlying32 _, rfl, rfl, rfl⟩
instance : TySt Go.Proofs.Tryz.prog 32 [(0, 2), (2, 2), (4, 2)] := ⟨_, fun _ => tyst_u Go.Proofs.Tryz.underlying32 _, fun _ => by kernel_rfl⟩
instance : TyS Go.Proofs.Tryz.prog 34 := ⟨fun _ => by kernel_rfl, fun _ => by kernel_rfl⟩
instance : TyZ Go.Proofs.Tryz.prog 34 (.slice none 0 0) := ⟨by kernel_rfl⟩
instance : TySl Go.Proofs.Tryz.prog 34 60 8 112 := ⟨by kernel_rfl, by kernel_rfl⟩
instance : TyN Go.Proofs.Tryz.prog 34 := ⟨60, by kernel_rfl⟩
instance : TyA Go.Proofs.Tryz.prog 36 2 := ⟨fun _ => by kernel_rfl, fun _ => by kernel_rfl⟩
instance : TyZ Go.Proofs.Tryz.prog 36 (.agg ⟨[.int .i64 0, .slice none 0 0]⟩) := ⟨by kernel_rfl⟩
instance : TyF Go.Proofs.Tryz.prog 36 0 0 := ⟨fun _ _ _ => by kernel_rfl⟩
instance : TyFd Go.Proofs.Tryz.prog 36 0 0 3 := ⟨_, _, fun _ => tyst_u Go.Proofs.Tryz.underlying36 _, rfl, rfl, rfl⟩
instance : TyF Go.Proofs.Tryz.prog 36 1 1 := ⟨fun _ _ _ => by kernel_rfl⟩
instance : TyFd Go.Proofs.Tryz.prog 36 1 1 34 := ⟨_, _, fun _ => tyst_u Go.Proofs.Tryz.underlying36 _, rfl, rfl, rfl⟩
instance : TySt Go.Proofs.Tryz.prog 36 [(0, 1), (1, 1)] := ⟨_, fun _ => tyst_u Go.Proofs.Tryz.underlying36 _, fun _ => by kernel_rfl⟩
instance : TyS Go.Proofs.Tryz.prog 38 := ⟨fun _ => by kernel_rfl, fun _ => by kernel_rfl⟩
instance : TyZ Go.Proofs.Tryz.prog 38 (.nilIface) := ⟨by kernel_rfl⟩
instance : TyIf Go.Proofs.Tryz.prog 38 := ⟨_, fun _ => tyst_u Go.Proofs.Tryz.underlying38 _⟩
instance : TyS Go.Proofs.Tryz.prog 42 := ⟨fun _ => by kernel_rfl, fun _ => by kernel_rfl⟩
instance : TyZ Go.Proofs.Tryz.prog 42 (.slice none 0 0) := ⟨by kernel_rfl⟩
instance : TySl Go.Proofs.Tryz.prog 42 224 1 4 := ⟨by kernel_rfl, by kernel_rfl⟩
instance : TyN Go.Proofs.Tryz.prog 42 := ⟨224, by kernel_rfl⟩
instance : TyA Go.Proofs.Tryz.prog 44 2 := ⟨fun _ => by kernel_rfl, fun _ => by kernel_rfl⟩
instance : TyZ Go.Proofs.Tryz.prog 44 (.agg ⟨[.bool false, .slice none 0 0]⟩) := ⟨by kernel_rfl⟩
instance : TyF Go.Proofs.Tryz.prog 44 0 0 := ⟨fun _ _ _ => by kernel_rfl⟩
instance : TyFd Go.Proofs.Tryz.prog 44 0 0 4 := ⟨_, _, fun _ => tyst_u Go.Proofs.Tryz.underlying44 _, rfl, rfl, rfl⟩
instance : TyF Go.Proofs.Tryz.prog 44 1 1 := ⟨fun _ _ _ => by kernel_rfl⟩
instance : TyFd Go.Proofs.Tryz.prog 44 1 1 42 := ⟨_, _, fun _ => tyst_u Go.Proofs.Tryz.underlying44 _, rfl, rfl, rfl⟩
instance : TySt Go.Proofs.Tryz.prog 44 [(0, 1), (1, 1)] := ⟨_, fun _ => tyst_u Go.Proofs.Tryz.underlying44 _, fun _ => by kernel_rfl⟩
instance : TyA Go.Proofs.Tryz.prog 46 6 := ⟨fun _ => by kernel_rfl, fun _ => by kernel_rfl⟩
instance : TyZ Go.Proofs.Tryz.prog 46 (.agg ⟨[.bool false, .slice none 0 0, .bool false, .slice none 0 0, .bool false, .slice none 0 0]⟩) := ⟨by kernel_rfl⟩
instance : TyF Go.Proofs.Tryz.prog 46 0 0 := ⟨fun _ _ _ => by kernel_rfl⟩
instance : TyFd Go.Proofs.Tryz.prog 46 0 0 44 := ⟨_, _, fun _ => tyst_u Go.Proofs.Tryz.underlying46 _, rfl, rfl, rfl⟩
instance : TyF Go.Proofs.Tryz.prog 46 1 2 := ⟨fun _ _ _ => by kernel_rfl⟩
instance : TyFd Go.Proofs.Tryz.prog 46 1 2 44 := ⟨_, _, fun _ => tyst_u Go.Proofs.Tryz.underlying46 _, rfl, rfl, rfl⟩
instance : TyF Go.Proofs.Tryz.prog 46 2 4 := ⟨fun _ _ _ => by kernel_rfl⟩
instance : TyFd Go.Proofs.Tryz.prog 46 2 4 44 := ⟨_, _, fun _ => tyst_u Go.Proofs.Tryz.underlying46 _, rfl, rfl, rfl⟩
instance : TySt Go.Proofs.Tryz.prog 46 [(0, 2), (2, 2), (4, 2)] := ⟨_, fun _ => tyst_u Go.Proofs.Tryz.underlying46 _, fun _ => by kernel_rfl⟩
instance : TyS Go.Proofs.Tryz.prog 51 := ⟨fun _ => by kernel_rfl, fun _ => by kernel_rfl⟩
instance : TyZ Go.Proofs.Tryz.prog 51 (.slice none 0 0) := ⟨by kernel_rfl⟩
instance : TySl Go.Proofs.Tryz.prog 51 32 6 96 := ⟨by kernel_rfl, by kernel_rfl⟩
instance : TyN Go.Proofs.Tryz.prog 51 := ⟨32, by kernel_rfl⟩
instance : TyS Go.Proofs.Tryz.prog 56 := ⟨fun _ => by kernel_rfl, fun _ => by kernel_rfl⟩
instance : TyZ Go.Proofs.Tryz.prog 56 (.slice none 0 0) := ⟨by kernel_rfl⟩
instance : TySl Go.Proofs.Tryz.prog 56 65 1 24 := ⟨by kernel_rfl, by kernel_rfl⟩
instance : TyN Go.Proofs.Tryz.prog 56 := ⟨65, by kernel_rfl⟩
instance : TyA Go.Proofs.Tryz.prog 60 8 := ⟨fun _ => by kernel_rfl, fun _ => by kernel_rfl⟩
instance : TyZ Go.Proofs.Tryz.prog 60 (.agg ⟨[.bool false, .slice none 0 0, .bool false, .slice none 0 0, .bool false, .slice none 0 0, .int .i64 0, .int .i64 0]⟩) := ⟨by kernel_rfl⟩
instance : TyF Go.Proofs.Tryz.prog 60 0 0 := ⟨fun _ _ _ => by kernel_rfl⟩
instance : TyFd Go.Proofs.Tryz.prog 60 0 0 46 := ⟨_, _, fun _ => tyst_u Go.Proofs.Tryz.underlying60 _, rfl, rfl, rfl⟩
instance : TyF Go.Proofs.Tryz.prog 60 1 6 := ⟨fun _ _ _ => by kernel_rfl⟩
instance : TyFd Go.Proofs.Tryz.prog 60 1 6 3 := ⟨_, _, fun _ => tyst_u Go.Proofs.Tryz.underlying60 _, rfl, rfl, rfl⟩
instance : TyF Go.Proofs.Tryz.prog 60 2 7 := ⟨fun _ _ _ => by kernel_rfl⟩
instance : TyFd Go.Proofs.Tryz.prog 60 2 7 3 := ⟨_, _, fun _ => tyst_u Go.Proofs.Tryz.underlying60 _, rfl, rfl, rfl⟩
instance : TySt Go.Proofs.Tryz.prog 60 [(0, 6), (6, 1), (7, 1)] := ⟨_, fun _ => tyst_u Go.Proofs.Tryz.underlying60 _, fun _ => by kernel_rfl⟩
instance : TyS Go.Proofs.Tryz.prog 63 := ⟨fun _ => by kernel_rfl, fun _ => by kernel_rfl⟩
instance : TyZ Go.Proofs.Tryz.prog 63 (.slice none 0 0) := ⟨by kernel_rfl⟩
instance : TySl Go.Proofs.Tryz.prog 63 46 6 96 := ⟨by kernel_rfl, by kernel_rfl⟩
instance : TyN Go.Proofs.Tryz.prog 63 := ⟨46, by kernel_rfl⟩
instance : TyA Go.Proofs.Tryz.prog 65 1 := ⟨fun _ => by kernel_rfl, fun _ => by kernel_rfl⟩
instance : TyZ Go.Proofs.Tryz.prog 65 (.agg ⟨[.slice none 0 0]⟩) := ⟨by kernel_rfl⟩
instance : TyF Go.Proofs.Tryz.prog 65 0 0 := ⟨fun _ _ _ => by kernel_rfl⟩
instance : TyFd Go.Proofs.Tryz.prog 65 0 0 63 := ⟨_, _, fun _ => tyst_u Go.Proofs.Tryz.underlying65 _, rfl, rfl, rfl⟩
instance : TySt Go.Proofs.Tryz.prog 65 [(0, 1)] := ⟨_, fun _ => tyst_u Go.Proofs.Tryz.underlying65 _, fun _ => by kernel_rfl⟩
instance : TyS Go.Proofs.Tryz.prog 84 := ⟨fun _ => by kernel_rfl, fun _ => by kernel_rfl⟩
instance : TyZ Go.Proofs.Tryz.prog 84 (.slice none 0 0) := ⟨by kernel_rfl⟩
instance : TySl Go.Proofs.Tryz.prog 84 36 2 32 := ⟨by kernel_rfl, by kernel_rfl⟩
instance : TyN Go.Proofs.Tryz.prog 84 := ⟨36, by kernel_rfl⟩
instance : TyA Go.Proofs.Tryz.prog 87 3 := ⟨fun _ => by kernel_rfl, fun _ => by kernel_rfl⟩
instance : TyZ Go.Proofs.Tryz.prog 87 (.agg ⟨[.bool false, .slice none 0 0, .slice none 0 0]⟩) := ⟨by kernel_rfl⟩
instance : TyF Go.Proofs.Tryz.prog 87 0 0 := ⟨fun _ _ _ => by kernel_rfl⟩
instance : TyFd Go.Proofs.Tryz.prog 87 0 0 30 := ⟨_, _, fun _ => tyst_u Go.Proofs.Tryz.underlying87 _, rfl, rfl, rfl⟩
instance : TyF Go.Proofs.Tryz.prog 87 1 2 := ⟨fun _ _ _ => by kernel_rfl⟩
instance : TyFd Go.Proofs.Tryz.prog 87 1 2 28 := ⟨_, _, fun _ => tyst_u Go.Proofs.Tryz.underlying87 _, rfl, rfl, rfl⟩
instance : TySt Go.Proofs.Tryz.prog 87 [(0, 2), (2, 1)] := ⟨_, fun _ => tyst_u Go.Proofs.Tryz.underlying87 _, fun _ => by kernel_rfl⟩
instance : TyA Go.Proofs.Tryz.prog 89 6 := ⟨fun _ => by kernel_rfl, fun _ => by kernel_rfl⟩
instance : TyZ Go.Proofs.Tryz.prog 89 (.agg ⟨[.bool false, .slice none 0 0, .slice none 0 0, .bool false, .slice none 0 0, .slice none 0 0]⟩) := ⟨by kernel_rfl⟩
instance : TyF Go.Proofs.Tryz.prog 89 0 0 := ⟨fun _ _ _ => by kernel_rfl⟩
instance : TyFd Go.Proofs.Tryz.prog 89 0 0 87 := ⟨_, _, fun _ => tyst_u Go.Proofs.Tryz.underlying89 _, rfl, rfl, rfl⟩
instance : TyF Go.Proofs.Tryz.prog 89 1 3 := ⟨fun _ _ _ => by kernel_rfl⟩
instance : TyFd Go.Proofs.Tryz.prog 89 1 3 87 := ⟨_, _, fun _ => tyst_u Go.Proofs.Tryz.underlying89 _, rfl, rfl, rfl⟩
instance : TySt Go.Proofs.Tryz.prog 89 [(0, 3), (3, 3)] := ⟨_, fun _ => tyst_u Go.Proofs.Tryz.underlying89 _, fun _ => by kernel_rfl⟩
instance : TyA Go.Proofs.Tryz.prog 93 2 := ⟨fun _ => by kernel_rfl, fun _ => by kernel_rfl⟩
instance : TyZ Go.Proofs.Tryz.prog 93 (.agg ⟨[.slice none 0 0, .int .i64 0]⟩) := ⟨by kernel_rfl⟩
instance : TyF Go.Proofs.Tryz.prog 93 0 0 := ⟨fun _ _ _ => by kernel_rfl⟩
instance : TyFd Go.Proofs.Tryz.prog 93 0 0 22 := ⟨_, _, fun _ => tyst_u Go.Proofs.Tryz.underlying93 _, rfl, rfl, rfl⟩
instance : TyF Go.Proofs.Tryz.prog 93 1 1 := ⟨fun _ _ _ => by kernel_rfl⟩
instance : TyFd Go.Proofs.Tryz.prog 93 1 1 3 := ⟨_, _, fun _ => tyst_u Go.Proofs.Tryz.underlying93 _, rfl, rfl, rfl⟩
instance : TySt Go.Proofs.Tryz.prog 93 [(0, 1), (1, 1)] := ⟨_, fun _ => tyst_u Go.Proofs.Tryz.underlying93 _, fun _ => by kernel_rfl⟩
instance : TyA Go.Proofs.Tryz.prog 97 10 := ⟨fun _ => by kernel_rfl, fun _ => by kernel_rfl⟩
instance : TyZ Go.Proofs.Tryz.prog 97 (.agg ⟨[.bool false, .bool false, .bool false, .slice none 0 0, .bool false, .slice none 0 0, .bool false, .slice none 0 0, .pointer none, .pointer none]⟩) := ⟨by kernel_rfl⟩
instance : TyF Go.Proofs.Tryz.prog 97 0 0 := ⟨fun _ _ _ => by kernel_rfl⟩
instance : TyFd Go.Proofs.Tryz.prog 97 0 0 4 := ⟨_, _, fun _ => tyst_u Go.Proofs.Tryz.underlying97 _, rfl, rfl, rfl⟩
instance : TyF Go.Proofs.Tryz.prog 97 1 1 := ⟨fun _ _ _ => by kernel_rfl⟩
instance : TyFd Go.Proofs.Tryz.prog 97 1 1 4 := ⟨_, _, fun _ => tyst_u Go.Proofs.Tryz.underlying97 _, rfl, rfl, rfl⟩
instance : TyF Go.Proofs.Tryz.prog 97 2 2 := ⟨fun _ _ _ => by kernel_rfl⟩
instance : TyFd Go.Proofs.Tryz.prog 97 2 2 32 := ⟨_, _, fun _ => tyst_u Go.Proofs.Tryz.underlying97 _, rfl, rfl, rfl⟩
instance : TyF Go.Proofs.Tryz.prog 97 3 8 := ⟨fun _ _ _ => by kernel_rfl⟩
instance : TyFd Go.Proofs.Tryz.prog 97 3 8 25 := ⟨_, _, fun _ => tyst_u Go.Proofs.Tryz.underlying97 _, rfl, rfl, rfl⟩
instance : TyF Go.Proofs.Tryz.prog 97 4 9 := ⟨fun _ _ _ => by kernel_rfl⟩
instance : TyFd Go.Proofs.Tryz.prog 97 4 9 25 := ⟨_, _, fun _ => tyst_u Go.Proofs.Tryz.underlying97 _, rfl, rfl, rfl⟩
instance : TySt Go.Proofs.Tryz.prog 97 [(0, 1), (1, 1), (2, 6), (8, 1), (9, 1)] := ⟨_, fun _ => tyst_u Go.Proofs.Tryz.underlying97 _, fun _ => by kernel_rfl⟩
instance : TyS Go.Proofs.Tryz.prog 101 := ⟨fun _ => by kernel_rfl, fun _ => by kernel_rfl⟩
instance : TyZ Go.Proofs.Tryz.prog 101 (.pointer none) := ⟨by kernel_rfl⟩
instance : TyP Go.Proofs.Tryz.prog 101 := ⟨277, fun _ => by kernel_rfl⟩
instance : TyA Go.Proofs.Tryz.prog 103 3 := ⟨fun _ => by kernel_rfl, fun _ => by kernel_rfl⟩
instance : TyZ Go.Proofs.Tryz.prog 103 (.agg ⟨[.int .i64 0, .int .i64 0, .pointer none]⟩) := ⟨by kernel_rfl⟩
instance : TyF Go.Proofs.Tryz.prog 103 0 0 := ⟨fun _ _ _ => by kernel_rfl⟩
instance : TyFd Go.Proofs.Tryz.prog 103 0 0 2 := ⟨_, _, fun _ => tyst_u Go.Proofs.Tryz.underlying103 _, rfl, rfl, rfl⟩
instance : TyF Go.Proofs.Tryz.prog 103 1 1 := ⟨fun _ _ _ => by kernel_rfl⟩
instance : TyFd Go.Proofs.Tryz.prog 103 1 1 2 := ⟨_, _, fun _ => tyst_u Go.Proofs.Tryz.underlying103 _, rfl, rfl, rfl⟩
instance : TyF Go.Proofs.Tryz.prog 103 2 2 := ⟨fun _ _ _ => by kernel_rfl⟩
instance : TyFd Go.Proofs.Tryz.prog 103 2 2 101 := ⟨_, _, fun _ => tyst_u Go.Proofs.Tryz.underlying103 _, rfl, rfl, rfl⟩
instance : TySt Go.Proofs.Tryz.prog 103 [(0, 1), (1, 1), (2, 1)] := ⟨_, fun _ => tyst_u Go.Proofs.Tryz.underlying103 _, fun _ => by kernel_rfl⟩
instance : TyA Go.Proofs.Tryz.prog 105 9 := ⟨fun _ => by kernel_rfl, fun _ => by kernel_rfl⟩
instance : TyZ Go.Proofs.Tryz.prog 105 (.agg ⟨[.int .i64 0, .int .i64 0, .pointer none, .int .i64 0, .int .i64 0, .pointer none, .int .i64 0, .int .i64 0, .pointer none]⟩) := ⟨by kernel_rfl⟩
instance : TyF Go.Proofs.Tryz.prog 105 0 0 := ⟨fun _ _ _ => by kernel_rfl⟩
instance : TyFd Go.Proofs.Tryz.prog 105 0 0 103 := ⟨_, _, fun _ => tyst_u Go.Proofs.Tryz.underlying105 _, rfl, rfl, rfl⟩
instance : TyF Go.Proofs.Tryz.prog 105 1 3 := ⟨fun _ _ _ => by kernel_rfl⟩
instance : TyFd Go.Proofs.Tryz.prog 105 1 3 103 := ⟨_, _, fun _ => tyst_u Go.Proofs.Tryz.underlying105 _, rfl, rfl, rfl⟩
instance : TyF Go.Proofs.Tryz.prog 105 2 6 := ⟨fun _ _ _ => by kernel_rfl⟩
instance : TyFd Go.Proofs.Tryz.prog 105 2 6 103 := ⟨_, _, fun _ => tyst_u Go.Proofs.Tryz.underlying105 _, rfl, rfl, rfl⟩
instance : TySt Go.Proofs.Tryz.prog 105 [(0, 3), (3, 3), (6, 3)] := ⟨_, fun _ => tyst_u Go.Proofs.Tryz.underlying105 _, fun _ => by kernel_rfl⟩
instance : TyS Go.Proofs.Tryz.prog 108 := ⟨fun _ => by kernel_rfl, fun _ => by kernel_rfl⟩
instance : TyZ Go.Proofs.Tryz.prog 108 (.pointer none) := ⟨by kernel_rfl⟩
instance : TyP Go.Proofs.Tryz.prog 108 := ⟨132, fun _ => by kernel_rfl⟩
instance : TyS Go.Proofs.Tryz.prog 111 := ⟨fun _ => by kernel_rfl, fun _ => by kernel_rfl⟩
instance : TyZ Go.Proofs.Tryz.prog 111 (.slice none 0 0) := ⟨by kernel_rfl⟩
instance : TySl Go.Proofs.Tryz.prog 111 196 17 128 := ⟨by kernel_rfl, by kernel_rfl⟩
instance : TyN Go.Proofs.Tryz.prog 111 := ⟨196, by kernel_rfl⟩
instance : TyS Go.Proofs.Tryz.prog 112 := ⟨fun _ => by kernel_rfl, fun _ => by kernel_rfl⟩
instance : TyZ Go.Proofs.Tryz.prog 112 (.slice none 0 0) := ⟨by kernel_rfl⟩
instance : TySl Go.Proofs.Tryz.prog 112 196 17 128 := ⟨by kernel_rfl, by kernel_rfl⟩
instance : TyN Go.Proofs.Tryz.prog 112 := ⟨196, by kernel_rfl⟩
instance : TyS Go.Proofs.Tryz.prog 126 := ⟨fun _ => by kernel_rfl, fun _ => by kernel_rfl⟩
instance : TyZ Go.Proofs.Tryz.prog 126 (.slice none 0 0) := ⟨by kernel_rfl⟩
instance : TySl Go.Proofs.Tryz.prog 126 130 2 32 := ⟨by kernel_rfl, by kernel_rfl⟩
instance : TyN Go.Proofs.Tryz.prog 126 := ⟨130, by kernel_rfl⟩
instance : TyA Go.Proofs.Tryz.prog 130 2 := ⟨fun _ => by kernel_rfl, fun _ => by kernel_rfl⟩
instance : TyZ Go.Proofs.Tryz.prog 130 (.agg ⟨[.slice none 0 0, .pointer none]⟩) := ⟨by kernel_rfl⟩
instance : TyF Go.Proofs.Tryz.prog 130 0 0 := ⟨fun _ _ _ => by kernel_rfl⟩
instance : TyFd Go.Proofs.Tryz.prog 130 0 0 112 := ⟨_, _, fun _ => tyst_u Go.Proofs.Tryz.underlying130 _, rfl, rfl, rfl⟩
instance : TyF Go.Proofs.Tryz.prog 130 1 1 := ⟨fun _ _ _ => by kernel_rfl⟩
instance : TyFd Go.Proofs.Tryz.prog 130 1 1 108 := ⟨_, _, fun _ => tyst_u Go.Proofs.Tryz.underlying130 _, rfl, rfl, rfl⟩
instance : TySt Go.Proofs.Tryz.prog 130 [(0, 1), (1, 1)] := ⟨_, fun _ => tyst_u Go.Proofs.Tryz.underlying130 _, fun _ => by kernel_rfl⟩
instance : TyA Go.Proofs.Tryz.prog 132 12 := ⟨fun _ => by kernel_rfl, fun _ => by kernel_rfl⟩
instance : TyZ Go.Proofs.Tryz.prog 132 (.agg ⟨[.int .i64 0, .int .i64 0, .pointer none, .int .i64 0, .int .i64 0, .pointer none, .int .i64 0, .int .i64 0, .pointer none, .pointer none, .pointer none, .bool false]⟩) := ⟨by kernel_rfl⟩
instance : TyF Go.Proofs.Tryz.prog 132 0 0 := ⟨fun _ _ _ => by kernel_rfl⟩
instance : TyFd Go.Proofs.Tryz.prog 132 0 0 105 := ⟨_, _, fun _ => tyst_u Go.Proofs.Tryz.underlying132 _, rfl, rfl, rfl⟩
instance : TyF Go.Proofs.Tryz.prog 132 1 9 := ⟨fun _ _ _ => by kernel_rfl⟩
instance : TyFd Go.Proofs.Tryz.prog 132 1 9 108 := ⟨_, _, fun _ => tyst_u Go.Proofs.Tryz.underlying132 _, rfl, rfl, rfl⟩
instance : TyF Go.Proofs.Tryz.prog 132 2 10 := ⟨fun _ _ _ => by kernel_rfl⟩
instance : TyFd Go.Proofs.Tryz.prog 132 2 10 108 := ⟨_, _, fun _ => tyst_u Go.Proofs.Tryz.underlying132 _, rfl, rfl, rfl⟩
instance : TyF Go.Proofs.Tryz.prog 132 3 11 := ⟨fun _ _ _ => by kernel_rfl⟩
instance : TyFd Go.Proofs.Tryz.prog 132 3 11 4 := ⟨_, _, fun _ => tyst_u Go.Proofs.Tryz.underlying132 _, rfl, rfl, rfl⟩
instance : TySt Go.Proofs.Tryz.prog 132 [(0, 9), (9, 1), (10, 1), (11, 1)] := ⟨_, fun _ => tyst_u Go.Proofs.Tryz.underlying132 _, fun _ => by kernel_rfl⟩
instance : TyS Go.Proofs.Tryz.prog 139 := ⟨fun _ => by kernel_rfl, fun _ => by kernel_rfl⟩
instance : TyZ Go.Proofs.Tryz.prog 139 (.slice none 0 0) := ⟨by kernel_rfl⟩
instance : TySl Go.Proofs.Tryz.prog 139 105 9 72 := ⟨by kernel_rfl, by kernel_rfl⟩
instance : TyN Go.Proofs.Tryz.prog 139 := ⟨105, by kernel_rfl⟩
instance : TyA Go.Proofs.Tryz.prog 157 8 := ⟨fun _ => by kernel_rfl, fun _ => by kernel_rfl⟩
instance : TyZ Go.Proofs.Tryz.prog 157 (.agg ⟨[.bool false, .slice none 0 0, .slice none 0 0, .bool false, .slice none 0 0, .slice none 0 0, .bool false, .bool false]⟩) := ⟨by kernel_rfl⟩
instance : TyF Go.Proofs.Tryz.prog 157 0 0 := ⟨fun _ _ _ => by kernel_rfl⟩
instance : TyFd Go.Proofs.Tryz.prog 157 0 0 87 := ⟨_, _, fun _ => tyst_u Go.Proofs.Tryz.underlying157 _, rfl, rfl, rfl⟩
instance : TyF Go.Proofs.Tryz.prog 157 1 3 := ⟨fun _ _ _ => by kernel_rfl⟩
instance : TyFd Go.Proofs.Tryz.prog 157 1 3 87 := ⟨_, _, fun _ => tyst_u Go.Proofs.Tryz.underlying157 _, rfl, rfl, rfl⟩
instance : TyF Go.Proofs.Tryz.prog 157 2 6 := ⟨fun _ _ _ => by kernel_rfl⟩
instance : TyFd Go.Proofs.Tryz.prog 157 2 6 4 := ⟨_, _, fun _ => tyst_u Go.Proofs.Tryz.underlying157 _, rfl, rfl, rfl⟩
instance : TyF Go.Proofs.Tryz.prog 157 3 7 := ⟨fun _ _ _ => by kernel_rfl⟩
instance : TyFd Go.Proofs.Tryz.prog 157 3 7 4 := ⟨_, _, fun _ => tyst_u Go.Proofs.Tryz.underlying157 _, rfl, rfl, rfl⟩
instance : TySt Go.Proofs.Tryz.prog 157 [(0, 3), (3, 3), (6, 1), (7, 1)] := ⟨_, fun _ => tyst_u Go.Proofs.Tryz.underlying157 _, fun _ => by kernel_rfl⟩
instance : TyS Go.Proofs.Tryz.prog 165 := ⟨fun _ => by kernel_rfl, fun _ => by kernel_rfl⟩
instance : TyZ Go.Proofs.Tryz.prog 165 (.slice none 0 0) := ⟨by kernel_rfl⟩
instance : TySl Go.Proofs.Tryz.prog 165 4 1 1 := ⟨by kernel_rfl, by kernel_rfl⟩
instance : TyN Go.Proofs.Tryz.prog 165 := ⟨4, by kernel_rfl⟩
instance : TyS Go.Proofs.Tryz.prog 169 := ⟨fun _ => by kernel_rfl, fun _ => by kernel_rfl⟩
instance : TyZ Go.Proofs.Tryz.prog 169 (.slice none 0 0) := ⟨by kernel_rfl⟩
instance : TySl Go.Proofs.Tryz.prog 169 108 1 8 := ⟨by kernel_rfl, by kernel_rfl⟩
instance : TyN Go.Proofs.Tryz.prog 169 := ⟨108, by kernel_rfl⟩
instance : TyS Go.Proofs.Tryz.prog 186 := ⟨fun _ => by kernel_rfl, fun _ => by kernel_rfl⟩
instance : TyZ Go.Proofs.Tryz.prog 186 (.nilFunc) := ⟨by kernel_rfl⟩
instance : TyA Go.Proofs.Tryz.prog 194 8 := ⟨fun _ => by kernel_rfl, fun _ => by kernel_rfl⟩
instance : TyZ Go.Proofs.Tryz.prog 194 (.agg ⟨[.int .i64 0, .int .i64 0, .pointer none, .int .i64 0, .int .i64 0, .pointer none, .bool false, .bool false]⟩) := ⟨by kernel_rfl⟩
instance : TyF Go.Proofs.Tryz.prog 194 0 0 := ⟨fun _ _ _ => by kernel_rfl⟩
instance : TyFd Go.Proofs.Tryz.prog 194 0 0 103 := ⟨_, _, fun _ => tyst_u Go.Proofs.Tryz.underlying194 _, rfl, rfl, rfl⟩
instance : TyF Go.Proofs.Tryz.prog 194 1 3 := ⟨fun _ _ _ => by kernel_rfl⟩
instance : TyFd Go.Proofs.Tryz.prog 194 1 3 103 := ⟨_, _, fun _ => tyst_u Go.Proofs.Tryz.underlying194 _, rfl, rfl, rfl⟩
instance : TyF Go.Proofs.Tryz.prog 194 2 6 := ⟨fun _ _ _ => by kernel_rfl⟩
instance : TyFd Go.Proofs.Tryz.prog 194 2 6 4 := ⟨_, _, fun _ => tyst_u Go.Proofs.Tryz.underlying194 _, rfl, rfl, rfl⟩
instance : TyF Go.Proofs.Tryz.prog 194 3 7 := ⟨fun _ _ _ => by kernel_rfl⟩
instance : TyFd Go.Proofs.Tryz.prog 194 3 7 4 := ⟨_, _, fun _ => tyst_u Go.Proofs.Tryz.underlying194 _, rfl, rfl, rfl⟩
instance : TySt Go.Proofs.Tryz.prog 194 [(0, 3), (3, 3), (6, 1), (7, 1)] := ⟨_, fun _ => tyst_u Go.Proofs.Tryz.underlying194 _, fun _ => by kernel_rfl⟩
instance : TyA Go.Proofs.Tryz.prog 196 17 := ⟨fun _ => by kernel_rfl, fun _ => by kernel_rfl⟩
instance : TyZ Go.Proofs.Tryz.prog 196 (.agg ⟨[.int .i64 0, .int .i64 0, .pointer none, .int .i64 0, .int .i64 0, .pointer none, .int .i64 0, .int .i64 0, .pointer none, .int .i64 0, .int .i64 0, .pointer none, .int .i64 0, .int .i64 0, .pointer none, .bool false, .bool false]⟩) := ⟨by kernel_rfl⟩
instance : TyF Go.Proofs.Tryz.prog 196 0 0 := ⟨fun _ _ _ => by kernel_rfl⟩
instance : TyFd Go.Proofs.Tryz.prog 196 0 0 105 := ⟨_, _, fun _ => tyst_u Go.Proofs.Tryz.underlying196 _, rfl, rfl, rfl⟩
instance : TyF Go.Proofs.Tryz.prog 196 1 9 := ⟨fun _ _ _ => by kernel_rfl⟩
instance : TyFd Go.Proofs.Tryz.prog 196 1 9 194 := ⟨_, _, fun _ => tyst_u Go.Proofs.Tryz.underlying196 _, rfl, rfl, rfl⟩
instance : TySt Go.Proofs.Tryz.prog 196 [(0, 9), (9, 8)] := ⟨_, fun _ => tyst_u Go.Proofs.Tryz.underlying196 _, fun _ => by kernel_rfl⟩
instance : TyS Go.Proofs.Tryz.prog 199 := ⟨fun _ => by kernel_rfl, fun _ => by kernel_rfl⟩
instance : TyZ Go.Proofs.Tryz.prog 199 (.int .u64 0) := ⟨by kernel_rfl⟩
instance : TyI Go.Proofs.Tryz.prog 199 .u64 := ⟨fun _ => by kernel_rfl⟩
instance : TyS Go.Proofs.Tryz.prog 202 := ⟨fun _ => by kernel_rfl, fun _ => by kernel_rfl⟩
instance : TyZ Go.Proofs.Tryz.prog 202 (.pointer none) := ⟨by kernel_rfl⟩
instance : TyP Go.Proofs.Tryz.prog 202 := ⟨204, fun _ => by kernel_rfl⟩
instance : TyA Go.Proofs.Tryz.prog 204 4 := ⟨fun _ => by kernel_rfl, fun _ => by kernel_rfl⟩
instance : TyZ Go.Proofs.Tryz.prog 204 (.agg ⟨[.slice none 0 0, .slice none 0 0, .int .i64 0, .bool false]⟩) := ⟨by kernel_rfl⟩
instance : TyF Go.Proofs.Tryz.prog 204 0 0 := ⟨fun _ _ _ => by kernel_rfl⟩
instance : TyFd Go.Proofs.Tryz.prog 204 0 0 34 := ⟨_, _, fun _ => tyst_u Go.Proofs.Tryz.underlying204 _, rfl, rfl, rfl⟩
instance : TyF Go.Proofs.Tryz.prog 204 1 1 := ⟨fun _ _ _ => by kernel_rfl⟩
instance : TyFd Go.Proofs.Tryz.prog 204 1 1 165 := ⟨_, _, fun _ => tyst_u Go.Proofs.Tryz.underlying204 _, rfl, rfl, rfl⟩
instance : TyF Go.Proofs.Tryz.prog 204 2 2 := ⟨fun _ _ _ => by kernel_rfl⟩
instance : TyFd Go.Proofs.Tryz.prog 204 2 2 3 := ⟨_, _, fun _ => tyst_u Go.Proofs.Tryz.underlying204 _, rfl, rfl, rfl⟩
instance : TyF Go.Proofs.Tryz.prog 204 3 3 := ⟨fun _ _ _ => by kernel_rfl⟩
instance : TyFd Go.Proofs.Tryz.prog 204 3 3 4 := ⟨_, _, fun _ => tyst_u Go.Proofs.Tryz.underlying204 _, rfl, rfl, rfl⟩
instance : TySt Go.Proofs.Tryz.prog 204 [(0, 1), (1, 1), (2, 1), (3, 1)] := ⟨_, fun _ => tyst_u Go.Proofs.Tryz.underlying204 _, fun _ => by kernel_rfl⟩
instance : TyS Go.Proofs.Tryz.prog 215 := ⟨fun _ => by kernel_rfl, fun _ => by kernel_rfl⟩
instance : TyZ Go.Proofs.Tryz.prog 215 (.slice none 0 0) := ⟨by kernel_rfl⟩
instance : TySl Go.Proofs.Tryz.prog 215 38 1 16 := ⟨by kernel_rfl, by kernel_rfl⟩
instance : TyN Go.Proofs.Tryz.prog 215 := ⟨38, by kernel_rfl⟩
instance : TyS Go.Proofs.Tryz.prog 217 := ⟨fun _ => by kernel_rfl, fun _ => by kernel_rfl⟩
instance : TyZ Go.Proofs.Tryz.prog 217 (.slice none 0 0) := ⟨by kernel_rfl⟩
instance : TySl Go.Proofs.Tryz.prog 217 42 1 24 := ⟨by kernel_rfl, by kernel_rfl⟩
instance : TyN Go.Proofs.Tryz.prog 217 := ⟨42, by kernel_rfl⟩
instance : TyS Go.Proofs.Tryz.prog 224 := ⟨fun _ => by kernel_rfl, fun _ => by kernel_rfl⟩
instance : TyZ Go.Proofs.Tryz.prog 224 (.int .u32 0) := ⟨by kernel_rfl⟩
instance : TyI Go.Proofs.Tryz.prog 224 .u32 := ⟨fun _ => by kernel_rfl⟩
instance : TyS Go.Proofs.Tryz.prog 235 := ⟨fun _ => by kernel_rfl, fun _ => by kernel_rfl⟩
instance : TyZ Go.Proofs.Tryz.prog 235 (.int .u64 0) := ⟨by kernel_rfl⟩
instance : TyI Go.Proofs.Tryz.prog 235 .u64 := ⟨fun _ => by kernel_rfl⟩
instance : TyA Go.Proofs.Tryz.prog 253 6 := ⟨fun _ => by kernel_rfl, fun _ => by kernel_rfl⟩
instance : TyZ Go.Proofs.Tryz.prog 253 (.agg ⟨[.int .i64 0, .int .i64 0, .pointer none, .int .i64 0, .int .i64 0, .pointer none]⟩) := ⟨by kernel_rfl⟩
instance : TyF Go.Proofs.Tryz.prog 253 0 0 := ⟨fun _ _ _ => by kernel_rfl⟩
instance : TyFd Go.Proofs.Tryz.prog 253 0 0 103 := ⟨_, _, fun _ => tyst_u Go.Proofs.Tryz.underlying253 _, rfl, rfl, rfl⟩
instance : TyF Go.Proofs.Tryz.prog 253 1 3 := ⟨fun _ _ _ => by kernel_rfl⟩
instance : TyFd Go.Proofs.Tryz.prog 253 1 3 103 := ⟨_, _, fun _ => tyst_u Go.Proofs.Tryz.underlying253 _, rfl, rfl, rfl⟩
instance : TySt Go.Proofs.Tryz.prog 253 [(0, 3), (3, 3)] := ⟨_, fun _ => tyst_u Go.Proofs.Tryz.underlying253 _, fun _ => by kernel_rfl⟩
instance : TyS Go.Proofs.Tryz.prog 255 := ⟨fun _ => by kernel_rfl, fun _ => by kernel_rfl⟩
instance : TyZ Go.Proofs.Tryz.prog 255 (.nilFunc) := ⟨by kernel_rfl⟩
instance : TyA Go.Proofs.Tryz.prog 277 3 := ⟨fun _ => by kernel_rfl, fun _ => by kernel_rfl⟩
instance : TyZ Go.Proofs.Tryz.prog 277 (.agg ⟨[.bool false, .slice none 0 0, .slice none 0 0]⟩) := ⟨by kernel_rfl⟩
instance : TyF Go.Proofs.Tryz.prog 277 0 0 := ⟨fun _ _ _ => by kernel_rfl⟩
instance : TyFd Go.Proofs.Tryz.prog 277 0 0 44 := ⟨_, _, fun _ => tyst_u Go.Proofs.Tryz.underlying277 _, rfl, rfl, rfl⟩
instance : TyF Go.Proofs.Tryz.prog 277 1 2 := ⟨fun _ _ _ => by kernel_rfl⟩
instance : TyFd Go.Proofs.Tryz.prog 277 1 2 42 := ⟨_, _, fun _ => tyst_u Go.Proofs.Tryz.underlying277 _, rfl, rfl, rfl⟩
instance : TySt Go.Proofs.Tryz.prog 277 [(0, 2), (2, 1)] := ⟨_, fun _ => tyst_u Go.Proofs.Tryz.underlying277 _, fun _ => by kernel_rfl⟩
instance : TyS Go.Proofs.Tryz.prog 292 := ⟨fun _ => by kernel_rfl, fun _ => by kernel_rfl⟩
instance : TyZ Go.Proofs.Tryz.prog 292 (.nilFunc) := ⟨by kernel_rfl⟩
instance : TyS Go.Proofs.Tryz.prog 309 := ⟨fun _ => by kernel_rfl, fun _ => by kernel_rfl⟩
instance : TyZ Go.Proofs.Tryz.prog 309 (.pointer none) := ⟨by kernel_rfl⟩
instance : TyP Go.Proofs.Tryz.prog 309 := ⟨334, fun _ => by kernel_rfl⟩
instance : TyA Go.Proofs.Tryz.prog 334 1 := ⟨fun _ => by kernel_rfl, fun _ => by kernel_rfl⟩
instance : TyZ Go.Proofs.Tryz.prog 334 (.agg ⟨[.string ⟨#[]⟩]⟩) := ⟨by kernel_rfl⟩
instance : TyF Go.Proofs.Tryz.prog 334 0 0 := ⟨fun _ _ _ => by kernel_rfl⟩
instance : TyFd Go.Proofs.Tryz.prog 334 0 0 9 := ⟨_, _, fun _ => tyst_u Go.Proofs.Tryz.underlying334 _, rfl, rfl, rfl⟩
instance : TySt Go.Proofs.Tryz.prog 334 [(0, 1)] := ⟨_, fun _ => tyst_u Go.Proofs.Tryz.underlying334 _, fun _ => by kernel_rfl⟩
theorem follows : Go.Proofs.Tryz.prog.follows .mixedOrders = true := by kernel_rfl
end Go.Sx
end
