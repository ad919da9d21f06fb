/-
  Deep values: what is told of a value without a word on where it lies; states over them. Operations over deep values.
-/
import Derived.Test.YtkijgpopaaknfaaGreatDoorMc3
set_option linter.unusedSimpArgs false
set_option linter.unusedVariables false
section
set_option maxRecDepth 100000
namespace Go.Sx
open Go
inductive DV where
 | v (x : Value)
 | ag (l : List DV)
 | tp (l : List DV)
 | pt (l : List DV)
 | sl (l : List DV)
mutual
def Is (G : Gh) : DV → Value → Prop
 | .v x, y => y = x
 | .ag l, y => ∃ m, y = .agg ⟨m⟩ ∧ IsLs G l m
 | .tp l, y => ∃ m, y = .tuple ⟨m⟩ ∧ IsLs G l m
 | .pt l, y => ∃ b m, y = .pointer (some ⟨b, 0, none⟩) ∧ G b = some m ∧ IsLs G l m
 | .sl l, y => ∃ (s : Nat) (x : SV) (es : List Value), y = .slice x.a x.n x.c ∧ IsSl G s x es ∧ IsLs G l es
def IsLs (G : Gh) : List DV → List Value → Prop
 | [], m => m = []
 | d :: t, m => ∃ y n, m = y :: n ∧ Is G d y ∧ IsLs G t n
end
mutual
theorem Is.up' {A G : Gh} (h : GLe A G) : ∀ (d : DV) (y : Value), Is A d y → Is G d y
 | .v x, y, k => by simp only [Is] at k ⊢; exact k
 | .ag l, y, k => by simp only [Is] at k ⊢; obtain ⟨m, e, k⟩ := k; exact ⟨m, e, IsLs.up' h l m k⟩
 | .tp l, y, k => by simp only [Is] at k ⊢; obtain ⟨m, e, k⟩ := k; exact ⟨m, e, IsLs.up' h l m k⟩
 | .pt l, y, k => by simp only [Is] at k ⊢; obtain ⟨b, m, e, hb, k⟩ := k; exact ⟨b, m, e, h _ _ hb, IsLs.up' h l m k⟩
 | .sl l, y, k => by simp only [Is] at k ⊢; obtain ⟨s, x, es, e, hs, k⟩ := k; exact ⟨s, x, es, e, hs.up' h, IsLs.up' h l es k⟩
theorem IsLs.up' {A G : Gh} (h : GLe A G) : ∀ (d : List DV) (y : List Value), IsLs A d y → IsLs G d y
 | [], y, k => by simp only [IsLs] at k ⊢; exact k
 | d :: t, y, k => by simp only [IsLs] at k ⊢; obtain ⟨u, n, e, h1, h2⟩ := k; exact ⟨u, n, e, Is.up' h d u h1, IsLs.up' h t n h2⟩
end
section
variable {G : Gh}
theorem Is.up {A : Gh} {d : DV} {y : Value} (k : Is A d y) (h : GLe A G) : Is G d y := Is.up' h d y k
theorem IsLs.up {A : Gh} {d : List DV} {y : List Value} (k : IsLs A d y) (h : GLe A G) : IsLs G d y := IsLs.up' h d y k
theorem is_v {x y : Value} : Is G (.v x) y ↔ y = x := by simp only [Is]
theorem is_ag {l : List DV} {y : Value} : Is G (.ag l) y ↔ ∃ m, y = .agg ⟨m⟩ ∧ IsLs G l m := by simp only [Is]
theorem is_tp {l : List DV} {y : Value} : Is G (.tp l) y ↔ ∃ m, y = .tuple ⟨m⟩ ∧ IsLs G l m := by simp only [Is]
theorem is_pt {l : List DV} {y : Value} : Is G (.pt l) y ↔ ∃ b m, y = .pointer (some ⟨b, 0, none⟩) ∧ G b = some m ∧ IsLs G l m := by simp only [Is]
theorem is_sl {l : List DV} {y : Value} : Is G (.sl l) y ↔ ∃ (s : Nat) (x : SV) (es : List Value), y = .slice x.a x.n x.c ∧ IsSl G s x es ∧ IsLs G l es := by simp only [Is]
theorem isl_nil {m : List Value} : IsLs G [] m ↔ m = [] := by simp only [IsLs]
theorem isl_cons {d : DV} {t : List DV} {m : List Value} : IsLs G (d :: t) m ↔ ∃ y n, m = y :: n ∧ Is G d y ∧ IsLs G t n := by simp only [IsLs]
theorem IsLs.nil : IsLs G [] [] := isl_nil.2 rfl
theorem IsLs.cons {d : DV} {t : List DV} {y : Value} {n : List Value} (h : Is G d y) (k : IsLs G t n) : IsLs G (d :: t) (y :: n) := isl_cons.2 ⟨y, n, rfl, h, k⟩
theorem IsLs.len : ∀ {d : List DV} {m : List Value}, IsLs G d m → m.length = d.length
 | [], m, h => by rw [isl_nil.1 h]; rfl
 | d :: t, m, h => by
   obtain ⟨y, n, rfl, _, h2⟩ := isl_cons.1 h
   simp [h2.len]
theorem IsLs.get : ∀ {l : List DV} {m : List Value} {i : Nat} {d : DV}, IsLs G l m → l[i]? = some d → ∃ y, m[i]? = some y ∧ Is G d y
 | [], m, i, d, h, e => by simp at e
 | x :: t, m, 0, d, h, e => by
   obtain ⟨y, n, rfl, h1, h2⟩ := isl_cons.1 h
   simp at e; subst e; exact ⟨y, rfl, h1⟩
 | x :: t, m, i + 1, d, h, e => by
   obtain ⟨y, n, rfl, h1, h2⟩ := isl_cons.1 h
   simp at e; simpa using h2.get e
theorem IsLs.app : ∀ {a b : List DV} {m n : List Value}, IsLs G a m → IsLs G b n → IsLs G (a ++ b) (m ++ n)
 | [], b, m, n, h, k => by rw [isl_nil.1 h]; exact k
 | d :: t, b, m, n, h, k => by
   obtain ⟨y, m', rfl, h1, h2⟩ := isl_cons.1 h
   exact .cons h1 (h2.app k)
theorem IsLs.drop : ∀ {a : List DV} {m : List Value} (k : Nat), IsLs G a m → IsLs G (a.drop k) (m.drop k)
 | _, _, 0, h => h
 | [], m, k + 1, h => by rw [isl_nil.1 h]; exact .nil
 | d :: t, m, k + 1, h => by
   obtain ⟨y, m', rfl, h1, h2⟩ := isl_cons.1 h
   exact h2.drop k
theorem IsLs.take : ∀ {a : List DV} {m : List Value} (k : Nat), IsLs G a m → IsLs G (a.take k) (m.take k)
 | _, _, 0, h => .nil
 | [], m, k + 1, h => by rw [isl_nil.1 h]; exact .nil
 | d :: t, m, k + 1, h => by
   obtain ⟨y, m', rfl, h1, h2⟩ := isl_cons.1 h
   exact .cons h1 (h2.take k)
theorem IsLs.set : ∀ {a : List DV} {m : List Value} (k : Nat) {d : DV} {y : Value}, IsLs G a m → Is G d y → IsLs G (a.set k d) (m.set k y)
 | [], m, k, d, y, h, _ => by rw [isl_nil.1 h]; exact .nil
 | x :: t, m, 0, d, y, h, k => by
   obtain ⟨u, m', rfl, h1, h2⟩ := isl_cons.1 h
   exact .cons k h2
 | x :: t, m, j + 1, d, y, h, k => by
   obtain ⟨u, m', rfl, h1, h2⟩ := isl_cons.1 h
   exact .cons h1 (h2.set j k)
end
def DV.flat : DV → Bool
 | .v x => Go.Sx.flat x
 | .ag _ => false
 | .tp _ => false
 | .pt _ => true
 | .sl .. => true
def DV.okc : DV → Bool
 | .ag l => l.all DV.flat
 | d => d.flat
def DV.cells : DV → List DV
 | .ag l => l
 | d => [d]
section
variable {G : Gh}
theorem Is.flat {d : DV} {y : Value} (h : Is G d y) (k : d.flat = true) : Go.Sx.flat y = true := by
 cases d with
 | v x => rw [is_v.1 h]; exact k
 | ag l => cases k
 | tp l => cases k
 | pt l => obtain ⟨b, m, rfl, _⟩ := is_pt.1 h; rfl
 | sl l => obtain ⟨s, x, es, rfl, _⟩ := is_sl.1 h; rfl
theorem cellsL_flat {y : Value} (h : Go.Sx.flat y = true) : cellsL y = [y] := by cases y <;> first | rfl | (simp [Go.Sx.flat] at h)
theorem IsLs.flat : ∀ {l : List DV} {m : List Value}, IsLs G l m → l.all DV.flat = true → ∀ v ∈ m, Go.Sx.flat v = true
 | [], m, h, _, v, hv => by rw [isl_nil.1 h] at hv; cases hv
 | d :: t, m, h, k, v, hv => by
   obtain ⟨y, n, rfl, h1, h2⟩ := isl_cons.1 h
   simp only [List.all_cons, Bool.and_eq_true] at k
   rcases List.mem_cons.1 hv with rfl | hv
   · exact h1.flat k.1
   · exact h2.flat k.2 v hv
theorem Is.cells {d : DV} {y : Value} (h : Is G d y) (k : d.okc = true) : IsLs G d.cells (cellsL y) ∧ ∀ v ∈ cellsL y, Go.Sx.flat v = true := by
 cases d with
 | ag l => obtain ⟨m, rfl, hm⟩ := is_ag.1 h; exact ⟨hm, hm.flat k⟩
 | _ =>
   have := h.flat k
   rw [cellsL_flat this]
   exact ⟨.cons h .nil, fun v hv => by rw [List.mem_singleton.1 hv]; exact this⟩
end
def takeD : List DV → Nat → Nat → Option (List DV)
 | _, 0, 0 => some []
 | [], 0, _ + 1 => none
 | v :: t, 0, k + 1 => match takeD t 0 k with | some l => some (v :: l) | none => none
 | [], _ + 1, _ => none
 | _ :: t, off + 1, k => takeD t off k
def ovD : List DV → Nat → List DV → List DV
 | cs, _, [] => cs
 | cs, off, v :: vs => ovD (cs.set off v) (off + 1) vs
section
variable {G : Gh}
theorem IsLs.takeD : ∀ {ds : List DV} {m : List Value} {off k : Nat} {l : List DV}, IsLs G ds m → takeD ds off k = some l → ∃ n, takeL m off k = some n ∧ IsLs G l n
 | [], m, 0, 0, l, h, e => by rw [isl_nil.1 h]; simp only [Sx.takeD] at e; cases e; exact ⟨[], rfl, .nil⟩
 | d :: t, m, 0, 0, l, h, e => by
   obtain ⟨y, m', rfl, h1, h2⟩ := isl_cons.1 h
   simp only [Sx.takeD] at e; cases e; exact ⟨[], rfl, .nil⟩
 | [], m, 0, k + 1, l, h, e => by simp [Sx.takeD] at e
 | d :: t, m, 0, k + 1, l, h, e => by
   obtain ⟨y, m', rfl, h1, h2⟩ := isl_cons.1 h
   simp only [Sx.takeD] at e
   split at e
   · rename_i l' hl'
     cases e
     obtain ⟨n, hn, hl⟩ := h2.takeD hl'
     exact ⟨y :: n, by simp only [takeL, hn], .cons h1 hl⟩
   · cases e
 | [], m, off + 1, k, l, h, e => by simp [Sx.takeD] at e
 | d :: t, m, off + 1, k, l, h, e => by
   obtain ⟨y, m', rfl, h1, h2⟩ := isl_cons.1 h
   exact h2.takeD (off := off) (k := k) e
theorem IsLs.ov : ∀ {vs ds : List DV} {n m : List Value} {off : Nat}, IsLs G ds m → IsLs G vs n → IsLs G (ovD ds off vs) (ovw m off n)
 | [], ds, n, m, off, h, k => by rw [isl_nil.1 k]; exact h
 | v :: vs, ds, n, m, off, h, k => by
   obtain ⟨y, n', rfl, h1, h2⟩ := isl_cons.1 k
   exact (h.set off h1).ov h2
end
/-! ### frames -/
inductive FV where
 | d (x : DV)
 /-- a pointer to cells that are written no more -/
 | ep (l : List DV)
 /-- a pointer to a cell of element i of a row of the call's own -/
 | be (x : SV) (s i j : Nat)
 /-- a slice without room behind it -/
 | ct (l : List DV)
abbrev FrF := List (Nat × FV)
def IsF (G : Gh) : FV → Value → Prop
 | .d x, y => Is G x y
 | .ep l, y => ∃ b off cs m, y = .pointer (some ⟨b, off, none⟩) ∧ G b = some cs ∧ takeL cs off l.length = some m ∧ IsLs G l m
 | .be x s i j, y => ∃ b, x.a = some ⟨b, 0, none⟩ ∧ y = .pointer (some ⟨b, i * s + j, none⟩)
 | .ct l, y => (∃ a n, y = .slice a n n) ∧ Is G (.sl l) y
theorem isF_v {G : Gh} {x y : Value} : IsF G (.d (.v x)) y ↔ y = x := is_v (G := G)
theorem IsF.up {A G : Gh} {f : FV} {y : Value} (h : IsF A f y) (k : GLe A G) : IsF G f y := by
 cases f with
 | d x => exact Is.up h k
 | ep l => obtain ⟨b, off, cs, m, e, hb, ht, hl⟩ := h; exact ⟨b, off, cs, m, e, k _ _ hb, ht, hl.up k⟩
 | be x s i j => exact h
 | ct l => exact ⟨h.1, h.2.up k⟩
def lookF : FrF → Nat → Option FV
 | [], _ => none
 | (k, v) :: t, j => bif Nat.beq k j then some v else lookF t j
def putF (fr : FrF) (dst : Option Nat) (v : FV) : FrF := match dst with | some d => (d, v) :: fr | none => fr
def FrIs (G : Gh) : FrF → Fr → Prop
 | [], m => m = []
 | (k, f) :: t, m => ∃ y n, m = (k, y) :: n ∧ IsF G f y ∧ FrIs G t n
theorem FrIs.up {A G : Gh} (h : GLe A G) : ∀ {fr : FrF} {m : Fr}, FrIs A fr m → FrIs G fr m
 | [], m, k => k
 | (k, f) :: t, m, ⟨y, n, e, h1, h2⟩ => ⟨y, n, e, h1.up h, FrIs.up h h2⟩
theorem FrIs.put {G : Gh} {fr : FrF} {m : Fr} (h : FrIs G fr m) {f : FV} {y : Value} (k : IsF G f y) (dst : Option Nat) : FrIs G (putF fr dst f) (put m dst y) := by
 cases dst with
 | none => exact h
 | some d => exact ⟨y, m, rfl, k, h⟩
theorem FrIs.look {G : Gh} : ∀ {fr : FrF} {m : Fr} {k : Nat} {f : FV}, FrIs G fr m → lookF fr k = some f → ∃ y, Sx.look m k = some y ∧ IsF G f y
 | [], m, k, f, h, e => by cases e
 | (j, g) :: t, m, k, f, h, e => by
   obtain ⟨y, n, rfl, h1, h2⟩ := h
   simp only [lookF] at e
   simp only [Sx.look]
   cases hb : Nat.beq j k with
   | true => rw [hb] at e; cases e; exact ⟨y, rfl, h1⟩
   | false => rw [hb] at e; exact FrIs.look h2 e
theorem FrIs.lookN {G : Gh} : ∀ {fr : FrF} {m : Fr} {k : Nat}, FrIs G fr m → lookF fr k = none → Sx.look m k = none
 | [], m, k, h, e => by rw [show m = [] from h]; rfl
 | (j, g) :: t, m, k, h, e => by
   obtain ⟨y, n, rfl, h1, h2⟩ := h
   simp only [lookF] at e
   simp only [Sx.look]
   cases hb : Nat.beq j k with
   | true => rw [hb] at e; cases e
   | false => rw [hb] at e; exact FrIs.lookN h2 e
def opF (fr : FrF) : Operand → Option FV
 | .tmp k => lookF fr k
 | .const v => some (.d (.v v))
 | .global g => some (.d (.v (.pointer (some ⟨g, 0, none⟩))))
 | .func f => some (.d (.v (.func (.func f) #[] #[])))
def toD : FV → Option DV
 | .d (.v (.slice none 0 0)) => some (.sl [])
 | .d d => some d
 | .ct l => some (.sl l)
 | _ => none
def opD (fr : FrF) (x : Operand) : Option DV := (opF fr x).bind toD
def opFs (fr : FrF) : List Operand → Option (List DV)
 | [] => some []
 | x :: t => match opD fr x, opFs fr t with
   | some d, some l => some (d :: l)
   | _, _ => none
theorem toD_is {G : Gh} {f : FV} {d : DV} {y : Value} (h : IsF G f y) (e : toD f = some d) : Is G d y := by
 unfold toD at e
 split at e
 · cases e
   rw [isF_v.1 h]
   exact is_sl.2 ⟨0, ⟨none, 0, 0⟩, [], rfl, .nil G 0, .nil⟩
 · cases e; exact h
 · cases e; exact h.2
 · cases e
theorem FrIs.op {G : Gh} {fr : FrF} {m : Fr} (h : FrIs G fr m) {x : Operand} {f : FV} (e : opF fr x = some f) : ∃ y, opv m x = some y ∧ IsF G f y := by
 cases x with
 | tmp k => exact h.look e
 | const v => cases e; exact ⟨v, rfl, isF_v.2 rfl⟩
 | global g => cases e; exact ⟨_, rfl, isF_v.2 rfl⟩
 | func g => cases e; exact ⟨_, rfl, isF_v.2 rfl⟩
theorem FrIs.opv {G : Gh} {fr : FrF} {m : Fr} (h : FrIs G fr m) {x : Operand} {v : Value} (e : opF fr x = some (.d (.v v))) : Sx.opv m x = some v := by
 obtain ⟨y, h1, h2⟩ := h.op e
 rw [h1, isF_v.1 h2]
theorem FrIs.opD {G : Gh} {fr : FrF} {m : Fr} (h : FrIs G fr m) {x : Operand} {d : DV} (e : Sx.opD fr x = some d) : ∃ y, Sx.opv m x = some y ∧ Is G d y := by
 unfold Sx.opD at e
 cases ho : opF fr x with
 | none => rw [ho] at e; cases e
 | some f =>
   rw [ho] at e
   obtain ⟨y, h1, h2⟩ := h.op ho
   exact ⟨y, h1, toD_is h2 e⟩
theorem FrIs.ops {G : Gh} {fr : FrF} {m : Fr} (h : FrIs G fr m) : ∀ {x : List Operand} {l : List DV}, opFs fr x = some l → ∃ y, opvs m x = some y ∧ IsLs G l y
 | [], l, e => by simp only [opFs] at e; cases e; exact ⟨[], rfl, .nil⟩
 | x :: t, l, e => by
   simp only [opFs] at e
   split at e
   · rename_i d l' hd hl'
     cases e
     obtain ⟨y, h1, h2⟩ := h.opD hd
     obtain ⟨ys, h3, h4⟩ := h.ops hl'
     exact ⟨y :: ys, by simp only [opvs, h1, h3], .cons h2 h4⟩
   · cases e
/-! ### blocks of the call's own: variables, rows -/
structure OwnD where
 b : Nat
 cs : List DV
 ty : TypeId
 lo : Bool
structure BufD where
 x : SV
 s : Nat
 ty : TypeId
 ds : List DV
 lo : Bool
class OAtD (own : List OwnD) (b : Nat) (cs : outParam (List DV)) (ty : outParam TypeId) (lo : outParam Bool) : Prop where
 mem : ⟨b, cs, ty, lo⟩ ∈ own
instance OAtD.i1 (b : Nat) (cs : List DV) (ty : TypeId) (lo : Bool) (t : List OwnD) : OAtD (⟨b, cs, ty, lo⟩ :: t) b cs ty lo := ⟨List.mem_cons_self⟩
instance OAtD.i2 (o : OwnD) (t : List OwnD) (b : Nat) (cs : List DV) (ty : TypeId) (lo : Bool) [h : OAtD t b cs ty lo] : OAtD (o :: t) b cs ty lo := ⟨List.mem_cons_of_mem _ h.mem⟩
class BAtD (bs : List BufD) (x : SV) (s : outParam Nat) (ty : outParam TypeId) (ds : outParam (List DV)) (lo : outParam Bool) : Prop where
 mem : ⟨x, s, ty, ds, lo⟩ ∈ bs
instance BAtD.i1 (x : SV) (s : Nat) (ty : TypeId) (ds : List DV) (lo : Bool) (t : List BufD) : BAtD (⟨x, s, ty, ds, lo⟩ :: t) x s ty ds lo := ⟨List.mem_cons_self⟩
instance BAtD.i2 (o : BufD) (t : List BufD) (x : SV) (s : Nat) (ty : TypeId) (ds : List DV) (lo : Bool) [h : BAtD t x s ty ds lo] : BAtD (o :: t) x s ty ds lo := ⟨List.mem_cons_of_mem _ h.mem⟩
def OwnsIs (G : Gh) : List OwnD → List Own → Prop
 | [], m => m = []
 | o :: t, m => ∃ cs n, m = ⟨o.b, cs, o.ty, o.lo⟩ :: n ∧ IsLs G o.cs cs ∧ OwnsIs G t n
def BufIs (G : Gh) (β : BufD) (B : List Own) : Prop :=
 ∃ vs, Buf β.s β.ty β.x vs B ∧ IsLs G β.ds vs ∧ (∀ v ∈ vs, (cellsL v).length = β.s) ∧ (β.lo = true → ∀ o ∈ B, o.lo = true)
def BufsIs (G : Gh) : List BufD → List Own → Prop
 | [], m => m = []
 | β :: t, m => ∃ B n, m = B ++ n ∧ BufIs G β B ∧ BufsIs G t n
theorem OwnsIs.up {A G : Gh} (h : GLe A G) : ∀ {own : List OwnD} {m : List Own}, OwnsIs A own m → OwnsIs G own m
 | [], m, k => k
 | o :: t, m, ⟨cs, n, e, h1, h2⟩ => ⟨cs, n, e, h1.up h, OwnsIs.up h h2⟩
theorem BufsIs.up {A G : Gh} (h : GLe A G) : ∀ {bs : List BufD} {m : List Own}, BufsIs A bs m → BufsIs G bs m
 | [], m, k => k
 | o :: t, m, ⟨B, n, e, ⟨vs, h1, h2, h3, h4⟩, h5⟩ => ⟨B, n, e, ⟨vs, h1, h2.up h, h3, h4⟩, BufsIs.up h h5⟩
def OB (G : Gh) (own : List OwnD) (bs : List BufD) (ov : List Own) : Prop := ∃ a b, ov = a ++ b ∧ OwnsIs G own a ∧ BufsIs G bs b
theorem OB.up {A G : Gh} {own : List OwnD} {bs : List BufD} {ov : List Own} (k : OB A own bs ov) (h : GLe A G) : OB G own bs ov := by
 obtain ⟨a, b, e, h1, h2⟩ := k
 exact ⟨a, b, e, h1.up h, h2.up h⟩
structure Sr (GB G : Gh) (fr : FrF) (own : List OwnD) (bs : List BufD) (frv : Fr) (ov : List Own) : Prop where
 gb : GLe GB G
 fr : FrIs G fr frv
 ob : OB G own bs ov
structure Ext where
 fr : Fr
 own : List Own
def E0 : Ext := ⟨[], []⟩
structure SD (GB : Gh) (C : Ctx) (n : Nat) (E : Ext) (fr : FrF) (own : List OwnD) (bs : List BufD) (Φ : Act → World → Prop) : Prop where
 run : ∀ G frv ov, Sr GB G fr own bs frv ov → St C n (frv ++ E.fr) (ov ++ E.own) G Φ
instance {GB : Gh} {C : Ctx} {n : Nat} {E : Ext} {fr : FrF} {own : List OwnD} {bs : List BufD} {Φ : Act → World → Prop} : CoeFun (SD GB C n E fr own bs Φ) (fun _ => ∀ G frv ov, Sr GB G fr own bs frv ov → St C n (frv ++ E.fr) (ov ++ E.own) G Φ) := ⟨SD.run⟩
def YD (P : Program) (GB : Gh) (C : Ctx) (fr : FrF) (own : List OwnD) (bs : List BufD) (o : Oper) (f : FV) : Prop :=
 ∀ G frv ov, Sr GB G fr own bs frv ov → ∃ y, IsF G f y ∧ ∀ G', GLe G G' → Yd P C frv ov G' o y
def CD (P : Program) (GB : Gh) (C : Ctx) (n : Nat) (E : Ext) (fr : FrF) (own : List OwnD) (bs : List BufD) (o : Oper) (Φ : Act → World → Prop) : Prop :=
 ∀ G frv ov, Sr GB G fr own bs frv ov → Ch P C n (frv ++ E.fr) (ov ++ E.own) G o Φ
def TD (P : Program) (GB : Gh) (C : Ctx) (n : Nat) (fr : FrF) (own : List OwnD) (bs : List BufD) (o : Oper) (fr' : FrF) (own' : List OwnD) (bs' : List BufD) : Prop :=
 ∀ (GB' : Gh) (E : Ext) (Φ : Act → World → Prop), GLe GB GB' → SD GB' C n E fr' own' bs' Φ → CD P GB' C n E fr own bs o Φ
def TF (P : Program) (GB : Gh) (C : Ctx) (n : Nat) (fr : FrF) (own : List OwnD) (bs : List BufD) (o : Oper) (ι : Type) (fr' : ι → FrF) (own' : ι → List OwnD) (bs' : ι → List BufD) : Prop :=
 ∀ (GB' : Gh) (E : Ext) (Φ : Act → World → Prop), GLe GB GB' → (∀ x, SD GB' C n E (fr' x) (own' x) (bs' x) Φ) → CD P GB' C n E fr own bs o Φ
section
variable {P : Program} {GB : Gh} {C : Ctx} {n : Nat} {E : Ext} {fr fr' : FrF} {own own' : List OwnD} {bs bs' : List BufD} {ops : Array Oper} {Q : Exit → Act → World → Prop} {r : List Oper} {Φ : Act → World → Prop}
theorem FrOk.appL {x y : Fr} {a : Act} (h : FrOk (x ++ y) a) : FrOk x a := fun k v hk => h k v (by rw [look_app, hk])
theorem Yd.ext {o : Oper} {v : Value} {x y : Fr} {p q : List Own} {G : Gh} (h : Yd P C x p G o v) : Yd P C (x ++ y) (p ++ q) G o v :=
 fun a w hf hh => h a w hf.appL (hh.drop (List.sublist_append_left _ _))
theorem put_app (x y : Fr) (dst : Option Nat) (v : Value) : put (x ++ y) dst v = put x dst v ++ y := by cases dst <;> rfl
theorem look_appS {x y : Fr} {k : Nat} {v : Value} (h : look x k = some v) : look (x ++ y) k = some v := by rw [look_app, h]
theorem opv_app {x y : Fr} {o : Operand} {v : Value} (h : opv x o = some v) : opv (x ++ y) o = some v := by
 cases o with
 | tmp k => exact look_appS h
 | const u => exact h
 | global g => exact h
 | func f => exact h
theorem opvs_app {x y : Fr} : ∀ {l : List Operand} {vs : List Value}, opvs x l = some vs → opvs (x ++ y) l = some vs
 | [], vs, h => h
 | o :: t, vs, h => by
   simp only [opvs] at h ⊢
   split at h
   · rename_i v l hv hl
     cases h
     rw [opv_app hv, opvs_app hl]
   · cases h
theorem tY {dst : Option Nat} {ty' : TypeId} {pos : String} {af : Array Edge} {op : Op} {f : FV} (hy : YD P GB C fr own bs ⟨dst, op, ty', pos, af, none⟩ f) (hd : dstOk n dst = true)
  (h : SD GB C n E (putF fr dst f) own bs (wpL P ops Q r)) : SD GB C n E fr own bs (wpL P ops Q (⟨dst, op, ty', pos, af, none⟩ :: r)) := by
 refine ⟨fun G frv ov s => ?_⟩
 obtain ⟨y, h1, h2⟩ := hy G frv ov s
 refine st_y (h2 G (GLe.refl _)).ext rfl hd ?_
 show St _ _ (put _ dst _) _ _ _
 rw [put_app]
 exact h G _ ov ⟨s.gb, s.fr.put h1 _, s.ob⟩
theorem tYg {dst : Option Nat} {ty' : TypeId} {pos : String} {af : Array Edge} {op : Op} {f : FV} {j d : Nat} {b : Bool} (hj : (ops[j]?).bind (·.dst) = some d) (hl : lookF fr d = some (.d (.v (.bool b)))) (hy : YD P GB C fr own bs ⟨dst, op, ty', pos, af, some (j, b)⟩ f) (hd : dstOk n dst = true)
  (h : SD GB C n E (putF fr dst f) own bs (wpL P ops Q r)) : SD GB C n E fr own bs (wpL P ops Q (⟨dst, op, ty', pos, af, some (j, b)⟩ :: r)) := by
 refine ⟨fun G frv ov s => ?_⟩
 obtain ⟨y, h1, h2⟩ := hy G frv ov s
 obtain ⟨u, hu, hu'⟩ := s.fr.look hl
 rw [isF_v.1 hu'] at hu
 refine st_yg rfl hj (look_appS hu) (h2 G (GLe.refl _)).ext hd ?_
 show St _ _ (put _ dst _) _ _ _
 rw [put_app]
 exact h G _ ov ⟨s.gb, s.fr.put h1 _, s.ob⟩
theorem tS {dst : Option Nat} {ty' : TypeId} {pos : String} {af : Array Edge} {op : Op} {j d : Nat} {b c : Bool} (hj : (ops[j]?).bind (·.dst) = some d) (hl : lookF fr d = some (.d (.v (.bool c)))) (hbc : (c == b) = false) (hd : dstOk n dst = true)
  (h : SD GB C n E (putF fr dst (.d (.v undef))) own bs (wpL P ops Q r)) : SD GB C n E fr own bs (wpL P ops Q (⟨dst, op, ty', pos, af, some (j, b)⟩ :: r)) := by
 refine ⟨fun G frv ov s => ?_⟩
 obtain ⟨u, hu, hu'⟩ := s.fr.look hl
 rw [isF_v.1 hu'] at hu
 refine st_skip rfl hj (look_appS hu) hbc hd ?_
 show St _ _ (put _ dst _) _ _ _
 rw [put_app]
 exact h G _ ov ⟨s.gb, s.fr.put (isF_v.2 rfl) _, s.ob⟩
theorem tU {dst : Option Nat} {ty' : TypeId} {pos : String} {af : Array Edge} {op : Op} {j d : Nat} {b : Bool} (hj : (ops[j]?).bind (·.dst) = some d) (hl : lookF fr d = some (.d (.v undef))) (hd : dstOk n dst = true)
  (h : SD GB C n E (putF fr dst (.d (.v undef))) own bs (wpL P ops Q r)) : SD GB C n E fr own bs (wpL P ops Q (⟨dst, op, ty', pos, af, some (j, b)⟩ :: r)) := by
 refine ⟨fun G frv ov s => ?_⟩
 obtain ⟨u, hu, hu'⟩ := s.fr.look hl
 rw [isF_v.1 hu'] at hu
 refine ssu hj (look_appS hu) hd ?_
 rw [put_app]
 exact h G _ ov ⟨s.gb, s.fr.put (isF_v.2 rfl) _, s.ob⟩
theorem tC {dst : Option Nat} {ty' : TypeId} {pos : String} {af : Array Edge} {op : Op} (h : TD P GB C n fr own bs ⟨dst, op, ty', pos, af, none⟩ fr' own' bs') (k : SD GB C n E fr' own' bs' (wpL P ops Q r)) : SD GB C n E fr own bs (wpL P ops Q (⟨dst, op, ty', pos, af, none⟩ :: r)) :=
 ⟨fun G frv ov s => st_ch rfl (h GB E _ (GLe.refl _) k G frv ov s)⟩
theorem tF {dst : Option Nat} {ty' : TypeId} {pos : String} {af : Array Edge} {op : Op} {ι : Type} {fr' : ι → FrF} {own' : ι → List OwnD} {bs' : ι → List BufD} (h : TF P GB C n fr own bs ⟨dst, op, ty', pos, af, none⟩ ι fr' own' bs') (k : ∀ x, SD GB C n E (fr' x) (own' x) (bs' x) (wpL P ops Q r)) : SD GB C n E fr own bs (wpL P ops Q (⟨dst, op, ty', pos, af, none⟩ :: r)) :=
 ⟨fun G frv ov s => st_ch rfl (h GB E _ (GLe.refl _) k G frv ov s)⟩
theorem tCg {dst : Option Nat} {ty' : TypeId} {pos : String} {af : Array Edge} {op : Op} {j d : Nat} {b : Bool} (hj : (ops[j]?).bind (·.dst) = some d) (hl : lookF fr d = some (.d (.v (.bool b)))) (h : TD P GB C n fr own bs ⟨dst, op, ty', pos, af, some (j, b)⟩ fr' own' bs') (k : SD GB C n E fr' own' bs' (wpL P ops Q r)) : SD GB C n E fr own bs (wpL P ops Q (⟨dst, op, ty', pos, af, some (j, b)⟩ :: r)) := by
 refine ⟨fun G frv ov s => ?_⟩
 obtain ⟨u, hu, hu'⟩ := s.fr.look hl
 rw [isF_v.1 hu'] at hu
 exact st_chg rfl hj (look_appS hu) (h GB E _ (GLe.refl _) k G frv ov s)
/-! ### code -/
theorem sd_end (h : SD GB C n E fr own bs (Q .normal)) : SD GB C n E fr own bs (wpL P ops Q []) := h
theorem sd_region {id : Nat} (h : SD GB C n E fr own bs (wpL P ops Q ops.toList)) : SD GB C n E fr own bs ((Code.region id ops false).wp P Q) := ⟨fun G frv ov s => st_region (h G frv ov s)⟩
def seqQ (P : Program) (y : Code) (Q : Exit → Act → World → Prop) : Exit → Act → World → Prop := Exit.then (y.wp P Q) Q
theorem sd_seq {x y : Code} (h : SD GB C n E fr own bs (x.wp P (seqQ P y Q))) : SD GB C n E fr own bs ((Code.seq x y).wp P Q) := ⟨fun G frv ov s => st_seq (h G frv ov s)⟩
theorem sd_skipc (h : SD GB C n E fr own bs (Q .normal)) : SD GB C n E fr own bs (Code.skip.wp P Q) := ⟨fun G frv ov s => st_skipc (h G frv ov s)⟩
theorem sd_ret (h : SD GB C n E fr own bs (Q .ret)) : SD GB C n E fr own bs (Code.ret.wp P Q) := ⟨fun G frv ov s => st_ret (h G frv ov s)⟩
theorem sd_exit {id : Nat} (h : SD GB C n E fr own bs (Q (.exit id))) : SD GB C n E fr own bs ((Code.exit id).wp P Q) := ⟨fun G frv ov s => st_exit (h G frv ov s)⟩
theorem sd_block {id : Nat} {c : Code} (h : SD GB C n E fr own bs (c.wp P (Exit.inBlock id Q))) : SD GB C n E fr own bs ((Code.block id c).wp P Q) := ⟨fun G frv ov s => st_block (h G frv ov s)⟩
theorem sd_inBlock_eq {id : Nat} (h : SD GB C n E fr own bs (Q .normal)) : SD GB C n E fr own bs (Exit.inBlock id Q (.exit id)) := ⟨fun G frv ov s => st_inBlock_eq (h G frv ov s)⟩
theorem sd_te {K : Act → World → Prop} {id : Nat} (h : SD GB C n E fr own bs (Q (.exit id))) : SD GB C n E fr own bs (Exit.then K Q (.exit id)) := h
theorem sd_ts {y : Code} {id : Nat} (h : SD GB C n E fr own bs (Q (.exit id))) : SD GB C n E fr own bs (seqQ P y Q (.exit id)) := h
theorem sd_condT {c : Operand} {x y : Code} (hc : opF fr c = some (.d (.v (.bool true)))) (h : SD GB C n E fr own bs (x.wp P Q)) : SD GB C n E fr own bs ((Code.cond c x y).wp P Q) := ⟨fun G frv ov s => st_condT (opv_app (s.fr.opv hc)) (h G frv ov s)⟩
theorem sd_condF {c : Operand} {x y : Code} (hc : opF fr c = some (.d (.v (.bool false)))) (h : SD GB C n E fr own bs (y.wp P Q)) : SD GB C n E fr own bs ((Code.cond c x y).wp P Q) := ⟨fun G frv ov s => st_condF (opv_app (s.fr.opv hc)) (h G frv ov s)⟩
theorem sd_condP {p : Prop} {inst : Decidable p} {c : Operand} {x y : Code} (hc : opF fr c = some (.d (.v (.bool (@decide p inst))))) (h1 : p → SD GB C n E fr own bs (x.wp P Q)) (h2 : ¬ p → SD GB C n E fr own bs (y.wp P Q)) : SD GB C n E fr own bs ((Code.cond c x y).wp P Q) :=
 ⟨fun G frv ov s => st_condP (opv_app (s.fr.opv hc)) (fun h => h1 h G frv ov s) (fun h => h2 h G frv ov s)⟩
theorem sd_condB {b : Bool} {c : Operand} {x y : Code} (hc : opF fr c = some (.d (.v (.bool b)))) (h1 : b = true → SD GB C n E fr own bs (x.wp P Q)) (h2 : b = false → SD GB C n E fr own bs (y.wp P Q)) : SD GB C n E fr own bs ((Code.cond c x y).wp P Q) :=
 ⟨fun G frv ov s => st_condB (opv_app (s.fr.opv hc)) (fun h => h1 h G frv ov s) (fun h => h2 h G frv ov s)⟩
theorem sd_case (d : Nat) {b : Bool} (hl : lookF fr d = some (.d (.v (.bool b)))) (h1 : b = true → SD GB C n E ((d, .d (.v (.bool true))) :: fr) own bs Φ) (h2 : b = false → SD GB C n E ((d, .d (.v (.bool false))) :: fr) own bs Φ) : SD GB C n E fr own bs Φ := by
 refine ⟨fun G frv ov s => ?_⟩
 obtain ⟨u, hu, hu'⟩ := s.fr.look hl
 rw [isF_v.1 hu'] at hu
 exact st_case d (look_appS hu) (fun h => h1 h G ((d, _) :: frv) ov ⟨s.gb, ⟨_, _, rfl, isF_v.2 rfl, s.fr⟩, s.ob⟩) (fun h => h2 h G ((d, _) :: frv) ov ⟨s.gb, ⟨_, _, rfl, isF_v.2 rfl, s.fr⟩, s.ob⟩)
theorem sd_caseP (d : Nat) {p : Prop} {inst : Decidable p} (hl : lookF fr d = some (.d (.v (.bool (@decide p inst))))) (h1 : p → SD GB C n E ((d, .d (.v (.bool true))) :: fr) own bs Φ) (h2 : ¬ p → SD GB C n E ((d, .d (.v (.bool false))) :: fr) own bs Φ) : SD GB C n E fr own bs Φ :=
 sd_case d hl (fun h => h1 (of_decide_eq_true h)) (fun h => h2 (of_decide_eq_false h))
/-! ### another spelling of the state -/
def FrLF (fr' fr : FrF) : Prop := ∀ e ∈ fr', lookF fr e.1 = some e.2
theorem FrLF.nil : FrLF [] fr := fun _ h => by cases h
theorem FrLF.cons {k : Nat} {v : FV} (h : lookF fr k = some v) (t : FrLF fr' fr) : FrLF ((k, v) :: fr') fr := fun e he => by
 rcases List.mem_cons.1 he with rfl | he
 · exact h
 · exact t _ he
theorem FrLF.cons' {k : Nat} {v u : FV} (h : lookF fr k = some u) (e : u = v) (t : FrLF fr' fr) : FrLF ((k, v) :: fr') fr := .cons (e ▸ h) t
theorem FrIs.sub {G : Gh} {frv : Fr} (h : FrIs G fr frv) : ∀ {fr' : FrF}, FrLF fr' fr → ∃ m, FrIs G fr' m ∧ FrLe m frv
 | [], _ => ⟨[], rfl, fun _ _ h => by cases h⟩
 | (k, f) :: t, hl => by
   obtain ⟨y, hy, hf⟩ := h.look (hl _ List.mem_cons_self)
   obtain ⟨m, hm, hle⟩ := h.sub (fun e he => hl e (List.mem_cons_of_mem _ he))
   exact ⟨(k, y) :: m, ⟨y, m, rfl, hf, hm⟩, FrLe.cons hy hle⟩
/-! ### loops, and where ways meet again -/
def AgainD (GB : Gh) (C : Ctx) (n : Nat) {X : Type} (F : X → FrF) (O : X → List OwnD) (B : X → List BufD) (I : X → Prop) (μ : X → Nat) (m : Nat) (a : Act) (w : World) : Prop :=
 ∃ x G frv ov, I x ∧ μ x < m ∧ Sr GB G (F x) (O x) (B x) frv ov ∧ Rel C n frv ov G a w
theorem Sr.gbd {G : Gh} {frv : Fr} {ov : List Own} {GB' : Gh} (h : Sr GB' G fr own bs frv ov) (k : GLe GB GB') : Sr GB G fr own bs frv ov := ⟨k.trans h.gb, h.fr, h.ob⟩
theorem SD.gbu {GB' : Gh} (h : SD GB C n E fr own bs Φ) (k : GLe GB GB') : SD GB' C n E fr own bs Φ := ⟨fun G frv ov s => h G frv ov (s.gbd k)⟩
theorem sd_loop {c : Code} {X : Type} (F : X → FrF) (O : X → List OwnD) (B : X → List BufD) (I : X → Prop) (μ : X → Nat) (x0 : X) (hI : I x0) (hF : FrLF (F x0) fr) (hO : O x0 = own) (hB : B x0 = bs)
   (round : ∀ GB', GLe GB GB' → ∀ x, I x → SD GB' C n E0 (F x) (O x) (B x) (c.wp P (Exit.then (AgainD GB' C n F O B I μ (μ x)) Q))) : SD GB C n E0 fr own bs ((Code.loop c).wp P Q) := by
 refine ⟨fun G frv ov s => ?_⟩
 subst hO hB
 obtain ⟨m, hm, hl⟩ := s.fr.sub hF
 simp only [E0, List.append_nil]
 refine st_loop (X := X × Fr × List Own) (fun x => x.2.1) (fun x => x.2.2) (fun x G' => I x.1 ∧ Sr GB G' (F x.1) (O x.1) (B x.1) x.2.1 x.2.2) (fun x => μ x.1) (x0, m, ov) ⟨hI, s.gb, hm, s.ob⟩ hl rfl ?_
 rintro ⟨x, frv', ov'⟩ G' _ ⟨hx, hs⟩
 have h := round G' hs.gb x hx G' frv' ov' ⟨GLe.refl _, hs.fr, hs.ob⟩
 simp only [E0, List.append_nil] at h
 intro a w rl
 refine wp_mono (h a w rl) ?_
 intro e a' w' hk
 cases e with
 | normal =>
   obtain ⟨x', G2, frv2, ov2, hI2, hmu, hs2, hr2⟩ := hk
   exact ⟨(x', frv2, ov2), G2, hs2.gb, ⟨hI2, hs2.gbd hs.gb⟩, hmu, hr2⟩
 | _ => exact hk
theorem sd_again {X : Type} {F : X → FrF} {O : X → List OwnD} {B : X → List BufD} {I : X → Prop} {μ : X → Nat} {m : Nat} (x : X) (hI : I x) (hμ : μ x < m) (hF : FrLF (F x) fr) (hO : O x = own) (hB : B x = bs) : SD GB C n E0 fr own bs (AgainD GB C n F O B I μ m) := by
 refine ⟨fun G frv ov s => ?_⟩
 intro a w rl
 subst hO hB
 obtain ⟨m, hm, hl⟩ := s.fr.sub hF
 simp only [E0, List.append_nil] at rl
 exact ⟨x, G, m, ov, hI, hμ, ⟨s.gb, hm, s.ob⟩, ⟨rl.h, rl.sz, fun k v hk => rl.fr _ _ (hl _ _ hk), rl.df⟩⟩
def AtD (GB : Gh) (C : Ctx) (n : Nat) {X : Type} (F : X → FrF) (O : X → List OwnD) (B : X → List BufD) (I : X → Prop) (a : Act) (w : World) : Prop :=
 ∃ x G frv ov, I x ∧ Sr GB G (F x) (O x) (B x) frv ov ∧ Rel C n frv ov G a w
theorem sd_cut {c d : Code} (X : Type) (F : X → FrF) (O : X → List OwnD) (B : X → List BufD) (I : X → Prop) (h1 : SD GB C n E0 fr own bs (c.wp P (Exit.then (AtD GB C n F O B I) Q)))
   (h2 : ∀ x, I x → SD GB C n E0 (F x) (O x) (B x) (d.wp P Q)) : SD GB C n E0 fr own bs ((Code.seq c d).wp P Q) := by
 refine ⟨fun G frv ov s => ?_⟩
 intro a w rl
 refine wp_seq (wp_mono (h1 G frv ov s a w rl) ?_)
 intro e a w h
 cases e with
 | normal =>
   obtain ⟨x, G', frv', ov', hI, hs, hr⟩ := h
   have := h2 x hI G' frv' ov' hs
   simp only [E0, List.append_nil] at this
   exact this a w hr
 | _ => exact h
theorem sd_at {X : Type} {F : X → FrF} {O : X → List OwnD} {B : X → List BufD} {I : X → Prop} (x : X) (hI : I x) (hF : FrLF (F x) fr) (hO : O x = own) (hB : B x = bs) : SD GB C n E0 fr own bs (AtD GB C n F O B I) := by
 refine ⟨fun G frv ov s => ?_⟩
 intro a w rl
 subst hO hB
 obtain ⟨m, hm, hl⟩ := s.fr.sub hF
 simp only [E0, List.append_nil] at rl
 exact ⟨x, G, m, ov, hI, ⟨s.gb, hm, s.ob⟩, ⟨rl.h, rl.sz, fun k v hk => rl.fr _ _ (hl _ _ hk), rl.df⟩⟩
/-! ### calls and results -/
def PF (GB : Gh) (P : Program) (f : FuncId) (ds : List DV) (r : DV) : Prop :=
 ∀ G vs, GLe GB G → IsLs G ds vs → Fn P f vs G (fun v G' => Is G' r v)
def PM (GB : Gh) (P : Program) (f : FuncId) (ds : List DV) (b : Nat) (ty : TypeId) (cs : List DV) (r : DV) (cs' : List DV) : Prop :=
 ∀ G vs m lo, GLe GB G → IsLs G ds vs → IsLs G cs m → FnM P f vs [⟨b, m, ty, lo⟩] G (fun v css G' => Is G' r v ∧ ∃ m', css = [m'] ∧ IsLs G' cs' m')
def args0F : Nat → List DV → FrF
 | _, [] => []
 | i, v :: t => (i, .d v) :: args0F (i + 1) t
theorem FrIs.args0 {G : Gh} : ∀ {ds : List DV} {vs : List Value} (i : Nat), IsLs G ds vs → FrIs G (args0F i ds) (args0 i vs)
 | [], vs, i, h => by rw [isl_nil.1 h]; rfl
 | d :: t, vs, i, h => by
   obtain ⟨y, m, rfl, h1, h2⟩ := isl_cons.1 h
   exact ⟨y, _, rfl, h1, FrIs.args0 (i + 1) h2⟩
inductive RVD (P : Program) (fr : FrF) (own : List OwnD) : List ResultVar → List DV → Prop
 | nil : RVD P fr own [] []
 | tmp {t : Nat} {v : DV} {rs : List ResultVar} {vs : List DV} (h : (lookF fr t).bind toD = some v) (k : RVD P fr own rs vs) : RVD P fr own (.tmp t :: rs) (v :: vs)
 | agg {a b k : Nat} {t : TypeId} {cs l : List DV} {ty : TypeId} {lo : Bool} {rs : List ResultVar} {vs : List DV} (h : lookF fr a = some (.d (.v (.pointer (some ⟨b, 0, none⟩))))) (ho : OAtD own b cs ty lo) (ht : TyA P t k) (hl : takeD cs 0 k = some l) (h2 : RVD P fr own rs vs) :
     RVD P fr own (.cell a t :: rs) (.ag l :: vs)
 | sc {a b : Nat} {t : TypeId} {cs : List DV} {v : DV} {ty : TypeId} {lo : Bool} {rs : List ResultVar} {vs : List DV} (h : lookF fr a = some (.d (.v (.pointer (some ⟨b, 0, none⟩))))) (ho : OAtD own b cs ty lo) (ht : TyS P t) (hl : cs[0]? = some v) (h2 : RVD P fr own rs vs) :
     RVD P fr own (.cell a t :: rs) (v :: vs)
theorem OwnsIs.mem {G : Gh} : ∀ {own : List OwnD} {m : List Own} {o : OwnD}, OwnsIs G own m → o ∈ own → ∃ cs, ⟨o.b, cs, o.ty, o.lo⟩ ∈ m ∧ IsLs G o.cs cs
 | [], m, o, h, k => by cases k
 | x :: t, m, o, ⟨cs, n, e, h1, h2⟩, k => by
   subst e
   rcases List.mem_cons.1 k with rfl | k
   · exact ⟨cs, List.mem_cons_self, h1⟩
   · obtain ⟨cs', h3, h4⟩ := OwnsIs.mem h2 k
     exact ⟨cs', List.mem_cons_of_mem _ h3, h4⟩
theorem OB.mem {G : Gh} {ov : List Own} (h : OB G own bs ov) {o : OwnD} (k : o ∈ own) : ∃ cs, ⟨o.b, cs, o.ty, o.lo⟩ ∈ ov ∧ IsLs G o.cs cs := by
 obtain ⟨a, b, rfl, h1, h2⟩ := h
 obtain ⟨cs, h3, h4⟩ := OwnsIs.mem h1 k
 exact ⟨cs, List.mem_append_left _ h3, h4⟩
theorem RVD.rvs {G : Gh} {frv : Fr} {ov : List Own} {rs : List ResultVar} {ds : List DV} (h : RVD P fr own rs ds) (hf : FrIs G fr frv) (ho : OB G own bs ov) : ∃ vs, RVs P frv ov rs vs ∧ IsLs G ds vs := by
 induction h with
 | nil => exact ⟨[], .nil, .nil⟩
 | tmp h k ih =>
   obtain ⟨vs, h1, h2⟩ := ih
   obtain ⟨y, hy, hy'⟩ := hf.opD (x := .tmp _) h
   exact ⟨y :: vs, .tmp hy h1, .cons hy' h2⟩
 | agg h hm ht hl h2 ih =>
   obtain ⟨vs, h1, h2⟩ := ih
   obtain ⟨cs, h3, h4⟩ := ho.mem hm.mem
   obtain ⟨l', h5, h6⟩ := h4.takeD hl
   obtain ⟨y, hy, hy'⟩ := hf.look h
   rw [isF_v.1 hy'] at hy
   exact ⟨.agg ⟨l'⟩ :: vs, .agg hy ⟨h3⟩ ht h5 h1, .cons (is_ag.2 ⟨l', rfl, h6⟩) h2⟩
 | sc h hm ht hl h2 ih =>
   obtain ⟨vs, h1, h2⟩ := ih
   obtain ⟨cs, h3, h4⟩ := ho.mem hm.mem
   obtain ⟨l', h5, h6⟩ := h4.get hl
   obtain ⟨y, hy, hy'⟩ := hf.look h
   rw [isF_v.1 hy'] at hy
   exact ⟨l' :: vs, .sc hy ⟨h3⟩ ht h5 h1, .cons h6 h2⟩
def tupD : List DV → DV
 | [d] => d
 | l => .tp l
theorem tupD_is {G : Gh} {ds : List DV} {vs : List Value} (h : IsLs G ds vs) : Is G (tupD ds) (tupled vs) := by
 match ds, h with
 | [], h => rw [isl_nil.1 h]; exact is_tp.2 ⟨[], rfl, .nil⟩
 | [d], h =>
   obtain ⟨y, m, rfl, h1, h2⟩ := isl_cons.1 h
   rw [isl_nil.1 h2]
   exact h1
 | a :: b :: t, h =>
   obtain ⟨y, m, rfl, h1, h2⟩ := isl_cons.1 h
   obtain ⟨z, m', rfl, h3, h4⟩ := isl_cons.1 h2
   exact is_tp.2 ⟨_, rfl, h⟩
theorem sd_done {fn : Func} {r : DV} {ds : List DV} (hr : RVD P fr own fn.results.toList ds) (e : tupD ds = r) : SD GB C n E0 fr own bs (bodyPost P fn (RPost C (fun v G' => Is G' r v)) .ret) := by
 refine ⟨fun G frv ov s => ?_⟩
 obtain ⟨vs, h1, h2⟩ := hr.rvs s.fr s.ob
 simp only [E0, List.append_nil]
 exact st_done h1 (e ▸ tupD_is h2)
theorem PF.intro {f : FuncId} {fn : Func} {c : Code} {m : Nat} {ds : List DV} {r : DV} (hf : P.funcs[f]? = some fn) (hb : fn.body = some c) (hn : (fn.name == "runtime.NumGoroutine") = false) (hm : fn.ntmps = m) (hlen : Nat.ble ds.length m = true)
  (h : ∀ C : Ctx, SD GB C m E0 (args0F 0 ds) [] [] (c.wp P (bodyPost P fn (RPost C (fun v G' => Is G' r v))))) : PF GB P f ds r := by
 intro G vs hg hv
 refine Fn.intro hf hb hn hm (by rw [hv.len]; exact hlen) fun C _ _ => ?_
 have := h C G _ [] ⟨hg, FrIs.args0 0 hv, [], [], rfl, rfl, rfl⟩
 simpa only [E0, List.append_nil] using this
end
theorem qR {P : Program} {GB : Gh} {C : Ctx} {n : Nat} {E : Ext} {fr : FrF} {own : List OwnD} {bs : List BufD} {Q : Exit → Act → World → Prop} {id : Nat} {ops : Array Oper} {y : Code} (h : SD GB C n E fr own bs (wpL P ops (seqQ P y Q) ops.toList)) : SD GB C n E fr own bs ((Code.seq (Code.region id ops false) y).wp P Q) := sd_seq (sd_region h)
end Go.Sx
end

section
set_option maxRecDepth 100000
namespace Go.Sx
open Go
theorem takeL_len {cs l : List Value} {o k : Nat} (h : takeL cs o k = some l) : l.length = k := (takeL_spec _ _ _ _ h).1
theorem takeL_dr : ∀ {cs m : List Value} {o k : Nat}, takeL cs o k = some m → ∀ {d : Nat}, d ≤ k → takeL cs (o + d) (k - d) = some (m.drop d)
 | cs, m, o, k, h, 0, _ => by simpa using h
 | [], m, 0, 0, h, d + 1, hd => by omega
 | v :: t, m, 0, 0, h, d + 1, hd => by omega
 | [], m, 0, k + 1, h, d + 1, hd => by simp [takeL] at h
 | v :: t, m, 0, k + 1, h, d + 1, hd => by
   simp only [takeL] at h
   split at h
   · rename_i l hl
     cases h
     have := takeL_dr hl (d := d) (by omega)
     rw [Nat.zero_add] at this
     rw [Nat.zero_add, Nat.add_sub_add_right, List.drop_succ_cons]
     exact this
   · cases h
 | [], m, o + 1, k, h, d + 1, hd => by simp [takeL] at h
 | v :: t, m, o + 1, k, h, d + 1, hd => by
   simp only [takeL] at h
   have := takeL_dr h (d := d + 1) hd
   rw [show o + 1 + (d + 1) = (o + (d + 1)) + 1 by omega]
   exact this
theorem takeL_pre : ∀ {cs m : List Value} {o k : Nat}, takeL cs o k = some m → ∀ {j : Nat}, j ≤ k → takeL cs o j = some (m.take j)
 | cs, m, 0, k, h, 0, _ => by cases cs <;> rfl
 | [], m, 0, 0, h, j + 1, hd => by omega
 | v :: t, m, 0, 0, h, j + 1, hd => by omega
 | [], m, 0, k + 1, h, j + 1, hd => by simp [takeL] at h
 | v :: t, m, 0, k + 1, h, j + 1, hd => by
   simp only [takeL] at h
   split at h
   · rename_i l hl
     cases h
     have := takeL_pre hl (j := j) (by omega)
     simp [takeL, this]
   · cases h
 | [], m, o + 1, k, h, j, hd => by simp [takeL] at h
 | v :: t, m, o + 1, k, h, j, hd => by
   simp only [takeL] at h ⊢
   exact takeL_pre h hd
theorem takeL_eq {m l : List Value} {j k : Nat} (h : takeL m j k = some l) : j + k ≤ m.length ∧ l = (m.drop j).take k := by
 obtain ⟨h1, h2⟩ := takeL_spec _ _ _ _ h
 have hle : j ≤ m.length := by
   clear h1 h2
   induction m generalizing j with
   | nil => cases j with
     | zero => exact Nat.le_refl _
     | succ j => simp [takeL] at h
   | cons v t ih => cases j with
     | zero => exact Nat.zero_le _
     | succ j => have := ih (j := j) h; simp; omega
 have hlen : j + k ≤ m.length := by
   rcases Nat.eq_zero_or_pos k with h0 | h0
   · omega
   · have h3 := h2 (k - 1) (by omega)
     rw [List.getElem?_eq_getElem (by omega : k - 1 < l.length)] at h3
     have := (List.getElem?_eq_some_iff.1 h3).1
     omega
 rw [takeL_of _ _ _ hlen] at h
 cases h
 exact ⟨hlen, rfl⟩
theorem takeL_sub {cs m l : List Value} {o s j k : Nat} (h : takeL cs o s = some m) (hm : takeL m j k = some l) : takeL cs (o + j) k = some l := by
 obtain ⟨h1, rfl⟩ := takeL_eq hm
 have hl := takeL_len h
 have h2 := takeL_dr h (d := j) (by omega)
 exact takeL_pre h2 (j := k) (by omega)
theorem takeL_one {cs : List Value} {o : Nat} {v : Value} : takeL cs o 1 = some [v] ↔ cs[o]? = some v := by
 constructor
 · intro h
   obtain ⟨_, h2⟩ := takeL_spec _ _ _ _ h
   simpa using h2 0 (by omega)
 · intro h
   obtain ⟨h1, h2⟩ := List.getElem?_eq_some_iff.1 h
   rw [takeL_of _ _ _ (by omega), List.drop_eq_getElem_cons h1, List.take_succ_cons, h2]
   rfl
theorem get_of_takeL {m l : List Value} {j k i : Nat} (h : takeL m j k = some l) (hi : i < k) : m[j + i]? = l[i]? := (takeL_spec _ _ _ _ h).2 i hi
/-! ### lenses -/
inductive OUpdD : List OwnD → Nat → List DV → TypeId → Bool → List DV → List OwnD → Prop
 | hd (b : Nat) (cs cs' : List DV) (ty : TypeId) (lo : Bool) (t : List OwnD) : OUpdD (⟨b, cs, ty, lo⟩ :: t) b cs ty lo cs' (⟨b, cs', ty, lo⟩ :: t)
 | tl (o : OwnD) (t t' : List OwnD) (b : Nat) (cs cs' : List DV) (ty : TypeId) (lo : Bool) (h : OUpdD t b cs ty lo cs' t') : OUpdD (o :: t) b cs ty lo cs' (o :: t')
inductive ORemD : List OwnD → Nat → List DV → TypeId → Bool → List OwnD → Prop
 | hd (b : Nat) (cs : List DV) (ty : TypeId) (lo : Bool) (t : List OwnD) : ORemD (⟨b, cs, ty, lo⟩ :: t) b cs ty lo t
 | tl (o : OwnD) (t t' : List OwnD) (b : Nat) (cs : List DV) (ty : TypeId) (lo : Bool) (h : ORemD t b cs ty lo t') : ORemD (o :: t) b cs ty lo (o :: t')
inductive BRemD : List BufD → BufD → List BufD → Prop
 | hd (β : BufD) (t : List BufD) : BRemD (β :: t) β t
 | tl (o : BufD) (t t' : List BufD) (β : BufD) (h : BRemD t β t') : BRemD (o :: t) β (o :: t')
theorem OUpdD.lens {A : Gh} {own own' : List OwnD} {b : Nat} {cs cs' : List DV} {ty : TypeId} {lo : Bool} (h : OUpdD own b cs ty lo cs' own') : ∀ {a : List Own}, OwnsIs A own a →
   ∃ m a1 a2, a = a1 ++ ⟨b, m, ty, lo⟩ :: a2 ∧ IsLs A cs m ∧ ∀ G m', GLe A G → IsLs G cs' m' → OwnsIs G own' (a1 ++ ⟨b, m', ty, lo⟩ :: a2) := by
 induction h with
 | hd b cs cs' ty lo t =>
   rintro a ⟨m, n, rfl, h1, h2⟩
   exact ⟨m, [], n, rfl, h1, fun G m' hg hm => ⟨m', n, rfl, hm, h2.up hg⟩⟩
 | tl o t t' b cs cs' ty lo h ih =>
   rintro a ⟨m, n, rfl, h1, h2⟩
   obtain ⟨m2, a1, a2, rfl, h3, h4⟩ := ih h2
   exact ⟨m2, ⟨o.b, m, o.ty, o.lo⟩ :: a1, a2, rfl, h3, fun G m' hg hm => ⟨m, _, rfl, h1.up hg, h4 G m' hg hm⟩⟩
theorem BRemD.lens {A : Gh} {bs bs' : List BufD} {β : BufD} (h : BRemD bs β bs') : ∀ {a : List Own}, BufsIs A bs a →
   ∃ B a1 a2, a = a1 ++ (B ++ a2) ∧ BufIs A β B ∧ BufsIs A bs' (a1 ++ a2) := by
 induction h with
 | hd β t =>
   rintro a ⟨B, n, rfl, h1, h2⟩
   exact ⟨B, [], n, rfl, h1, h2⟩
 | tl o t t' β h ih =>
   rintro a ⟨B, n, rfl, h1, h2⟩
   obtain ⟨B2, a1, a2, rfl, h3, h4⟩ := ih h2
   exact ⟨B2, B ++ a1, a2, by rw [List.append_assoc], h3, by rw [List.append_assoc]; exact ⟨B, _, rfl, h1, h4⟩⟩
theorem BufsIs.mem {G : Gh} : ∀ {bs : List BufD} {m : List Own} {o : BufD}, BufsIs G bs m → o ∈ bs → ∃ B, BufIs G o B ∧ ∀ x ∈ B, x ∈ m
 | [], m, o, h, k => by cases k
 | x :: t, m, o, ⟨B, n, e, h1, h2⟩, k => by
   subst e
   rcases List.mem_cons.1 k with rfl | k
   · exact ⟨B, h1, fun x hx => List.mem_append_left _ hx⟩
   · obtain ⟨B', h3, h4⟩ := BufsIs.mem h2 k
     exact ⟨B', h3, fun x hx => List.mem_append_right _ (h4 x hx)⟩
theorem OUpd.mid {b : Nat} {cs cs' : List Value} {ty : TypeId} {lo : Bool} {r : List Own} : ∀ l : List Own, OUpd (l ++ ⟨b, cs, ty, lo⟩ :: r) b cs ty lo cs' (l ++ ⟨b, cs', ty, lo⟩ :: r)
 | [] => .hd ..
 | o :: l => .tl _ _ _ _ _ _ _ _ (OUpd.mid l)
theorem ORem.mid {o : Own} {r : List Own} : ∀ l : List Own, ORem (l ++ o :: r) o (l ++ r)
 | [] => .hd ..
 | x :: l => .tl _ _ _ _ (ORem.mid l)
section
variable {P : Program} {GB : Gh} {C : Ctx} {n : Nat} {E : Ext} {fr fr' : FrF} {own own' : List OwnD} {bs bs' : List BufD} {ops : Array Oper} {Q : Exit → Act → World → Prop} {r : List Oper} {Φ : Act → World → Prop}
variable {dst : Option Nat} {t t' ty' : TypeId} {pos : String} {af : Array Edge} {gd : Option (Nat × Bool)} {x y z : Operand} {e s by_ : Nat}
theorem YD.of1 {o : Oper} {v u : Value} (hx : opF fr x = some (.d (.v v))) (h : ∀ {frv : Fr} {ov : List Own} {G : Gh}, opv frv x = some v → Yd P C frv ov G o u) : YD P GB C fr own bs o (.d (.v u)) :=
 fun G frv ov s => ⟨u, isF_v.2 rfl, fun _ _ => h (s.fr.opv hx)⟩
theorem YD.of2 {o : Oper} {v w u : Value} (hx : opF fr x = some (.d (.v v))) (hy : opF fr y = some (.d (.v w))) (h : ∀ {frv : Fr} {ov : List Own} {G : Gh}, opv frv x = some v → opv frv y = some w → Yd P C frv ov G o u) : YD P GB C fr own bs o (.d (.v u)) :=
 fun G frv ov s => ⟨u, isF_v.2 rfl, fun _ _ => h (s.fr.opv hx) (s.fr.opv hy)⟩
theorem YD.same {o : Oper} {f : FV} (hx : opF fr x = some f) (h : ∀ {frv : Fr} {ov : List Own} {G : Gh} {v : Value}, opv frv x = some v → IsF G f v → Yd P C frv ov G o v) : YD P GB C fr own bs o f := by
 intro G frv ov s
 obtain ⟨u, h1, h2⟩ := s.fr.op hx
 exact ⟨u, h2, fun G' hg => h h1 (h2.up hg)⟩
theorem yq_move {f : FV} (hx : opF fr x = some f) : YD P GB C fr own bs ⟨dst, .move x, ty', pos, af, gd⟩ f := .same hx fun h _ => yd_move h
theorem yq_assign {f : FV} (hx : opF fr x = some f) : YD P GB C fr own bs ⟨dst, .assign x, ty', pos, af, gd⟩ f := .same hx fun h _ => yd_assign h
theorem yq_pickT {f : FV} (hz : opF fr z = some (.d (.v (.bool true)))) (hx : opF fr x = some f) : YD P GB C fr own bs ⟨dst, .pick z x y, ty', pos, af, gd⟩ f := by
 intro G frv ov s
 obtain ⟨u, h1, h2⟩ := s.fr.op hx
 exact ⟨u, h2, fun G' hg => yd_pickT (s.fr.opv hz) h1⟩
theorem yq_pickF {f : FV} (hz : opF fr z = some (.d (.v (.bool false)))) (hx : opF fr y = some f) : YD P GB C fr own bs ⟨dst, .pick z x y, ty', pos, af, gd⟩ f := by
 intro G frv ov s
 obtain ⟨u, h1, h2⟩ := s.fr.op hx
 exact ⟨u, h2, fun G' hg => yd_pickF (s.fr.opv hz) h1⟩
theorem yq_nilT {l : List DV} (hx : opF fr x = some (.d (.pt l))) : YD P GB C fr own bs ⟨dst, .nilCheck x, ty', pos, af, gd⟩ (.ep l) := by
 intro G frv ov s
 obtain ⟨u, h1, h2⟩ := s.fr.op hx
 obtain ⟨b, m, rfl, hb, hm⟩ := is_pt.1 h2
 refine ⟨_, ⟨b, 0, m, m, rfl, hb, ?_, hm⟩, fun G' hg => yd_nilCheck h1⟩
 rw [takeL_of _ _ _ (by rw [hm.len]; omega), List.drop_zero, List.take_of_length_le (by rw [hm.len]; omega)]
theorem yq_faP {b o f off : Nat} [hF : TyF P t f off] (hx : opF fr x = some (.d (.v (.pointer (some ⟨b, o, none⟩))))) :
  YD P GB C fr own bs ⟨dst, .fieldAddr t x f, ty', pos, af, gd⟩ (.d (.v (.pointer (some ⟨b, o + off, none⟩)))) := .of1 hx fun h => yd_fieldAddr h
theorem yq_faE {l : List DV} {f off : Nat} [hF : TyF P t f off] (hx : opF fr x = some (.ep l)) (ho : Nat.ble off l.length = true) :
  YD P GB C fr own bs ⟨dst, .fieldAddr t x f, ty', pos, af, gd⟩ (.ep (l.drop off)) := by
 intro G frv ov s
 obtain ⟨u, h1, b, o, cs, m, rfl, hb, ht, hm⟩ := s.fr.op hx
 refine ⟨_, ⟨b, o + off, cs, m.drop off, rfl, hb, ?_, hm.drop _⟩, fun G' hg => yd_fieldAddr h1⟩
 rw [List.length_drop]
 exact takeL_dr ht (by simpa using ho)
theorem yq_faB {w : SV} {s i j f off : Nat} [hF : TyF P t f off] (hx : opF fr x = some (.be w s i j)) : YD P GB C fr own bs ⟨dst, .fieldAddr t x f, ty', pos, af, gd⟩ (.be w s i (j + off)) := by
 intro G frv ov s
 obtain ⟨u, h1, b, hb, rfl⟩ := s.fr.op hx
 exact ⟨_, ⟨b, hb, rfl⟩, fun G' hg => by rw [← Nat.add_assoc]; exact yd_fieldAddr h1⟩
/-! loads -/
theorem yq_ldO {b off k : Nat} {cs l : List DV} {lo : Bool} {ty : TypeId} (hx : opF fr x = some (.d (.v (.pointer (some ⟨b, off, none⟩))))) [ho : OAtD own b cs ty lo] [TyA P t k] (hl : takeD cs off k = some l) :
  YD P GB C fr own bs ⟨dst, .load t x, ty', pos, af, gd⟩ (.d (.ag l)) := by
 intro G frv ov s
 obtain ⟨m, h1, h2⟩ := s.ob.mem ho.mem
 obtain ⟨l', h3, h4⟩ := h2.takeD hl
 have : OAt ov b m ty lo := ⟨h1⟩
 exact ⟨.agg ⟨l'⟩, is_ag.2 ⟨l', rfl, h4⟩, fun G' hg => yd_load_own (s.fr.opv hx) h3⟩
theorem yq_ldO1 {b off : Nat} {cs : List DV} {d : DV} {lo : Bool} {ty : TypeId} (hx : opF fr x = some (.d (.v (.pointer (some ⟨b, off, none⟩))))) [ho : OAtD own b cs ty lo] [TyS P t] (hl : cs[off]? = some d) :
  YD P GB C fr own bs ⟨dst, .load t x, ty', pos, af, gd⟩ (.d d) := by
 intro G frv ov s
 obtain ⟨m, h1, h2⟩ := s.ob.mem ho.mem
 obtain ⟨l', h3, h4⟩ := h2.get hl
 have : OAt ov b m ty lo := ⟨h1⟩
 exact ⟨l', h4, fun G' hg => yd_load_own1 (s.fr.opv hx) h3⟩
theorem yq_ldE {k : Nat} {cs l : List DV} (hx : opF fr x = some (.ep cs)) [TyA P t k] (hl : takeD cs 0 k = some l) : YD P GB C fr own bs ⟨dst, .load t x, ty', pos, af, gd⟩ (.d (.ag l)) := by
 intro G frv ov s
 obtain ⟨u, h1, b, o, ms, m, rfl, hb, ht, hm⟩ := s.fr.op hx
 obtain ⟨l', h3, h4⟩ := hm.takeD hl
 exact ⟨.agg ⟨l'⟩, is_ag.2 ⟨l', rfl, h4⟩, fun G' hg => yd_load_gh h1 (hg _ _ hb) (by simpa using takeL_sub ht h3)⟩
theorem yq_ldE1 {cs : List DV} {d : DV} (hx : opF fr x = some (.ep cs)) [TyS P t] (hl : cs[0]? = some d) : YD P GB C fr own bs ⟨dst, .load t x, ty', pos, af, gd⟩ (.d d) := by
 intro G frv ov s
 obtain ⟨u, h1, b, o, ms, m, rfl, hb, ht, hm⟩ := s.fr.op hx
 obtain ⟨l', h3, h4⟩ := hm.get hl
 have hlen : 0 < cs.length := (List.getElem?_eq_some_iff.1 hl).1
 have := get_of_takeL ht hlen
 rw [Nat.add_zero] at this
 exact ⟨l', h4, fun G' hg => yd_load_gh1 h1 (hg _ _ hb) (by rw [this]; exact h3)⟩
theorem BufIs.elem {G : Gh} {β : BufD} {B : List Own} (h : BufIs G β B) {i : Nat} {d : DV} (hi : β.ds[i]? = some d) (hd : d.okc = true) :
   ∃ b m rest lo l, β.x.a = some ⟨b, 0, none⟩ ∧ B = [⟨b, m ++ rest, β.ty, lo⟩] ∧ takeL (m ++ rest) (i * β.s) β.s = some l ∧ IsLs G d.cells l := by
 obtain ⟨vs, hB, hv, hs, _⟩ := h
 obtain ⟨v, h1, h2⟩ := hv.get hi
 rcases hB with ⟨e, _, _⟩ | ⟨b, rest, lo, h3, h4, h5, h6, h7⟩
 · rw [e] at h1; simp at h1
 · obtain ⟨h8, h9⟩ := List.getElem?_eq_some_iff.1 h1
   refine ⟨b, flatL vs, rest, lo, cellsL v, by rw [h3], h4, ?_, (h2.cells hd).1⟩
   have := takeL_flat (rest := rest) hs h8
   rw [h9] at this
   exact this
theorem yq_ldB1 {w : SV} {i j sz : Nat} {ty : TypeId} {ds : List DV} {d c : DV} {lo : Bool} (hx : opF fr x = some (.be w sz i j)) [hb : BAtD bs w sz ty ds lo] [TyS P t] (hi : ds[i]? = some d) (hd : d.okc = true) (hl : d.cells[j]? = some c) :
  YD P GB C fr own bs ⟨dst, .load t x, ty', pos, af, gd⟩ (.d c) := by
 intro G frv ov s
 obtain ⟨u, h1, b, hwb, rfl⟩ := s.fr.op hx
 obtain ⟨p, q, rfl, _, hq⟩ := s.ob
 obtain ⟨B, hB, hmem⟩ := hq.mem hb.mem
 obtain ⟨b', m, rest, lo', l0, e1, rfl, h3, h4⟩ := hB.elem hi hd
 simp only [] at e1 h3
 rw [hwb] at e1; cases e1
 obtain ⟨l', h5, h6⟩ := h4.get hl
 have : OAt (p ++ q) b (m ++ rest) ty lo' := ⟨List.mem_append_right _ (hmem _ List.mem_cons_self)⟩
 have hj : j < sz := by
  have := takeL_len h3
  have h7 := (List.getElem?_eq_some_iff.1 h5).1
  omega
 exact ⟨l', h6, fun G' hg => yd_load_own1 h1 (by rw [get_of_takeL h3 hj]; exact h5)⟩
/-! structs, tuples -/
theorem yq_ext {ds : List DV} {i : Nat} {d : DV} (hx : opF fr x = some (.d (.tp ds))) (hv : ds[i]? = some d) : YD P GB C fr own bs ⟨dst, .extract x i, ty', pos, af, gd⟩ (.d d) := by
 intro G frv ov s
 obtain ⟨u, h1, h2⟩ := s.fr.op hx
 obtain ⟨m, rfl, hm⟩ := is_tp.1 h2
 obtain ⟨l', h3, h4⟩ := hm.get hv
 exact ⟨l', h4, fun G' hg => yd_extract h1 (by simpa using h3)⟩
def bldD (fr : FrF) (offs : List (Nat × Nat)) : List DV → List (Nat × Operand) → Option (List DV)
 | cs, [] => some cs
 | cs, (i, x) :: r => match offs[i]?, opD fr x with
   | some (off, k), some d => bif d.okc && (Nat.beq d.cells.length k && Nat.ble (off + k) cs.length) then bldD fr offs (ovD cs off d.cells) r else none
   | _, _ => none
theorem bldD_bld {G : Gh} {frv : Fr} (h : FrIs G fr frv) (offs : List (Nat × Nat)) : ∀ (ps : List (Nat × Operand)) (cs out : List DV) (m : List Value), bldD fr offs cs ps = some out → IsLs G cs m → ∃ l, bld frv offs m ps = some l ∧ IsLs G out l
 | [], cs, out, m, e, hm => by simp only [bldD] at e; cases e; exact ⟨m, rfl, hm⟩
 | (i, x) :: ps, cs, out, m, e, hm => by
   simp only [bldD] at e
   split at e
   · rename_i off k d ho hd
     cases hc : (d.okc && (Nat.beq d.cells.length k && Nat.ble (off + k) cs.length)) with
     | false => rw [hc] at e; cases e
     | true =>
       rw [hc] at e
       simp only [Bool.and_eq_true, Nat.beq_eq_true_eq, Nat.ble_eq] at hc
       obtain ⟨h1, h2, h3⟩ := hc
       replace h2 := Nat.eq_of_beq_eq_true h2
       obtain ⟨y, hy, hy'⟩ := h.opD hd
       obtain ⟨c1, _⟩ := hy'.cells h1
       have c2 := c1.len
       obtain ⟨l, hl1, hl2⟩ := bldD_bld h offs ps _ out _ e (hm.ov c1 (off := off))
       refine ⟨l, ?_, hl2⟩
       simp only [bld, ho, hy]
       rw [if_pos ⟨by rw [c2, h2], by rw [hm.len]; exact h3⟩]
       exact hl1
   · cases e
class TyZD (P : Program) (t : TypeId) (z : outParam Value) (cs : outParam (List DV)) : Prop where
 tz : TyZ P t z
 iz : IsLs (fun _ => none) cs (cellsL z)
theorem GLe.bot (G : Gh) : GLe (fun _ => none) G := fun _ _ h => by cases h
theorem yq_build {parts : Array (Nat × Operand)} {offs : List (Nat × Nat)} {z : Value} {cs out : List DV} [hT : TySt P t offs] [hz : TyZD P t z cs] (hb : bldD fr offs cs parts.toList = some out) : YD P GB C fr own bs ⟨dst, .build t parts, ty', pos, af, gd⟩ (.d (.ag out)) := by
 intro G frv ov s
 have hz1 := hz.tz
 obtain ⟨l, h1, h2⟩ := bldD_bld s.fr offs _ _ _ _ hb (hz.iz.up (GLe.bot G))
 exact ⟨.agg ⟨l⟩, is_ag.2 ⟨l, rfl, h2⟩, fun G' hg => yd_build h1⟩
/-! slices -/
theorem yq_len [hT : TySl P t e s by_] {l : List DV} (hx : opD fr x = some (.sl l)) : YD P GB C fr own bs ⟨dst, .call ⟨.builtin .len, #[x], #[t]⟩, ty', pos, af, gd⟩ (.d (.v (.int .i64 (l.length : Nat)))) := by
 intro G frv ov s
 obtain ⟨u, h1, h2⟩ := s.fr.opD hx
 obtain ⟨k, w, es, rfl, hs, hl⟩ := is_sl.1 h2
 have := hs.len
 rw [hl.len] at this
 exact ⟨_, isF_v.2 rfl, fun G' hg => by rw [← this]; exact yd_len h1⟩
theorem yq_lenB [hT : TySl P t e s by_] {w : SV} {sz : Nat} {ty : TypeId} {ds : List DV} {lo : Bool} (hx : opF fr x = some (.d (.v (.slice w.a w.n w.c)))) [hb : BAtD bs w sz ty ds lo] : YD P GB C fr own bs ⟨dst, .call ⟨.builtin .len, #[x], #[t]⟩, ty', pos, af, gd⟩ (.d (.v (.int .i64 (ds.length : Nat)))) := by
 intro G frv ov s
 obtain ⟨p, q, rfl, _, hq⟩ := s.ob
 obtain ⟨B, ⟨vs, hB, hv, _⟩, _⟩ := hq.mem hb.mem
 have := hB.len
 rw [hv.len] at this
 simp only [] at this
 exact ⟨_, isF_v.2 rfl, fun G' hg => by rw [← this]; exact yd_len (s.fr.opv hx)⟩
theorem yq_ix [hT : TySl P t e s by_] {k : IntKind} {l : List DV} {d : DV} {i : Int} (hx : opF fr x = some (.d (.sl l))) (hy : opF fr y = some (.d (.v (.int k i)))) (h0 : 0 ≤ i) (he : l[i.toNat]? = some d) (hd : d.okc = true) (hs : Nat.beq d.cells.length s = true) :
   YD P GB C fr own bs ⟨dst, .indexAddr t x y, ty', pos, af, gd⟩ (.ep d.cells) := by
 intro G frv ov st
 obtain ⟨u, h1, h2⟩ := st.fr.op hx
 obtain ⟨s', w, es, rfl, hsl, hl⟩ := is_sl.1 h2
 obtain ⟨v, h3, h4⟩ := hl.get he
 obtain ⟨h5, h6⟩ := List.getElem?_eq_some_iff.1 h3
 have hc := (h4.cells hd).1.len
 replace hs := Nat.eq_of_beq_eq_true hs
 rcases hsl.mem with h | ⟨b, off, cs, ha, hg, hcs⟩
 · rw [h] at h5; simp at h5
 · have h7 := hcs i.toNat h5
   rw [h6] at h7
   have h8 := takeL_len h7
   have : s' = s := by omega
   subst this
   rw [ha] at h1
   have hn := hsl.len
   refine ⟨.pointer (some ⟨b, off + i.toNat * s', none⟩), ⟨b, _, cs, cellsL v, rfl, hg, ?_, (h4.cells hd).1⟩, fun G' hg' => yd_index h1 (st.fr.opv hy) h0 (by omega)⟩
   rw [← hc, h8]
   exact h7
theorem yq_ixB [hT : TySl P t e s by_] {k : IntKind} {w : SV} {ty : TypeId} {ds : List DV} {lo : Bool} {i : Int} (hx : opF fr x = some (.d (.v (.slice w.a w.n w.c)))) [hb : BAtD bs w s ty ds lo] (hy : opF fr y = some (.d (.v (.int k i)))) (h0 : 0 ≤ i) (h1 : i < ds.length) :
   YD P GB C fr own bs ⟨dst, .indexAddr t x y, ty', pos, af, gd⟩ (.be w s i.toNat 0) := by
 intro G frv ov st
 obtain ⟨p, q, rfl, _, hq⟩ := st.ob
 obtain ⟨B, ⟨vs, hB, hv, _⟩, _⟩ := hq.mem hb.mem
 have hn := hB.len
 have hl := hv.len
 simp only [] at hn hl
 rcases hB with ⟨e1, _, _⟩ | ⟨b, rest, lo', h3, h4, h5, h6, h7⟩
 · rw [e1] at hl; simp at hl; omega
 · simp only [] at h3
   have ha : w.a = some ⟨b, 0, none⟩ := by rw [h3]
   refine ⟨_, ⟨b, ha, rfl⟩, fun G' hg => ?_⟩
   have hx' := st.fr.opv hx
   rw [ha] at hx'
   have := yd_index (P := P) (C := C) (own := p ++ q) (G := G') (t := t) (dst := dst) (ty' := ty') (pos := pos) (af := af) (gd := gd) (by_ := by_) hx' (st.fr.opv hy) h0 (by rw [hn, hl]; omega)
   simpa using this
theorem IsLs.all {G : Gh} : ∀ {l : List DV} {m : List Value}, IsLs G l m → ∀ v ∈ m, ∃ d ∈ l, Is G d v
 | [], m, h, v, hv => by rw [isl_nil.1 h] at hv; cases hv
 | d :: t, m, h, v, hv => by
   obtain ⟨y, n, rfl, h1, h2⟩ := isl_cons.1 h
   rcases List.mem_cons.1 hv with rfl | hv
   · exact ⟨d, List.mem_cons_self, h1⟩
   · obtain ⟨d', hd, h3⟩ := h2.all v hv
     exact ⟨d', List.mem_cons_of_mem _ hd, h3⟩
theorem IsSl.sub {G : Gh} {s : Nat} {x : SV} {es : List Value} (h : IsSl G s x es) (lo hi mx : Nat) (h1 : lo ≤ hi) (h2 : hi ≤ es.length) (h3 : hi ≤ mx) (_h4 : mx ≤ x.c) :
   IsSl G s ⟨if mx = lo then x.a else x.a.map (·.add (lo * s)), hi - lo, mx - lo⟩ ((es.take hi).drop lo) := by
 refine ⟨by simp; omega, by simp only []; omega, ?_⟩
 rcases h.mem with h0 | ⟨b, off, cs, ha, hg, hc⟩
 · left; simp [h0]
 · by_cases he : hi = lo
   · left; simp [he]
   · right
     refine ⟨b, off + lo * s, cs, ?_, hg, fun i hi' => ?_⟩
     · simp only []
       rw [if_neg (by omega), ha]
       simp [addr_add]
     · simp only [List.length_drop, List.length_take] at hi'
       have := hc (lo + i) (by omega)
       rw [Nat.add_assoc, ← Nat.add_mul, this]
       simp
def slOk (s : Nat) (l : List DV) : Prop := ∀ d ∈ l, d.okc = true ∧ d.cells.length = s
theorem sl_stride {G : Gh} {l : List DV} {s' s : Nat} {w : SV} {es : List Value} (hsl : IsSl G s' w es) (hl : IsLs G l es) (ho : slOk s l) : es = [] ∨ s' = s := by
 rcases hsl.mem with h | ⟨b, off, cs, ha, hg, hcs⟩
 · exact .inl h
 · cases es with
   | nil => exact .inl rfl
   | cons v t =>
     right
     have h1 := hcs 0 (by simp)
     have h2 := takeL_len h1
     obtain ⟨d, hd, h3⟩ := hl.all v List.mem_cons_self
     obtain ⟨h4, h5⟩ := ho d hd
     have := (h3.cells h4).1.len
     simp only [List.getElem_cons_zero] at h2
     omega
theorem yq_slice {l : List DV} {lo hi mx : Option Operand} {nlo nhi : Nat} [hT : TySl P t e s by_] (hx : opD fr x = some (.sl l)) (ho : slOk s l)
   (hlo : match lo with | some o => opF fr o = some (.d (.v (.int .i64 (nlo : Nat)))) | none => nlo = 0)
   (hhi : match hi with | some o => opF fr o = some (.d (.v (.int .i64 (nhi : Nat)))) | none => nhi = l.length)
   (hmx : match mx with | some o => ∃ m : Nat, opF fr o = some (.d (.v (.int .i64 (m : Nat)))) ∧ nhi ≤ m ∧ m ≤ l.length ∧ lo = none ∧ hi ≠ none | none => True) (h1 : nlo ≤ nhi) (h2 : nhi ≤ l.length) :
   YD P GB C fr own bs ⟨dst, .slice t x lo hi mx, ty', pos, af, gd⟩ (.d (.sl ((l.take nhi).drop nlo))) := by
 intro G frv ov st
 obtain ⟨u, h3, h4⟩ := st.fr.opD hx
 obtain ⟨s', w, es, rfl, hsl, hl⟩ := is_sl.1 h4
 have hn := hsl.len
 have hcap := hsl.cap
 have hll := hl.len
 have key : ∀ mx', nhi ≤ mx' → mx' ≤ w.c → Is G (.sl ((l.take nhi).drop nlo)) (slTo w.a w.n w.c nlo nhi mx' s) := by
   intro mx' hm1 hm2
   rcases sl_stride hsl hl ho with he | he
   · subst he
     have : l = [] := List.eq_nil_of_length_eq_zero (by rw [← hll]; rfl)
     subst this
     have e1 : nhi = 0 := by simp at h2; exact h2
     have e2 : nlo = 0 := by omega
     subst e1 e2
     refine is_sl.2 ⟨s, ⟨_, 0, mx'⟩, [], rfl, ⟨rfl, Nat.zero_le _, .inl rfl⟩, by simpa using IsLs.nil⟩
   · subst he
     refine is_sl.2 ⟨s', ⟨_, _, _⟩, _, rfl, hsl.sub nlo nhi mx' h1 (by omega) hm1 hm2, (hl.take nhi).drop nlo⟩
 match lo, hi, mx, hlo, hhi, hmx with
 | none, none, none, hlo, hhi, _ =>
   subst hlo hhi
   refine ⟨_, key w.c (by omega) (Nat.le_refl _), fun G' hg => ?_⟩
   intro a w0 hf hh
   simp only [execOp, opv_eval hf h3, Option.map_none]
   have h9 := run_slice (P := P) (t := t) (ad := w.a) (len := w.n) (cap := w.c) w0 (lo := none) (hi := none) (mx := none) (l := 0) (h := l.length) (m := w.c) (fun w0 => by
     simp [Instr.sliceBounds, Result.andThen, run_pure]; omega)
   exact value_of h9
 | none, some o2, none, hlo, hhi, _ =>
   subst hlo
   have := yd_slice_hi (P := P) (C := C) (own := ov) (G := G) (t := t) (dst := dst) (ty' := ty') (pos := pos) (af := af) (gd := gd) h3 (st.fr.opv hhi) (by omega) (by omega)
   refine ⟨_, key w.c (by omega) (Nat.le_refl _), fun G' hg => ?_⟩
   have h9 := yd_slice_hi (P := P) (C := C) (own := ov) (G := G') (t := t) (dst := dst) (ty' := ty') (pos := pos) (af := af) (gd := gd) h3 (st.fr.opv hhi) (by omega) (by omega)
   have e9 : slTo w.a w.n w.c 0 nhi w.c s = .slice w.a nhi w.c := by
     unfold slTo
     cases w.a with
     | none => simp
     | some ad => simp [Addr.add]
   rw [e9]
   simpa using h9
 | some o1, none, none, hlo, hhi, _ =>
   subst hhi
   refine ⟨_, key w.c (by omega) (Nat.le_refl _), fun G' hg => ?_⟩
   have h9 := yd_slice_lo (P := P) (C := C) (own := ov) (G := G') (t := t) (dst := dst) (ty' := ty') (pos := pos) (af := af) (gd := gd) h3 (st.fr.opv hlo) (by omega) (by omega)
   have e9 : w.n = l.length := by omega
   rw [Int.toNat_natCast, e9] at h9
   rw [e9]
   exact h9
 | some o1, some o2, none, hlo, hhi, _ =>
   refine ⟨_, key w.c (by omega) (Nat.le_refl _), fun G' hg => ?_⟩
   have h9 := yd_slice_lohi (P := P) (C := C) (own := ov) (G := G') (t := t) (dst := dst) (ty' := ty') (pos := pos) (af := af) (gd := gd) h3 (st.fr.opv hlo) (st.fr.opv hhi) (by omega) (by omega) (by omega)
   simpa using h9
 | none, some o2, some o3, hlo, hhi, ⟨m, hm, hm1, hm2, _⟩ =>
   subst hlo
   refine ⟨_, key m (by omega) (by omega), fun G' hg => ?_⟩
   have h9 := yd_slice_3 (P := P) (C := C) (own := ov) (G := G') (t := t) (dst := dst) (ty' := ty') (pos := pos) (af := af) (gd := gd) h3 (st.fr.opv hhi) (st.fr.opv hm) (by omega) (by omega) (by omega)
   have e9 : slTo w.a w.n w.c 0 nhi m s = .slice w.a nhi m := by
     unfold slTo
     cases w.a with
     | none => simp
     | some ad => simp [Addr.add]
   rw [e9]
   simpa using h9
 | some o1, _, some o3, hlo, hhi, ⟨m, hm, _, _, h', _⟩ => cases h'
 | none, none, some o3, hlo, hhi, ⟨m, hm, _, _, _, h'⟩ => exact absurd rfl h'
end
section
variable {P : Program} {GB : Gh} {C : Ctx} {n : Nat} {E : Ext} {fr : FrF} {own : List OwnD} {bs : List BufD} {ops : Array Oper} {Q : Exit → Act → World → Prop} {r : List Oper} {dst : Option Nat} {ty' : TypeId} {pos : String} {af : Array Edge} {x : Operand}
theorem tM {f : FV} (hx : opF fr x = some f) (hd : dstOk n dst = true) (h : SD GB C n E (putF fr dst f) own bs (wpL P ops Q r)) : SD GB C n E fr own bs (wpL P ops Q (⟨dst, .move x, ty', pos, af, none⟩ :: r)) := tY (yq_move hx) hd h
theorem tA {f : FV} (hx : opF fr x = some f) (hd : dstOk n dst = true) (h : SD GB C n E (putF fr dst f) own bs (wpL P ops Q r)) : SD GB C n E fr own bs (wpL P ops Q (⟨dst, .assign x, ty', pos, af, none⟩ :: r)) := tY (yq_assign hx) hd h
end
end Go.Sx
end
