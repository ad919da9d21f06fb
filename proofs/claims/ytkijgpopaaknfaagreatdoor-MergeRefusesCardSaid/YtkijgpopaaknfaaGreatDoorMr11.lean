/-
  What the packages geo, bsp and reduce compute, on fractions and trees, and what the reduced tree is like. Plane geometry of the cells: clipping a cell with an interior cuts it exactly; the place of a cell; trees restricted twice. What the reference does with cells and trees: the same as the code, since both go by the points inside. Package geo: intervals. Package geo: Sample, Cut, Cmp, Equal, half, Angle. Package geo: cells; part, Place. Package geo: Place, the order of sides, binary search. Binary search and insertion in rows of sides. Insertion into a row of sides. Package geo: Clip, Divide. Package geo: Divide. Package bsp: trees in memory; Leaf, New, Join, Restrict, Reduce, Depth. Package bsp: the reader of trees. Package bsp: Of, and lines in the form of package api. Package bsp: trees written for package api. Package bsp: Parts; package reduce: read, Reduce; package cells: parts. Package geo: LinesOf, Canon; package reduce: Restrict. Reference: the arithmetic of fractions in plain Lean. Reference: integers and fractions of any size. Reference: fractions of any size. The abstract machine: calls whose outcome is one of a family (borrowed variables, new variables, rows handed back). The abstract machine: calls that borrow a variable and hand back a row. What the reference computes of lines and points. Package cells: All. Trees, nodes and lines as deep values; bridges to what was shown before. Reference: whole numbers as fractions, lines reversed, rows of lines; what is the same. Reference: points and lines of any size; spans. Reference: directions by angle; spans; the edge of a side. Reference: numbers and lines written for package api. The abstract machine: functions that hand back a new variable. The abstract machine: calls that take a row over and hand one back in a tuple. The abstract machine: rows lent to a call that reads, rows with room, calls that take such a row over.
-/
import Derived.Test.YtkijgpopaaknfaaGreatDoorMr10
set_option linter.unusedSimpArgs false
set_option linter.unusedVariables false
section
set_option maxRecDepth 100000
namespace Go.Sx
open Go
instance : DecidableEq LnQ := fun x y => decidable_of_iff (x.a = y.a ∧ x.b = y.b ∧ x.c = y.c) (by
 cases x; cases y; simp)
structure IvQ where
 lo : Rat
 hi : Rat
 nl : Bool
 nh : Bool
def IvQ.all : IvQ := ⟨0, 0, true, true⟩
def IvQ.empty (v : IvQ) : Bool := !v.nl && (!v.nh && decide (0 ≤ rcmp v.lo v.hi))
def IvQ.meet (v w : IvQ) : IvQ :=
 ⟨if v.nl then w.lo else if w.nl then v.lo else if v.lo < w.lo then w.lo else v.lo,
  if v.nh then w.hi else if w.nh then v.hi else if w.hi < v.hi then w.hi else v.hi, v.nl && w.nl, v.nh && w.nh⟩
def IvQ.sample (v : IvQ) : Rat := if v.nl && v.nh then 0 else if v.nl then v.hi - 1 else if v.nh then v.lo + 1 else (v.lo + v.hi) * mkRat 1 2
def LnQ.cutK (l m : LnQ) : Rat := m.nor.dot l.dir
def LnQ.cutC (l m : LnQ) : Rat := m.value l.base
def LnQ.cutV (l : LnQ) (v : IvQ) (m : LnQ) : IvQ :=
 if Int.sign (l.cutK m).num = 0 then v
 else if Int.sign (l.cutK m).num = 1 then v.meet ⟨-(l.cutC m / l.cutK m), 0, false, true⟩
 else v.meet ⟨0, -(l.cutC m / l.cutK m), true, false⟩
def LnQ.cutB (l : LnQ) (v : IvQ) (m : LnQ) : Bool :=
 if Int.sign (l.cutK m).num = 0 then decide (0 < Int.sign (l.cutC m).num) else !(l.cutV v m).empty
structure FrQ where
 l : LnQ
 v : IvQ
abbrev CellQ := List FrQ
def partV (l : LnQ) : CellQ → IvQ → Option IvQ
 | [], v => some v
 | s :: t, v => if l.cutB v s.l then partV l t (l.cutV v s.l) else none
def partQ (c : CellQ) (l : LnQ) : Option IvQ := partV l c IvQ.all
def sideAt (l : LnQ) (s : FrQ) : Int := Int.sign (l.value (s.l.at s.v.sample)).num
def placeV (l : LnQ) : CellQ → Int
 | [] => -1
 | s :: t => if sideAt l s ≠ 0 then sideAt l s else if s.l = l then 1 else placeV l t
def placeQ (c : CellQ) (l : LnQ) : Int := if (partQ c l).isSome then 0 else placeV l c
def PtQ.half (p : PtQ) : Int :=
 if 0 < Int.sign p.y.num ∨ (Int.sign p.y.num = 0 ∧ 0 < Int.sign p.x.num) then 1 else if Int.sign p.y.num < 0 ∨ Int.sign p.x.num < 0 then 2 else 0
def angleQ (u v : PtQ) : Int := if u.half < v.half then -1 else if v.half < u.half then 1 else -(Int.sign (u.cross v).num)
def cutsV (l : LnQ) : CellQ → CellQ
 | [] => []
 | s :: t => if s.l.cutB s.v l then ⟨s.l, s.l.cutV s.v l⟩ :: cutsV l t else cutsV l t
def bsq (p : Nat → Bool) (i j : Nat) : Nat :=
 if h : i < j then (if p ((i + j) / 2) then bsq p ((i + j) / 2 + 1) j else bsq p i ((i + j) / 2)) else i
termination_by j - i
def angAt (c : CellQ) (l : LnQ) (i : Nat) : Bool := match c[i]? with
 | some s => decide (angleQ s.l.dir l.dir < 0)
 | none => false
def insQ (c : CellQ) (l : LnQ) (v : IvQ) : CellQ :=
 c.take (bsq (angAt c l) 0 c.length) ++ ⟨l, v⟩ :: c.drop (bsq (angAt c l) 0 c.length)
def clipC (c : CellQ) (l : LnQ) : CellQ := match partQ c l with
 | some v => insQ (cutsV l c) l v
 | none => c
def clipB (c : CellQ) (l : LnQ) : Bool := match partQ c l with
 | some _ => true
 | none => decide (0 < placeQ c l)
theorem bsq_le (p : Nat → Bool) : ∀ (d i j : Nat), j - i ≤ d → i ≤ j → i ≤ bsq p i j ∧ bsq p i j ≤ j
 | 0, i, j, h, hij => by
   rw [bsq, dif_neg (by omega)]; omega
 | d + 1, i, j, h, hij => by
   rw [bsq]
   split
   · split
     · have := bsq_le p d ((i + j) / 2 + 1) j (by omega) (by omega); omega
     · have := bsq_le p d i ((i + j) / 2) (by omega) (by omega); omega
   · omega
theorem cutsV_len (l : LnQ) : ∀ c : CellQ, (cutsV l c).length ≤ c.length
 | [] => Nat.le_refl _
 | s :: t => by
   have := cutsV_len l t
   unfold cutsV
   split <;> simp <;> omega
theorem insQ_len (c : CellQ) (l : LnQ) (v : IvQ) : (insQ c l v).length = c.length + 1 := by
 have := (bsq_le (angAt c l) c.length 0 c.length (by omega) (by omega)).2
 simp [insQ]; omega
theorem clipC_len (c : CellQ) (l : LnQ) : (clipC c l).length ≤ c.length + 1 := by
 unfold clipC
 split
 · rw [insQ_len]; have := cutsV_len l c; omega
 · omega
/-! ### trees -/
inductive Tr where
 | leaf (b : Bool)
 | node (l : LnQ) (x y : Tr)
def Tr.isLeaf : Tr → Bool
 | .leaf _ => true
 | .node .. => false
def Tr.code : Tr → Bool
 | .leaf b => b
 | .node .. => false
def Tr.depth : Tr → Nat
 | .leaf _ => 0
 | .node _ x y => 1 + max x.depth y.depth
def Tr.size : Tr → Nat
 | .leaf _ => 0
 | .node _ x y => 1 + x.size + y.size
def Tr.joinQ (l : LnQ) (x y : Tr) : Tr := if x.isLeaf && (y.isLeaf && (x.code == y.code)) then x else .node l x y
def Tr.restrict : Tr → CellQ → Tr
 | .leaf b, _ => .leaf b
 | .node l x y, c => if !clipB c l.rev then x.restrict c else if !clipB c l then y.restrict c else joinQ l (x.restrict (clipC c l)) (y.restrict (clipC c l.rev))
def Tr.parts : Tr → CellQ → List (Bool × CellQ)
 | .leaf b, c => [(b, c)]
 | .node l x y, c => (if clipB c l then x.parts (clipC c l) else []) ++ (if clipB c l.rev then y.parts (clipC c l.rev) else [])
def Tr.all (p : LnQ → Prop) : Tr → Prop
 | .leaf _ => True
 | .node l x y => p l ∧ x.all p ∧ y.all p
def Tr.good : Tr → Prop
 | .leaf _ => True
 | .node _ x y => ¬ (x.isLeaf = true ∧ y.isLeaf = true ∧ x.code = y.code) ∧ x.good ∧ y.good
structure NQ where
 l : LnQ
 a : Int
 b : Int
def leafCode (b : Bool) : Int := if b then -2 else -1
def Tr.num : Tr → Nat → Int
 | .leaf b, _ => leafCode b
 | .node .., n => n
def Tr.wr : Tr → Nat → List NQ
 | .leaf _, _ => []
 | .node l x y, n => ⟨l, x.num (n + 1), y.num (n + 1 + x.size)⟩ :: x.wr (n + 1) ++ y.wr (n + 1 + x.size)
theorem Tr.wr_len : ∀ (t : Tr) (n : Nat), (t.wr n).length = t.size
 | .leaf _, n => rfl
 | .node l x y, n => by
   have h1 := Tr.wr_len x (n + 1)
   have h2 := Tr.wr_len y (n + 1 + x.size)
   simp [Tr.wr, Tr.size, h1, h2]; omega
theorem Tr.joinQ_cases (l : LnQ) (x y : Tr) : (Tr.joinQ l x y = x ∧ x.isLeaf = true) ∨ (Tr.joinQ l x y = .node l x y ∧ ¬ (x.isLeaf = true ∧ y.isLeaf = true ∧ x.code = y.code)) := by
 unfold Tr.joinQ
 split
 · rename_i h
   simp at h
   exact .inl ⟨rfl, h.1⟩
 · rename_i h
   simp at h
   exact .inr ⟨rfl, fun ⟨a, b, c⟩ => h a b c⟩
theorem Tr.restrict_all (p : LnQ → Prop) : ∀ (t : Tr) (c : CellQ), t.all p → (t.restrict c).all p
 | .leaf b, c, _ => trivial
 | .node l x y, c, h => by
   obtain ⟨h0, h1, h2⟩ := h
   unfold Tr.restrict
   split
   · exact x.restrict_all p c h1
   · split
     · exact y.restrict_all p c h2
     · rcases Tr.joinQ_cases l (x.restrict (clipC c l)) (y.restrict (clipC c l.rev)) with ⟨h, _⟩ | ⟨h, _⟩
       · rw [h]; exact x.restrict_all p _ h1
       · rw [h]; exact ⟨h0, x.restrict_all p _ h1, y.restrict_all p _ h2⟩
end Go.Sx
end

section
set_option maxRecDepth 100000
namespace Go.Sx
open Go
/-! ### values -/
theorem val_def (l : LnQ) (p : PtQ) : l.value p = (l.a : Rat) * p.x + (l.b : Rat) * p.y + (l.c : Rat) := rfl
def segQ (q p : PtQ) (e : Rat) : PtQ := ⟨q.x + e * (p.x - q.x), q.y + e * (p.y - q.y)⟩
def movQ (q u : PtQ) (e : Rat) : PtQ := ⟨q.x + e * u.x, q.y + e * u.y⟩
theorem rat_mul_nonneg {a b : Rat} (ha : 0 ≤ a) (hb : 0 ≤ b) : 0 ≤ a * b := Rat.mul_nonneg ha hb
theorem rat_sq_nonneg (a : Rat) : 0 ≤ a * a := by
 by_cases h : 0 ≤ a
 · exact rat_mul_nonneg h h
 · have := rat_mul_nonneg (a := -a) (b := -a) (by grind) (by grind)
   grind
def LnQ.Ne (l : LnQ) : Prop := ¬ (l.a = 0 ∧ l.b = 0)
theorem nn_pos {l : LnQ} (h : l.Ne) : 0 < l.nor.dot l.nor := by
 show 0 < (l.a : Rat) * l.a + (l.b : Rat) * l.b
 have h1 := rat_sq_nonneg (l.a : Rat)
 have h2 := rat_sq_nonneg (l.b : Rat)
 by_cases ha : l.a = 0
 · have hb : l.b ≠ 0 := fun hb => h ⟨ha, hb⟩
   have hb' : (l.b : Rat) ≠ 0 := fun e => hb (Rat.intCast_eq_zero_iff.1 e)
   have : (l.b : Rat) * l.b ≠ 0 := by grind
   grind
 · have ha' : (l.a : Rat) ≠ 0 := fun e => ha (Rat.intCast_eq_zero_iff.1 e)
   have : (l.a : Rat) * l.a ≠ 0 := by grind
   grind
theorem base_q {l : LnQ} (h : l.Ne) : ∃ q : Rat, l.nor.dot l.nor * q = -(l.c : Rat) ∧ l.base = ⟨(l.a : Rat) * q, (l.b : Rat) * q⟩ := by
 refine ⟨-(l.c : Rat) / l.nor.dot l.nor, ?_, rfl⟩
 have := nn_pos h
 grind
/-! ### intervals -/
def IvQ.has (v : IvQ) (t : Rat) : Prop := (v.nl = true ∨ v.lo ≤ t) ∧ (v.nh = true ∨ t ≤ v.hi)
def IvQ.ins (v : IvQ) (t : Rat) : Prop := (v.nl = true ∨ v.lo < t) ∧ (v.nh = true ∨ t < v.hi)
def IvQ.Pos (v : IvQ) : Prop := v.nl = true ∨ v.nh = true ∨ v.lo < v.hi
theorem rcmp_nonneg (a b : Rat) : 0 ≤ rcmp a b ↔ b ≤ a := by
 unfold rcmp; split
 · constructor
   · intro h; exact absurd h (by decide)
   · intro h; grind
 · split
   · constructor
     · intro _; grind
     · intro _; decide
   · constructor
     · intro _; grind
     · intro _; decide
theorem empty_iff (v : IvQ) : v.empty = false ↔ v.Pos := by
 obtain ⟨lo, hi, nl, nh⟩ := v
 unfold IvQ.empty IvQ.Pos
 cases nl <;> cases nh <;> simp [rcmp_nonneg]
 first | exact Rat.not_le | grind
theorem sgn_zero (k : Rat) : Int.sign k.num = 0 ↔ k = 0 := by rw [Int.sign_eq_zero_iff_zero, Rat.num_eq_zero]
theorem num_pos' (k : Rat) : 0 < k.num ↔ 0 < k := by
 have h1 : 0 ≤ k.num ↔ 0 ≤ k := Rat.num_nonneg
 have h2 : k.num = 0 ↔ k = 0 := Rat.num_eq_zero
 constructor
 · intro h
   have a := h1.1 (by omega)
   have b : k ≠ 0 := fun e => by have := h2.2 e; omega
   grind
 · intro h
   have a := h1.2 (by grind)
   have b : k.num ≠ 0 := fun e => by have := h2.1 e; grind
   omega
theorem sgn_one (k : Rat) : Int.sign k.num = 1 ↔ 0 < k := by rw [Int.sign_eq_one_iff_pos, num_pos']
theorem sgn_pos (k : Rat) : 0 < Int.sign k.num ↔ 0 < k := by
 rw [← sgn_one]
 rcases Int.lt_trichotomy k.num 0 with h | h | h
 · rw [Int.sign_eq_neg_one_of_neg h]; decide
 · rw [h]; decide
 · rw [Int.sign_eq_one_of_pos h]; decide
theorem cut_zero {l m : LnQ} (v : IvQ) (hk : l.cutK m = 0) : l.cutV v m = v ∧ (l.cutB v m = true ↔ 0 < l.cutC m) := by
 have h := (sgn_zero (l.cutK m)).2 hk
 unfold LnQ.cutV LnQ.cutB
 rw [if_pos h, if_pos h, decide_eq_true_iff, sgn_pos]
 exact ⟨rfl, Iff.rfl⟩
theorem cut_up {l m : LnQ} (v : IvQ) (hk : 0 < l.cutK m) : l.cutV v m = v.meet ⟨-(l.cutC m / l.cutK m), 0, false, true⟩ ∧ (l.cutB v m = true ↔ (l.cutV v m).Pos) := by
 have h0 : ¬ Int.sign (l.cutK m).num = 0 := fun e => by have := (sgn_zero _).1 e; grind
 have h1 := (sgn_one (l.cutK m)).2 hk
 constructor
 · unfold LnQ.cutV; rw [if_neg h0, if_pos h1]
 · unfold LnQ.cutB; rw [if_neg h0, ← empty_iff]; simp
theorem cut_dn {l m : LnQ} (v : IvQ) (hk : l.cutK m < 0) : l.cutV v m = v.meet ⟨0, -(l.cutC m / l.cutK m), true, false⟩ ∧ (l.cutB v m = true ↔ (l.cutV v m).Pos) := by
 have h0 : ¬ Int.sign (l.cutK m).num = 0 := fun e => by have := (sgn_zero _).1 e; grind
 have h1 : ¬ Int.sign (l.cutK m).num = 1 := fun e => by have := (sgn_one _).1 e; grind
 constructor
 · unfold LnQ.cutV; rw [if_neg h0, if_neg h1]
 · unfold LnQ.cutB; rw [if_neg h0, ← empty_iff]; simp
/-! ### cells -/
def InD (c : CellQ) (p : PtQ) : Prop := ∀ s ∈ c, 0 < s.l.value p
def InC (c : CellQ) (p : PtQ) : Prop := ∀ s ∈ c, 0 ≤ s.l.value p
structure GoodC (c : CellQ) : Prop where
 ne : ∃ p, InD c p
 ok : ∀ s ∈ c, s.l.ok
 edge : ∀ s ∈ c, s.v.Pos ∧ ∀ t, s.v.has t ↔ InC c (s.l.at t)
theorem LnQ.ok.rev {l : LnQ} (h : l.ok) : l.rev.ok := by
 obtain ⟨h1, h2⟩ := h
 refine ⟨?_, ?_⟩
 · simp only [LnQ.rev]; omega
 · simp only [LnQ.rev, Int.natAbs_neg]; exact h2
/-! ### clipping -/
inductive Lies (c : CellQ) (l : LnQ) : Prop
 | left (h1 : clipB c l.rev = false) (h : ∀ p, InD c p → 0 < l.value p)
 | right (h1 : clipB c l.rev = true) (h2 : clipB c l = false) (h : ∀ p, InD c p → l.value p < 0)
 | both (h1 : clipB c l.rev = true) (h2 : clipB c l = true) (g1 : GoodC (clipC c l)) (g2 : GoodC (clipC c l.rev))
     (e1 : ∀ p, InD (clipC c l) p ↔ InD c p ∧ 0 < l.value p) (e2 : ∀ p, InD (clipC c l.rev) p ↔ InD c p ∧ l.value p < 0)
/-! ### trees -/
def canonQ : List LnQ → CellQ → Option CellQ
 | [], c => some c
 | l :: t, c => if clipB c l then canonQ t (clipC c l) else none
end Go.Sx
end

section
set_option maxRecDepth 100000
namespace Go.Sx
open Go
def partL (l : LnQ) : List LnQ → IvQ → Option IvQ
 | [], v => some v
 | m :: t, v => if m = l then partL l t v else if l.cutB v m then partL l t (l.cutV v m) else none
def InL (c : List LnQ) (p : PtQ) : Prop := ∀ m ∈ c, 0 < m.value p
def innerB (c : List LnQ) : Bool := c.isEmpty || c.any (fun l => (partL l c IvQ.all).isSome)
def angIdx (out : List LnQ) (l : LnQ) : Nat := (out.takeWhile (fun x => decide (angleQ x.dir l.dir < 0))).length
def canonIns (out : List LnQ) (l : LnQ) : List LnQ := if out[angIdx out l]? = some l then out else out.take (angIdx out l) ++ l :: out.drop (angIdx out l)
def canonF (c : List LnQ) : List LnQ → List LnQ → List LnQ
 | [], out => out
 | l :: t, out => canonF c t (if (partL l c IvQ.all).isSome then canonIns out l else out)
def canonL (c : List LnQ) : List LnQ := canonF c c []
def placeL (c : List LnQ) (l : LnQ) : Int := if innerB (c ++ [l]) && innerB (c ++ [l.rev]) then 0 else if innerB (c ++ [l]) then 1 else -1
def Tr.restrictL : Tr → List LnQ → Tr
 | .leaf b, _ => .leaf b
 | .node l x y, c => if placeL c l = 1 then x.restrictL c else if placeL c l = -1 then y.restrictL c else joinQ l (x.restrictL (canonL (c ++ [l]))) (y.restrictL (canonL (c ++ [l.rev])))
end Go.Sx
end

section
set_option maxRecDepth 100000
namespace Go.Sx
open Go Go.Proofs
structure IvV where
 lo : RV
 hi : RV
 nl : Bool
 nh : Bool
def IvV.v (z : IvV) : Value := .agg ⟨[.int .i64 z.lo.n, .int .i64 z.lo.d, .pointer z.lo.p, .int .i64 z.hi.n, .int .i64 z.hi.d, .pointer z.hi.p, .bool z.nl, .bool z.nh]⟩
section
variable {P : Program} {C : Ctx} {n : Nat} {fr : Fr} {own own' own1 : List Own} {G : Gh} {Φ : Act → World → Prop}
variable {dst : Option Nat} {t t' ty' : TypeId} {pos : String} {af : Array Edge} {gd : Option (Nat × Bool)} {x y : Operand} {e s by_ : Nat}
theorem chS {v : Value} {b off k : Nat} {cs cs' : List Value} {ty : TypeId} {lo : Bool} (hx : opv fr x = some (.pointer (some ⟨b, off, none⟩))) (hy : opv fr y = some v) [hs : TyA P t k] [ho : OAt own b cs ty lo]
  (hk : (cellsL v).length = k) (hl : off + k ≤ cs.length) (hf : (cellsL v).all flat = true) (hd : dstOk n dst = true) (h : St C n (put fr dst undef) own' G Φ)
  (hc : ovw cs off (cellsL v) = cs' := by first | (dsimp only [ovw, cellsL, zs1, zs2, Nat.reduceAdd, RV.v, LV.v, PV.v, IvV.v]; done) | exact rfl) (hu : OUpd own b cs ty lo cs' own' := by repeat (first | exact .hd .. | apply OUpd.tl)) :
  Ch P C n fr own G ⟨dst, .store t x y, ty', pos, af, gd⟩ Φ := ch_store hx hy (hc ▸ hu) hk hl hf hd h
end
structure IsIv (k : Nat) (G : Gh) (z : IvV) (v : IvQ) : Prop where
 lo : IsR k G z.lo v.lo
 hi : IsR k G z.hi v.hi
 nl : z.nl = v.nl
 nh : z.nh = v.nh
end Go.Sx
end

section
set_option maxRecDepth 100000
namespace Go.Sx
open Go Go.Proofs
def orQ : List Int → Int
 | [] => 0
 | x :: t => if x ≠ 0 then x else orQ t
def cmpQ (l m : LnQ) : Int := orQ [rcmp l.a m.a, rcmp l.b m.b, rcmp l.c m.c]
end Go.Sx
end

section
set_option maxRecDepth 100000
namespace Go.Sx
open Go Go.Proofs
structure FrV where
 l : LV
 v : IvV
def FrV.val (z : FrV) : Value := .agg ⟨[.int .i64 z.l.a.n, .int .i64 z.l.a.d, .pointer z.l.a.p, .int .i64 z.l.b.n, .int .i64 z.l.b.d, .pointer z.l.b.p, .int .i64 z.l.c.n, .int .i64 z.l.c.d, .pointer z.l.c.p, .int .i64 z.v.lo.n, .int .i64 z.v.lo.d, .pointer z.v.lo.p, .int .i64 z.v.hi.n, .int .i64 z.v.hi.d, .pointer z.v.hi.p, .bool z.v.nl, .bool z.v.nh]⟩
structure IsFr (k : Nat) (G : Gh) (z : FrV) (f : FrQ) : Prop where
 l : IsL k G z.l f.l
 v : IsIv (25 * k + 6) G z.v f.v
inductive All2 {α β : Type} (R : α → β → Prop) : List α → List β → Prop
 | nil : All2 R [] []
 | cons {a b us bs} (h : R a b) (t : All2 R us bs) : All2 R (a :: us) (b :: bs)
theorem All2.len {α β : Type} {R : α → β → Prop} {us : List α} {bs : List β} (h : All2 R us bs) : us.length = bs.length := by
 induction h with
 | nil => rfl
 | cons _ _ ih => simp [ih]
theorem All2.imp {α β : Type} {R S : α → β → Prop} {us : List α} {bs : List β} (h : All2 R us bs) (k : ∀ a b, R a b → S a b) : All2 S us bs := by
 induction h with
 | nil => exact .nil
 | cons h _ ih => exact .cons (k _ _ h) ih
theorem All2.get {α β : Type} {R : α → β → Prop} {us : List α} {bs : List β} (h : All2 R us bs) {i : Nat} {b : β} (hi : bs[i]? = some b) : ∃ a, us[i]? = some a ∧ R a b := by
 induction h generalizing i with
 | nil => simp at hi
 | @cons a b' us bs h t ih =>
   cases i with
   | zero => simp at hi; subst hi; exact ⟨a, rfl, h⟩
   | succ i => simpa using ih (i := i) (by simpa using hi)
theorem All2.app {α β : Type} {R : α → β → Prop} {us us' : List α} {bs bs' : List β} (h : All2 R us bs) (k : All2 R us' bs') : All2 R (us ++ us') (bs ++ bs') := by
 induction h with
 | nil => exact k
 | cons h _ ih => exact .cons h ih
structure IsC (k : Nat) (G : Gh) (x : SV) (c : CellQ) : Prop where
 ex : ∃ fs : List FrV, IsSl G 17 x (fs.map FrV.val) ∧ All2 (IsFr k G) fs c
end Go.Sx
end

section
set_option maxRecDepth 100000
namespace Go.Sx
open Go Go.Proofs
end Go.Sx
end

section
set_option maxRecDepth 100000
namespace Go.Sx
open Go Go.Proofs
section
variable {P : Program} {C : Ctx} {n : Nat} {fr : Fr} {own own' : List Own} {G : Gh} {Φ : Act → World → Prop}
variable {dst : Option Nat} {t t' ty' : TypeId} {pos : String} {af : Array Edge} {gd : Option (Nat × Bool)} {x y : Operand} {e s by_ : Nat}
theorem st_apart {o1 o2 : Own} {rest : List Own} (h : o1.b ≠ o2.b → St C n fr (o1 :: o2 :: rest) G Φ) : St C n fr (o1 :: o2 :: rest) G Φ :=
 fun a w rl => h ((List.pairwise_cons.1 rl.h.nd).1 _ List.mem_cons_self) a w rl
theorem yd_slice_loB [hT : TySl P t e s by_] {k : IntKind} {b off len cap : Nat} {l : Int} (hx : opv fr x = some (.slice (some ⟨b, off, none⟩) len cap)) (hy : opv fr y = some (.int k l)) (h0 : 0 ≤ l) (h1 : l ≤ len) (h2 : l < cap) :
  Yd P C fr own G ⟨dst, .slice t x (some y) none none, ty', pos, af, gd⟩ (.slice (some ⟨b, off + l.toNat * s, none⟩) (len - l.toNat) (cap - l.toNat)) := by
 have h := yd_slice_lo (P := P) (C := C) (own := own) (G := G) (t := t) (dst := dst) (ty' := ty') (pos := pos) (af := af) (gd := gd) (by_ := by_) hx hy h0 h1
 unfold slTo at h
 rw [if_neg (by omega)] at h
 simpa [addr_add] using h
end
end Go.Sx
end

section
set_option maxRecDepth 100000
namespace Go.Sx
open Go Go.Proofs
end Go.Sx
end

section
set_option maxRecDepth 100000
namespace Go.Sx
open Go Go.Proofs
section
variable {P : Program} {C : Ctx} {n : Nat} {fr : Fr} {own own' : List Own} {G : Gh} {Φ : Act → World → Prop}
variable {dst : Option Nat} {t t' ty' : TypeId} {pos : String} {af : Array Edge} {gd : Option (Nat × Bool)} {x y : Operand} {e s by_ : Nat}
theorem ch_make0 [hT : TySl P t e s by_] {z : Value} [hz : TyZ P e z] {k k' : IntKind} {l : Int} (hx : opv fr x = some (.int k 0)) (hy : opv fr y = some (.int k' l)) (h0 : 0 ≤ l) (hb : by_ * l ≤ 2 ^ 47) (hl : l ≤ 2 ^ 60) (hs : (cellsL z).length = s) (hd : dstOk n dst = true)
   (h : ∀ b, St C n (put fr dst (.slice (some ⟨b, 0, none⟩) 0 l.toNat)) (⟨b, zeros z l.toNat, e, true⟩ :: own) G Φ) :
   Ch P C n fr own G ⟨dst, .makeSlice t x y, ty', pos, af, gd⟩ Φ := by
 intro a w Q rl
 have h1 : (Instr.makeSlice t (a.eval x) (a.eval y)).run P w = .ok (.slice (some ⟨w.heap.size, 0, none⟩) 0 l.toNat) (w.alloc (.cells ⟨zeros z l.toNat⟩ e)) := by
   obtain ⟨i, hi, hib⟩ := run_bytes (P := P) (t := t) (e := e) (s := s) (by_ := by_) w
   rw [opv_eval rl.fr hx, opv_eval rl.fr hy]
   unfold Instr.makeSlice
   rw [run_ok_bind (hT.u w)]
   simp only [asInt, asIntOf]
   rw [run_ok_bind (a := 0) (w' := w) rfl, run_ok_bind (a := l) (w' := w) rfl, run_ok_bind hi, hib]
   have hw : IntKind.i64.wrap l = l := wrap_in (by simp [IntKind.min, IntKind.max, IntKind.signed, IntKind.bits]; omega)
   have hw0 : IntKind.i64.wrap 0 = 0 := rfl
   simp only [hw, hw0]
   have c1 : ¬ ((by_ : Int) * l > 2 ^ 48) := by
     have : (2:Int)^47 ≤ 2^48 := by decide
     omega
   have c5 : decide ((by_ : Int) * l > 2 ^ 48) = false := decide_eq_false c1
   have c2 : decide (l < 0) = false := decide_eq_false (by omega)
   have c4 : decide ((0 : Int) > l) = false := by simp; omega
   simp only [c2, c4, c5, Bool.false_or, Int.lt_irrefl, decide_false, Bool.or_false, Bool.false_eq_true, if_false]
   have hr : ¬ (l.toNat * by_ > roomBytes) := by
     unfold roomBytes
     have : ((l.toNat * by_ : Nat) : Int) = by_ * l := by rw [Int.natCast_mul, Int.toNat_of_nonneg h0, Int.mul_comm]
     have h47 : ((2 ^ 47 : Nat) : Int) = 2 ^ 47 := by decide
     omega
   unfold askRoom
   simp only [hr, if_false]
   rw [run_ok_bind (run_pure _ _ _), run_ok_bind (hT.siz w)]
   have hn : l.toNat * s = l.toNat * (cellsL z).length := by rw [hs]
   by_cases h00 : l.toNat * s = 0
   · rw [if_pos h00, run_ok_bind (run_pure _ _ _)]
     have e0 : zeros z l.toNat = [] := List.eq_nil_of_length_eq_zero (by rw [zeros_len, hs]; exact h00)
     rw [h00, e0, show (Array.range 0) = #[] from rfl, Array.map_empty]
     rfl
   · rw [if_neg h00, run_ok_bind (hz.zero w), cells_eq]
     rw [run_ok_bind (run_pure _ _ _), range_zeros hn]
     rfl
 refine ch_value (v := .slice (some ⟨w.heap.size, 0, none⟩) 0 l.toNat) (value_of h1) (h w.heap.size _ _ ((rl.heap (rl.h.alloc _ _)).put _ hd))
end
end Go.Sx
end

section
set_option maxRecDepth 100000
namespace Go.Sx
open Go Go.Proofs
end Go.Sx
end

section
set_option maxRecDepth 100000
namespace Go.Sx
open Go Go.Proofs
def IsT (k : Nat) (G : Gh) : Tr → Option Addr → Prop
 | .leaf b, p => ∃ n, p = some ⟨n, 0, none⟩ ∧ G n = some [.int .i64 0, .int .i64 0, .pointer none, .int .i64 0, .int .i64 0, .pointer none, .int .i64 0, .int .i64 0, .pointer none, .pointer none, .pointer none, .bool b]
 | .node l x y, p => ∃ (n : Nat) (z : LV) (q r : Option Addr), p = some ⟨n, 0, none⟩ ∧ G n = some [.int .i64 z.a.n, .int .i64 z.a.d, .pointer z.a.p, .int .i64 z.b.n, .int .i64 z.b.d, .pointer z.b.p, .int .i64 z.c.n, .int .i64 z.c.d, .pointer z.c.p, .pointer q, .pointer r, .bool false] ∧ IsL k G z l ∧ IsT k G x q ∧ IsT k G y r
end Go.Sx
end

section
set_option maxRecDepth 100000
namespace Go.Sx
open Go Go.Proofs
structure ND where
 a : IV
 b : IV
 c : IV
 l : Int
 r : Int
def ND.val (z : ND) : Value := .agg ⟨[.bool z.a.neg, .slice z.a.a.a z.a.a.n z.a.a.c, .bool z.b.neg, .slice z.b.a.a z.b.a.n z.b.a.c, .bool z.c.neg, .slice z.c.a.a z.c.a.n z.c.a.c, .int .i64 z.l, .int .i64 z.r]⟩
structure IsND (k : Nat) (G : Gh) (z : ND) (n : NQ) : Prop where
 a : IsI k G z.a n.l.a
 b : IsI k G z.b n.l.b
 c : IsI k G z.c n.l.c
 l : z.l = n.a
 r : z.r = n.b
theorem IsND.up {k : Nat} {A G : Gh} {z : ND} {n : NQ} (h : IsND k A z n) [GL A G] : IsND k G z n := ⟨h.a.up, h.b.up, h.c.up, h.l, h.r⟩
structure IsNs (k : Nat) (G : Gh) (x : SV) (ns : List NQ) : Prop where
 ex : ∃ zs : List ND, IsSl G 8 x (zs.map ND.val) ∧ All2 (IsND k G) zs ns
def seenL (n i : Nat) : List Value := (List.range n).map fun j => .bool (decide (j < i))
end Go.Sx
end

section
set_option maxRecDepth 100000
namespace Go.Sx
open Go Go.Proofs
end Go.Sx
end

section
set_option maxRecDepth 100000
namespace Go.Sx
open Go Go.Proofs
theorem ND.len8 (zs : List ND) : ∀ v ∈ zs.map ND.val, (cellsL v).length = 8 := fun v hv => by
 obtain ⟨f, _, rfl⟩ := List.mem_map.1 hv; rfl
theorem ND.flat (zs : List ND) : ∀ v ∈ zs.map ND.val, ∀ c ∈ cellsL v, Sx.flat c = true := fun v hv c hc => by
 obtain ⟨f, _, rfl⟩ := List.mem_map.1 hv
 simp only [ND.val, cellsL, List.mem_cons, List.not_mem_nil, or_false] at hc
 rcases hc with rfl | rfl | rfl | rfl | rfl | rfl | rfl | rfl <;> rfl
theorem All2.set {α β : Type} {R : α → β → Prop} {us : List α} {bs : List β} (h : All2 R us bs) {a : α} {b : β} (hr : R a b) (i : Nat) : All2 R (us.set i a) (bs.set i b) := by
 induction h generalizing i with
 | nil => simp; exact .nil
 | cons h t ih =>
   cases i with
   | zero => exact .cons hr t
   | succ i => exact .cons h (ih i)
theorem nodes_set (zs : List ND) (rest : List Value) (i j : Nat) (x : Value) (z : ND) (hi : i < zs.length) (hj : j < 8) (hz : cellsL z.val = (cellsL (zs[i]).val).set j x) :
  (flatL (zs.map ND.val) ++ rest).set (i * 8 + j) x = flatL ((zs.set i z).map ND.val) ++ rest := by
 have hi' : i < (zs.map ND.val).length := by simpa using hi
 rw [flat_set hj _ i hi' (ND.len8 zs), List.getElem_map, ← hz, List.map_set, List.set_eq_take_append_cons_drop, if_pos hi', flatL_app]
 have e : flatL (z.val :: (zs.map ND.val).drop (i + 1)) = cellsL z.val ++ flatL ((zs.map ND.val).drop (i + 1)) := by simp [flatL]
 rw [e]
 simp [List.append_assoc]
def apiClo (ob wb : Nat) : Value := .func (.func 107) #[] #[.pointer (some ⟨ob, 0, none⟩), .pointer (some ⟨wb, 0, none⟩)]
end Go.Sx
end

section
set_option maxRecDepth 100000
namespace Go.Sx
open Go Go.Proofs
structure PtV where
 x : SV
 p : Option Addr
def PtV.val (z : PtV) : Value := .agg ⟨[.slice z.x.a z.x.n z.x.c, .pointer z.p]⟩
structure IsPt (k : Nat) (G : Gh) (z : PtV) (b : Bool × CellQ) : Prop where
 c : IsC k G z.x b.2
 t : IsT k G (.leaf b.1) z.p
structure IsPs (k : Nat) (G : Gh) (w : SV) (ps : List (Bool × CellQ)) : Prop where
 ex : ∃ zs : List PtV, IsSl G 2 w (zs.map PtV.val) ∧ All2 (IsPt k G) zs ps
end Go.Sx
end

section
set_option maxRecDepth 100000
namespace Go.Sx
open Go Go.Proofs
structure LI where
 a : IV
 b : IV
 c : IV
def LI.val (z : LI) : Value := .agg ⟨[.bool z.a.neg, .slice z.a.a.a z.a.a.n z.a.a.c, .bool z.b.neg, .slice z.b.a.a z.b.a.n z.b.a.c, .bool z.c.neg, .slice z.c.a.a z.c.a.n z.c.a.c]⟩
structure IsLI (k : Nat) (G : Gh) (z : LI) (l : LnQ) : Prop where
 a : IsI k G z.a l.a
 b : IsI k G z.b l.b
 c : IsI k G z.c l.c
structure IsLIs (k : Nat) (G : Gh) (x : SV) (ls : List LnQ) : Prop where
 ex : ∃ zs : List LI, IsSl G 6 x (zs.map LI.val) ∧ All2 (IsLI k G) zs ls
structure IsLns (k : Nat) (G : Gh) (x : SV) (ls : List LnQ) : Prop where
 ex : ∃ zs : List LV, IsSl G 9 x (zs.map LV.v) ∧ All2 (IsL k G) zs ls
end Go.Sx
end

section
set_option maxRecDepth 100000
namespace Go.Sx
open Go Go.Proofs
theorem eI_eq {a b : Int} (h : a = b) : eI a = eI b := by rw [h]
theorem eQ_int (z : Int) : eQ (z : Rat) = .ag [.v (.bool (decide (z < 0))), dN z.natAbs, .sl []] := by unfold eQ; rw [Rat.num_intCast, Rat.den_intCast]; rfl
theorem rat_of_den {a : Rat} (h : a.den = 1) : ((a.num : Int) : Rat) = a := Rat.ext (Rat.num_intCast _) (by rw [Rat.den_intCast, h])
theorem plus_int {a b : Rat} (ha : a.den = 1) (hb : b.den = 1) : a + b = ((a.num + b.num : Int) : Rat) := by
 rw [Rat.intCast_add, rat_of_den ha, rat_of_den hb]
theorem times_int {a b : Rat} (ha : a.den = 1) (hb : b.den = 1) : a * b = ((a.num * b.num : Int) : Rat) := by
 rw [Rat.intCast_mul, rat_of_den ha, rat_of_den hb]
theorem dD_len (n : Nat) (h : 0 < n) : (if n = 1 then [] else (dg n).map dU).length = 0 ↔ n = 1 := by
 by_cases q : n = 1
 · simp [q]
 · rw [if_neg q, List.length_map, dg_len_zero]; omega
theorem dD_of {n : Nat} (h : n ≠ 1) : dD n = dN n := by unfold dD; rw [if_neg h]; rfl
theorem cmpN_one {g : Nat} : (cmpN g 1 = 0) ↔ g = 1 := by
 unfold cmpN
 constructor
 · intro h; split at h
   · exact absurd h (by decide)
   · split at h
     · assumption
     · exact absurd h (by decide)
 · rintro rfl; rfl
theorem mk_num {x : Int} {d : Nat} (hd : 0 < d) : zv (decide (x < 0)) (x.natAbs / Nat.gcd x.natAbs d) = (mkRat x d).num := by
 rw [Rat.num_mkRat, if_neg (by omega), Nat.gcd_comm]
 have hg : 0 < Nat.gcd d x.natAbs := Nat.gcd_pos_of_pos_left _ hd
 obtain ⟨c, hc⟩ : Nat.gcd d x.natAbs ∣ x.natAbs := Nat.gcd_dvd_right _ _
 generalize Nat.gcd d x.natAbs = g at *
 rw [hc, Nat.mul_div_cancel_left _ hg]
 unfold zv
 by_cases q : x < 0
 · rw [if_pos (by simpa using q), show x = (g : Int) * (-(c : Int)) by rw [Int.mul_neg, ← Int.natCast_mul]; omega, Int.mul_ediv_cancel_left _ (by omega)]
 · rw [if_neg (by simpa using q), show x = (g : Int) * (c : Int) by rw [← Int.natCast_mul]; omega, Int.mul_ediv_cancel_left _ (by omega)]
theorem mk_den {x : Int} {d : Nat} (hd : 0 < d) : d / Nat.gcd x.natAbs d = (mkRat x d).den := by
 rw [Rat.den_mkRat, if_neg (by omega), Nat.gcd_comm]
theorem mk_one {x : Int} {d : Nat} (hd : 0 < d) (h : Nat.gcd x.natAbs d = 1) : (mkRat x d).num = x ∧ (mkRat x d).den = d := by
 rw [← mk_num hd, ← mk_den hd, h, Nat.div_one, Nat.div_one]
 exact ⟨zv_eta x, rfl⟩
end Go.Sx
end

section
set_option maxRecDepth 100000
namespace Go.Sx
open Go Go.Proofs
instance BI.zv (neg : Bool) (m i : Nat) [h : BN m i] : BI (zv neg m) i := ⟨by rw [zv_abs]; exact h.h⟩
section
variable {GB : Gh} {C : Ctx} {n : Nat} {Q0 : Exit → Act → World → Prop} {fr fr' : FrX} {own own' : OwX} {cf cf' : Cf} {vc : List Prop}
def cvwA (fr : FrX) (cf : Cf) : Option Int := match opC fr cf with
 | some ⟨_, .convert t t' x, _, _, _, _⟩ => match lookT tt t, lookT tt t' with
   | some ⟨.int .i64, _, _, _⟩, some ⟨.int .u64, _, _, _⟩ => match evX (lkC fr cf) x with
     | some (.d (.v (.int .i64 p))) => some p
     | _ => none
   | _, _ => none
 | _ => none
theorem cvw [fu : Fu] {p : Int} (q : Int) (h : cvwA fr cf = some p) (e : p % 18446744073709551616 = q) (hgo : goA tt n fu.n fr own cf (.d (.v (.int .u64 q))) [] [] = ⟨vc, fr', own', cf'⟩) (k : CfS Tryz.prog GB C n Q0 fr' own' cf')
  (hv : allP vc := by first | exact trivial | (simp only [allP]; omega)) : CfS Tryz.prog GB C n Q0 fr own cf := by
 unfold cvwA at h
 split at h <;> try (cases h; done)
 rename_i hh
 split at h <;> try (cases h; done)
 rename_i hT hT'
 split at h <;> cases h
 rename_i hx
 have := ti_int (tt_ok _ _ hT) rfl
 have := ti_int (tt_ok _ _ hT') rfl
 refine us hh (.x1 hx fun ρ G ov a w y _ r h1 h2 => ?_) hgo hv k
 rw [isX_int] at h2; subst h2
 refine ⟨_, isX_int.2 rfl, ?_⟩
 rw [← e, ← wrap_u64]
 exact yd_conv h1
def ngwA (fr : FrX) (cf : Cf) : Option Int := match opC fr cf with
 | some ⟨_, .unOp .neg _ x, _, _, _, _⟩ => match evX (lkC fr cf) x with
   | some (.d (.v (.int .u64 p))) => some p
   | _ => none
 | _ => none
theorem ngw [fu : Fu] {p : Int} (q : Int) (h : ngwA fr cf = some p) (e : (0 - p) % 18446744073709551616 = q) (hgo : goA tt n fu.n fr own cf (.d (.v (.int .u64 q))) [] [] = ⟨vc, fr', own', cf'⟩) (k : CfS Tryz.prog GB C n Q0 fr' own' cf')
  (hv : allP vc := by first | exact trivial | (simp only [allP]; omega)) : CfS Tryz.prog GB C n Q0 fr own cf := by
 unfold ngwA at h
 split at h <;> try (cases h; done)
 rename_i hh
 split at h <;> cases h
 rename_i hx
 refine us hh (.x1 hx fun ρ G ov a w y _ r h1 h2 => ?_) hgo hv k
 rw [isX_int] at h2; subst h2
 refine ⟨_, isX_int.2 rfl, ?_⟩
 rw [← e, ← wrap_u64]
 exact yd_neg h1
end
theorem q_Int {GB : Gh} {n : Int} (h0 : -4611686018427387904 ≤ n) (h1 : n ≤ 4611686018427387904) : PF GB Tryz.prog 95 [.v (.int .i64 n)] (eI n) := by
 refine fn Tryz.func95 rfl rfl Tryz.ntmps95 rfl rfl (fun C => ?_)
 refine br (fu1 := ⟨3⟩) (fu2 := ⟨6⟩) rfl rfl rfl (fun hc4 => ?_) (fun hc4 => ?_)
 ·
  refine cvw (fu := ⟨0⟩) (18446744073709551616 + n) rfl (by omega) rfl <| ngw (n.natAbs : Nat) rfl (by omega) rfl <| cl rfl (q_Word (u := n.natAbs) (by omega)) rfl <| ?_
  refine cl rfl q_Make rfl <| ?_
  exact rz rfl (eI_eq (by unfold zv; rw [if_pos rfl]; omega))
 ·
  refine eqF 11 (.d (.v (.int .u64 (n.natAbs : Nat)))) rfl (by show FX.d (.v (.int _ _)) = .d (.v (.int _ _)); congr 3; omega) ?_
  refine gx rfl <| cl rfl (q_Word (u := n.natAbs) (by omega)) rfl <| cl rfl q_Make rfl <| ?_
  exact rz rfl (eI_eq (by unfold zv; rw [if_neg (by decide)]; omega))
theorem q_Minus {GB : Gh} {z : Int} : PF GB Tryz.prog 56 [eI z] (eI (-z)) := by
 refine fn Tryz.func56 rfl rfl Tryz.ntmps56 rfl rfl (fun C => ?_)
 refine cl rfl q_Make rfl <| ?_
 exact rz rfl (eI_eq (zv_opp z))
theorem add_same {a b : Int} (h : decide (a < 0) = decide (b < 0)) : zv (decide (a < 0)) (a.natAbs + b.natAbs) = a + b := by
 unfold zv
 have h' : a < 0 ↔ b < 0 := by simpa using h
 by_cases q : a < 0
 · have := h'.1 q
   simp [q]; omega
 · have : ¬ b < 0 := fun w => q (h'.2 w)
   simp [q]; omega
theorem add_lt' {a b : Int} (h : ¬ decide (a < 0) = decide (b < 0)) (k : a.natAbs < b.natAbs) : zv (decide (b < 0)) (b.natAbs - a.natAbs) = a + b := by
 unfold zv
 have h' : ¬ (a < 0 ↔ b < 0) := by simpa using h
 by_cases q : b < 0
 · have : ¬ a < 0 := fun w => h' ⟨fun _ => q, fun _ => w⟩
   simp [q]; omega
 · have : a < 0 := Int.not_le.1 fun w => h' ⟨fun e => by omega, fun e => absurd e q⟩
   simp [q]; omega
theorem add_ge' {a b : Int} (h : ¬ decide (a < 0) = decide (b < 0)) (k : b.natAbs ≤ a.natAbs) : zv (decide (a < 0)) (a.natAbs - b.natAbs) = a + b := by
 unfold zv
 have h' : ¬ (a < 0 ↔ b < 0) := by simpa using h
 by_cases q : a < 0
 · have : ¬ b < 0 := fun w => h' ⟨fun _ => w, fun _ => q⟩
   simp [q]; omega
 · have : b < 0 := Int.not_le.1 fun w => h' ⟨fun e => absurd e q, fun e => by omega⟩
   simp [q]; omega
set_option maxHeartbeats 1000000 in
theorem q_Add {GB : Gh} {a b : Int} {i j : Nat} [ha : BI a i] [hb : BI b j] (hi : i ≤ 400000000 := by decide) (hj : j ≤ 400000000 := by decide) : PF GB Tryz.prog 136 [eI a, eI b] (eI (a + b)) := by
 have hba := dg_len_le ha.h
 have hbb := dg_len_le hb.h
 refine fn (fu := ⟨15⟩) Tryz.func136 rfl rfl Tryz.ntmps136 rfl rfl (fun C => ?_)
 refine eqF 9 (.d (.v (.bool (decide (decide (a < 0) = decide (b < 0)))))) rfl (by congr 2) ?_
 refine gx rfl <| ?_
 refine bd rfl rfl rfl (fun hc9 => ?_) (fun hc9 => ?_)
 ·
  refine cl rfl (q_Sum (by omega) (by omega)) rfl <| cl rfl q_Make rfl <| ?_
  exact rz rfl (eI_eq (add_same hc9))
 ·
  refine cl rfl (q_Cmp (by omega) (by omega)) rfl <| ?_
  refine br rfl rfl rfl (fun hc23 => ?_) (fun hc23 => ?_)
  ·
   refine cl rfl (q_Less (by have := cmpN_neg.1 hc23; omega) (by omega)) rfl <| cl rfl q_Make rfl <| ?_
   exact rz rfl (eI_eq (add_lt' hc9 (cmpN_neg.1 hc23)))
  ·
   refine cl rfl (q_Less (Nat.le_of_not_lt fun q => hc23 (cmpN_neg.2 q)) (by omega)) rfl <| cl rfl q_Make rfl <| ?_
   exact rz rfl (eI_eq (add_ge' hc9 (Nat.le_of_not_lt fun q => hc23 (cmpN_neg.2 q))))
set_option maxHeartbeats 1000000 in
theorem q_Mul {GB : Gh} {a b : Int} {i j : Nat} [ha : BI a i] [hb : BI b j] (hi : i ≤ 400000000 := by decide) (hj : j ≤ 400000000 := by decide) : PF GB Tryz.prog 137 [eI a, eI b] (eI (a * b)) := by
 refine fn Tryz.func137 rfl rfl Tryz.ntmps137 rfl rfl (fun C => ?_)
 refine cl rfl (q_Product (by omega) (by omega)) rfl <| cl rfl q_Make rfl <| ?_
 exact rz rfl (eI_eq (zv_mulI a b))
theorem q_Den {GB : Gh} {q : Rat} : PF GB Tryz.prog 92 [eQ q] (dN q.den) := by
 refine fn Tryz.func92 rfl rfl Tryz.ntmps92 rfl rfl (fun C => ?_)
 refine br rfl rfl rfl (fun hc6 => ?_) (fun hc6 => ?_)
 ·
  refine cl rfl q_One rfl <| ?_
  exact rz rfl (by rw [(dD_len q.den (den_pos' q)).1 (by omega)]; rfl)
 ·
  exact rz rfl (by exact dD_of (fun e => hc6 (by exact congrArg Int.ofNat ((dD_len q.den (den_pos' q)).2 e))))
theorem dg_len_small {n k : Nat} [h : BN n k] (hk : k ≤ 500000000) : (dg n).length ≤ 100000000 := by have := dg_len_le h.h; omega
set_option maxHeartbeats 1000000 in
theorem q_Frac {GB : Gh} {x : Int} {d i j : Nat} [hx : BI x i] [hd : BN d j] (hd0 : 0 < d) (hi : i ≤ 200000000 := by decide) (hj : j ≤ 200000000 := by decide) : PF GB Tryz.prog 113 [eI x, dN d] (eQ (mkRat x d)) := by
 obtain ⟨q, hq⟩ : ∃ q, q = mkRat x d := ⟨_, rfl⟩
 obtain ⟨g, hg⟩ : ∃ g, g = Nat.gcd x.natAbs d := ⟨_, rfl⟩
 have hg0 : 0 < g := hg ▸ Nat.gcd_pos_of_pos_right _ hd0
 haveI hgB : BN g (i + j) := hg ▸ inferInstance
 have hg1 : (dg g).length ≤ 100000000 := dg_len_small (k := i + j) (by omega)
 have ho1 : (dg 1).length ≤ 100000000 := by rw [dg_one]; decide
 haveI hqB : BQ q (i + j) := hq ▸ mkRat_bd hd0 (Nat.lt_of_lt_of_le hx.h (Nat.pow_le_pow_right (by decide) (by omega))) (Nat.lt_of_lt_of_le hd.h (Nat.pow_le_pow_right (by decide) (by omega)))
 refine fn Tryz.func113 rfl rfl Tryz.ntmps113 rfl rfl (fun C => ?_)
 refine cl (fu := ⟨0⟩) rfl (q_Common (by omega) (by omega)) rfl <| ?_
 refine eqF 11 (.d (dN g)) rfl (by rw [hg]) ?_
 refine gx (fu := ⟨4⟩) rfl <| ?_
 refine mg (fu := ⟨1⟩) (X := Unit) (fun _ => [(1, .d (dN q.den)), (2, .ov 2 0), (4, .ov 4 0)]) (fun _ => [(4, some (.o 87 [.ff, .nl, .nl] true)), (2, some (.o 30 [.d (.v (.bool (decide (q.num < 0)))), .d (dN q.num.natAbs)] true))]) (fun _ => True) [1, 2, 4] [4, 2] rfl ?_ (fun _ => rfl) (fun _ hm => ?_)
 ·
  refine gx rfl <| cl rfl q_One rfl <| cl rfl (q_Cmp hg1 ho1) rfl <| ?_
  refine br rfl rfl rfl (fun hc15 => ?_) (fun hc15 => ?_)
  ·
   refine cl rfl (q_Divide hg0 (by omega) (by omega)) rfl <| cl (fu := ⟨0⟩) rfl q_Make rfl <| ?_
   refine eqF 26 (.d (eI q.num)) rfl (by show FX.d (eI (zv _ _)) = _; rw [hg, mk_num hd0, hq]) ?_
   refine gx rfl <| cl (fu := ⟨2⟩) rfl (q_Divide hg0 (by omega) (by omega)) rfl <| ?_
   refine eqF 31 (.d (dN q.den)) rfl (by rw [hg, mk_den hd0, hq]) ?_
   refine gx rfl <| ?_
   exact at_ () trivial
  ·
   have hm := mk_one (x := x) hd0 (by rw [← hg]; exact cmpN_one.1 (Decidable.not_not.1 hc15))
   rw [← hq] at hm
   refine eqF 1 (.d (dN q.den)) rfl (by rw [hm.2]) ?_
   exact at_ () trivial (hO := ⟨rfl, by rw [hm.1]; rfl, trivial⟩)
 ·
  refine mg (X := Unit) (fun _ => [(1, .d (dD q.den)), (2, .ov 2 0), (4, .ov 4 0)]) (fun _ => [(4, some (.o 87 [.ff, .nl, .nl] true)), (2, some (.o 30 [.d (.v (.bool (decide (q.num < 0)))), .d (dN q.num.natAbs)] true))]) (fun _ => True) [1, 2, 4] [4, 2] rfl ?_ (fun _ => rfl) (fun _ hm => ?_)
  ·
   refine gx rfl <| cl rfl q_One rfl <| cl rfl (q_Cmp (dg_len_small (k := i + j) (by omega)) ho1) rfl <| ?_
   refine br rfl rfl rfl (fun hc36 => ?_) (fun hc36 => ?_)
   ·
    refine nlD 1 rfl ?_
    refine eqF 1 (.d (dD q.den)) rfl (by rw [cmpN_one.1 hc36]; rfl) ?_
    exact at_ () trivial
   ·
    refine eqF 1 (.d (dD q.den)) rfl (by rw [dD_of (fun e => hc36 (cmpN_one.2 e))]) ?_
    exact at_ () trivial
  ·
   exact rz rfl (by rw [← hq]; rfl)
end Go.Sx
end

section
set_option maxRecDepth 100000
namespace Go.Sx
open Go Go.Proofs
theorem mkRat_self' (a : Rat) : mkRat a.num a.den = a := by simp [Rat.mkRat_self]
theorem over_mk {a b : Rat} (h : b ≠ 0) : a / b = mkRat (a.num * zv (decide (b.num < 0)) b.den) (a.den * b.num.natAbs) := by
 rw [Rat.mkRat_eq_div]
 have ha : (a.num : Rat) / (a.den : Rat) = a := by rw [← Rat.mkRat_eq_div, mkRat_self']
 have hb : (b.num : Rat) / (b.den : Rat) = b := by rw [← Rat.mkRat_eq_div, mkRat_self']
 have h1 : (a.den : Rat) ≠ 0 := by have := a.den_nz; exact_mod_cast this
 have h2 : (b.den : Rat) ≠ 0 := by have := b.den_nz; exact_mod_cast this
 have h3 : (b.num : Rat) ≠ 0 := by
   intro e
   rw [e] at hb
   apply h; rw [← hb]; grind
 rw [Rat.intCast_mul, Rat.natCast_mul]
 by_cases q : b.num < 0
 · have e1 : ((zv (decide (b.num < 0)) b.den : Int) : Rat) = -(b.den : Rat) := by
     unfold zv; rw [if_pos (by simpa using q), Rat.intCast_neg]; rfl
   have e2 : ((b.num.natAbs : Nat) : Rat) = -(b.num : Rat) := by
     have : ((b.num.natAbs : Nat) : Int) = -b.num := by omega
     rw [← Rat.intCast_neg, ← this]; rfl
   rw [e1, e2]
   generalize (a.num : Rat) = an at *
   generalize (a.den : Rat) = ad at *
   generalize (b.num : Rat) = bn at *
   generalize (b.den : Rat) = bd at *
   subst ha hb
   grind
 · have e1 : ((zv (decide (b.num < 0)) b.den : Int) : Rat) = (b.den : Rat) := by
     unfold zv; rw [if_neg (by simpa using q)]; rfl
   have e2 : ((b.num.natAbs : Nat) : Rat) = (b.num : Rat) := by
     have : ((b.num.natAbs : Nat) : Int) = b.num := by omega
     rw [← this]; rfl
   rw [e1, e2]
   generalize (a.num : Rat) = an at *
   generalize (a.den : Rat) = ad at *
   generalize (b.num : Rat) = bn at *
   generalize (b.den : Rat) = bd at *
   subst ha hb
   grind
theorem le_of_frac {q : Rat} {n : Int} {d : Nat} (hd : 0 < d) (h : q * (d : Rat) = (n : Rat)) : q.num.natAbs ≤ n.natAbs ∧ q.den ≤ d := by
 have e : q = mkRat n d := by
  rw [Rat.mkRat_eq_div]
  have : (d : Rat) ≠ 0 := by exact_mod_cast (by omega : d ≠ 0)
  rw [← h]; grind
 rw [e, Rat.num_mkRat, Rat.den_mkRat, if_neg (by omega), if_neg (by omega)]
 exact ⟨Int.natAbs_ediv_le_natAbs n (d.gcd n.natAbs : Nat), Nat.div_le_self ..⟩
theorem BQ.of_frac {q : Rat} {n : Int} {d i : Nat} (hd : 0 < d) (h : q * (d : Rat) = (n : Rat)) (hn : n.natAbs < 2 ^ i) (hdi : d < 2 ^ i) : BQ q i := by
 have := le_of_frac hd h
 exact ⟨by omega, by omega⟩
theorem num_pos_of {b : Rat} (h : b ≠ 0) : 0 < b.num.natAbs := by
 have : b.num ≠ 0 := fun e => h (Rat.num_eq_zero.1 e)
 omega
instance BQ.over (a b : Rat) (i j : Nat) [ha : BQ a i] [hb : BQ b j] : BQ (a / b) (i + j) := by
 by_cases h : b = 0
 · subst h
   rw [Rat.div_def, Rat.inv_zero, Rat.mul_zero]
   have h2 := ha.hd
   have h3 : 0 < a.den := den_pos' a
   have h4 : 2 ^ i * 1 ≤ 2 ^ i * 2 ^ j := Nat.mul_le_mul_left _ (Nat.pow_pos (by decide))
   rw [← Nat.pow_add] at h4
   exact ⟨by show 0 < _; omega, by show 1 < _; omega⟩
 · rw [over_mk h]
   have hb0 := num_pos_of h
   refine mkRat_bd (Nat.mul_pos (den_pos' a) hb0) ?_ (mul_lt_pow ha.hd hb.hn)
   rw [Int.natAbs_mul, zv_abs]
   exact mul_lt_pow ha.hn hb.hd
theorem q_Of {GB : Gh} {n : Int} (h0 : -4611686018427387904 ≤ n) (h1 : n ≤ 4611686018427387904) : PF GB Tryz.prog 43 [.v (.int .i64 n)] (eQ (n : Rat)) := by
 refine fn Tryz.func43 rfl rfl Tryz.ntmps43 rfl rfl (fun C => ?_)
 refine cl rfl (q_Int (by omega) (by omega)) rfl <| ?_
 exact rz rfl (by rw [eQ_int]; rfl)
theorem q_Opp {GB : Gh} {q : Rat} : PF GB Tryz.prog 88 [eQ q] (eQ (-q)) := by
 refine fn Tryz.func88 rfl rfl Tryz.ntmps88 rfl rfl (fun C => ?_)
 refine cl rfl q_Minus rfl <| ?_
 exact rz rfl (by unfold eQ; rw [Rat.neg_num, Rat.neg_den]; rfl)
set_option maxHeartbeats 1000000 in
theorem q_Times {GB : Gh} {a b : Rat} {i j : Nat} [ha : BQ a i] [hb : BQ b j] (hi : i ≤ 20000000 := by decide) (hj : j ≤ 20000000 := by decide) : PF GB Tryz.prog 90 [eQ a, eQ b] (eQ (a * b)) := by
 have had := den_pos' a
 have hbd := den_pos' b
 have hdp := Nat.mul_pos had hbd
 have e1 := dD_len a.den had
 have e2 := dD_len b.den hbd
 refine fn Tryz.func90 rfl rfl Tryz.ntmps90 rfl rfl (fun C => ?_)
 refine cs 9 rfl rfl rfl (fun hg9 => ?_) (fun hg9 => ?_)
 ·
  refine br rfl rfl rfl (fun hc14 => ?_) (fun hc14 => ?_)
  ·
   refine cl rfl (q_Mul (a := a.num) (b := b.num) (by omega) (by omega)) rfl <| ?_
   exact rz rfl (by rw [times_int (e1.1 (by omega)) (e2.1 (by omega)), eQ_int]; rfl)
  ·
   refine cl rfl (q_Mul (a := a.num) (b := b.num) (by omega) (by omega)) rfl <| cl rfl q_Den rfl <| cl rfl q_Den rfl <| cl rfl (q_Product (by omega) (by omega)) rfl <| ?_
   refine cl rfl (q_Frac hdp (by omega) (by omega)) rfl <| ?_
   exact rz rfl (by rw [rat_mul_mk]; rfl)
 ·
  refine cl rfl (q_Mul (a := a.num) (b := b.num) (by omega) (by omega)) rfl <| cl rfl q_Den rfl <| cl rfl q_Den rfl <| cl rfl (q_Product (by omega) (by omega)) rfl <| ?_
  refine cl rfl (q_Frac hdp (by omega) (by omega)) rfl <| ?_
  exact rz rfl (by rw [rat_mul_mk]; rfl)
set_option maxHeartbeats 1000000 in
theorem q_Plus {GB : Gh} {a b : Rat} {i j : Nat} [ha : BQ a i] [hb : BQ b j] (hi : i ≤ 20000000 := by decide) (hj : j ≤ 20000000 := by decide) : PF GB Tryz.prog 89 [eQ a, eQ b] (eQ (a + b)) := by
 have had := den_pos' a
 have hbd := den_pos' b
 have hdp := Nat.mul_pos had hbd
 have e1 := dD_len a.den had
 have e2 := dD_len b.den hbd
 refine fn Tryz.func89 rfl rfl Tryz.ntmps89 rfl rfl (fun C => ?_)
 refine cs 9 rfl rfl rfl (fun hg9 => ?_) (fun hg9 => ?_)
 ·
  refine br rfl rfl rfl (fun hc14 => ?_) (fun hc14 => ?_)
  ·
   refine cl rfl (q_Add (by omega) (by omega)) rfl <| ?_
   exact rz rfl (by rw [plus_int (e1.1 (by omega)) (e2.1 (by omega)), eQ_int]; rfl)
  ·
   refine cl rfl q_Den rfl <| cl rfl q_Make rfl <| cl rfl (q_Mul (a := a.num) (b := zv false b.den) (by omega) (by omega)) rfl <| cl rfl q_Den rfl <| cl rfl q_Make rfl <| ?_
   refine cl rfl (q_Mul (a := b.num) (b := zv false a.den) (by omega) (by omega)) rfl <| cl rfl (q_Add (by omega) (by omega)) rfl <| cl rfl q_Den rfl <| ?_
   refine cl rfl q_Den rfl <| cl rfl (q_Product (by omega) (by omega)) rfl <| cl rfl (q_Frac hdp (by omega) (by omega)) rfl <| ?_
   exact rz rfl (by rw [rat_add_mk]; rfl)
 ·
  refine cl rfl q_Den rfl <| cl rfl q_Make rfl <| cl rfl (q_Mul (a := a.num) (b := zv false b.den) (by omega) (by omega)) rfl <| cl rfl q_Den rfl <| ?_
  refine cl rfl q_Make rfl <| cl rfl (q_Mul (a := b.num) (b := zv false a.den) (by omega) (by omega)) rfl <| cl rfl (q_Add (by omega) (by omega)) rfl <| ?_
  refine cl rfl q_Den rfl <| cl rfl q_Den rfl <| cl rfl (q_Product (by omega) (by omega)) rfl <| cl rfl (q_Frac hdp (by omega) (by omega)) rfl <| ?_
  exact rz rfl (by rw [rat_add_mk]; rfl)
instance BI.two : BI 2 2 := ⟨by decide⟩
end Go.Sx
end

section
set_option maxRecDepth 100000
namespace Go.Sx
open Go Go.Proofs
section
variable {GB : Gh} {C : Ctx} {n : Nat} {Q0 : Exit → Act → World → Prop} {fr fr' : FrX} {own own' : OwX} {cf cf' : Cf} {vc : List Prop} {ops : Array Oper} {o : Oper} {K : List Kt} {r : List Oper}
def OpF (GB : Gh) (C : Ctx) (n : Nat) (lk : LK) (bk : BM) (o : Oper) (ι : Type) (f : ι → FX) (bl : ι → List (Nat × Option Bk)) (nw : List Nat) : Prop :=
 dstOk n o.dst = true → ∀ (tl : LK) (tb : BM) (K : Act → World → Prop), SubX lk tl → SubX bk tb → FreshX nw o.dst tl tb → (∀ x, SX GB C n (upL tl o.dst (f x)) (Sx.upB tb (bl x)) K) → SX GB C n tl tb (fun a w => ∀ Q, o.wp Tryz.prog a w K Q)
def hdO : Cf → Option (Array Oper × Oper × List Oper × List Kt)
 | .ops ops (o :: r) K => some (ops, o, r, K)
 | _ => none
def goF (n q : Nat) (fr : FrX) (own : OwX) (cf : Cf) (f : FX) (bl : List (Nat × Option Bk)) : Res := match cf with
 | .ops ops (o :: r) K => setsK own bl fun own' => putK fr o.dst f fun fr' => go tt n q [] fr' own' (.ops ops r K)
 | _ => bad
def okF (n : Nat) (fr : FrX) (own : OwX) (cf : Cf) (nw : List Nat) : Bool := match cf with
 | .ops ops (o :: _) _ => freshL nw o.dst fr own && dstOk n o.dst && grd ops (lookX fr) o.guard
 | _ => false
def calN (fr : FrX) (cf : Cf) : Option (FuncId × List DV × Nat) := match opC fr cf with
 | some ⟨some d, .call ⟨.value fo, args, _⟩, _, _, _, _⟩ => match cargs (lkC fr cf) fo args with
   | some (f, ds) => some (f, ds, d)
   | none => none
 | _ => none
def PMXpost (C : Ctx) (b : Nat) (m : List Value) (ty : TypeId) (lo : Bool) (ι : Type) (rv : ι → DV) (cs' : ι → List DV) : Ending → World → Prop := RPostM C [⟨b, m, ty, lo⟩] (fun v css G' => ∃ x, Is G' (rv x) v ∧ ∃ m', css = [m'] ∧ IsLs G' (cs' x) m')
end
end Go.Sx
end

section
set_option maxRecDepth 100000
namespace Go.Sx
open Go Go.Proofs
section
variable {GB : Gh} {C : Ctx} {n : Nat} {Q0 : Exit → Act → World → Prop} {fr fr' : FrX} {own own' : OwX} {cf cf' : Cf} {vc : List Prop} {ops : Array Oper} {o : Oper} {K : List Kt} {r : List Oper}
/-! ### a row handed back beside the borrowed variable -/
def dstC (fr : FrX) (cf : Cf) : Option Nat := match opC fr cf with
 | some o => o.dst
 | none => none
def PMRpost (C : Ctx) (b : Nat) (ty : TypeId) (s : Nat) (ty2 : TypeId) (ι : Type) (rows cs' : ι → List DV) : Ending → World → Prop := RPostO C (fun v own' G' => ∃ x w m' B, v = .slice w.a w.n w.c ∧ own' = ⟨b, m', ty, false⟩ :: B ∧ IsLs G' (cs' x) m' ∧ BufIs G' ⟨w, s, ty2, rows x, true⟩ B ∧ ∀ o ∈ B, b ≠ o.b)
end
end Go.Sx
end

section
set_option maxRecDepth 100000
namespace Go.Sx
open Go
def crossI (l m : LnQ) : Int := l.a * m.b - m.a * l.b
def meetX (l m : LnQ) : Int := l.b * m.c - m.b * l.c
def meetY (l m : LnQ) : Int := m.a * l.c - l.a * m.c
def meetP (l m : LnQ) : PtQ := if crossI l m = 0 then ⟨0, 0⟩ else ⟨(meetX l m : Rat) / (crossI l m : Rat), (meetY l m : Rat) / (crossI l m : Rat)⟩
def paramQ (l : LnQ) (p : PtQ) : Rat := p.dot l.dir / l.dir.dot l.dir
theorem dd_nn (l : LnQ) : l.dir.dot l.dir = l.nor.dot l.nor := by
 simp only [LnQ.dir, LnQ.nor, PtQ.dot]; grind
theorem dd_pos {l : LnQ} (h : l.Ne) : 0 < l.dir.dot l.dir := by rw [dd_nn]; exact nn_pos h
theorem cross_cast (l m : LnQ) : ((crossI l m : Int) : Rat) = (l.a : Rat) * m.b - (m.a : Rat) * l.b := by
 unfold crossI; rw [Rat.intCast_sub, Rat.intCast_mul, Rat.intCast_mul]
theorem meetX_cast (l m : LnQ) : ((meetX l m : Int) : Rat) = (l.b : Rat) * m.c - (m.b : Rat) * l.c := by
 unfold meetX; rw [Rat.intCast_sub, Rat.intCast_mul, Rat.intCast_mul]
theorem meetY_cast (l m : LnQ) : ((meetY l m : Int) : Rat) = (m.a : Rat) * l.c - (l.a : Rat) * m.c := by
 unfold meetY; rw [Rat.intCast_sub, Rat.intCast_mul, Rat.intCast_mul]
theorem cutK_cross (l m : LnQ) : l.cutK m = -((crossI l m : Int) : Rat) := by
 rw [cross_cast]; simp only [LnQ.cutK, LnQ.nor, LnQ.dir, PtQ.dot]; grind
theorem cutK_dir (l m : LnQ) : m.dir.cross l.dir = l.cutK m := by
 simp only [LnQ.cutK, LnQ.nor, LnQ.dir, PtQ.dot, PtQ.cross]; grind
theorem base_ref {l : LnQ} : (⟨-((l.c : Rat) / l.dir.dot l.dir) * (l.a : Rat), -((l.c : Rat) / l.dir.dot l.dir) * (l.b : Rat)⟩ : PtQ) = l.base := by
 unfold LnQ.base
 rw [dd_nn]
 simp only [LnQ.nor, PtQ.scale, PtQ.mk.injEq]
 constructor <;> grind
theorem at_ref (l : LnQ) (t : Rat) : movQ l.base l.dir t = l.at t := by
 simp only [movQ, LnQ.at, PtQ.add, PtQ.scale, PtQ.mk.injEq]
 constructor <;> grind
theorem param_meet {l m : LnQ} (hl : l.Ne) (h : crossI l m ≠ 0) : paramQ l (meetP l m) = -(l.cutC m / l.cutK m) := by
 have hd : ((crossI l m : Int) : Rat) ≠ 0 := fun e => h (Rat.intCast_eq_zero_iff.1 e)
 have hn := dd_pos hl
 obtain ⟨q, q1, q2⟩ := base_q hl
 rw [cutK_cross]
 unfold paramQ meetP LnQ.cutC
 rw [if_neg h, q2, val_def, meetX_cast, meetY_cast]
 have hc := cross_cast l m
 rw [dd_nn] at hn ⊢
 simp only [LnQ.dir, LnQ.nor, PtQ.dot] at hn q1 ⊢
 generalize ((crossI l m : Int) : Rat) = d at *
 generalize (l.a : Rat) = a at *
 generalize (l.b : Rat) = b at *
 generalize (l.c : Rat) = c at *
 generalize (m.a : Rat) = x at *
 generalize (m.b : Rat) = y at *
 generalize (m.c : Rat) = z at *
 have hn' : a * a + b * b ≠ 0 := by grind
 have e : ((b * z - y * c) / d * b + (x * c - a * z) / d * -a) = ((b * z - y * c) * b - (x * c - a * z) * a) / d := by grind
 rw [e]
 have k1 : (b * z - y * c) * b - (x * c - a * z) * a = (a * a + b * b) * (x * (a * q) + y * (b * q) + z) := by grind
 rw [k1]
 grind
theorem param_frac {l m : LnQ} (hl : l.Ne) (h : crossI l m ≠ 0) : paramQ l (meetP l m) * ((crossI l m * (l.a * l.a + l.b * l.b) : Int) : Rat) = ((meetX l m * l.b - meetY l m * l.a : Int) : Rat) := by
 have hd : ((crossI l m : Int) : Rat) ≠ 0 := fun e => h (Rat.intCast_eq_zero_iff.1 e)
 have hn := dd_pos hl
 unfold paramQ meetP
 rw [if_neg h]
 simp only [Rat.intCast_mul, Rat.intCast_sub, Rat.intCast_add]
 simp only [LnQ.dir, PtQ.dot] at hn ⊢
 generalize ((crossI l m : Int) : Rat) = d at *
 generalize ((meetX l m : Int) : Rat) = x at *
 generalize ((meetY l m : Int) : Rat) = y at *
 generalize (l.a : Rat) = a at *
 generalize (l.b : Rat) = b at *
 have hn' : b * b + -a * -a ≠ 0 := by grind
 grind
def updLo (v : IvQ) (t : Rat) : IvQ := if v.nl = true ∨ 0 < rcmp t v.lo then ⟨t, v.hi, false, v.nh⟩ else v
def updHi (v : IvQ) (t : Rat) : IvQ := if v.nh = true ∨ rcmp t v.hi < 0 then ⟨v.lo, t, v.nl, false⟩ else v
structure IvZ (v : IvQ) : Prop where
 lo : v.nl = true → v.lo = 0
 hi : v.nh = true → v.hi = 0
theorem rcmp_pos' (a b : Rat) : 0 < rcmp a b ↔ b < a := by
 unfold rcmp; split
 · constructor
   · intro h; exact absurd h (by decide)
   · intro h; grind
 · split
   · exact ⟨fun _ => by assumption, fun _ => by decide⟩
   · constructor
     · intro h; exact absurd h (by decide)
     · intro h; exact absurd h (by assumption)
theorem rcmp_neg' (a b : Rat) : rcmp a b < 0 ↔ a < b := by
 unfold rcmp; split
 · exact ⟨fun _ => by assumption, fun _ => by decide⟩
 · split
   · constructor
     · intro h; exact absurd h (by decide)
     · intro h; grind
   · constructor
     · intro h; exact absurd h (by decide)
     · intro h; exact absurd h (by assumption)
theorem updLo_meet {v : IvQ} (h : IvZ v) (t : Rat) : updLo v t = v.meet ⟨t, 0, false, true⟩ := by
 obtain ⟨lo, hi, nl, nh⟩ := v
 obtain ⟨h1, h2⟩ := h
 unfold updLo IvQ.meet
 simp only [rcmp_pos'] at *
 cases nl <;> cases nh <;> simp at * <;> (try (split <;> split <;> simp_all <;> grind)) <;> grind
theorem updHi_meet {v : IvQ} (h : IvZ v) (t : Rat) : updHi v t = v.meet ⟨0, t, true, false⟩ := by
 obtain ⟨lo, hi, nl, nh⟩ := v
 obtain ⟨h1, h2⟩ := h
 unfold updHi IvQ.meet
 simp only [rcmp_neg'] at *
 cases nl <;> cases nh <;> simp at * <;> (try (split <;> split <;> simp_all <;> grind)) <;> grind
theorem IvZ.lo' {v : IvQ} (h : IvZ v) (t : Rat) : IvZ (updLo v t) := by
 obtain ⟨lo, hi, nl, nh⟩ := v
 unfold updLo; split
 · exact ⟨fun h => by simp at h, h.hi⟩
 · exact h
theorem IvZ.hi' {v : IvQ} (h : IvZ v) (t : Rat) : IvZ (updHi v t) := by
 obtain ⟨lo, hi, nl, nh⟩ := v
 unfold updHi; split
 · exact ⟨h.lo, fun h => by simp at h⟩
 · exact h
theorem step_par {l m : LnQ} {v : IvQ} (h : crossI l m = 0) : l.cutV v m = v ∧ (l.cutB v m = true ↔ 0 < m.value l.base) := by
 have hk : l.cutK m = 0 := by rw [cutK_cross, h]; rfl
 exact cut_zero v hk
theorem step_lo {l m : LnQ} {v : IvQ} (hl : l.Ne) (hz : IvZ v) (h : 0 < m.dir.cross l.dir) : crossI l m ≠ 0 ∧ l.cutV v m = updLo v (paramQ l (meetP l m)) ∧ l.cutB v m = !(updLo v (paramQ l (meetP l m))).empty := by
 rw [cutK_dir] at h
 have hc : crossI l m ≠ 0 := fun e => by rw [cutK_cross, e] at h; exact absurd h (by decide)
 obtain ⟨h1, h2⟩ := cut_up v h
 refine ⟨hc, ?_, ?_⟩
 · rw [updLo_meet hz, param_meet hl hc, h1]
 · rw [updLo_meet hz, param_meet hl hc, ← h1]
   rw [← empty_iff] at h2
   cases hb : l.cutB v m <;> cases he : (l.cutV v m).empty <;> simp_all
theorem step_hi {l m : LnQ} {v : IvQ} (hl : l.Ne) (hz : IvZ v) (h0 : crossI l m ≠ 0) (h : ¬ 0 < m.dir.cross l.dir) : l.cutV v m = updHi v (paramQ l (meetP l m)) ∧ l.cutB v m = !(updHi v (paramQ l (meetP l m))).empty := by
 rw [cutK_dir] at h
 have hk : l.cutK m ≠ 0 := fun e => by
   rw [cutK_cross] at e
   have : ((crossI l m : Int) : Rat) = 0 := by grind
   exact h0 (Rat.intCast_eq_zero_iff.1 this)
 obtain ⟨h1, h2⟩ := cut_dn (l := l) (m := m) v (by grind)
 refine ⟨?_, ?_⟩
 · rw [updHi_meet hz, param_meet hl h0, h1]
 · rw [updHi_meet hz, param_meet hl h0, ← h1]
   rw [← empty_iff] at h2
   cases hb : l.cutB v m <;> cases he : (l.cutV v m).empty <;> simp_all
end Go.Sx
end

section
set_option maxRecDepth 100000
namespace Go.Sx
open Go Go.Proofs
end Go.Sx
end

section
set_option maxRecDepth 100000
namespace Go.Sx
open Go Go.Proofs
def cT : Tr → List DV
 | .leaf b => [.v (.bool true), .v (.bool b), .v (.bool false), .sl [], .v (.bool false), .sl [], .v (.bool false), .sl [], .v (.pointer none), .v (.pointer none)]
 | .node l x y => [.v (.bool false), .v (.bool false), .v (.bool (decide (l.a < 0))), dN l.a.natAbs, .v (.bool (decide (l.b < 0))), dN l.b.natAbs, .v (.bool (decide (l.c < 0))), dN l.c.natAbs, .pt (cT x), .pt (cT y)]
def eT (t : Tr) : DV := .pt (cT t)
def eN (n : NQ) : DV := .ag [.v (.bool (decide (n.l.a < 0))), dN n.l.a.natAbs, .v (.bool (decide (n.l.b < 0))), dN n.l.b.natAbs, .v (.bool (decide (n.l.c < 0))), dN n.l.c.natAbs, .v (.int .i64 n.a), .v (.int .i64 n.b)]
def eA (t : Tr) : DV := .ag [.v (.int .i64 (t.num 0)), .sl ((t.wr 0).map eN)]
theorem isI_to {G : Gh} {k : Nat} {z : IV} {m : Int} (h : IsI k G z m) : Is G (.v (.bool (decide (m < 0)))) (.bool z.neg) ∧ Is G (dN m.natAbs) (.slice z.a.a z.a.n z.a.c) :=
 ⟨is_v.2 (by rw [h.neg]), (is_dN h.abs.lt).2 ⟨_, rfl, h.abs⟩⟩
theorem isI_of {G : Gh} {k : Nat} {m : Int} {u v : Value} (hm : m.natAbs < 2 ^ k) (h1 : Is G (.v (.bool (decide (m < 0)))) u) (h2 : Is G (dN m.natAbs) v) : ∃ z : IV, u = .bool z.neg ∧ v = .slice z.a.a z.a.n z.a.c ∧ IsI k G z m := by
 obtain ⟨x, rfl, hx⟩ := (is_dN hm).1 h2
 exact ⟨⟨decide (m < 0), x⟩, is_v.1 h1, rfl, rfl, hx⟩
structure BL (l : LnQ) (k : Nat) : Prop where
 a : l.a.natAbs < 2 ^ k
 b : l.b.natAbs < 2 ^ k
 c : l.c.natAbs < 2 ^ k
theorem isL_of {G : Gh} {k : Nat} {l : LnQ} {v : Value} (hl : BL l k) (h : Is G (eL l) v) : ∃ a b c : IV, v = .agg ⟨[.bool a.neg, .slice a.a.a a.a.n a.a.c, .bool b.neg, .slice b.a.a b.a.n b.a.c, .bool c.neg, .slice c.a.a c.a.n c.a.c]⟩ ∧ IsI k G a l.a ∧ IsI k G b l.b ∧ IsI k G c l.c := by
 obtain ⟨m, rfl, g⟩ := is_ag.1 h
 clear h
 obtain ⟨v1, m, rfl, h1, h⟩ := isl_cons.1 g
 obtain ⟨v2, m, rfl, h2, h⟩ := isl_cons.1 h
 obtain ⟨v3, m, rfl, h3, h⟩ := isl_cons.1 h
 obtain ⟨v4, m, rfl, h4, h⟩ := isl_cons.1 h
 obtain ⟨v5, m, rfl, h5, h⟩ := isl_cons.1 h
 obtain ⟨v6, m, rfl, h6, h⟩ := isl_cons.1 h
 rw [isl_nil] at h; subst h
 obtain ⟨a, rfl, rfl, ha⟩ := isI_of hl.a h1 h2
 obtain ⟨b, rfl, rfl, hb⟩ := isI_of hl.b h3 h4
 obtain ⟨c, rfl, rfl, hc⟩ := isI_of hl.c h5 h6
 exact ⟨a, b, c, rfl, ha, hb, hc⟩
theorem isND_to {G : Gh} {k : Nat} {n : NQ} {z : ND} (h : IsND k G z n) : Is G (eN n) z.val := by
 refine is_ag.2 ⟨_, rfl, .cons (isI_to h.a).1 (.cons (isI_to h.a).2 (.cons (isI_to h.b).1 (.cons (isI_to h.b).2 (.cons (isI_to h.c).1 (.cons (isI_to h.c).2 (.cons (is_v.2 ?_) (.cons (is_v.2 ?_) .nil)))))))⟩
 · rw [h.l]
 · rw [h.r]
theorem isNs_to {G : Gh} {k : Nat} : ∀ {ns : List NQ} {zs : List ND}, All2 (IsND k G) zs ns → IsLs G (ns.map eN) (zs.map ND.val)
 | _, _, .nil => .nil
 | _, _, .cons h t => .cons (isND_to h) (isNs_to t)
theorem slOkN (ns : List NQ) : slOk 8 (ns.map eN) := fun d hd => by
 obtain ⟨n, _, rfl⟩ := List.mem_map.1 hd; exact ⟨rfl, rfl⟩
theorem isA_to {G : Gh} {k : Nat} {t : Tr} {x : SV} (h : IsNs k G x (t.wr 0)) : Is G (eA t) (.agg ⟨[.int .i64 (t.num 0), .slice x.a x.n x.c]⟩) := by
 obtain ⟨zs, h1, h2⟩ := h
 exact is_ag.2 ⟨_, rfl, .cons (is_v.2 rfl) (.cons (is_sl.2 ⟨8, x, _, rfl, h1, isNs_to h2⟩) .nil)⟩
theorem Tr.all_wr {p : LnQ → Prop} : ∀ {t : Tr} (n : Nat), t.all p → ∀ x ∈ t.wr n, p x.l
 | .leaf b, n, _, x, hx => by cases hx
 | .node l u v, n, ⟨h1, h2, h3⟩, x, hx => by
   simp only [Tr.wr, List.cons_append, List.mem_cons, List.mem_append] at hx
   rcases hx with rfl | hx | hx
   · exact h1
   · exact u.all_wr _ h2 x hx
   · exact v.all_wr _ h3 x hx
end Go.Sx
end

section
set_option maxRecDepth 100000
namespace Go.Sx
open Go Go.Proofs
structure LS (l : LnQ) : Prop where
 ok : l.ok
 a : l.a.natAbs ≤ 4
 b : l.b.natAbs ≤ 4
 c : l.c.natAbs ≤ 40000
theorem LnQ.ext' {l m : LnQ} (h1 : l.a = m.a) (h2 : l.b = m.b) (h3 : l.c = m.c) : l = m := by cases l; cases m; simp_all
instance : DecidableEq NQ := fun x y => decidable_of_iff (x.l = y.l ∧ x.a = y.a ∧ x.b = y.b) (by
 cases x; cases y; simp)
end Go.Sx
end

section
set_option maxRecDepth 100000
namespace Go.Sx
open Go Go.Proofs
class LB (l : LnQ) : Prop where bl : BL l 96
instance LB.a (l : LnQ) [h : LB l] : BI l.a 96 := ⟨h.bl.a⟩
instance LB.b (l : LnQ) [h : LB l] : BI l.b 96 := ⟨h.bl.b⟩
instance LB.c (l : LnQ) [h : LB l] : BI l.c 96 := ⟨h.bl.c⟩
class BPt (p : PtQ) (k : outParam Nat) : Prop where
 x : BQ p.x k
 y : BQ p.y k
instance BPt.ix (p : PtQ) (k : Nat) [h : BPt p k] : BQ p.x k := h.x
instance BPt.iy (p : PtQ) (k : Nat) [h : BPt p k] : BQ p.y k := h.y
instance BPt.dir (l : LnQ) [LB l] : BPt l.dir 97 := ⟨inferInstanceAs (BQ (l.b : Rat) 97), inferInstanceAs (BQ (-(l.a : Rat)) 97)⟩
instance BQ.dot (p q : PtQ) (i j : Nat) [BPt p i] [BPt q j] : BQ (p.dot q) (i + j + (i + j) + 1) := inferInstanceAs (BQ (p.x * q.x + p.y * q.y) _)
instance BQ.cross (p q : PtQ) (i j : Nat) [BPt p i] [BPt q j] : BQ (p.cross q) (i + j + (i + j) + 1) := inferInstanceAs (BQ (p.x * q.y - p.y * q.x) _)
instance BPt.mov (p q : PtQ) (c : Rat) (i j k : Nat) [BPt p i] [BPt q j] [BQ c k] : BPt (movQ p q c) (i + (k + j) + 1) := ⟨inferInstanceAs (BQ (p.x + c * q.x) _), inferInstanceAs (BQ (p.y + c * q.y) _)⟩
instance BQ.value (l : LnQ) (p : PtQ) (i : Nat) [LB l] [BPt p i] : BQ (l.value p) (96 + 1 + i + (96 + 1 + i) + 1 + (96 + 1) + 1) := inferInstanceAs (BQ ((l.a : Rat) * p.x + (l.b : Rat) * p.y + (l.c : Rat)) _)
theorem q_PAdd {GB : Gh} {p q : PtQ} {c : Rat} {i j k : Nat} [hp : BPt p i] [hq : BPt q j] [hc : BQ c k] (hi : i ≤ 200000 := by decide) (hj : j ≤ 200000 := by decide) (hk : k ≤ 200000 := by decide) : PF GB Tryz.prog 42 [eP p, eQ c, eP q] (eP (movQ p q c)) := by
 refine fn Tryz.func42 rfl rfl Tryz.ntmps42 rfl rfl (fun C => ?_)
 refine cl rfl (q_Times (by omega) (by omega)) rfl <| cl rfl (q_Plus (by omega) (by omega)) rfl <| cl rfl (q_Times (by omega) (by omega)) rfl <| cl rfl (q_Plus (by omega) (by omega)) rfl <| ?_
 exact rz rfl rfl
instance BPt.base (l : LnQ) [LB l] : BPt l.base 900 := by
 rw [← base_ref]
 constructor
 · exact BQ.mono (inferInstance : BQ (-((l.c : Rat) / l.dir.dot l.dir) * (l.a : Rat)) _) (by decide)
 · exact BQ.mono (inferInstance : BQ (-((l.c : Rat) / l.dir.dot l.dir) * (l.b : Rat)) _) (by decide)
instance BI.crossI (l m : LnQ) [LB l] [LB m] : BI (crossI l m) 385 := inferInstanceAs (BI (l.a * m.b - m.a * l.b) 385)
instance BI.meetX (l m : LnQ) [LB l] [LB m] : BI (meetX l m) 385 := inferInstanceAs (BI (l.b * m.c - m.b * l.c) 385)
instance BI.meetY (l m : LnQ) [LB l] [LB m] : BI (meetY l m) 385 := inferInstanceAs (BI (m.a * l.c - l.a * m.c) 385)
instance BPt.imeet (l m : LnQ) [LB l] [LB m] : BPt (meetP l m) 772 := by
 unfold meetP
 split
 · exact ⟨BQ.mono (k := 1) ⟨by decide, by decide⟩ (by decide), BQ.mono (k := 1) ⟨by decide, by decide⟩ (by decide)⟩
 · exact ⟨inferInstanceAs (BQ ((meetX l m : Rat) / (crossI l m : Rat)) 772), inferInstanceAs (BQ ((meetY l m : Rat) / (crossI l m : Rat)) 772)⟩
def lcmp (l m : LnQ) : Int := if (l.a - m.a).sign ≠ 0 then (l.a - m.a).sign else if (l.b - m.b).sign ≠ 0 then (l.b - m.b).sign else (l.c - m.c).sign
end Go.Sx
end

section
set_option maxRecDepth 100000
namespace Go.Sx
open Go Go.Proofs
instance BQ.i1 : BQ (((1 : Int) : Rat)) 2 := ⟨by decide, by decide⟩
def eV (v : IvQ) : DV := .ag [.v (.bool (decide (v.lo.num < 0))), dN v.lo.num.natAbs, dD v.lo.den, .v (.bool (decide (v.hi.num < 0))), dN v.hi.num.natAbs, dD v.hi.den, .v (.bool v.nl), .v (.bool v.nh)]
def sampleR (v : IvQ) : Rat := if v.nl = true ∧ v.nh = true then 0 else if v.nl = true then v.hi - 1 else if v.nh = true then v.lo + 1 else (v.lo + v.hi) / 2
end Go.Sx
end

section
set_option maxRecDepth 100000
namespace Go.Sx
open Go Go.Proofs
theorem q_ToN {GB : Gh} {a i : Nat} [ha : BN a i] (hi : i ≤ 400000000 := by decide) : PF GB Tryz.prog 109 [dN a] (dN a) := by
 have hl := mapU_len (dg a)
 have hb := dg_len_le ha.h
 refine fn Tryz.func109 rfl rfl Tryz.ntmps109 rfl rfl (fun C => ?_)
 refine ro0 rfl rfl <| ap ((dg a).map dU) rfl rfl (slOkU _) rfl <| ?_
 refine fzE 5 rfl ?_
 exact rz rfl rfl
theorem q_ToI {GB : Gh} {z : Int} {i : Nat} [hz : BI z i] (hi : i ≤ 400000000 := by decide) : PF GB Tryz.prog 51 [eI z] (eI z) := by
 refine fn Tryz.func51 rfl rfl Tryz.ntmps51 rfl rfl (fun C => ?_)
 refine cl rfl (q_ToN (a := z.natAbs) (i := i) (ha := ⟨hz.h⟩) hi) rfl <| ?_
 exact rz rfl rfl
theorem q_ToL {GB : Gh} {l : LnQ} (hl : BL l 96) : PF GB Tryz.prog 14 [eL l] (eL l) := by
 haveI h1 : BI l.a 96 := ⟨hl.a⟩
 haveI h2 : BI l.b 96 := ⟨hl.b⟩
 haveI h3 : BI l.c 96 := ⟨hl.c⟩
 refine fn Tryz.func14 rfl rfl Tryz.ntmps14 rfl rfl (fun C => ?_)
 refine cl rfl (q_ToI (z := l.a)) rfl <| cl rfl (q_ToI (z := l.b)) rfl <| cl rfl (q_ToI (z := l.c)) rfl <| ?_
 exact rz rfl rfl
end Go.Sx
end

section
set_option maxRecDepth 100000
namespace Go.Sx
open Go Go.Proofs
section
variable {GB : Gh} {C : Ctx} {n : Nat} {Q0 : Exit → Act → World → Prop} {fr fr' : FrX} {own own' : OwX} {cf cf' : Cf} {vc : List Prop} {ops : Array Oper} {o : Oper} {K : List Kt} {r : List Oper}
def PNpost (C : Ctx) (ty : TypeId) (ι : Type) (cs : ι → List DV) : Ending → World → Prop := RPostO C (fun v own' G' => ∃ x b m, v = .pointer (some ⟨b, 0, none⟩) ∧ own' = [⟨b, m, ty, true⟩] ∧ IsLs G' (cs x) m)
theorem bxf [fu : Fu] {d : Nat} {l : List DV} (h : boxA fr cf = some (d, l)) (hgo : goA tt n fu.n fr own cf (.d (.pt l)) [(d, none)] [d] = ⟨vc, fr', own', cf'⟩) (k : CfS Tryz.prog GB C n Q0 fr' own' cf')
  (hv : allP vc := by first | exact trivial | (simp only [allP]; kernel_rfl) | (simp only [allP]; omega) | (simp only [allP, List.length_map, List.length_set, List.length_replicate]; omega)) : CfS Tryz.prog GB C n Q0 fr own cf := by
 unfold boxA at h
 split at h <;> try (cases h; done)
 rename_i hh
 split at h <;> try (cases h; done)
 rename_i g hx
 rw [cond_eq_ite] at h
 split at h <;> try (cases h; done)
 rename_i hc
 simp only [Bool.and_eq_true] at hc
 split at h <;> cases h
 rename_i hl
 exact us hh (ok_boxF hx hc.1 hc.2 hl) hgo hv k
end
end Go.Sx
end

section
set_option maxRecDepth 100000
namespace Go.Sx
open Go Go.Proofs
section
variable {GB : Gh} {C : Ctx} {n : Nat} {Q0 : Exit → Act → World → Prop} {fr fr' : FrX} {own own' : OwX} {cf cf' : Cf} {vc : List Prop} {ops : Array Oper} {o : Oper} {K : List Kt} {r : List Oper}
def mkB : List (Option DV) → SV → List DV
 | [], _ => []
 | some d :: t, w => d :: mkB t w
 | none :: t, w => .v (.slice w.a w.n w.c) :: mkB t w
def evBs (lk : LK) : List Operand → Option (Option Nat × List (Option DV))
 | [] => some (none, [])
 | x :: t => match evX lk x, evBs lk t with
   | some (.rw nm), some (none, l) => some (some nm, none :: l)
   | some f, some (q, l) => match toDX f with
     | some d => some (q, some d :: l)
     | none => none
   | _, _ => none
def cargB (lk : LK) (fo : Operand) (args : Array Operand) : Option (FuncId × Nat × List (Option DV)) := match evX lk fo with
 | some (.d (.v (.func (.func f) ⟨[]⟩ ⟨[]⟩))) => match evBs lk args.toList with
   | some (some nm, l) => some (f, nm, l)
   | _ => none
 | _ => none
structure CbA where
 f : FuncId
 nm : Nat
 l : List (Option DV)
 ty : TypeId
 s : Nat
 ds : List DV
 lo : Bool
 d : Nat
def calB (fr : FrX) (own : OwX) (cf : Cf) : Option CbA := match opC fr cf with
 | some ⟨some d, .call ⟨.value fo, args, _⟩, _, _, _, _⟩ => match cargB (lkC fr cf) fo args with
   | some (f, nm, l) => match bkC fr own cf nm with
     | some (.b ty s ds lo) => bif Nat.beq nm d then none else some ⟨f, nm, l, ty, s, ds, lo, d⟩
     | _ => none
   | none => none
 | _ => none
def args0B : Nat → List (Option DV) → FrX
 | _, [] => []
 | i, some v :: t => (i, .d v) :: args0B (i + 1) t
 | i, none :: t => (i, .rw NM) :: args0B (i + 1) t
def PBpost (C : Ctx) (s : Nat) (ty : TypeId) (pre post dso : List DV) : Ending → World → Prop := RPostO C (fun v own' G' => ∃ w', Is G' (.tp (pre ++ .v (.slice w'.a w'.n w'.c) :: post)) v ∧ BufIs G' ⟨w', s, ty, dso, false⟩ own')
/-! the same with nil as the row of nothing -/
def evBn (lk : LK) : List Operand → Option (List (Option DV))
 | [] => some []
 | x :: t => match evX lk x, evBn lk t with
   | some .nl, some l => some (none :: l)
   | some f, some l => match toDX f with
     | some d => some (some d :: l)
     | none => none
   | _, _ => none
def cargN (lk : LK) (fo : Operand) (args : Array Operand) : Option (FuncId × List (Option DV)) := match evX lk fo with
 | some (.d (.v (.func (.func f) ⟨[]⟩ ⟨[]⟩))) => match evBn lk args.toList with
   | some l => some (f, l)
   | _ => none
 | _ => none
def calBn (fr : FrX) (cf : Cf) : Option (FuncId × List (Option DV) × Nat) := match opC fr cf with
 | some ⟨some d, .call ⟨.value fo, args, _⟩, _, _, _, _⟩ => match cargN (lkC fr cf) fo args with
   | some (f, l) => some (f, l, d)
   | none => none
 | _ => none
end
end Go.Sx
end

section
set_option maxRecDepth 100000
namespace Go.Sx
open Go Go.Proofs
section
variable {P : Program} {C : Ctx} {n : Nat} {fr : Fr} {own own' : List Own} {G : Gh} {Φ : Act → World → Prop}
variable {dst : Option Nat} {t t' ty' : TypeId} {pos : String} {af : Array Edge} {gd : Option (Nat × Bool)} {x y : Operand} {e s by_ : Nat}
theorem ch_mkR [hT : TySl P t e s by_] {z : Value} [hz : TyZ P e z] {k k' : IntKind} {l : Int} (hx : opv fr x = some (.int k 0)) (hy : opv fr y = some (.int k' l)) (h0 : 0 ≤ l) (hb : by_ * l ≤ 2 ^ 47) (hl : l ≤ 2 ^ 60) (hs : (cellsL z).length = s) (hd : dstOk n dst = true)
   (h : ∀ b, St C n (put fr dst (.slice (some ⟨b, 0, none⟩) 0 l.toNat)) (⟨b, zeros z l.toNat, e, true⟩ :: own) G Φ) :
   Ch P C n fr own G ⟨dst, .makeSlice t x y, ty', pos, af, gd⟩ Φ := by
 intro a w Q rl
 have h1 : (Instr.makeSlice t (a.eval x) (a.eval y)).run P w = .ok (.slice (some ⟨w.heap.size, 0, none⟩) 0 l.toNat) (w.alloc (.cells ⟨zeros z l.toNat⟩ e)) := by
   obtain ⟨i, hi, hib⟩ := run_bytes (P := P) (t := t) (e := e) (s := s) (by_ := by_) w
   rw [opv_eval rl.fr hx, opv_eval rl.fr hy]
   unfold Instr.makeSlice
   rw [run_ok_bind (hT.u w)]
   simp only [asInt, asIntOf]
   rw [run_ok_bind (a := 0) (w' := w) rfl, run_ok_bind (a := l) (w' := w) rfl, run_ok_bind hi, hib]
   have hw : IntKind.i64.wrap l = l := wrap_in (by simp [IntKind.min, IntKind.max, IntKind.signed, IntKind.bits]; omega)
   have hw0 : IntKind.i64.wrap 0 = 0 := rfl
   simp only [hw, hw0]
   have c1 : ¬ ((by_ : Int) * l > 2 ^ 48) := by
     have : (2:Int)^47 ≤ 2^48 := by decide
     omega
   have c5 : decide ((by_ : Int) * l > 2 ^ 48) = false := decide_eq_false c1
   have c2 : decide (l < 0) = false := decide_eq_false (by omega)
   have c4 : decide ((0 : Int) > l) = false := by simp; omega
   simp only [c2, c4, c5, Bool.false_or, Int.lt_irrefl, decide_false, Bool.or_false, Bool.false_eq_true, if_false]
   have hr : ¬ (l.toNat * by_ > roomBytes) := by
     unfold roomBytes
     have : ((l.toNat * by_ : Nat) : Int) = by_ * l := by rw [Int.natCast_mul, Int.toNat_of_nonneg h0, Int.mul_comm]
     have h47 : ((2 ^ 47 : Nat) : Int) = 2 ^ 47 := by decide
     omega
   unfold askRoom
   simp only [hr, if_false]
   rw [run_ok_bind (run_pure _ _ _), run_ok_bind (hT.siz w)]
   have hn : l.toNat * s = l.toNat * (cellsL z).length := by rw [hs]
   by_cases h00 : l.toNat * s = 0
   · rw [if_pos h00, run_ok_bind (run_pure _ _ _)]
     have e0 : zeros z l.toNat = [] := List.eq_nil_of_length_eq_zero (by rw [zeros_len, hs]; exact h00)
     rw [h00, e0, show (Array.range 0) = #[] from rfl, Array.map_empty]
     rfl
   · rw [if_neg h00, run_ok_bind (hz.zero w), cells_eq]
     rw [run_ok_bind (run_pure _ _ _), range_zeros hn]
     rfl
 refine ch_value (v := .slice (some ⟨w.heap.size, 0, none⟩) 0 l.toNat) (value_of h1) (h w.heap.size _ _ ((rl.heap (rl.h.alloc _ _)).put _ hd))
def lendG (G : Gh) (ov : List Own) : Gh := fun b => match G b with
 | some cs => some cs
 | none => (ov.find? fun o => Nat.beq o.b b).map (·.cs)
theorem lend_le {ov : List Own} : GLe G (lendG G ov) := fun b cs h => by unfold lendG; rw [h]
theorem find_own {o : Own} : ∀ {ov : List Own}, o ∈ ov → ov.Pairwise (fun x y => x.b ≠ y.b) → ov.find? (fun u => Nat.beq u.b o.b) = some o
 | u :: t, ho, nd => by
   rcases List.mem_cons.1 ho with rfl | ho
   · rw [List.find?_cons_of_pos (by simp)]
   · have := (List.pairwise_cons.1 nd).1 o ho
     rw [List.find?_cons_of_neg (by simpa using this)]
     exact find_own ho (List.pairwise_cons.1 nd).2
theorem lend_own {ov : List Own} {o : Own} (ho : o ∈ ov) (hn : G o.b = none) (nd : ov.Pairwise (fun x y => x.b ≠ y.b)) : lendG G ov o.b = some o.cs := by
 unfold lendG; rw [hn, find_own ho nd]; rfl
theorem HRel.lendSub {ov : List Own} {w : World} (h : HRel C ov G w) (b : Nat) (cs : List Value) (hb : lendG G ov b = some cs) : ∃ ty fz, w.heap[b]? = some (.cells ⟨cs⟩ ty fz) := by
 unfold lendG at hb
 split at hb
 · rename_i hg; cases hb; exact h.sub _ _ hg
 · cases hf : ov.find? (fun o => Nat.beq o.b b) with
   | none => rw [hf] at hb; cases hb
   | some o =>
     rw [hf] at hb; cases hb
     have e : o.b = b := Nat.eq_of_beq_eq_true (by simpa using List.find?_some hf)
     subst e
     exact ⟨_, _, (h.hown o (List.mem_of_find?_eq_some hf)).1⟩
theorem HRel.lent {ov : List Own} {G' : Gh} {w w' : World} (h : HRel C ov G w) (k : HRel ⟨w, lendG G ov, []⟩ [] G' w') : HRel C ov G w' := by
 have same : ∀ b o, w.heap[b]? = some o → w'.heap[b]? = some o := fun b o hb => by rw [k.keep b (blk_lt hb) (by simp)]; exact hb
 have hsz : w.heap.size ≤ w'.heap.size := k.size
 refine ⟨k.os.trans h.os, k.tape.trans h.tape, k.output.trans h.output, Nat.le_trans h.size hsz, fun b hb hm => ?_, fun b cs hb => ?_, h.gle, h.gold, fun o ho => ?_, h.nd⟩
 · have := h.size; rw [k.keep b (by show b < w.heap.size; omega) (by simp)]; exact h.keep b hb hm
 · obtain ⟨ty, fz, h1⟩ := h.sub b cs hb; exact ⟨ty, fz, same _ _ h1⟩
 · obtain ⟨h1, h2⟩ := h.hown o ho; exact ⟨same _ _ h1, h2⟩
theorem ch_callL {f : FuncId} {fo : Operand} {args : Array Operand} {tys : Array TypeId} {vs : List Value} {K : Value → Gh → Prop} (ho : opv fr fo = some (.func (.func f) #[] #[])) (hv : opvs fr args.toList = some vs)
  (hF : Fn P f vs (lendG G own) K) (hd : dstOk n dst = true) (h : ∀ v (G' : Gh), K v G' → St C n (put fr dst v) own G Φ) : Ch P C n fr own G ⟨dst, .call ⟨.value fo, args, tys⟩, ty', pos, af, gd⟩ Φ := by
 intro a w Q rl
 have h2 := run_call (c1 := []) (c2 := []) (P := P) (dst := dst) (ty' := ty') (pos := pos) (af := af) (gd := gd) (tys := tys) (w := w) hF.able rl.fr ho hv
 rw [List.nil_append, List.append_nil] at h2
 simp only [Oper.wp, h2, Oper.upon]
 refine (hF.run w rl.h.lendSub).mono ?_
 rintro e w' ⟨v, G', rfl, hh, hK⟩
 exact h v G' hK _ _ ((rl.heap (rl.h.lent hh)).put _ hd)
end
def DV.np : DV → Bool
 | .v _ => true
 | .tp l => l.all fun d => match d with
   | .v _ => true
   | _ => false
 | _ => false
theorem isl_np {A G : Gh} : ∀ {l : List DV} {m : List Value}, (l.all fun d => match d with | .v _ => true | _ => false) = true → IsLs A l m → IsLs G l m
 | [], m, _, k => isl_nil.2 (isl_nil.1 k)
 | d :: t, m, h, k => by
   obtain ⟨y, n, rfl, k1, k2⟩ := isl_cons.1 k
   simp only [List.all_cons, Bool.and_eq_true] at h
   refine .cons ?_ (isl_np h.2 k2)
   cases d with
   | v x => exact is_v.2 (is_v.1 k1)
   | _ => simp at h
theorem Is.np {A G : Gh} {d : DV} {y : Value} (h : d.np = true) (k : Is A d y) : Is G d y := by
 cases d with
 | v x => exact is_v.2 (is_v.1 k)
 | tp l => obtain ⟨m, e, k⟩ := is_tp.1 k; exact is_tp.2 ⟨m, e, isl_np h k⟩
 | _ => cases h
section
variable {GB : Gh} {C : Ctx} {n : Nat} {Q0 : Exit → Act → World → Prop} {fr fr' : FrX} {own own' : OwX} {cf cf' : Cf} {vc : List Prop} {lk : LK} {bk : BM} {ρ : NE} {G : Gh} {ov : List Own} {a : Act} {w : World}
variable {dst : Option Nat} {t t' ty' : TypeId} {pos : String} {af : Array Edge} {gd : Option (Nat × Bool)} {x y : Operand} {e s by_ : Nat}
/-! ### rows lent -/
def rowDs : Option Bk → Option (List DV)
 | some (.b _ _ ds _) => some ds
 | some (.c _ _ ds _) => some ds
 | _ => none
def evL1 (lk : LK) (bk : BM) (x : Operand) : Option DV := match evX lk x with
 | some (.rw nm) => match rowDs (bk nm) with
   | some ds => some (.sl ds)
   | none => none
 | some f => toDX f
 | none => none
def evLs (lk : LK) (bk : BM) : List Operand → Option (List DV)
 | [] => some []
 | x :: t => match evL1 lk bk x, evLs lk bk t with
   | some d, some l => some (d :: l)
   | _, _ => none
theorem evL1_ok (r : RlX GB C n lk bk ρ G ov a w) {d : DV} (h : evL1 lk bk x = some d) : ∃ y, opv (frA a) x = some y ∧ Is (lendG G ov) d y := by
 unfold evL1 at h
 split at h
 · rename_i nm h1
   obtain ⟨y, h2, h3⟩ := r.ev h1
   cases (show y = _ from h3)
   refine ⟨_, h2, ?_⟩
   split at h <;> cases h
   rename_i ds hr
   obtain ⟨ty, s, vs, B, hB, hv, hs, hBo⟩ : ∃ ty s vs B, Buf s ty (ρ nm) vs B ∧ IsLs G ds vs ∧ (∀ v ∈ vs, (cellsL v).length = s) ∧ ∀ o ∈ B, o ∈ ov := by
     unfold rowDs at hr
     split at hr <;> cases hr
     · rename_i hb; obtain ⟨B, ⟨vs, h4, h5, h6, _⟩, h7⟩ := r.bx _ _ hb; exact ⟨_, _, vs, B, h4, h5, h6, h7⟩
     · rename_i hb; obtain ⟨B, ⟨vs, h4, h5, h6, _⟩, h7⟩ := r.bx _ _ hb; exact ⟨_, _, vs, B, h4, h5, h6, h7⟩
   rcases hB with ⟨e1, e2, e3⟩ | ⟨b, rest, lo', e2, e3, h5, h6, h7⟩
   · subst e1
     have ed : ds = [] := List.eq_nil_of_length_eq_zero (by rw [← hv.len]; rfl)
     subst ed
     rw [e2]
     exact is_sl.2 ⟨0, ⟨none, 0, 0⟩, [], rfl, .nil _ 0, .nil⟩
   · subst e3
     have ho := hBo _ List.mem_cons_self
     have hg := lend_own ho (r.h.hown _ ho).2.1 r.h.nd
     rw [e2]
     exact is_sl.2 ⟨s, ⟨some ⟨b, 0, none⟩, vs.length, _⟩, vs, rfl, IsSl.of_flat hs hg h7, hv.up lend_le⟩
 · rename_i h1
   obtain ⟨y, h2, h3⟩ := r.ev h1
   exact ⟨y, h2, (toDX_is h3 h).up lend_le⟩
 · cases h
theorem evLs_ok (r : RlX GB C n lk bk ρ G ov a w) : ∀ {l : List Operand} {ds : List DV}, evLs lk bk l = some ds → ∃ vs, opvs (frA a) l = some vs ∧ IsLs (lendG G ov) ds vs
 | [], ds, e => by cases e; exact ⟨[], rfl, .nil⟩
 | x :: t, ds, e => by
   simp only [evLs] at e
   split at e <;> cases e
   rename_i h1 h2
   obtain ⟨y, h3, h4⟩ := evL1_ok r h1
   obtain ⟨vs, h5, h6⟩ := evLs_ok r h2
   exact ⟨y :: vs, by simp only [opvs, h3, h5], .cons h4 h6⟩
def cargL (lk : LK) (bk : BM) (fo : Operand) (args : Array Operand) : Option (FuncId × List DV) := match evX lk fo with
 | some (.d (.v (.func (.func f) ⟨[]⟩ ⟨[]⟩))) => match evLs lk bk args.toList with
   | some ds => some (f, ds)
   | none => none
 | _ => none
theorem ok_callL {fo : Operand} {args : Array Operand} {tys : Array TypeId} {f : FuncId} {ds : List DV} {rv : DV} (ha : cargL lk bk fo args = some (f, ds)) (hnp : rv.np = true) (hF : PF GB Tryz.prog f ds rv) : OpR Tryz.prog GB C n lk bk ⟨dst, .call ⟨.value fo, args, tys⟩, ty', pos, af, gd⟩ (.d rv) [] [] := by
 intro hd tl tb K' s1 s2 hf hk
 refine ⟨fun ρ G ov a w r Q => ?_⟩
 have r1 := r.mono s1 s2
 unfold cargL at ha
 split at ha <;> try (cases ha; done)
 rename_i h1
 split at ha <;> cases ha
 rename_i h2
 obtain ⟨y, hy, hy'⟩ := r1.ev h1
 rw [(is_v (G := G)).1 hy'] at hy
 obtain ⟨vs, h3, h4⟩ := evLs_ok r1 h2
 refine ch_callL hy h3 (hF _ vs (r.gb.trans lend_le) h4) hd (fun v G' hK a' w' rl => ?_) a w Q ⟨r.h, r.sz, frA_ok a, r.df⟩
 exact hk.run ρ G ov a' w' ⟨r.gb, rl.h, rl.sz, rl.df, (putA_rel rl).fx (fun k g _ e => r.fx k g e) (Is.np hnp hK), r.bx, r.dj⟩
def calL (fr : FrX) (own : OwX) (cf : Cf) : Option (FuncId × List DV) := match opC fr cf with
 | some ⟨_, .call ⟨.value fo, args, _⟩, _, _, _, _⟩ => cargL (lkC fr cf) (bkC fr own cf) fo args
 | _ => none
theorem cL [fu : Fu] {f : FuncId} {ds : List DV} {rv : DV} (ha : calL fr own cf = some (f, ds)) (hF : PF GB Tryz.prog f ds rv) (hnp : rv.np = true) (hgo : goA tt n fu.n fr own cf (.d rv) [] [] = ⟨vc, fr', own', cf'⟩) (k : CfS Tryz.prog GB C n Q0 fr' own' cf')
  (hv : allP vc := by first | exact trivial | (simp only [allP]; kernel_rfl) | (simp only [allP]; omega)) : CfS Tryz.prog GB C n Q0 fr own cf := by
 unfold calL at ha
 split at ha <;> try (cases ha; done)
 rename_i hh
 exact us hh (ok_callL ha hnp hF) hgo hv k
/-! ### rows with room -/
theorem ok_mkc {d cap : Nat} {i : TI} {z : DV} {k k' : IntKind} [hT : TySl Tryz.prog t e s by_] (hi : tiOf Tryz.prog e = some i) (hz : zeE i = some z) (hs : Nat.beq z.cells.length s = true) (hx : evX lk x = some (.d (.v (.int k 0)))) (hy : evX lk y = some (.d (.v (.int k' (cap : Nat))))) (hb : by_ * cap ≤ 140737488355328) (hl : cap ≤ 1152921504606846976) :
  OpR Tryz.prog GB C n lk bk ⟨some d, .makeSlice t x y, ty', pos, af, gd⟩ (.rw d) [(d, some (.c e s [] cap))] [d] := by
 intro hd tl tb K s1 s2 hf hk
 refine ⟨fun ρ G ov a w r Q => ?_⟩
 obtain ⟨v, hz1, hz2, hz3⟩ := zeE_ok hi hz
 obtain ⟨q1, p1, p2⟩ := (r.mono s1 s2).ev hx
 obtain ⟨q2, p3, p4⟩ := (r.mono s1 s2).ev hy
 rw [isX_int] at p2 p4; subst p2 p4
 have c1 := ((hz2 G).cells hz3).1.len
 replace hs := Nat.eq_of_beq_eq_true hs
 refine ch_mkR p1 p3 (by omega) (by have : ((by_ * cap : Nat) : Int) = by_ * cap := Int.natCast_mul ..; omega) (by omega) (by rw [c1, hs]) hd (fun b a' w' rl => ?_) a w Q ⟨r.h, r.sz, frA_ok a, r.df⟩
 rw [Int.toNat_natCast] at rl
 have hnd := (List.pairwise_cons.1 rl.h.nd).1
 refine hk.run _ _ _ a' w' (r.new' (x := ⟨some ⟨b, 0, none⟩, 0, cap⟩) (B' := .c e s [] cap) (os := [⟨b, zeros v cap, e, true⟩]) (f := .rw d) (y := .slice (some ⟨b, 0, none⟩) 0 cap) hf (GLe.refl _) rl.h ⟨[], .inr ⟨b, zeros v cap, true, by simp, rfl, by simp [flatL], ?_, by simp⟩, .nil, by simp, fun o ho => by rw [List.mem_singleton.1 ho], by simp⟩
  (fun o ho => by rw [List.mem_singleton.1 ho]; exact List.mem_cons_self) (fun m B' _ _ o ho _ => ⟨List.mem_cons_of_mem _ ho, fun e' => by cases e'; exact hnd o ho rfl⟩) (by show _ = _; simp) (putA_rel rl))
 rw [zeros_len, c1, hs]; simp [flatL]
theorem ok_apc {d nm cap : Nat} {ds ds2 : List DV} [hT : TySl Tryz.prog t e s by_] [hN : TyN Tryz.prog t'] (hx : evX lk x = some (.rw nm)) (hb : bk nm = some (.c e s ds cap)) (hy : srcX lk bk s y = some ds2) (hk2 : slOk s ds2) (hc : ds.length + ds2.length ≤ cap) (hp : 0 < ds2.length) (hnd : Nat.beq nm d = false) :
   OpR Tryz.prog GB C n lk bk ⟨some d, .call ⟨.builtin .append, #[x, y], #[t, t']⟩, ty', pos, af, gd⟩ (.rw d) [(nm, none), (d, some (.c e s (ds ++ ds2) cap))] [d] := by
 intro hd tl tb K s1 s2 hf hk
 refine ⟨fun ρ G ov a w r Q => ?_⟩
 have r1 := r.mono s1 s2
 have hne : nm ≠ d := fun e => by subst e; simp at hnd
 obtain ⟨u, hx', hx2⟩ := r1.ev hx
 cases hx2
 obtain ⟨B, ⟨vs, hB, hv, hvs, hlo, hcap⟩, hBo⟩ := r1.bx _ _ hb
 obtain ⟨w2, us, hy', h2, h3, h4, h5, h6⟩ := src_ok (P := Tryz.prog) (C := C) r1 hy hk2
 have hus : (flatL us).length = us.length * s := flatL_len us h4
 have hl1 := hv.len
 have hl2 := h3.len
 have rd := r.dropB nm
 have hf' : FreshX [d] (some d) tl (Sx.upB tb [(nm, none)]) := fun m hm => by
   obtain ⟨g1, g2⟩ := hf m hm
   refine ⟨g1, fun k B' hk e => g2 k B' hk ?_⟩
   simp only [Sx.upB] at e
   split at e
   · cases e
   · exact e
 rcases hB with ⟨e1, e2, e3⟩ | ⟨b, rest, lo', k3, k4, k5, k6, k7⟩
 · rw [e2] at hcap; simp at hcap; omega
 subst k4
 have hl' := hlo _ List.mem_cons_self
 simp only at hl'; subst hl'
 have ha : (ρ nm).a = some ⟨b, 0, none⟩ := by rw [k3]
 have hn : (ρ nm).n = vs.length := by rw [k3]
 rw [ha, hn] at hx'
 rw [h2] at hy' h6
 have hin := hBo _ List.mem_cons_self
 obtain ⟨l1, l2, e5⟩ := List.append_of_mem hin
 have hperm : ov.Perm (⟨b, flatL vs ++ rest, e, true⟩ :: (l1 ++ l2)) := by rw [e5]; exact List.perm_middle
 have hall : ∀ v ∈ vs ++ us, (cellsL v).length = s := fun v hv => by
   rcases List.mem_append.1 hv with hv | hv
   · exact hvs v hv
   · exact h4 v hv
 have hcs : (flatL vs ++ rest).length = (ρ nm).c * s := by rw [List.length_append]; exact k6
 have hroom : vs.length + us.length ≤ (ρ nm).c := by omega
 have hmul : (vs.length + us.length) * s ≤ (ρ nm).c * s := Nat.mul_le_mul_right _ hroom
 rw [Nat.add_mul] at hmul
 have hrest : us.length * s ≤ rest.length := by rw [k5] at k6; omega
 have hovw : ovw (flatL vs ++ rest) (vs.length * s) (flatL us) = flatL (vs ++ us) ++ rest.drop (us.length * s) := by
   rw [ovw_spec _ _ _ (by rw [hus, List.length_append]; omega), flatL_app, ← k5]
   simp [hus, List.drop_append, List.append_assoc]
 refine ch_append_room (P := Tryz.prog) (own := ⟨b, flatL vs ++ rest, e, true⟩ :: (l1 ++ l2)) (m := us.length) (ys := flatL us) hx' hy' (.hd ..) hcs (fun w hh => h6 w (hh.perm hperm.symm)) hus h5 hroom hd (fun a' w' rl => ?_) a w Q ⟨r.h.perm hperm, r.sz, frA_ok a, r.df⟩
 rw [hovw] at rl
 have hnd' := (List.pairwise_cons.1 rl.h.nd).1
 refine hk.run _ _ _ a' w' (rd.new' (x := ⟨some ⟨b, 0, none⟩, vs.length + us.length, (ρ nm).c⟩) (B' := .c e s (ds ++ ds2) cap) (os := [⟨b, flatL (vs ++ us) ++ rest.drop (us.length * s), e, true⟩]) (f := .rw d) (y := .slice (some ⟨b, 0, none⟩) (vs.length + us.length) (ρ nm).c) hf' (GLe.refl _) rl.h
   ⟨vs ++ us, .inr ⟨b, rest.drop (us.length * s), true, by simp, rfl, flatL_len _ hall, ?_, by simpa using hroom⟩, hv.app h3, hall, fun o ho => by rw [List.mem_singleton.1 ho], by simpa using hcap⟩ (fun o ho => by rw [List.mem_singleton.1 ho]; exact List.mem_cons_self)
   (fun m B' hm e' o ho hmo => ?_) (by show _ = _; simp) (putA_rel rl))
 · rw [flatL_len _ hall, List.length_append, List.length_drop, Nat.add_mul]
   simp only [if_true]
   rw [k5] at k6; omega
 · have hmn : m ≠ nm ∧ tb m = some B' := by
     simp only [Sx.upB] at e'
     split at e'
     · cases e'
     · exact ⟨by assumption, e'⟩
   have hob : o.b ≠ b := fun e6 => r.dj m nm B' _ hmn.2 (s2 _ _ hb) hmn.1 b (by rw [hmo, e6]) ha
   refine ⟨?_, fun e6 => by cases e6; exact hob rfl⟩
   rcases List.mem_cons.1 (hperm.mem_iff.1 ho) with rfl | ho
   · exact absurd rfl hob
   · exact List.mem_cons_of_mem _ ho
end
end Go.Sx
end
