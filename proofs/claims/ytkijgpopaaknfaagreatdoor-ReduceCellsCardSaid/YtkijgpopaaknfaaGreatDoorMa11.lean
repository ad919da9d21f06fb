/-
  Numbers as deep values; bounds. What the packages geo, bsp and reduce compute, on fractions and trees, and what the reduced tree is like. Package geo: intervals. Package geo: Sample, Cut, Cmp, Equal, half, Angle.
-/
import Derived.Test.YtkijgpopaaknfaaGreatDoorMa10
section
set_option maxRecDepth 100000
namespace Go.Sx
open Go

def dU (d : Nat) : DV := .v (.int .u32 (d : Int))
def dL (ds : List Nat) : DV := .sl (ds.map dU)
def dN (n : Nat) : DV := .sl ((dg n).map dU)
/-- a denominator: 1 as no digits -/
def dD (n : Nat) : DV := .sl (if n = 1 then [] else (dg n).map dU)
def eI (m : Int) : DV := .ag [.v (.bool (decide (m < 0))), dN m.natAbs]
def eQ (q : Rat) : DV := .ag [.v (.bool (decide (q.num < 0))), dN q.num.natAbs, dD q.den]
def eP (p : PtQ) : DV := .ag [.v (.bool (decide (p.x.num < 0))), dN p.x.num.natAbs, dD p.x.den, .v (.bool (decide (p.y.num < 0))), dN p.y.num.natAbs, dD p.y.den]
def eL (l : LnQ) : DV := .ag [.v (.bool (decide (l.a < 0))), dN l.a.natAbs, .v (.bool (decide (l.b < 0))), dN l.b.natAbs, .v (.bool (decide (l.c < 0))), dN l.c.natAbs]
/-- a rational number of package api -/
def eR (q : Rat) : DV := .ag [.v (.bool (decide (q.num < 0))), dN q.num.natAbs, dN q.den]
def ePt (p : PtQ) : DV := .ag [.v (.bool (decide (p.x.num < 0))), dN p.x.num.natAbs, dN p.x.den, .v (.bool (decide (p.y.num < 0))), dN p.y.num.natAbs, dN p.y.den]
def vI (n : Int) : DV := .v (.int .i64 n)
def vB (b : Bool) : DV := .v (.bool b)

theorem dN_dg (n : Nat) : dN n = dL (dg n) := rfl
theorem dL_dv {ds : List Nat} (h : DOk ds) : dL (trimD ds) = dN (dv ds) := by unfold dL dN; rw [dg_trim h]
theorem mapU_get {ds : List Nat} {i : Nat} (h : i < ds.length) : (ds.map dU)[i]? = some (dU (ds.getD i 0)) := by
  rw [List.getElem?_map, List.getElem?_eq_getElem h, List.getD_eq_getElem?_getD, List.getElem?_eq_getElem h]; rfl
theorem mapU_getI {ds : List Nat} {i : Nat} (h : i < ds.length) : (ds.map dU)[(i : Int).toNat]? = some (dU (ds.getD i 0)) := by rw [Int.toNat_natCast]; exact mapU_get h
theorem mapU_set (ds : List Nat) (i d : Nat) : (ds.map dU).set i (.v (.int .u32 (d : Int))) = (ds.set i d).map dU := by rw [List.map_set]; rfl
theorem mapU_rep (n : Nat) : List.replicate n (DV.v (.int .u32 0)) = (List.replicate n 0).map dU := by rw [List.map_replicate]; rfl
theorem slOkU (ds : List Nat) : slOk 1 (ds.map dU) := fun d hd => by
  obtain ⟨n, _, rfl⟩ := List.mem_map.1 hd; exact ⟨rfl, rfl⟩
theorem dg_lt (n : Nat) (i : Nat) : (dg n).getD i 0 < 4294967296 := (dg_spec n).2.1.get i
theorem dg_zero : dg 0 = [] := by rw [dg, dif_pos rfl]
theorem dg_one : dg 1 = [1] := by rw [dg, dif_neg (by decide)]; simp [dg_zero]
theorem dg_len_zero {n : Nat} : (dg n).length = 0 ↔ n = 0 := by
  constructor
  · intro h
    have := (dg_spec n).1
    rw [List.eq_nil_of_length_eq_zero h] at this
    exact this.symm
  · rintro rfl; rw [dg_zero]; rfl
theorem dN_zero : dN 0 = .sl [] := by unfold dN; rw [dg_zero]; rfl

/-! ### bridges -/
theorem isl_mapU {G : Gh} : ∀ {ds : List Nat} {es : List Value}, IsLs G (ds.map dU) es ↔ es = ds.map dI
  | [], es => isl_nil
  | d :: t, es => by
    rw [List.map_cons, isl_cons]
    constructor
    · rintro ⟨y, n, rfl, h1, h2⟩
      rw [is_v.1 h1, isl_mapU.1 h2]; rfl
    · rintro rfl
      exact ⟨_, _, rfl, is_v.2 rfl, isl_mapU.2 rfl⟩
theorem is_dL {G : Gh} {ds : List Nat} {v : Value} : Is G (dL ds) v ↔ ∃ x : SV, v = .slice x.a x.n x.c ∧ IsSl G 1 x (ds.map dI) := by
  unfold dL
  rw [is_sl]
  constructor
  · rintro ⟨s, x, es, rfl, h1, h2⟩
    have := isl_mapU.1 h2
    subst this
    refine ⟨x, rfl, ?_⟩
    rcases sl_stride (s := 1) h1 h2 (slOkU ds) with h | h
    · rw [h] at h1 ⊢
      exact ⟨h1.len, h1.cap, .inl rfl⟩
    · subst h; exact h1
  · rintro ⟨x, rfl, h⟩
    exact ⟨1, x, _, rfl, h, isl_mapU.2 rfl⟩
theorem is_dN {G : Gh} {n k : Nat} {v : Value} (hk : n < 2 ^ k) : Is G (dN n) v ↔ ∃ x : SV, v = .slice x.a x.n x.c ∧ IsN k G x n := by
  rw [dN_dg, is_dL]
  constructor
  · rintro ⟨x, rfl, h⟩
    exact ⟨x, rfl, ⟨(dg_spec n).2.1, h⟩, hk⟩
  · rintro ⟨x, rfl, h⟩
    exact ⟨x, rfl, h.d.sl⟩

/-! ### spelled otherwise -/
theorem sd_eq (k : Nat) {GB : Gh} {C : Ctx} {n : Nat} {fr : FrF} {own : List OwnD} {bs : List BufD} {Φ : Act → World → Prop} {f : FV} (f' : FV) (hl : lookF fr k = some f) (e : f = f') (h : SD GB C n E0 ((k, f') :: fr) own bs Φ) : SD GB C n E0 fr own bs Φ :=
  sd_re k hl rfl (fun G y hy => e ▸ hy) h
theorem sd_bs {GB : Gh} {C : Ctx} {n : Nat} {E : Ext} {fr : FrF} {own : List OwnD} {bs : List BufD} {Φ : Act → World → Prop} (bs' : List BufD) (e : bs = bs') (h : SD GB C n E fr own bs' Φ) : SD GB C n E fr own bs Φ := e ▸ h
theorem sd_bh {GB : Gh} {C : Ctx} {n : Nat} {E : Ext} {fr : FrF} {own : List OwnD} {bs : List BufD} {Φ : Act → World → Prop} {w : SV} {s : Nat} {ty : TypeId} {ds : List DV} {lo : Bool} (ds' : List DV) (e : ds = ds') (h : SD GB C n E fr own (⟨w, s, ty, ds', lo⟩ :: bs) Φ) : SD GB C n E fr own (⟨w, s, ty, ds, lo⟩ :: bs) Φ := e ▸ h
theorem sd_own {GB : Gh} {C : Ctx} {n : Nat} {E : Ext} {fr : FrF} {own : List OwnD} {bs : List BufD} {Φ : Act → World → Prop} (own' : List OwnD) (e : own = own') (h : SD GB C n E fr own' bs Φ) : SD GB C n E fr own bs Φ := e ▸ h
theorem mapU_getZ {ds : List Nat} {i : Int} {k : Nat} (hi : i = k) (h : k < ds.length) : (ds.map dU)[i.toNat]? = some (dU (ds.getD k 0)) := by subst hi; exact mapU_getI h

/-! ### bounds -/
class BN (n : Nat) (k : outParam Nat) : Prop where h : n < 2 ^ k
class BI (m : Int) (k : outParam Nat) : Prop where h : m.natAbs < 2 ^ k
class BQ (q : Rat) (k : outParam Nat) : Prop where
  hn : q.num.natAbs < 2 ^ k
  hd : q.den < 2 ^ k
theorem BN.mono {n k k' : Nat} (h : BN n k) (hk : k ≤ k') : BN n k' := ⟨Nat.lt_of_lt_of_le h.h (Nat.pow_le_pow_right (by decide) hk)⟩
theorem mul_lt_pow {a b i j : Nat} (h : a < 2 ^ i) (k : b < 2 ^ j) : a * b < 2 ^ (i + j) := by rw [Nat.pow_add]; exact Nat.mul_lt_mul'' h k
theorem add_lt_pow {a b i j : Nat} (h : a < 2 ^ i) (k : b < 2 ^ j) : a + b < 2 ^ (i + j + 1) := by
  have h1 : 2 ^ i ≤ 2 ^ (i + j) := Nat.pow_le_pow_right (by decide) (by omega)
  have h2 : 2 ^ j ≤ 2 ^ (i + j) := Nat.pow_le_pow_right (by decide) (by omega)
  rw [Nat.pow_succ]; omega
instance BN.mul (a b i j : Nat) [h : BN a i] [k : BN b j] : BN (a * b) (i + j) := ⟨mul_lt_pow h.h k.h⟩
instance BN.add (a b i j : Nat) [h : BN a i] [k : BN b j] : BN (a + b) (i + j + 1) := ⟨add_lt_pow h.h k.h⟩
instance BN.sub (a b i : Nat) [h : BN a i] : BN (a - b) i := ⟨by have := h.h; omega⟩
instance BN.div (a b i : Nat) [h : BN a i] : BN (a / b) i := ⟨Nat.lt_of_le_of_lt (Nat.div_le_self _ _) h.h⟩
instance BN.abs (m : Int) (i : Nat) [h : BI m i] : BN m.natAbs i := ⟨h.h⟩
instance BN.den (q : Rat) (i : Nat) [h : BQ q i] : BN q.den i := ⟨h.hd⟩
theorem gcd_lt' {a b i j : Nat} (h : a < 2 ^ i) (k : b < 2 ^ j) : Nat.gcd a b < 2 ^ (i + j) := by
  have h1 : 2 ^ i ≤ 2 ^ (i + j) := Nat.pow_le_pow_right (by decide) (by omega)
  have h2 : 2 ^ j ≤ 2 ^ (i + j) := Nat.pow_le_pow_right (by decide) (by omega)
  rcases Nat.eq_zero_or_pos a with h0 | h0
  · subst h0; rw [Nat.gcd_zero_left]; omega
  · have := Nat.gcd_le_left b h0; omega
instance BN.gcd (a b i j : Nat) [h : BN a i] [k : BN b j] : BN (Nat.gcd a b) (i + j) := ⟨gcd_lt' h.h k.h⟩
instance BN.one : BN 1 1 := ⟨by decide⟩
instance BN.zero : BN 0 0 := ⟨by decide⟩
instance BI.mul (a b : Int) (i j : Nat) [h : BI a i] [k : BI b j] : BI (a * b) (i + j) := ⟨by rw [Int.natAbs_mul]; exact mul_lt_pow h.h k.h⟩
instance BI.add (a b : Int) (i j : Nat) [h : BI a i] [k : BI b j] : BI (a + b) (i + j + 1) := ⟨Nat.lt_of_le_of_lt (Int.natAbs_add_le a b) (add_lt_pow h.h k.h)⟩
instance BI.sub (a b : Int) (i j : Nat) [h : BI a i] [k : BI b j] : BI (a - b) (i + j + 1) := ⟨Nat.lt_of_le_of_lt (Int.natAbs_sub_le a b) (add_lt_pow h.h k.h)⟩
instance BI.neg (a : Int) (i : Nat) [h : BI a i] : BI (-a) i := ⟨by rw [Int.natAbs_neg]; exact h.h⟩
instance BI.num (q : Rat) (i : Nat) [h : BQ q i] : BI q.num i := ⟨h.hn⟩
instance BI.nat (n : Nat) (i : Nat) [h : BN n i] : BI (n : Int) i := ⟨by rw [Int.natAbs_natCast]; exact h.h⟩
theorem den_pos' (q : Rat) : 0 < q.den := Nat.pos_of_ne_zero q.den_nz
theorem mkRat_bd {m : Int} {d i j : Nat} (hd : 0 < d) (h : m.natAbs < 2 ^ i) (k : d < 2 ^ j) : BQ (mkRat m d) (i + j) := by
  have h1 : 2 ^ i ≤ 2 ^ (i + j) := Nat.pow_le_pow_right (by decide) (by omega)
  have h2 : 2 ^ j ≤ 2 ^ (i + j) := Nat.pow_le_pow_right (by decide) (by omega)
  refine ⟨?_, ?_⟩
  · rw [Rat.num_mkRat, if_neg (by omega)]
    have := Int.natAbs_ediv_le_natAbs m (d.gcd m.natAbs : Nat)
    omega
  · rw [Rat.den_mkRat, if_neg (by omega)]
    have := Nat.div_le_self d (d.gcd m.natAbs)
    omega
theorem BQ.mono {q : Rat} {k k' : Nat} (h : BQ q k) (hk : k ≤ k') : BQ q k' := ⟨Nat.lt_of_lt_of_le h.hn (Nat.pow_le_pow_right (by decide) hk), Nat.lt_of_lt_of_le h.hd (Nat.pow_le_pow_right (by decide) hk)⟩
theorem rat_mul_mk (p q : Rat) : p * q = mkRat (p.num * q.num) (p.den * q.den) := by rw [Rat.mul_def, Rat.normalize_eq_mkRat]
theorem rat_add_mk (p q : Rat) : p + q = mkRat (p.num * q.den + q.num * p.den) (p.den * q.den) := by rw [Rat.add_def, Rat.normalize_eq_mkRat]
instance BQ.mul (p q : Rat) (i j : Nat) [h : BQ p i] [k : BQ q j] : BQ (p * q) (i + j + (i + j)) := by
  rw [rat_mul_mk]
  exact mkRat_bd (Nat.mul_pos (den_pos' p) (den_pos' q)) (BI.mul p.num q.num i j).h (mul_lt_pow h.hd k.hd)
instance BQ.add (p q : Rat) (i j : Nat) [h : BQ p i] [k : BQ q j] : BQ (p + q) (i + j + (j + i) + 1 + (i + j)) := by
  rw [rat_add_mk]
  exact mkRat_bd (Nat.mul_pos (den_pos' p) (den_pos' q)) (BI.add (p.num * q.den) (q.num * p.den) (i + j) (j + i)).h (mul_lt_pow h.hd k.hd)
instance BQ.neg (p : Rat) (i : Nat) [h : BQ p i] : BQ (-p) i := ⟨by rw [Rat.neg_num, Int.natAbs_neg]; exact h.hn, by rw [Rat.neg_den]; exact h.hd⟩
instance BQ.sub (p q : Rat) (i j : Nat) [h : BQ p i] [k : BQ q j] : BQ (p - q) (i + j + (j + i) + 1 + (i + j)) := by
  rw [Rat.sub_eq_add_neg]
  exact BQ.add p (-q) i j
instance BQ.ofInt (m : Int) (i : Nat) [h : BI m i] : BQ (m : Rat) (i + 1) := by
  refine ⟨?_, ?_⟩
  · rw [Rat.num_intCast]; have := h.h; rw [Nat.pow_succ]; omega
  · rw [Rat.den_intCast]; have : 0 < 2 ^ i := Nat.pow_pos (by decide); rw [Nat.pow_succ]; omega
end Go.Sx
end

section
set_option maxRecDepth 100000
namespace Go.Sx
open Go

instance : DecidableEq LnQ := fun x y => decidable_of_iff (x.a = y.a ∧ x.b = y.b ∧ x.c = y.c) (by
  cases x; cases y; simp)

structure IvQ where
  lo : Rat
  hi : Rat
  nl : Bool
  nh : Bool
def IvQ.all : IvQ := ⟨0, 0, true, true⟩
def IvQ.empty (v : IvQ) : Bool := !v.nl && (!v.nh && decide (0 ≤ rcmp v.lo v.hi))
def IvQ.meet (v w : IvQ) : IvQ :=
  ⟨if v.nl then w.lo else if w.nl then v.lo else if v.lo < w.lo then w.lo else v.lo,
   if v.nh then w.hi else if w.nh then v.hi else if w.hi < v.hi then w.hi else v.hi, v.nl && w.nl, v.nh && w.nh⟩
def IvQ.sample (v : IvQ) : Rat := if v.nl && v.nh then 0 else if v.nl then v.hi - 1 else if v.nh then v.lo + 1 else (v.lo + v.hi) * mkRat 1 2
/-- The part of v on the left side of m; none: no part of a length. -/
def LnQ.cutK (l m : LnQ) : Rat := m.nor.dot l.dir
def LnQ.cutC (l m : LnQ) : Rat := m.value l.base
def LnQ.cutV (l : LnQ) (v : IvQ) (m : LnQ) : IvQ :=
  if Int.sign (l.cutK m).num = 0 then v
  else if Int.sign (l.cutK m).num = 1 then v.meet ⟨-(l.cutC m / l.cutK m), 0, false, true⟩
  else v.meet ⟨0, -(l.cutC m / l.cutK m), true, false⟩
def LnQ.cutB (l : LnQ) (v : IvQ) (m : LnQ) : Bool :=
  if Int.sign (l.cutK m).num = 0 then decide (0 < Int.sign (l.cutC m).num) else !(l.cutV v m).empty

structure FrQ where
  l : LnQ
  v : IvQ
abbrev CellQ := List FrQ
/-- The part of l inside a cell. -/
def partV (l : LnQ) : CellQ → IvQ → Option IvQ
  | [], v => some v
  | s :: t, v => if l.cutB v s.l then partV l t (l.cutV v s.l) else none
def partQ (c : CellQ) (l : LnQ) : Option IvQ := partV l c IvQ.all
def sideAt (l : LnQ) (s : FrQ) : Int := Int.sign (l.value (s.l.at s.v.sample)).num
def placeV (l : LnQ) : CellQ → Int
  | [] => -1
  | s :: t => if sideAt l s ≠ 0 then sideAt l s else if s.l = l then 1 else placeV l t
def placeQ (c : CellQ) (l : LnQ) : Int := if (partQ c l).isSome then 0 else placeV l c
def PtQ.half (p : PtQ) : Int :=
  if 0 < Int.sign p.y.num ∨ (Int.sign p.y.num = 0 ∧ 0 < Int.sign p.x.num) then 1 else if Int.sign p.y.num < 0 ∨ Int.sign p.x.num < 0 then 2 else 0
def angleQ (u v : PtQ) : Int := if u.half < v.half then -1 else if v.half < u.half then 1 else -(Int.sign (u.cross v).num)
def cutsV (l : LnQ) : CellQ → CellQ
  | [] => []
  | s :: t => if s.l.cutB s.v l then ⟨s.l, s.l.cutV s.v l⟩ :: cutsV l t else cutsV l t
/-- Binary search: the first place from i to j where p is false, if p goes from true to false. -/
def bsq (p : Nat → Bool) (i j : Nat) : Nat :=
  if h : i < j then (if p ((i + j) / 2) then bsq p ((i + j) / 2 + 1) j else bsq p i ((i + j) / 2)) else i
termination_by j - i
def angAt (c : CellQ) (l : LnQ) (i : Nat) : Bool := match c[i]? with
  | some s => decide (angleQ s.l.dir l.dir < 0)
  | none => false
def insQ (c : CellQ) (l : LnQ) (v : IvQ) : CellQ :=
  c.take (bsq (angAt c l) 0 c.length) ++ ⟨l, v⟩ :: c.drop (bsq (angAt c l) 0 c.length)
/-- The part of a cell on the left side of l; none: empty. -/
def clipC (c : CellQ) (l : LnQ) : CellQ := match partQ c l with
  | some v => insQ (cutsV l c) l v
  | none => c
def clipB (c : CellQ) (l : LnQ) : Bool := match partQ c l with
  | some _ => true
  | none => decide (0 < placeQ c l)

theorem bsq_le (p : Nat → Bool) : ∀ (d i j : Nat), j - i ≤ d → i ≤ j → i ≤ bsq p i j ∧ bsq p i j ≤ j
  | 0, i, j, h, hij => by
    rw [bsq, dif_neg (by omega)]; omega
  | d + 1, i, j, h, hij => by
    rw [bsq]
    split
    · split
      · have := bsq_le p d ((i + j) / 2 + 1) j (by omega) (by omega); omega
      · have := bsq_le p d i ((i + j) / 2) (by omega) (by omega); omega
    · omega
theorem cutsV_len (l : LnQ) : ∀ c : CellQ, (cutsV l c).length ≤ c.length
  | [] => Nat.le_refl _
  | s :: t => by
    have := cutsV_len l t
    unfold cutsV
    split <;> simp <;> omega
theorem insQ_len (c : CellQ) (l : LnQ) (v : IvQ) : (insQ c l v).length = c.length + 1 := by
  have := (bsq_le (angAt c l) c.length 0 c.length (by omega) (by omega)).2
  simp [insQ]; omega
theorem clipC_len (c : CellQ) (l : LnQ) : (clipC c l).length ≤ c.length + 1 := by
  unfold clipC
  split
  · rw [insQ_len]; have := cutsV_len l c; omega
  · omega

/-! ### trees -/
inductive Tr where
  | leaf (b : Bool)
  | node (l : LnQ) (x y : Tr)
def Tr.isLeaf : Tr → Bool
  | .leaf _ => true
  | .node .. => false
def Tr.code : Tr → Bool
  | .leaf b => b
  | .node .. => false
def Tr.depth : Tr → Nat
  | .leaf _ => 0
  | .node _ x y => 1 + max x.depth y.depth
def Tr.size : Tr → Nat
  | .leaf _ => 0
  | .node _ x y => 1 + x.size + y.size
def Tr.joinQ (l : LnQ) (x y : Tr) : Tr := if x.isLeaf && (y.isLeaf && (x.code == y.code)) then x else .node l x y
def Tr.restrict : Tr → CellQ → Tr
  | .leaf b, _ => .leaf b
  | .node l x y, c => if !clipB c l.rev then x.restrict c else if !clipB c l then y.restrict c else joinQ l (x.restrict (clipC c l)) (y.restrict (clipC c l.rev))
def Tr.parts : Tr → CellQ → List (Bool × CellQ)
  | .leaf b, c => [(b, c)]
  | .node l x y, c => (if clipB c l then x.parts (clipC c l) else []) ++ (if clipB c l.rev then y.parts (clipC c l.rev) else [])
def Tr.all (p : LnQ → Prop) : Tr → Prop
  | .leaf _ => True
  | .node l x y => p l ∧ x.all p ∧ y.all p
/-- No node has two leaves with the same code. -/
def Tr.good : Tr → Prop
  | .leaf _ => True
  | .node _ x y => ¬ (x.isLeaf = true ∧ y.isLeaf = true ∧ x.code = y.code) ∧ x.good ∧ y.good
structure NQ where
  l : LnQ
  a : Int
  b : Int
def leafCode (b : Bool) : Int := if b then -2 else -1
/-- The nodes of a tree in order, the first one with the number n, and the number of the whole. -/
def Tr.num : Tr → Nat → Int
  | .leaf b, _ => leafCode b
  | .node .., n => n
def Tr.wr : Tr → Nat → List NQ
  | .leaf _, _ => []
  | .node l x y, n => ⟨l, x.num (n + 1), y.num (n + 1 + x.size)⟩ :: x.wr (n + 1) ++ y.wr (n + 1 + x.size)

theorem Tr.wr_len : ∀ (t : Tr) (n : Nat), (t.wr n).length = t.size
  | .leaf _, n => rfl
  | .node l x y, n => by
    have h1 := Tr.wr_len x (n + 1)
    have h2 := Tr.wr_len y (n + 1 + x.size)
    simp [Tr.wr, Tr.size, h1, h2]; omega
theorem Tr.size_lt : ∀ t : Tr, t.size < 2 ^ t.depth
  | .leaf _ => by simp [Tr.size, Tr.depth]
  | .node l x y => by
    have h1 := x.size_lt
    have h2 := y.size_lt
    have e1 : 2 ^ x.depth ≤ 2 ^ max x.depth y.depth := Nat.pow_le_pow_right (by omega) (Nat.le_max_left ..)
    have e2 : 2 ^ y.depth ≤ 2 ^ max x.depth y.depth := Nat.pow_le_pow_right (by omega) (Nat.le_max_right ..)
    simp only [Tr.size, Tr.depth, Nat.add_comm 1 (max _ _), Nat.pow_succ]
    omega
theorem Tr.joinQ_cases (l : LnQ) (x y : Tr) : (Tr.joinQ l x y = x ∧ x.isLeaf = true) ∨ (Tr.joinQ l x y = .node l x y ∧ ¬ (x.isLeaf = true ∧ y.isLeaf = true ∧ x.code = y.code)) := by
  unfold Tr.joinQ
  split
  · rename_i h
    simp at h
    exact .inl ⟨rfl, h.1⟩
  · rename_i h
    simp at h
    exact .inr ⟨rfl, fun ⟨a, b, c⟩ => h a b c⟩
theorem Tr.restrict_depth : ∀ (t : Tr) (c : CellQ), (t.restrict c).depth ≤ t.depth
  | .leaf b, c => Nat.le_refl _
  | .node l x y, c => by
    unfold Tr.restrict
    split
    · have := x.restrict_depth c; simp only [Tr.depth]; omega
    · split
      · have := y.restrict_depth c; simp only [Tr.depth]; omega
      · have h1 := x.restrict_depth (clipC c l)
        have h2 := y.restrict_depth (clipC c l.rev)
        rcases Tr.joinQ_cases l (x.restrict (clipC c l)) (y.restrict (clipC c l.rev)) with ⟨h, _⟩ | ⟨h, _⟩
        · rw [h]; simp only [Tr.depth]; omega
        · rw [h]; simp only [Tr.depth]; omega
theorem Tr.restrict_all (p : LnQ → Prop) : ∀ (t : Tr) (c : CellQ), t.all p → (t.restrict c).all p
  | .leaf b, c, _ => trivial
  | .node l x y, c, h => by
    obtain ⟨h0, h1, h2⟩ := h
    unfold Tr.restrict
    split
    · exact x.restrict_all p c h1
    · split
      · exact y.restrict_all p c h2
      · rcases Tr.joinQ_cases l (x.restrict (clipC c l)) (y.restrict (clipC c l.rev)) with ⟨h, _⟩ | ⟨h, _⟩
        · rw [h]; exact x.restrict_all p _ h1
        · rw [h]; exact ⟨h0, x.restrict_all p _ h1, y.restrict_all p _ h2⟩
theorem Tr.restrict_good : ∀ (t : Tr) (c : CellQ), (t.restrict c).good
  | .leaf b, c => trivial
  | .node l x y, c => by
    unfold Tr.restrict
    split
    · exact x.restrict_good c
    · split
      · exact y.restrict_good c
      · rcases Tr.joinQ_cases l (x.restrict (clipC c l)) (y.restrict (clipC c l.rev)) with ⟨h, _⟩ | ⟨h, hn⟩
        · rw [h]; exact x.restrict_good _
        · rw [h]; exact ⟨hn, x.restrict_good _, y.restrict_good _⟩
/-- The cells of a reduced tree: one more than nodes. -/
theorem Tr.parts_restrict : ∀ (t : Tr) (c : CellQ), ((t.restrict c).parts c).length = (t.restrict c).size + 1
  | .leaf b, c => rfl
  | .node l x y, c => by
    unfold Tr.restrict
    split
    · exact x.parts_restrict c
    · rename_i hr
      split
      · exact y.parts_restrict c
      · rename_i hl
        have hr' : clipB c l.rev = true := by simpa using hr
        have hl' : clipB c l = true := by simpa using hl
        have h1 := x.parts_restrict (clipC c l)
        have h2 := y.parts_restrict (clipC c l.rev)
        rcases Tr.joinQ_cases l (x.restrict (clipC c l)) (y.restrict (clipC c l.rev)) with ⟨h, hn⟩ | ⟨h, hn⟩
        · rw [h]
          generalize x.restrict (clipC c l) = u at hn
          cases u with
          | leaf b => rfl
          | node => cases hn
        · rw [h]
          simp only [Tr.parts, hl', hr', if_true, List.length_append, h1, h2, Tr.size]
          omega
theorem Tr.num_neg (t : Tr) (n : Nat) : t.num n < 0 ↔ t.isLeaf = true := by
  cases t with
  | leaf b => cases b <;> simp [Tr.num, Tr.isLeaf, leafCode]
  | node l x y => simp [Tr.num, Tr.isLeaf]
theorem Tr.good_wr : ∀ (t : Tr) (n : Nat), t.good → ∀ x ∈ t.wr n, ¬ (x.a < 0 ∧ x.a = x.b)
  | .leaf _, n, _, x, hx => by cases hx
  | .node l u v, n, ⟨h0, h1, h2⟩, x, hx => by
    simp only [Tr.wr, List.cons_append, List.mem_cons, List.mem_append] at hx
    rcases hx with hx | hx | hx
    · subst hx
      rintro ⟨ha, hb⟩
      simp only at ha hb
      have e1 := (u.num_neg (n + 1)).1 ha
      have e2 := (v.num_neg (n + 1 + u.size)).1 (by rw [← hb]; exact ha)
      refine h0 ⟨e1, e2, ?_⟩
      cases u with
      | node => cases e1
      | leaf a =>
        cases v with
        | node => cases e2
        | leaf b => cases a <;> cases b <;> first | rfl | (simp [Tr.num, leafCode] at hb)
    · exact u.good_wr _ h1 x hx
    · exact v.good_wr _ h2 x hx
end Go.Sx
end

section
set_option maxRecDepth 100000
namespace Go.Sx
open Go Go.Proofs

structure IvV where
  lo : RV
  hi : RV
  nl : Bool
  nh : Bool
def IvV.v (z : IvV) : Value := .agg ⟨[.int .i64 z.lo.n, .int .i64 z.lo.d, .pointer z.lo.p, .int .i64 z.hi.n, .int .i64 z.hi.d, .pointer z.hi.p, .bool z.nl, .bool z.nh]⟩
structure IsIv (k : Nat) (G : Gh) (z : IvV) (v : IvQ) : Prop where
  lo : IsR k G z.lo v.lo
  hi : IsR k G z.hi v.hi
  nl : z.nl = v.nl
  nh : z.nh = v.nh
theorem IsIv.up {k : Nat} {A G : Gh} {z : IvV} {v : IvQ} (h : IsIv k A z v) [GL A G] : IsIv k G z v := ⟨h.lo.up, h.hi.up, h.nl, h.nh⟩
theorem IsIv.mono' {k l : Nat} {G : Gh} {z : IvV} {v : IvQ} (h : IsIv k G z v) (hk : k ≤ l) : IsIv l G z v := ⟨h.lo.mono' hk, h.hi.mono' hk, h.nl, h.nh⟩
theorem Iv_empty {A G : Gh} {z : IvV} {v : IvQ} {k : Nat} (h : IsIv k A z v) [GL A G] (hk : 2 * k + 1 ≤ 1099511627776) :
    Fn Tryz.prog 222 [.agg ⟨[.int .i64 z.lo.n, .int .i64 z.lo.d, .pointer z.lo.p, .int .i64 z.hi.n, .int .i64 z.hi.d, .pointer z.hi.p, .bool z.nl, .bool z.nh]⟩] G (fun u _ => u = .bool v.empty) := by
  obtain ⟨hlo, hhi, h1, h2⟩ := h
  obtain ⟨zlo, zhi, znl, znh⟩ := z
  obtain ⟨lo, hi, nl, nh⟩ := v
  simp only [] at hlo hhi h1 h2
  subst h1 h2
  refine Fn.intro Tryz.func222 rfl rfl Tryz.ntmps222 rfl ?_
  intro C _ _
  cases znl
  case true =>
    refine st_seq <| st_region <| ?_
    refine sc (ch_box rfl rfl ?_)
    intro b1
    refine sa rfl rfl <| st_end <| st_seq <| st_region <| sf rfl rfl <| slo1 rfl rfl rfl <| sy (yd_not rfl) rfl <| sm rfl rfl <| ss rfl rfl rfl rfl <| ss rfl rfl rfl rfl <| ss rfl rfl rfl rfl <| sy (yd_pickF rfl rfl) rfl <| ?_
    refine sm rfl rfl <| ss rfl rfl rfl rfl <| ss rfl rfl rfl rfl <| ss rfl rfl rfl rfl <| ss rfl rfl rfl rfl <| ss rfl rfl rfl rfl <| ss rfl rfl rfl rfl <| sy (yd_pickF rfl rfl) rfl <| sa rfl rfl <| ?_
    refine st_end <| st_ret <| ?_
    exact st_done (.tmp rfl .nil) rfl
  cases znh
  case true =>
    refine st_seq <| st_region <| ?_
    refine sc (ch_box rfl rfl ?_)
    intro b1
    refine sa rfl rfl <| st_end <| st_seq <| st_region <| sf rfl rfl <| slo1 rfl rfl rfl <| sy (yd_not rfl) rfl <| sm rfl rfl <| syg rfl rfl (yd_fieldAddr rfl) rfl <| syg rfl rfl (yd_load_own1 rfl rfl) rfl <| ?_
    refine syg rfl rfl (yd_not rfl) rfl <| sy (yd_pickT rfl rfl) rfl <| sm rfl rfl <| ss rfl rfl rfl rfl <| ss rfl rfl rfl rfl <| ss rfl rfl rfl rfl <| ss rfl rfl rfl rfl <| ss rfl rfl rfl rfl <| ?_
    refine ss rfl rfl rfl rfl <| sy (yd_pickF rfl rfl) rfl <| sa rfl rfl <| st_end <| st_ret <| ?_
    exact st_done (.tmp rfl .nil) rfl
  refine st_seq <| st_region <| ?_
  refine sc (ch_box rfl rfl ?_)
  intro b1
  refine sa rfl rfl <| st_end <| st_seq <| st_region <| sf rfl rfl <| slo1 rfl rfl rfl <| sy (yd_not rfl) rfl <| sm rfl rfl <| syg rfl rfl (yd_fieldAddr rfl) rfl <| syg rfl rfl (yd_load_own1 rfl rfl) rfl <| ?_
  refine syg rfl rfl (yd_not rfl) rfl <| sy (yd_pickT rfl rfl) rfl <| sm rfl rfl <| syg rfl rfl (yd_fieldAddr rfl) rfl <| syg rfl rfl (yd_load_own rfl rfl) rfl <| syg rfl rfl (yd_fieldAddr rfl) rfl <| ?_
  refine syg rfl rfl (yd_load_own rfl rfl) rfl <| ?_
  refine st_chg rfl rfl rfl (ch_call rfl rfl (R_Cmp ‹_› ‹_› (by omega)) rfl ?_)
  rintro _ G2 _ rfl
  refine syg rfl rfl (yd_geq rfl rfl) rfl <| sy (yd_pickT rfl rfl) rfl <| sa rfl rfl <| st_end <| st_ret <| ?_
  exact st_done (.tmp rfl .nil) rfl
theorem geo_All {G : Gh} : Fn Tryz.prog 185 [] G (fun u _ => u = IvV.v ⟨⟨0, 0, none⟩, ⟨0, 0, none⟩, true, true⟩) := by
  refine Fn.intro Tryz.func185 rfl rfl Tryz.ntmps185 rfl ?_
  intro C _ _
  refine st_seq <| st_region <| ?_
  refine sc (ch_alloc rfl ?_)
  intro b1
  refine st_end <| st_seq <| st_region <| sy (yd_build rfl) rfl <| ?_
  refine sc (ch_storeN rfl rfl (by first | (dsimp only [ovw, cellsL, List.set_cons_zero, List.set_cons_succ, Nat.reduceAdd, RV.v, LV.v, PV.v, IvV.v]; done) | exact rfl) (by repeat (first | exact .hd .. | apply OUpd.tl)) rfl (Nat.le_of_ble_eq_true rfl) rfl rfl ?_)
  refine st_end <| st_ret <| ?_
  exact st_done (.agg rfl inferInstance inferInstance rfl .nil) rfl
set_option maxHeartbeats 2000000 in
theorem Iv_Meet {A B G : Gh} {z1 z2 : IvV} {v w : IvQ} {k1 k2 : Nat} (h : IsIv k1 A z1 v) (g : IsIv k2 B z2 w) [GL A G] [GL B G] (hk : 2 * (k1 + k2) + 1 ≤ 1099511627776) :
    Fn Tryz.prog 193 [.agg ⟨[.int .i64 z1.lo.n, .int .i64 z1.lo.d, .pointer z1.lo.p, .int .i64 z1.hi.n, .int .i64 z1.hi.d, .pointer z1.hi.p, .bool z1.nl, .bool z1.nh]⟩, .agg ⟨[.int .i64 z2.lo.n, .int .i64 z2.lo.d, .pointer z2.lo.p, .int .i64 z2.hi.n, .int .i64 z2.hi.d, .pointer z2.hi.p, .bool z2.nl, .bool z2.nh]⟩] G (fun u G' => ∃ x : IvV, u = .tuple #[x.v, .bool (!(v.meet w).empty)] ∧ IsIv (max k1 k2) G' x (v.meet w)) := by
  obtain ⟨hlo1, hhi1, h1, h2⟩ := h
  obtain ⟨hlo2, hhi2, h3, h4⟩ := g
  obtain ⟨lo1, hi1, nl1, nh1⟩ := z1
  obtain ⟨lo2, hi2, nl2, nh2⟩ := z2
  obtain ⟨va, vb, vc, vd⟩ := v
  obtain ⟨wa, wb, wc, wd⟩ := w
  simp only [] at hlo1 hhi1 hlo2 hhi2 h1 h2 h3 h4
  subst h1 h2 h3 h4
  refine Fn.intro Tryz.func193 rfl rfl Tryz.ntmps193 rfl ?_
  intro C _ _
  cases nl1
  case true =>
    cases nh1
    case true =>
      refine st_seq <| st_region <| ?_
      refine sc (ch_box rfl rfl ?_)
      intro b1
      refine sc (ch_box rfl rfl ?_)
      intro b2
      refine sc (ch_alloc rfl ?_)
      intro b3
      refine sa rfl rfl <| st_end <| st_seq <| st_region <| slo rfl rfl rfl <| ?_
      refine sc (ch_alloc rfl ?_)
      intro b4
      refine sc (ch_storeN rfl rfl (by first | (dsimp only [ovw, cellsL, List.set_cons_zero, List.set_cons_succ, Nat.reduceAdd, RV.v, LV.v, PV.v, IvV.v]; done) | exact rfl) (by repeat (first | exact .hd .. | apply OUpd.tl)) rfl (Nat.le_of_ble_eq_true rfl) rfl rfl ?_)
      refine st_end <| st_seq <| st_block <| st_seq <| st_region <| sf rfl rfl <| slo1 rfl rfl rfl <| sa rfl rfl <| st_end <| st_condT rfl <| dr0 (b := b4) (fun _ => false) [(0, true), (1, true), (2, true), (3, true), (4, true), (5, false), (6, true), (7, false)] follows (by repeat (first | exact .hd .. | apply ORem.tl)) (by kernel_rfl) <| ?_
      refine dy rfl (fun _ => yd_fieldAddr rfl) rfl rfl <| dy rfl (fun _ => yd_load_own rfl rfl) rfl rfl <| dy rfl (fun _ => yd_fieldAddr rfl) rfl rfl <| dy rfl (fun _ => yd_load_own1 rfl rfl) rfl rfl <| ?_
      refine dy rfl (fun _ => yd_fieldAddr rfl) rfl rfl <| ?_
      refine dc rfl rfl (ch_storeN rfl rfl (by first | (dsimp only [ovw, cellsL, List.set_cons_zero, List.set_cons_succ, Nat.reduceAdd, RV.v, LV.v, PV.v, IvV.v]; done) | exact rfl) (by repeat (first | exact .hd .. | apply OUpd.tl)) rfl (Nat.le_of_ble_eq_true rfl) rfl rfl ?_)
      refine dr_s <| dy rfl (fun _ => yd_fieldAddr rfl) rfl rfl <| ?_
      refine dc rfl rfl (ch_storeN1 rfl rfl (by first | (dsimp only [ovw, cellsL, List.set_cons_zero, List.set_cons_succ, Nat.reduceAdd, RV.v, LV.v, PV.v, IvV.v]; done) | exact rfl) (by repeat (first | exact .hd .. | apply OUpd.tl)) (Nat.le_of_ble_eq_true rfl) rfl rfl ?_)
      refine dr_s <| dn <| st_seq <| st_block <| st_seq <| st_region <| sf rfl rfl <| slo1 rfl rfl rfl <| sa rfl rfl <| st_end <| st_condT rfl <| dr0 (b := b4) (fun _ => false) [(0, true), (1, true), (2, true), (3, true), (4, true), (5, false), (6, true), (7, false)] follows (by repeat (first | exact .hd .. | apply ORem.tl)) (by kernel_rfl) <| ?_
      refine dy rfl (fun _ => yd_fieldAddr rfl) rfl rfl <| dy rfl (fun _ => yd_load_own rfl rfl) rfl rfl <| dy rfl (fun _ => yd_fieldAddr rfl) rfl rfl <| dy rfl (fun _ => yd_load_own1 rfl rfl) rfl rfl <| ?_
      refine dy rfl (fun _ => yd_fieldAddr rfl) rfl rfl <| ?_
      refine dc rfl rfl (ch_storeN rfl rfl (by first | (dsimp only [ovw, cellsL, List.set_cons_zero, List.set_cons_succ, Nat.reduceAdd, RV.v, LV.v, PV.v, IvV.v]; done) | exact rfl) (by repeat (first | exact .hd .. | apply OUpd.tl)) rfl (Nat.le_of_ble_eq_true rfl) rfl rfl ?_)
      refine dr_s <| dy rfl (fun _ => yd_fieldAddr rfl) rfl rfl <| ?_
      refine dc rfl rfl (ch_storeN1 rfl rfl (by first | (dsimp only [ovw, cellsL, List.set_cons_zero, List.set_cons_succ, Nat.reduceAdd, RV.v, LV.v, PV.v, IvV.v]; done) | exact rfl) (by repeat (first | exact .hd .. | apply OUpd.tl)) (Nat.le_of_ble_eq_true rfl) rfl rfl ?_)
      refine dr_s <| dn <| st_seq <| dr0 (b := b3) (fun _ => false) [(0, true), (1, true), (2, false), (3, true), (4, false), (5, true)] follows (by repeat (first | exact .hd .. | apply ORem.tl)) (by kernel_rfl) <| ?_
      refine dy rfl (fun _ => yd_load_own rfl rfl) rfl rfl <| dy rfl (fun _ => yd_load_own rfl rfl) rfl rfl <| ?_
      have hL : IsR (max k1 k2) G lo2 wa := hlo2.up.mono' (by omega)
      have hH : IsR (max k1 k2) G hi2 wb := hhi2.up.mono' (by omega)
      have hm : IsIv (max k1 k2) G ⟨lo2, hi2, nl2, nh2⟩ (IvQ.meet ⟨va, vb, true, true⟩ ⟨wa, wb, nl2, nh2⟩) := ⟨hL, hH, rfl, rfl⟩
      refine dc rfl rfl (ch_call rfl rfl (Iv_empty hm (by omega)) rfl ?_)
      rintro _ G5 _ rfl
      refine dr_s <| dy rfl (fun _ => yd_not rfl) rfl rfl <| ?_
      refine dc rfl rfl (ch_storeN rfl rfl (by first | (dsimp only [ovw, cellsL, List.set_cons_zero, List.set_cons_succ, Nat.reduceAdd, RV.v, LV.v, PV.v, IvV.v]; done) | exact rfl) (by repeat (first | exact .hd .. | apply OUpd.tl)) rfl (Nat.le_of_ble_eq_true rfl) rfl rfl ?_)
      refine dr_s <| dy rfl (fun _ => yd_assign rfl) rfl rfl <| dn <| st_ret <| ?_
      exact st_done (.agg rfl inferInstance inferInstance rfl (.tmp rfl .nil)) ⟨_, rfl, hm.up⟩
    cases nh2
    case true =>
      refine st_seq <| st_region <| ?_
      refine sc (ch_box rfl rfl ?_)
      intro b1
      refine sc (ch_box rfl rfl ?_)
      intro b2
      refine sc (ch_alloc rfl ?_)
      intro b3
      refine sa rfl rfl <| st_end <| st_seq <| st_region <| slo rfl rfl rfl <| ?_
      refine sc (ch_alloc rfl ?_)
      intro b4
      refine sc (ch_storeN rfl rfl (by first | (dsimp only [ovw, cellsL, List.set_cons_zero, List.set_cons_succ, Nat.reduceAdd, RV.v, LV.v, PV.v, IvV.v]; done) | exact rfl) (by repeat (first | exact .hd .. | apply OUpd.tl)) rfl (Nat.le_of_ble_eq_true rfl) rfl rfl ?_)
      refine st_end <| st_seq <| st_block <| st_seq <| st_region <| sf rfl rfl <| slo1 rfl rfl rfl <| sa rfl rfl <| st_end <| st_condT rfl <| dr0 (b := b4) (fun _ => false) [(0, true), (1, true), (2, true), (3, true), (4, true), (5, false), (6, true), (7, false)] follows (by repeat (first | exact .hd .. | apply ORem.tl)) (by kernel_rfl) <| ?_
      refine dy rfl (fun _ => yd_fieldAddr rfl) rfl rfl <| dy rfl (fun _ => yd_load_own rfl rfl) rfl rfl <| dy rfl (fun _ => yd_fieldAddr rfl) rfl rfl <| dy rfl (fun _ => yd_load_own1 rfl rfl) rfl rfl <| ?_
      refine dy rfl (fun _ => yd_fieldAddr rfl) rfl rfl <| ?_
      refine dc rfl rfl (ch_storeN rfl rfl (by first | (dsimp only [ovw, cellsL, List.set_cons_zero, List.set_cons_succ, Nat.reduceAdd, RV.v, LV.v, PV.v, IvV.v]; done) | exact rfl) (by repeat (first | exact .hd .. | apply OUpd.tl)) rfl (Nat.le_of_ble_eq_true rfl) rfl rfl ?_)
      refine dr_s <| dy rfl (fun _ => yd_fieldAddr rfl) rfl rfl <| ?_
      refine dc rfl rfl (ch_storeN1 rfl rfl (by first | (dsimp only [ovw, cellsL, List.set_cons_zero, List.set_cons_succ, Nat.reduceAdd, RV.v, LV.v, PV.v, IvV.v]; done) | exact rfl) (by repeat (first | exact .hd .. | apply OUpd.tl)) (Nat.le_of_ble_eq_true rfl) rfl rfl ?_)
      refine dr_s <| dn <| st_seq <| st_block <| st_seq <| st_region <| sf rfl rfl <| slo1 rfl rfl rfl <| sa rfl rfl <| st_end <| st_condF rfl <| st_seq <| st_region <| sf rfl rfl <| slo1 rfl rfl rfl <| ?_
      refine sy (yd_not rfl) rfl <| sa rfl rfl <| st_end <| st_condF rfl <| st_skipc <| st_seq <| dr0 (b := b3) (fun _ => false) [(0, true), (1, true), (2, false), (3, true), (4, false), (5, true)] follows (by repeat (first | exact .hd .. | apply ORem.tl)) (by kernel_rfl) <| ?_
      refine dy rfl (fun _ => yd_load_own rfl rfl) rfl rfl <| dy rfl (fun _ => yd_load_own rfl rfl) rfl rfl <| ?_
      have hL : IsR (max k1 k2) G lo2 wa := hlo2.up.mono' (by omega)
      have hH : IsR (max k1 k2) G hi1 vb := hhi1.up.mono' (by omega)
      have hm : IsIv (max k1 k2) G ⟨lo2, hi1, nl2, false⟩ (IvQ.meet ⟨va, vb, true, false⟩ ⟨wa, wb, nl2, true⟩) := ⟨hL, hH, rfl, rfl⟩
      refine dc rfl rfl (ch_call rfl rfl (Iv_empty hm (by omega)) rfl ?_)
      rintro _ G5 _ rfl
      refine dr_s <| dy rfl (fun _ => yd_not rfl) rfl rfl <| ?_
      refine dc rfl rfl (ch_storeN rfl rfl (by first | (dsimp only [ovw, cellsL, List.set_cons_zero, List.set_cons_succ, Nat.reduceAdd, RV.v, LV.v, PV.v, IvV.v]; done) | exact rfl) (by repeat (first | exact .hd .. | apply OUpd.tl)) rfl (Nat.le_of_ble_eq_true rfl) rfl rfl ?_)
      refine dr_s <| dy rfl (fun _ => yd_assign rfl) rfl rfl <| dn <| st_ret <| ?_
      exact st_done (.agg rfl inferInstance inferInstance rfl (.tmp rfl .nil)) ⟨_, rfl, hm.up⟩
    refine st_seq <| st_region <| ?_
    refine sc (ch_box rfl rfl ?_)
    intro b1
    refine sc (ch_box rfl rfl ?_)
    intro b2
    refine sc (ch_alloc rfl ?_)
    intro b3
    refine sa rfl rfl <| st_end <| st_seq <| st_region <| slo rfl rfl rfl <| ?_
    refine sc (ch_alloc rfl ?_)
    intro b4
    refine sc (ch_storeN rfl rfl (by first | (dsimp only [ovw, cellsL, List.set_cons_zero, List.set_cons_succ, Nat.reduceAdd, RV.v, LV.v, PV.v, IvV.v]; done) | exact rfl) (by repeat (first | exact .hd .. | apply OUpd.tl)) rfl (Nat.le_of_ble_eq_true rfl) rfl rfl ?_)
    refine st_end <| st_seq <| st_block <| st_seq <| st_region <| sf rfl rfl <| slo1 rfl rfl rfl <| sa rfl rfl <| st_end <| st_condT rfl <| dr0 (b := b4) (fun _ => false) [(0, true), (1, true), (2, true), (3, true), (4, true), (5, false), (6, true), (7, false)] follows (by repeat (first | exact .hd .. | apply ORem.tl)) (by kernel_rfl) <| ?_
    refine dy rfl (fun _ => yd_fieldAddr rfl) rfl rfl <| dy rfl (fun _ => yd_load_own rfl rfl) rfl rfl <| dy rfl (fun _ => yd_fieldAddr rfl) rfl rfl <| dy rfl (fun _ => yd_load_own1 rfl rfl) rfl rfl <| ?_
    refine dy rfl (fun _ => yd_fieldAddr rfl) rfl rfl <| ?_
    refine dc rfl rfl (ch_storeN rfl rfl (by first | (dsimp only [ovw, cellsL, List.set_cons_zero, List.set_cons_succ, Nat.reduceAdd, RV.v, LV.v, PV.v, IvV.v]; done) | exact rfl) (by repeat (first | exact .hd .. | apply OUpd.tl)) rfl (Nat.le_of_ble_eq_true rfl) rfl rfl ?_)
    refine dr_s <| dy rfl (fun _ => yd_fieldAddr rfl) rfl rfl <| ?_
    refine dc rfl rfl (ch_storeN1 rfl rfl (by first | (dsimp only [ovw, cellsL, List.set_cons_zero, List.set_cons_succ, Nat.reduceAdd, RV.v, LV.v, PV.v, IvV.v]; done) | exact rfl) (by repeat (first | exact .hd .. | apply OUpd.tl)) (Nat.le_of_ble_eq_true rfl) rfl rfl ?_)
    refine dr_s <| dn <| st_seq <| st_block <| st_seq <| st_region <| sf rfl rfl <| slo1 rfl rfl rfl <| sa rfl rfl <| st_end <| st_condF rfl <| st_seq <| st_region <| sf rfl rfl <| slo1 rfl rfl rfl <| ?_
    refine sy (yd_not rfl) rfl <| sa rfl rfl <| st_end <| st_condT rfl <| st_region <| sf rfl rfl <| slo rfl rfl rfl <| sf rfl rfl <| slo rfl rfl rfl <| ?_
    refine sc (ch_call rfl rfl (frac_Min hhi1 hhi2 (by omega)) rfl ?_)
    rintro _ G5 _ ⟨x6, rfl, h7⟩
    refine sf rfl rfl <| ?_
    refine sc (ch_storeN rfl rfl (by first | (dsimp only [ovw, cellsL, List.set_cons_zero, List.set_cons_succ, Nat.reduceAdd, RV.v, LV.v, PV.v, IvV.v]; done) | exact rfl) (by repeat (first | exact .hd .. | apply OUpd.tl)) rfl (Nat.le_of_ble_eq_true rfl) rfl rfl ?_)
    refine st_end <| st_seq <| dr0 (b := b3) (fun _ => false) [(0, true), (1, true), (2, false), (3, true), (4, false), (5, true)] follows (by repeat (first | exact .hd .. | apply ORem.tl)) (by kernel_rfl) <| ?_
    refine dy rfl (fun _ => yd_load_own rfl rfl) rfl rfl <| dy rfl (fun _ => yd_load_own rfl rfl) rfl rfl <| ?_
    have hL : IsR (max k1 k2) G5 lo2 wa := hlo2.up.mono' (by omega)
    have hH : IsR (max k1 k2) G5 x6 (if wb < vb then wb else vb) := h7.up.mono' (by omega)
    have hm : IsIv (max k1 k2) G5 ⟨lo2, x6, nl2, false⟩ (IvQ.meet ⟨va, vb, true, false⟩ ⟨wa, wb, nl2, false⟩) := ⟨hL, hH, rfl, rfl⟩
    refine dc rfl rfl (ch_call rfl rfl (Iv_empty hm (by omega)) rfl ?_)
    rintro _ G8 _ rfl
    refine dr_s <| dy rfl (fun _ => yd_not rfl) rfl rfl <| ?_
    refine dc rfl rfl (ch_storeN rfl rfl (by first | (dsimp only [ovw, cellsL, List.set_cons_zero, List.set_cons_succ, Nat.reduceAdd, RV.v, LV.v, PV.v, IvV.v]; done) | exact rfl) (by repeat (first | exact .hd .. | apply OUpd.tl)) rfl (Nat.le_of_ble_eq_true rfl) rfl rfl ?_)
    refine dr_s <| dy rfl (fun _ => yd_assign rfl) rfl rfl <| dn <| st_ret <| ?_
    exact st_done (.agg rfl inferInstance inferInstance rfl (.tmp rfl .nil)) ⟨_, rfl, hm.up⟩
  cases nl2
  case true =>
    cases nh1
    case true =>
      refine st_seq <| st_region <| ?_
      refine sc (ch_box rfl rfl ?_)
      intro b1
      refine sc (ch_box rfl rfl ?_)
      intro b2
      refine sc (ch_alloc rfl ?_)
      intro b3
      refine sa rfl rfl <| st_end <| st_seq <| st_region <| slo rfl rfl rfl <| ?_
      refine sc (ch_alloc rfl ?_)
      intro b4
      refine sc (ch_storeN rfl rfl (by first | (dsimp only [ovw, cellsL, List.set_cons_zero, List.set_cons_succ, Nat.reduceAdd, RV.v, LV.v, PV.v, IvV.v]; done) | exact rfl) (by repeat (first | exact .hd .. | apply OUpd.tl)) rfl (Nat.le_of_ble_eq_true rfl) rfl rfl ?_)
      refine st_end <| st_seq <| st_block <| st_seq <| st_region <| sf rfl rfl <| slo1 rfl rfl rfl <| sa rfl rfl <| st_end <| st_condF rfl <| st_seq <| st_region <| sf rfl rfl <| slo1 rfl rfl rfl <| ?_
      refine sy (yd_not rfl) rfl <| sa rfl rfl <| st_end <| st_condF rfl <| st_skipc <| st_seq <| st_block <| st_seq <| st_region <| sf rfl rfl <| slo1 rfl rfl rfl <| sa rfl rfl <| st_end <| st_condT rfl <| ?_
      refine dr0 (b := b4) (fun _ => false) [(0, true), (1, true), (2, true), (3, true), (4, true), (5, false), (6, true), (7, false)] follows (by repeat (first | exact .hd .. | apply ORem.tl)) (by kernel_rfl) <| ?_
      refine dy rfl (fun _ => yd_fieldAddr rfl) rfl rfl <| dy rfl (fun _ => yd_load_own rfl rfl) rfl rfl <| dy rfl (fun _ => yd_fieldAddr rfl) rfl rfl <| dy rfl (fun _ => yd_load_own1 rfl rfl) rfl rfl <| ?_
      refine dy rfl (fun _ => yd_fieldAddr rfl) rfl rfl <| ?_
      refine dc rfl rfl (ch_storeN rfl rfl (by first | (dsimp only [ovw, cellsL, List.set_cons_zero, List.set_cons_succ, Nat.reduceAdd, RV.v, LV.v, PV.v, IvV.v]; done) | exact rfl) (by repeat (first | exact .hd .. | apply OUpd.tl)) rfl (Nat.le_of_ble_eq_true rfl) rfl rfl ?_)
      refine dr_s <| dy rfl (fun _ => yd_fieldAddr rfl) rfl rfl <| ?_
      refine dc rfl rfl (ch_storeN1 rfl rfl (by first | (dsimp only [ovw, cellsL, List.set_cons_zero, List.set_cons_succ, Nat.reduceAdd, RV.v, LV.v, PV.v, IvV.v]; done) | exact rfl) (by repeat (first | exact .hd .. | apply OUpd.tl)) (Nat.le_of_ble_eq_true rfl) rfl rfl ?_)
      refine dr_s <| dn <| st_seq <| dr0 (b := b3) (fun _ => false) [(0, true), (1, true), (2, false), (3, true), (4, false), (5, true)] follows (by repeat (first | exact .hd .. | apply ORem.tl)) (by kernel_rfl) <| ?_
      refine dy rfl (fun _ => yd_load_own rfl rfl) rfl rfl <| dy rfl (fun _ => yd_load_own rfl rfl) rfl rfl <| ?_
      have hL : IsR (max k1 k2) G lo1 va := hlo1.up.mono' (by omega)
      have hH : IsR (max k1 k2) G hi2 wb := hhi2.up.mono' (by omega)
      have hm : IsIv (max k1 k2) G ⟨lo1, hi2, false, nh2⟩ (IvQ.meet ⟨va, vb, false, true⟩ ⟨wa, wb, true, nh2⟩) := ⟨hL, hH, rfl, rfl⟩
      refine dc rfl rfl (ch_call rfl rfl (Iv_empty hm (by omega)) rfl ?_)
      rintro _ G5 _ rfl
      refine dr_s <| dy rfl (fun _ => yd_not rfl) rfl rfl <| ?_
      refine dc rfl rfl (ch_storeN rfl rfl (by first | (dsimp only [ovw, cellsL, List.set_cons_zero, List.set_cons_succ, Nat.reduceAdd, RV.v, LV.v, PV.v, IvV.v]; done) | exact rfl) (by repeat (first | exact .hd .. | apply OUpd.tl)) rfl (Nat.le_of_ble_eq_true rfl) rfl rfl ?_)
      refine dr_s <| dy rfl (fun _ => yd_assign rfl) rfl rfl <| dn <| st_ret <| ?_
      exact st_done (.agg rfl inferInstance inferInstance rfl (.tmp rfl .nil)) ⟨_, rfl, hm.up⟩
    cases nh2
    case true =>
      refine st_seq <| st_region <| ?_
      refine sc (ch_box rfl rfl ?_)
      intro b1
      refine sc (ch_box rfl rfl ?_)
      intro b2
      refine sc (ch_alloc rfl ?_)
      intro b3
      refine sa rfl rfl <| st_end <| st_seq <| st_region <| slo rfl rfl rfl <| ?_
      refine sc (ch_alloc rfl ?_)
      intro b4
      refine sc (ch_storeN rfl rfl (by first | (dsimp only [ovw, cellsL, List.set_cons_zero, List.set_cons_succ, Nat.reduceAdd, RV.v, LV.v, PV.v, IvV.v]; done) | exact rfl) (by repeat (first | exact .hd .. | apply OUpd.tl)) rfl (Nat.le_of_ble_eq_true rfl) rfl rfl ?_)
      refine st_end <| st_seq <| st_block <| st_seq <| st_region <| sf rfl rfl <| slo1 rfl rfl rfl <| sa rfl rfl <| st_end <| st_condF rfl <| st_seq <| st_region <| sf rfl rfl <| slo1 rfl rfl rfl <| ?_
      refine sy (yd_not rfl) rfl <| sa rfl rfl <| st_end <| st_condF rfl <| st_skipc <| st_seq <| st_block <| st_seq <| st_region <| sf rfl rfl <| slo1 rfl rfl rfl <| sa rfl rfl <| st_end <| st_condF rfl <| ?_
      refine st_seq <| st_region <| sf rfl rfl <| slo1 rfl rfl rfl <| sy (yd_not rfl) rfl <| sa rfl rfl <| st_end <| st_condF rfl <| st_skipc <| st_seq <| dr0 (b := b3) (fun _ => false) [(0, true), (1, true), (2, false), (3, true), (4, false), (5, true)] follows (by repeat (first | exact .hd .. | apply ORem.tl)) (by kernel_rfl) <| ?_
      refine dy rfl (fun _ => yd_load_own rfl rfl) rfl rfl <| dy rfl (fun _ => yd_load_own rfl rfl) rfl rfl <| ?_
      have hL : IsR (max k1 k2) G lo1 va := hlo1.up.mono' (by omega)
      have hH : IsR (max k1 k2) G hi1 vb := hhi1.up.mono' (by omega)
      have hm : IsIv (max k1 k2) G ⟨lo1, hi1, false, false⟩ (IvQ.meet ⟨va, vb, false, false⟩ ⟨wa, wb, true, true⟩) := ⟨hL, hH, rfl, rfl⟩
      refine dc rfl rfl (ch_call rfl rfl (Iv_empty hm (by omega)) rfl ?_)
      rintro _ G5 _ rfl
      refine dr_s <| dy rfl (fun _ => yd_not rfl) rfl rfl <| ?_
      refine dc rfl rfl (ch_storeN rfl rfl (by first | (dsimp only [ovw, cellsL, List.set_cons_zero, List.set_cons_succ, Nat.reduceAdd, RV.v, LV.v, PV.v, IvV.v]; done) | exact rfl) (by repeat (first | exact .hd .. | apply OUpd.tl)) rfl (Nat.le_of_ble_eq_true rfl) rfl rfl ?_)
      refine dr_s <| dy rfl (fun _ => yd_assign rfl) rfl rfl <| dn <| st_ret <| ?_
      exact st_done (.agg rfl inferInstance inferInstance rfl (.tmp rfl .nil)) ⟨_, rfl, hm.up⟩
    refine st_seq <| st_region <| ?_
    refine sc (ch_box rfl rfl ?_)
    intro b1
    refine sc (ch_box rfl rfl ?_)
    intro b2
    refine sc (ch_alloc rfl ?_)
    intro b3
    refine sa rfl rfl <| st_end <| st_seq <| st_region <| slo rfl rfl rfl <| ?_
    refine sc (ch_alloc rfl ?_)
    intro b4
    refine sc (ch_storeN rfl rfl (by first | (dsimp only [ovw, cellsL, List.set_cons_zero, List.set_cons_succ, Nat.reduceAdd, RV.v, LV.v, PV.v, IvV.v]; done) | exact rfl) (by repeat (first | exact .hd .. | apply OUpd.tl)) rfl (Nat.le_of_ble_eq_true rfl) rfl rfl ?_)
    refine st_end <| st_seq <| st_block <| st_seq <| st_region <| sf rfl rfl <| slo1 rfl rfl rfl <| sa rfl rfl <| st_end <| st_condF rfl <| st_seq <| st_region <| sf rfl rfl <| slo1 rfl rfl rfl <| ?_
    refine sy (yd_not rfl) rfl <| sa rfl rfl <| st_end <| st_condF rfl <| st_skipc <| st_seq <| st_block <| st_seq <| st_region <| sf rfl rfl <| slo1 rfl rfl rfl <| sa rfl rfl <| st_end <| st_condF rfl <| ?_
    refine st_seq <| st_region <| sf rfl rfl <| slo1 rfl rfl rfl <| sy (yd_not rfl) rfl <| sa rfl rfl <| st_end <| st_condT rfl <| st_region <| sf rfl rfl <| slo rfl rfl rfl <| sf rfl rfl <| slo rfl rfl rfl <| ?_
    refine sc (ch_call rfl rfl (frac_Min hhi1 hhi2 (by omega)) rfl ?_)
    rintro _ G5 _ ⟨x6, rfl, h7⟩
    refine sf rfl rfl <| ?_
    refine sc (ch_storeN rfl rfl (by first | (dsimp only [ovw, cellsL, List.set_cons_zero, List.set_cons_succ, Nat.reduceAdd, RV.v, LV.v, PV.v, IvV.v]; done) | exact rfl) (by repeat (first | exact .hd .. | apply OUpd.tl)) rfl (Nat.le_of_ble_eq_true rfl) rfl rfl ?_)
    refine st_end <| st_seq <| dr0 (b := b3) (fun _ => false) [(0, true), (1, true), (2, false), (3, true), (4, false), (5, true)] follows (by repeat (first | exact .hd .. | apply ORem.tl)) (by kernel_rfl) <| ?_
    refine dy rfl (fun _ => yd_load_own rfl rfl) rfl rfl <| dy rfl (fun _ => yd_load_own rfl rfl) rfl rfl <| ?_
    have hL : IsR (max k1 k2) G5 lo1 va := hlo1.up.mono' (by omega)
    have hH : IsR (max k1 k2) G5 x6 (if wb < vb then wb else vb) := h7.up.mono' (by omega)
    have hm : IsIv (max k1 k2) G5 ⟨lo1, x6, false, false⟩ (IvQ.meet ⟨va, vb, false, false⟩ ⟨wa, wb, true, false⟩) := ⟨hL, hH, rfl, rfl⟩
    refine dc rfl rfl (ch_call rfl rfl (Iv_empty hm (by omega)) rfl ?_)
    rintro _ G8 _ rfl
    refine dr_s <| dy rfl (fun _ => yd_not rfl) rfl rfl <| ?_
    refine dc rfl rfl (ch_storeN rfl rfl (by first | (dsimp only [ovw, cellsL, List.set_cons_zero, List.set_cons_succ, Nat.reduceAdd, RV.v, LV.v, PV.v, IvV.v]; done) | exact rfl) (by repeat (first | exact .hd .. | apply OUpd.tl)) rfl (Nat.le_of_ble_eq_true rfl) rfl rfl ?_)
    refine dr_s <| dy rfl (fun _ => yd_assign rfl) rfl rfl <| dn <| st_ret <| ?_
    exact st_done (.agg rfl inferInstance inferInstance rfl (.tmp rfl .nil)) ⟨_, rfl, hm.up⟩
  cases nh1
  case true =>
    refine st_seq <| st_region <| ?_
    refine sc (ch_box rfl rfl ?_)
    intro b1
    refine sc (ch_box rfl rfl ?_)
    intro b2
    refine sc (ch_alloc rfl ?_)
    intro b3
    refine sa rfl rfl <| st_end <| st_seq <| st_region <| slo rfl rfl rfl <| ?_
    refine sc (ch_alloc rfl ?_)
    intro b4
    refine sc (ch_storeN rfl rfl (by first | (dsimp only [ovw, cellsL, List.set_cons_zero, List.set_cons_succ, Nat.reduceAdd, RV.v, LV.v, PV.v, IvV.v]; done) | exact rfl) (by repeat (first | exact .hd .. | apply OUpd.tl)) rfl (Nat.le_of_ble_eq_true rfl) rfl rfl ?_)
    refine st_end <| st_seq <| st_block <| st_seq <| st_region <| sf rfl rfl <| slo1 rfl rfl rfl <| sa rfl rfl <| st_end <| st_condF rfl <| st_seq <| st_region <| sf rfl rfl <| slo1 rfl rfl rfl <| ?_
    refine sy (yd_not rfl) rfl <| sa rfl rfl <| st_end <| st_condT rfl <| st_region <| sf rfl rfl <| slo rfl rfl rfl <| sf rfl rfl <| slo rfl rfl rfl <| ?_
    refine sc (ch_call rfl rfl (frac_Max hlo1 hlo2 (by omega)) rfl ?_)
    rintro _ G5 _ ⟨x6, rfl, h7⟩
    refine sf rfl rfl <| ?_
    refine sc (ch_storeN rfl rfl (by first | (dsimp only [ovw, cellsL, List.set_cons_zero, List.set_cons_succ, Nat.reduceAdd, RV.v, LV.v, PV.v, IvV.v]; done) | exact rfl) (by repeat (first | exact .hd .. | apply OUpd.tl)) rfl (Nat.le_of_ble_eq_true rfl) rfl rfl ?_)
    refine st_end <| st_seq <| st_block <| st_seq <| st_region <| sf rfl rfl <| slo1 rfl rfl rfl <| sa rfl rfl <| st_end <| st_condT rfl <| dr0 (b := b4) (fun _ => false) [(0, true), (1, true), (2, true), (3, true), (4, true), (5, false), (6, true), (7, false)] follows (by repeat (first | exact .hd .. | apply ORem.tl)) (by kernel_rfl) <| ?_
    refine dy rfl (fun _ => yd_fieldAddr rfl) rfl rfl <| dy rfl (fun _ => yd_load_own rfl rfl) rfl rfl <| dy rfl (fun _ => yd_fieldAddr rfl) rfl rfl <| dy rfl (fun _ => yd_load_own1 rfl rfl) rfl rfl <| ?_
    refine dy rfl (fun _ => yd_fieldAddr rfl) rfl rfl <| ?_
    refine dc rfl rfl (ch_storeN rfl rfl (by first | (dsimp only [ovw, cellsL, List.set_cons_zero, List.set_cons_succ, Nat.reduceAdd, RV.v, LV.v, PV.v, IvV.v]; done) | exact rfl) (by repeat (first | exact .hd .. | apply OUpd.tl)) rfl (Nat.le_of_ble_eq_true rfl) rfl rfl ?_)
    refine dr_s <| dy rfl (fun _ => yd_fieldAddr rfl) rfl rfl <| ?_
    refine dc rfl rfl (ch_storeN1 rfl rfl (by first | (dsimp only [ovw, cellsL, List.set_cons_zero, List.set_cons_succ, Nat.reduceAdd, RV.v, LV.v, PV.v, IvV.v]; done) | exact rfl) (by repeat (first | exact .hd .. | apply OUpd.tl)) (Nat.le_of_ble_eq_true rfl) rfl rfl ?_)
    refine dr_s <| dn <| st_seq <| dr0 (b := b3) (fun _ => false) [(0, true), (1, true), (2, false), (3, true), (4, false), (5, true)] follows (by repeat (first | exact .hd .. | apply ORem.tl)) (by kernel_rfl) <| ?_
    refine dy rfl (fun _ => yd_load_own rfl rfl) rfl rfl <| dy rfl (fun _ => yd_load_own rfl rfl) rfl rfl <| ?_
    have hL : IsR (max k1 k2) G5 x6 (if va < wa then wa else va) := h7.up.mono' (by omega)
    have hH : IsR (max k1 k2) G5 hi2 wb := hhi2.up.mono' (by omega)
    have hm : IsIv (max k1 k2) G5 ⟨x6, hi2, false, nh2⟩ (IvQ.meet ⟨va, vb, false, true⟩ ⟨wa, wb, false, nh2⟩) := ⟨hL, hH, rfl, rfl⟩
    refine dc rfl rfl (ch_call rfl rfl (Iv_empty hm (by omega)) rfl ?_)
    rintro _ G8 _ rfl
    refine dr_s <| dy rfl (fun _ => yd_not rfl) rfl rfl <| ?_
    refine dc rfl rfl (ch_storeN rfl rfl (by first | (dsimp only [ovw, cellsL, List.set_cons_zero, List.set_cons_succ, Nat.reduceAdd, RV.v, LV.v, PV.v, IvV.v]; done) | exact rfl) (by repeat (first | exact .hd .. | apply OUpd.tl)) rfl (Nat.le_of_ble_eq_true rfl) rfl rfl ?_)
    refine dr_s <| dy rfl (fun _ => yd_assign rfl) rfl rfl <| dn <| st_ret <| ?_
    exact st_done (.agg rfl inferInstance inferInstance rfl (.tmp rfl .nil)) ⟨_, rfl, hm.up⟩
  cases nh2
  case true =>
    refine st_seq <| st_region <| ?_
    refine sc (ch_box rfl rfl ?_)
    intro b1
    refine sc (ch_box rfl rfl ?_)
    intro b2
    refine sc (ch_alloc rfl ?_)
    intro b3
    refine sa rfl rfl <| st_end <| st_seq <| st_region <| slo rfl rfl rfl <| ?_
    refine sc (ch_alloc rfl ?_)
    intro b4
    refine sc (ch_storeN rfl rfl (by first | (dsimp only [ovw, cellsL, List.set_cons_zero, List.set_cons_succ, Nat.reduceAdd, RV.v, LV.v, PV.v, IvV.v]; done) | exact rfl) (by repeat (first | exact .hd .. | apply OUpd.tl)) rfl (Nat.le_of_ble_eq_true rfl) rfl rfl ?_)
    refine st_end <| st_seq <| st_block <| st_seq <| st_region <| sf rfl rfl <| slo1 rfl rfl rfl <| sa rfl rfl <| st_end <| st_condF rfl <| st_seq <| st_region <| sf rfl rfl <| slo1 rfl rfl rfl <| ?_
    refine sy (yd_not rfl) rfl <| sa rfl rfl <| st_end <| st_condT rfl <| st_region <| sf rfl rfl <| slo rfl rfl rfl <| sf rfl rfl <| slo rfl rfl rfl <| ?_
    refine sc (ch_call rfl rfl (frac_Max hlo1 hlo2 (by omega)) rfl ?_)
    rintro _ G5 _ ⟨x6, rfl, h7⟩
    refine sf rfl rfl <| ?_
    refine sc (ch_storeN rfl rfl (by first | (dsimp only [ovw, cellsL, List.set_cons_zero, List.set_cons_succ, Nat.reduceAdd, RV.v, LV.v, PV.v, IvV.v]; done) | exact rfl) (by repeat (first | exact .hd .. | apply OUpd.tl)) rfl (Nat.le_of_ble_eq_true rfl) rfl rfl ?_)
    refine st_end <| st_seq <| st_block <| st_seq <| st_region <| sf rfl rfl <| slo1 rfl rfl rfl <| sa rfl rfl <| st_end <| st_condF rfl <| st_seq <| st_region <| sf rfl rfl <| slo1 rfl rfl rfl <| ?_
    refine sy (yd_not rfl) rfl <| sa rfl rfl <| st_end <| st_condF rfl <| st_skipc <| st_seq <| dr0 (b := b3) (fun _ => false) [(0, true), (1, true), (2, false), (3, true), (4, false), (5, true)] follows (by repeat (first | exact .hd .. | apply ORem.tl)) (by kernel_rfl) <| ?_
    refine dy rfl (fun _ => yd_load_own rfl rfl) rfl rfl <| dy rfl (fun _ => yd_load_own rfl rfl) rfl rfl <| ?_
    have hL : IsR (max k1 k2) G5 x6 (if va < wa then wa else va) := h7.up.mono' (by omega)
    have hH : IsR (max k1 k2) G5 hi1 vb := hhi1.up.mono' (by omega)
    have hm : IsIv (max k1 k2) G5 ⟨x6, hi1, false, false⟩ (IvQ.meet ⟨va, vb, false, false⟩ ⟨wa, wb, false, true⟩) := ⟨hL, hH, rfl, rfl⟩
    refine dc rfl rfl (ch_call rfl rfl (Iv_empty hm (by omega)) rfl ?_)
    rintro _ G8 _ rfl
    refine dr_s <| dy rfl (fun _ => yd_not rfl) rfl rfl <| ?_
    refine dc rfl rfl (ch_storeN rfl rfl (by first | (dsimp only [ovw, cellsL, List.set_cons_zero, List.set_cons_succ, Nat.reduceAdd, RV.v, LV.v, PV.v, IvV.v]; done) | exact rfl) (by repeat (first | exact .hd .. | apply OUpd.tl)) rfl (Nat.le_of_ble_eq_true rfl) rfl rfl ?_)
    refine dr_s <| dy rfl (fun _ => yd_assign rfl) rfl rfl <| dn <| st_ret <| ?_
    exact st_done (.agg rfl inferInstance inferInstance rfl (.tmp rfl .nil)) ⟨_, rfl, hm.up⟩
  refine st_seq <| st_region <| ?_
  refine sc (ch_box rfl rfl ?_)
  intro b1
  refine sc (ch_box rfl rfl ?_)
  intro b2
  refine sc (ch_alloc rfl ?_)
  intro b3
  refine sa rfl rfl <| st_end <| st_seq <| st_region <| slo rfl rfl rfl <| ?_
  refine sc (ch_alloc rfl ?_)
  intro b4
  refine sc (ch_storeN rfl rfl (by first | (dsimp only [ovw, cellsL, List.set_cons_zero, List.set_cons_succ, Nat.reduceAdd, RV.v, LV.v, PV.v, IvV.v]; done) | exact rfl) (by repeat (first | exact .hd .. | apply OUpd.tl)) rfl (Nat.le_of_ble_eq_true rfl) rfl rfl ?_)
  refine st_end <| st_seq <| st_block <| st_seq <| st_region <| sf rfl rfl <| slo1 rfl rfl rfl <| sa rfl rfl <| st_end <| st_condF rfl <| st_seq <| st_region <| sf rfl rfl <| slo1 rfl rfl rfl <| ?_
  refine sy (yd_not rfl) rfl <| sa rfl rfl <| st_end <| st_condT rfl <| st_region <| sf rfl rfl <| slo rfl rfl rfl <| sf rfl rfl <| slo rfl rfl rfl <| ?_
  refine sc (ch_call rfl rfl (frac_Max hlo1 hlo2 (by omega)) rfl ?_)
  rintro _ G5 _ ⟨x6, rfl, h7⟩
  refine sf rfl rfl <| ?_
  refine sc (ch_storeN rfl rfl (by first | (dsimp only [ovw, cellsL, List.set_cons_zero, List.set_cons_succ, Nat.reduceAdd, RV.v, LV.v, PV.v, IvV.v]; done) | exact rfl) (by repeat (first | exact .hd .. | apply OUpd.tl)) rfl (Nat.le_of_ble_eq_true rfl) rfl rfl ?_)
  refine st_end <| st_seq <| st_block <| st_seq <| st_region <| sf rfl rfl <| slo1 rfl rfl rfl <| sa rfl rfl <| st_end <| st_condF rfl <| st_seq <| st_region <| sf rfl rfl <| slo1 rfl rfl rfl <| ?_
  refine sy (yd_not rfl) rfl <| sa rfl rfl <| st_end <| st_condT rfl <| st_region <| sf rfl rfl <| slo rfl rfl rfl <| sf rfl rfl <| slo rfl rfl rfl <| ?_
  refine sc (ch_call rfl rfl (frac_Min hhi1 hhi2 (by omega)) rfl ?_)
  rintro _ G8 _ ⟨x9, rfl, h10⟩
  refine sf rfl rfl <| ?_
  refine sc (ch_storeN rfl rfl (by first | (dsimp only [ovw, cellsL, List.set_cons_zero, List.set_cons_succ, Nat.reduceAdd, RV.v, LV.v, PV.v, IvV.v]; done) | exact rfl) (by repeat (first | exact .hd .. | apply OUpd.tl)) rfl (Nat.le_of_ble_eq_true rfl) rfl rfl ?_)
  refine st_end <| st_seq <| dr0 (b := b3) (fun _ => false) [(0, true), (1, true), (2, false), (3, true), (4, false), (5, true)] follows (by repeat (first | exact .hd .. | apply ORem.tl)) (by kernel_rfl) <| ?_
  refine dy rfl (fun _ => yd_load_own rfl rfl) rfl rfl <| dy rfl (fun _ => yd_load_own rfl rfl) rfl rfl <| ?_
  have hL : IsR (max k1 k2) G8 x6 (if va < wa then wa else va) := h7.up.mono' (by omega)
  have hH : IsR (max k1 k2) G8 x9 (if wb < vb then wb else vb) := h10.up.mono' (by omega)
  have hm : IsIv (max k1 k2) G8 ⟨x6, x9, false, false⟩ (IvQ.meet ⟨va, vb, false, false⟩ ⟨wa, wb, false, false⟩) := ⟨hL, hH, rfl, rfl⟩
  refine dc rfl rfl (ch_call rfl rfl (Iv_empty hm (by omega)) rfl ?_)
  rintro _ G11 _ rfl
  refine dr_s <| dy rfl (fun _ => yd_not rfl) rfl rfl <| ?_
  refine dc rfl rfl (ch_storeN rfl rfl (by first | (dsimp only [ovw, cellsL, List.set_cons_zero, List.set_cons_succ, Nat.reduceAdd, RV.v, LV.v, PV.v, IvV.v]; done) | exact rfl) (by repeat (first | exact .hd .. | apply OUpd.tl)) rfl (Nat.le_of_ble_eq_true rfl) rfl rfl ?_)
  refine dr_s <| dy rfl (fun _ => yd_assign rfl) rfl rfl <| dn <| st_ret <| ?_
  exact st_done (.agg rfl inferInstance inferInstance rfl (.tmp rfl .nil)) ⟨_, rfl, hm.up⟩
end Go.Sx
end

section
set_option maxRecDepth 100000
namespace Go.Sx
open Go Go.Proofs

theorem Iv_Sample {A G : Gh} {z : IvV} {v : IvQ} {k : Nat} (h : IsIv k A z v) [GL A G] (hk : 2 * k + 3 ≤ 1099511627774) :
    Fn Tryz.prog 188 [.agg ⟨[.int .i64 z.lo.n, .int .i64 z.lo.d, .pointer z.lo.p, .int .i64 z.hi.n, .int .i64 z.hi.d, .pointer z.hi.p, .bool z.nl, .bool z.nh]⟩] G (fun u G' => ∃ x : RV, u = x.v ∧ IsR (2 * k + 3) G' x v.sample) := by
  have hk1 := h.lo.k1
  obtain ⟨hlo, hhi, h1, h2⟩ := h
  obtain ⟨zlo, zhi, znl, znh⟩ := z
  obtain ⟨lo, hi, nl, nh⟩ := v
  simp only [] at hlo hhi h1 h2
  subst h1 h2
  refine Fn.intro Tryz.func188 rfl rfl Tryz.ntmps188 rfl ?_
  intro C _ _
  cases znl
  case true =>
    cases znh
    case true =>
      refine st_seq <| st_region <| ?_
      refine sc (ch_box rfl rfl ?_)
      intro b1
      refine sc (ch_alloc rfl ?_)
      intro b2
      refine st_end <| st_seq <| st_block <| st_seq <| st_region <| sf rfl rfl <| slo1 rfl rfl rfl <| sm rfl rfl <| syg rfl rfl (yd_fieldAddr rfl) rfl <| syg rfl rfl (yd_load_own1 rfl rfl) rfl <| sy (yd_pickT rfl rfl) rfl <| ?_
      refine sa rfl rfl <| st_end <| st_condT rfl <| st_seq <| st_region <| sy (yd_build rfl) rfl <| ?_
      refine sc (ch_storeN rfl rfl (by first | (dsimp only [ovw, cellsL, List.set_cons_zero, List.set_cons_succ, Nat.reduceAdd, RV.v, LV.v, PV.v, IvV.v]; done) | exact rfl) (by repeat (first | exact .hd .. | apply OUpd.tl)) rfl (Nat.le_of_ble_eq_true rfl) rfl rfl ?_)
      refine st_end <| st_ret <| ?_
      exact st_done (.agg rfl inferInstance inferInstance rfl .nil) ⟨⟨0, 0, none⟩, rfl, IsR.zero (by omega)⟩
    refine st_seq <| st_region <| ?_
    refine sc (ch_box rfl rfl ?_)
    intro b1
    refine sc (ch_alloc rfl ?_)
    intro b2
    refine st_end <| st_seq <| st_block <| st_seq <| st_region <| sf rfl rfl <| slo1 rfl rfl rfl <| sm rfl rfl <| syg rfl rfl (yd_fieldAddr rfl) rfl <| syg rfl rfl (yd_load_own1 rfl rfl) rfl <| sy (yd_pickT rfl rfl) rfl <| ?_
    refine sa rfl rfl <| st_end <| st_condF rfl <| st_seq <| st_region <| sf rfl rfl <| slo1 rfl rfl rfl <| sa rfl rfl <| st_end <| st_condT rfl <| st_seq <| dr (fun i => Nat.beq i 4) [(0, true), (1, true), (2, false), (3, false), (4, false)] follows (by kernel_rfl) <| ?_
    refine dy rfl (fun _ => yd_fieldAddr rfl) rfl rfl <| dy rfl (fun _ => yd_load_own rfl rfl) rfl rfl <| ?_
    refine dc rfl rfl (ch_call rfl rfl (frac_Int (k := k) (n := 1) (by decide) (by decide) (by show 1 < 2 ^ k; exact Nat.one_lt_two_pow (by omega)) hk1 (by omega)) rfl ?_)
    rintro _ G3 _ ⟨z, rfl, hz⟩
    refine dr_s <| ?_
    refine dc rfl rfl (ch_call rfl rfl (R_Sub hhi hz (by omega)) rfl ?_)
    rintro _ G4 _ ⟨x5, rfl, h6⟩
    refine dr_s <| ?_
    refine dc rfl rfl (ch_storeN rfl rfl (by first | (dsimp only [ovw, cellsL, List.set_cons_zero, List.set_cons_succ, Nat.reduceAdd, RV.v, LV.v, PV.v, IvV.v]; done) | exact rfl) (by repeat (first | exact .hd .. | apply OUpd.tl)) rfl (Nat.le_of_ble_eq_true rfl) rfl rfl ?_)
    refine dr_f rfl <| dn <| st_ret <| ?_
    exact st_done (.agg rfl inferInstance inferInstance rfl .nil) ⟨_, rfl, IsR.mono' (by assumption) (by omega)⟩
  cases znh
  case true =>
    refine st_seq <| st_region <| ?_
    refine sc (ch_box rfl rfl ?_)
    intro b1
    refine sc (ch_alloc rfl ?_)
    intro b2
    refine st_end <| st_seq <| st_block <| st_seq <| st_region <| sf rfl rfl <| slo1 rfl rfl rfl <| sm rfl rfl <| ss rfl rfl rfl rfl <| ss rfl rfl rfl rfl <| sy (yd_pickF rfl rfl) rfl <| sa rfl rfl <| ?_
    refine st_end <| st_condF rfl <| st_seq <| st_region <| sf rfl rfl <| slo1 rfl rfl rfl <| sa rfl rfl <| st_end <| st_condF rfl <| st_seq <| st_region <| sf rfl rfl <| slo1 rfl rfl rfl <| sa rfl rfl <| ?_
    refine st_end <| st_condT rfl <| st_seq <| dr (fun i => Nat.beq i 4) [(0, true), (1, true), (2, false), (3, false), (4, false)] follows (by kernel_rfl) <| dy rfl (fun _ => yd_fieldAddr rfl) rfl rfl <| ?_
    refine dy rfl (fun _ => yd_load_own rfl rfl) rfl rfl <| ?_
    refine dc rfl rfl (ch_call rfl rfl (frac_Int (k := k) (n := 1) (by decide) (by decide) (by show 1 < 2 ^ k; exact Nat.one_lt_two_pow (by omega)) hk1 (by omega)) rfl ?_)
    rintro _ G3 _ ⟨z, rfl, hz⟩
    refine dr_s <| ?_
    refine dc rfl rfl (ch_call rfl rfl (R_Add hlo hz (by omega)) rfl ?_)
    rintro _ G4 _ ⟨x5, rfl, h6⟩
    refine dr_s <| ?_
    refine dc rfl rfl (ch_storeN rfl rfl (by first | (dsimp only [ovw, cellsL, List.set_cons_zero, List.set_cons_succ, Nat.reduceAdd, RV.v, LV.v, PV.v, IvV.v]; done) | exact rfl) (by repeat (first | exact .hd .. | apply OUpd.tl)) rfl (Nat.le_of_ble_eq_true rfl) rfl rfl ?_)
    refine dr_f rfl <| dn <| st_ret <| ?_
    exact st_done (.agg rfl inferInstance inferInstance rfl .nil) ⟨_, rfl, IsR.mono' (by assumption) (by omega)⟩
  refine st_seq <| st_region <| ?_
  refine sc (ch_box rfl rfl ?_)
  intro b1
  refine sc (ch_alloc rfl ?_)
  intro b2
  refine st_end <| st_seq <| st_block <| st_seq <| st_region <| sf rfl rfl <| slo1 rfl rfl rfl <| sm rfl rfl <| ss rfl rfl rfl rfl <| ss rfl rfl rfl rfl <| sy (yd_pickF rfl rfl) rfl <| sa rfl rfl <| ?_
  refine st_end <| st_condF rfl <| st_seq <| st_region <| sf rfl rfl <| slo1 rfl rfl rfl <| sa rfl rfl <| st_end <| st_condF rfl <| st_seq <| st_region <| sf rfl rfl <| slo1 rfl rfl rfl <| sa rfl rfl <| ?_
  refine st_end <| st_condF rfl <| st_skipc <| st_seq <| st_region <| sf rfl rfl <| slo rfl rfl rfl <| sf rfl rfl <| slo rfl rfl rfl <| ?_
  refine sc (ch_call rfl rfl (R_Add hlo hhi (by omega)) rfl ?_)
  rintro _ G3 _ ⟨x4, rfl, h5⟩
  refine sc (ch_call rfl rfl (R_Half ‹_› (by omega)) rfl ?_)
  rintro _ G6 _ ⟨x7, rfl, h8⟩
  refine sc (ch_storeN rfl rfl (by first | (dsimp only [ovw, cellsL, List.set_cons_zero, List.set_cons_succ, Nat.reduceAdd, RV.v, LV.v, PV.v, IvV.v]; done) | exact rfl) (by repeat (first | exact .hd .. | apply OUpd.tl)) rfl (Nat.le_of_ble_eq_true rfl) rfl rfl ?_)
  refine st_end <| st_ret <| ?_
  exact st_done (.agg rfl inferInstance inferInstance rfl .nil) ⟨_, rfl, IsR.mono' (by assumption) (by omega)⟩
theorem sign_cases (n : Int) : Int.sign n = 0 ∨ Int.sign n = 1 ∨ Int.sign n = -1 := by
  rcases Int.lt_trichotomy n 0 with h | h | h
  · exact .inr (.inr (Int.sign_eq_neg_one_of_neg h))
  · subst h; exact .inl rfl
  · exact .inr (.inl (Int.sign_eq_one_of_pos h))
set_option maxHeartbeats 2000000 in
theorem Ln_Cut {A B D G : Gh} {z1 z3 : LV} {z2 : IvV} {l m : LnQ} {v : IvQ} {k : Nat} (hl : IsL k A z1 l) (hv : IsIv (25 * k + 6) B z2 v) (hm : IsL k D z3 m) [GL A G] [GL B G] [GL D G] (hk : k ≤ 1073741824) :
    Fn Tryz.prog 151 [.agg ⟨[.int .i64 z1.a.n, .int .i64 z1.a.d, .pointer z1.a.p, .int .i64 z1.b.n, .int .i64 z1.b.d, .pointer z1.b.p, .int .i64 z1.c.n, .int .i64 z1.c.d, .pointer z1.c.p]⟩, .agg ⟨[.int .i64 z2.lo.n, .int .i64 z2.lo.d, .pointer z2.lo.p, .int .i64 z2.hi.n, .int .i64 z2.hi.d, .pointer z2.hi.p, .bool z2.nl, .bool z2.nh]⟩, .agg ⟨[.int .i64 z3.a.n, .int .i64 z3.a.d, .pointer z3.a.p, .int .i64 z3.b.n, .int .i64 z3.b.d, .pointer z3.b.p, .int .i64 z3.c.n, .int .i64 z3.c.d, .pointer z3.c.p]⟩] G (fun u G' => ∃ x : IvV, u = .tuple #[x.v, .bool (l.cutB v m)] ∧ IsIv (25 * k + 6) G' x (l.cutV v m)) := by
  refine Fn.intro Tryz.func151 rfl rfl Tryz.ntmps151 rfl ?_
  intro C _ _
  refine st_seq <| st_region <| ?_
  refine sc (ch_box rfl rfl ?_)
  intro b1
  refine sc (ch_box rfl rfl ?_)
  intro b2
  refine sc (ch_box rfl rfl ?_)
  intro b3
  refine sc (ch_alloc rfl ?_)
  intro b4
  refine sa rfl rfl <| st_end <| st_seq <| ?_
  refine drG [⟨9, 8, 103, .agg ⟨[.int .i64 0, .int .i64 0, .pointer none]⟩⟩, ⟨10, 9, 103, .agg ⟨[.int .i64 0, .int .i64 0, .pointer none]⟩⟩] (fun _ => false) [(0, true), (2, true), (5, true), (6, true), (1, false), (3, false), (4, false), (7, false), (8, false)] [(11, false), (12, false)] follows (by kernel_rfl) (fun fs => ?_)
  refine dyG rfl (fun _ => yd_load_own rfl rfl) rfl rfl (List.Sublist.refl _) <| dyG rfl (fun _ => yd_load_own rfl rfl) rfl rfl (List.Sublist.refl _) <| dyG rfl (fun _ => yd_load_own rfl rfl) rfl rfl (List.Sublist.refl _) <| ?_
  refine dyG rfl (fun _ => yd_load_own rfl rfl) rfl rfl (List.Sublist.refl _) <| ?_
  refine dcG' (by exact ⟨List.forall_mem_cons.2 ⟨⟨_, _, _, rfl, rfl⟩, List.forall_mem_cons.2 ⟨⟨_, _, _, rfl, rfl⟩, List.forall_mem_nil _⟩⟩, List.forall_mem_cons.2 ⟨inferInstance, List.forall_mem_cons.2 ⟨inferInstance, List.forall_mem_nil _⟩⟩, by decide, by decide⟩) rfl rfl rfl (List.Sublist.refl _) _ (fun fs => ?_)
  refine ch_call rfl rfl (Ln_Normal hm) rfl ?_
  rintro _ G5 _ ⟨x6, rfl, h7⟩
  refine dr_g (List.Sublist.refl _) ?_
  refine dcG' (by exact ⟨List.forall_mem_cons.2 ⟨⟨_, _, _, rfl, rfl⟩, List.forall_mem_cons.2 ⟨⟨_, _, _, rfl, rfl⟩, List.forall_mem_nil _⟩⟩, List.forall_mem_cons.2 ⟨inferInstance, List.forall_mem_cons.2 ⟨inferInstance, List.forall_mem_nil _⟩⟩, by decide, by decide⟩) rfl rfl rfl (List.Sublist.refl _) _ (fun fs => ?_)
  refine ch_call rfl rfl (Ln_Dir hl (by omega)) rfl ?_
  rintro _ G8 _ ⟨x9, rfl, h10⟩
  refine dr_g (List.Sublist.refl _) ?_
  refine dcG' (by exact ⟨List.forall_mem_cons.2 ⟨⟨_, _, _, rfl, rfl⟩, List.forall_mem_cons.2 ⟨⟨_, _, _, rfl, rfl⟩, List.forall_mem_nil _⟩⟩, List.forall_mem_cons.2 ⟨inferInstance, List.forall_mem_cons.2 ⟨inferInstance, List.forall_mem_nil _⟩⟩, by decide, by decide⟩) rfl rfl rfl (List.Sublist.refl _) _ (fun fs => ?_)
  refine ch_call rfl rfl (Pt_Dot h7 h10 (by omega)) rfl ?_
  rintro _ G11 _ ⟨x12, rfl, h13⟩
  refine dr_g (List.Sublist.refl _) ?_
  refine dcG' (by exact ⟨List.forall_mem_cons.2 ⟨⟨_, _, _, rfl, rfl⟩, List.forall_mem_cons.2 ⟨⟨_, _, _, rfl, rfl⟩, List.forall_mem_nil _⟩⟩, List.forall_mem_cons.2 ⟨inferInstance, List.forall_mem_cons.2 ⟨inferInstance, List.forall_mem_nil _⟩⟩, by decide, by decide⟩) rfl rfl rfl (List.Sublist.refl _) _ (fun fs => ?_)
  refine ch_call rfl rfl (Ln_Base hl (by omega)) rfl ?_
  rintro _ G14 _ ⟨x15, rfl, h16⟩
  refine dr_g (List.Sublist.refl _) ?_
  refine dcG' (by exact ⟨List.forall_mem_cons.2 ⟨⟨_, _, _, rfl, rfl⟩, List.forall_mem_cons.2 ⟨⟨_, _, _, rfl, rfl⟩, List.forall_mem_nil _⟩⟩, List.forall_mem_cons.2 ⟨inferInstance, List.forall_mem_cons.2 ⟨inferInstance, List.forall_mem_nil _⟩⟩, by decide, by decide⟩) rfl rfl rfl (List.Sublist.refl _) _ (fun fs => ?_)
  refine ch_call rfl rfl (Ln_Value hm h16 (by omega)) rfl ?_
  rintro _ G17 _ ⟨x18, rfl, h19⟩
  refine dr_g (List.Sublist.refl _) ?_
  refine dG_out2 (by exact ⟨List.forall_mem_cons.2 ⟨⟨_, _, _, rfl, rfl⟩, List.forall_mem_cons.2 ⟨⟨_, _, _, rfl, rfl⟩, List.forall_mem_nil _⟩⟩, List.forall_mem_cons.2 ⟨inferInstance, List.forall_mem_cons.2 ⟨inferInstance, List.forall_mem_nil _⟩⟩, by decide, by decide⟩) rfl (List.Sublist.refl _) _ (fun b20 b21 => ?_)
  refine dc rfl rfl (ch_storeN rfl rfl (by first | (dsimp only [ovw, cellsL, List.set_cons_zero, List.set_cons_succ, Nat.reduceAdd, RV.v, LV.v, PV.v, IvV.v]; done) | exact rfl) (by repeat (first | exact .hd .. | apply OUpd.tl)) rfl (Nat.le_of_ble_eq_true rfl) rfl rfl ?_)
  refine dr_s <| ?_
  refine dc rfl rfl (ch_storeN rfl rfl (by first | (dsimp only [ovw, cellsL, List.set_cons_zero, List.set_cons_succ, Nat.reduceAdd, RV.v, LV.v, PV.v, IvV.v]; done) | exact rfl) (by repeat (first | exact .hd .. | apply OUpd.tl)) rfl (Nat.le_of_ble_eq_true rfl) rfl rfl ?_)
  refine dr_s <| dn <| st_seq <| st_seq <| st_region <| slo rfl rfl rfl <| ?_
  refine sc (ch_call rfl rfl (R_Sign h13 (by omega)) rfl ?_)
  rintro _ G22 _ rfl
  refine st_end <| st_block <| st_seq <| st_region <| sy (yd_eql rfl rfl) rfl <| sa rfl rfl <| st_end <| ?_
  refine st_condP rfl (fun hc0 => ?_) (fun hc0 => ?_) -- slot 21
  · -- yes
    refine st_seq <| dr0 (b := b4) (fun _ => false) [(0, true), (1, true), (2, false), (3, true), (4, false), (5, true)] follows (by repeat (first | exact .hd .. | apply ORem.tl)) (by kernel_rfl) <| ?_
    refine dy rfl (fun _ => yd_load_own rfl rfl) rfl rfl <| dy rfl (fun _ => yd_load_own rfl rfl) rfl rfl <| ?_
    refine dc rfl rfl (ch_call rfl rfl (R_Sign h19 (by omega)) rfl ?_)
    rintro _ G23 _ rfl
    refine dr_s <| dy rfl (fun _ => yd_gtr rfl rfl) rfl rfl <| ?_
    refine dc rfl rfl (ch_storeN rfl rfl (by first | (dsimp only [ovw, cellsL, List.set_cons_zero, List.set_cons_succ, Nat.reduceAdd, RV.v, LV.v, PV.v, IvV.v]; done) | exact rfl) (by repeat (first | exact .hd .. | apply OUpd.tl)) rfl (Nat.le_of_ble_eq_true rfl) rfl rfl ?_)
    refine dr_s <| dy rfl (fun _ => yd_assign rfl) rfl rfl <| dn <| st_ret <| ?_
    have e1 : l.cutV v m = v := if_pos hc0
    have e2 : l.cutB v m = decide (0 < Int.sign (l.cutC m).num) := if_pos hc0
    rw [e2, e1]
    exact st_done (.agg rfl inferInstance inferInstance rfl (.tmp rfl .nil)) ⟨z2, rfl, hv.up⟩
  refine st_seq <| st_region <| sy (yd_eql rfl rfl) rfl <| sa rfl rfl <| st_end <| ?_
  refine st_condP rfl (fun hc1 => ?_) (fun hc1 => ?_) -- slot 27
  · -- yes
    refine st_seq <| dr0 (b := b4) (fun _ => false) [(0, true), (1, true), (2, true), (3, false), (4, false), (5, true), (6, false), (7, true), (8, true), (9, false), (10, true)] follows (by repeat (first | exact .hd .. | apply ORem.tl)) (by kernel_rfl) <| ?_
    refine dy rfl (fun _ => yd_load_own rfl rfl) rfl rfl <| dy rfl (fun _ => yd_load_own rfl rfl) rfl rfl <| dy rfl (fun _ => yd_load_own rfl rfl) rfl rfl <| ?_
    refine dc rfl rfl (ch_call rfl rfl (R_Quo h19 h13 (by omega)) rfl ?_)
    rintro _ G24 _ ⟨x25, rfl, h26⟩
    refine dr_s <| ?_
    refine dc rfl rfl (ch_call rfl rfl (R_Neg h26 (by omega)) rfl ?_)
    rintro _ G27 _ ⟨x28, rfl, h29⟩
    refine dr_s <| dy rfl (fun _ => yd_build rfl) rfl rfl <| ?_
    refine dc rfl rfl (ch_call rfl rfl (Iv_Meet (k2 := 25 * k + 6) (z2 := ⟨x28, ⟨0, 0, none⟩, false, true⟩) (w := ⟨-(l.cutC m / l.cutK m), 0, false, true⟩) hv ⟨h29.mono' (by omega), IsR.zero (by omega), rfl, rfl⟩ (by omega)) rfl ?_)
    rintro _ G30 _ ⟨y, rfl, hy⟩
    refine dr_s <| dy rfl (fun _ => yd_extract rfl rfl) rfl rfl <| dy rfl (fun _ => yd_extract rfl rfl) rfl rfl <| ?_
    refine dc rfl rfl (ch_storeN rfl rfl (by first | (dsimp only [ovw, cellsL, List.set_cons_zero, List.set_cons_succ, Nat.reduceAdd, RV.v, LV.v, PV.v, IvV.v]; done) | exact rfl) (by repeat (first | exact .hd .. | apply OUpd.tl)) rfl (Nat.le_of_ble_eq_true rfl) rfl rfl ?_)
    refine dr_s <| dy rfl (fun _ => yd_assign rfl) rfl rfl <| dn <| st_ret <| ?_
    have e1 : l.cutV v m = v.meet ⟨-(l.cutC m / l.cutK m), 0, false, true⟩ := (if_neg hc0).trans (if_pos hc1)
    have e2 : l.cutB v m = !(l.cutV v m).empty := if_neg hc0
    rw [e2, e1]
    exact st_done (.agg rfl inferInstance inferInstance rfl (.tmp rfl .nil)) ⟨y, rfl, hy.mono' (by omega)⟩
  refine st_skipc <| st_seq <| dr0 (b := b4) (fun _ => false) [(0, true), (1, true), (2, true), (3, false), (4, false), (5, true), (6, false), (7, true), (8, true), (9, false), (10, true)] follows (by repeat (first | exact .hd .. | apply ORem.tl)) (by kernel_rfl) <| ?_
  refine dy rfl (fun _ => yd_load_own rfl rfl) rfl rfl <| dy rfl (fun _ => yd_load_own rfl rfl) rfl rfl <| dy rfl (fun _ => yd_load_own rfl rfl) rfl rfl <| ?_
  refine dc rfl rfl (ch_call rfl rfl (R_Quo h19 h13 (by omega)) rfl ?_)
  rintro _ G31 _ ⟨x32, rfl, h33⟩
  refine dr_s <| ?_
  refine dc rfl rfl (ch_call rfl rfl (R_Neg h33 (by omega)) rfl ?_)
  rintro _ G34 _ ⟨x35, rfl, h36⟩
  refine dr_s <| dy rfl (fun _ => yd_build rfl) rfl rfl <| ?_
  refine dc rfl rfl (ch_call rfl rfl (Iv_Meet (k2 := 25 * k + 6) (z2 := ⟨⟨0, 0, none⟩, x35, true, false⟩) (w := ⟨0, -(l.cutC m / l.cutK m), true, false⟩) hv ⟨IsR.zero (by omega), h36.mono' (by omega), rfl, rfl⟩ (by omega)) rfl ?_)
  rintro _ G37 _ ⟨y, rfl, hy⟩
  refine dr_s <| dy rfl (fun _ => yd_extract rfl rfl) rfl rfl <| dy rfl (fun _ => yd_extract rfl rfl) rfl rfl <| ?_
  refine dc rfl rfl (ch_storeN rfl rfl (by first | (dsimp only [ovw, cellsL, List.set_cons_zero, List.set_cons_succ, Nat.reduceAdd, RV.v, LV.v, PV.v, IvV.v]; done) | exact rfl) (by repeat (first | exact .hd .. | apply OUpd.tl)) rfl (Nat.le_of_ble_eq_true rfl) rfl rfl ?_)
  refine dr_s <| dy rfl (fun _ => yd_assign rfl) rfl rfl <| dn <| st_ret <| ?_
  have e1 : l.cutV v m = v.meet ⟨0, -(l.cutC m / l.cutK m), true, false⟩ := (if_neg hc0).trans (if_neg hc1)
  have e2 : l.cutB v m = !(l.cutV v m).empty := if_neg hc0
  rw [e2, e1]
  exact st_done (.agg rfl inferInstance inferInstance rfl (.tmp rfl .nil)) ⟨y, rfl, hy.mono' (by omega)⟩
def orQ : List Int → Int
  | [] => 0
  | x :: t => if x ≠ 0 then x else orQ t
theorem cmp_Or {A G : Gh} {x : SV} {es : List Int} (h : IsSl A 1 x (es.map (Value.int .i64))) [GL A G] (hb : es.length ≤ 1125899906842624) :
    Fn Tryz.prog 205 [.slice x.a x.n x.c] G (fun v _ => v = .int .i64 (orQ es)) := by
  have hlen : x.n = es.length := by simpa using h.len
  obtain ⟨xa, xn, xc⟩ := x
  simp only [] at hlen
  subst hlen
  refine Fn.intro Tryz.func205 rfl rfl Tryz.ntmps205 rfl ?_
  intro C _ _
  refine st_seq <| st_region <| sa rfl rfl <| st_end <| st_seq <| st_region <| sa rfl rfl <| st_end <| st_seq <| st_seq <| st_region <| sm rfl rfl <| slen rfl rfl <| sm rfl rfl <| st_end <| st_block <| ?_
  refine st_loop (X := Nat) (fun k => [(8, .int .i64 k), (7, .int .i64 es.length), (6, .slice xa es.length xc), (3, .int .i64 0)]) (fun _ => []) (fun k _ => k ≤ es.length ∧ orQ (es.drop k) = orQ es) (fun k => es.length - k) 0 ⟨Nat.zero_le _, rfl⟩ (.cons rfl (.cons rfl (.cons rfl (.cons rfl .nil)))) rfl ?_
  rintro k Gx _ ⟨hk, ht⟩
  refine st_seq <| st_region <| sy (yd_lss rfl rfl) rfl <| st_end <| st_seq <| ?_
  refine st_condE rfl (fun hc => ?_) (fun hc => ?_) -- slot 9
  · refine st_exit <| st_te <| st_te <| st_inBlock_eq <| st_seq <| st_region <| sm rfl rfl <| sa rfl rfl <| st_end <| st_ret <| ?_
    refine st_done (.tmp rfl .nil) ?_
    rw [← ht, List.drop_eq_nil_of_le (by omega)]
    rfl
  have hk1 : k < es.length := by omega
  have hd : es.drop k = es[k] :: es.drop (k + 1) := List.drop_eq_getElem_cons hk1
  refine st_skipc <| st_seq <| st_block <| st_seq <| st_region <| sy (yd_ix (z := ⟨xa, es.length, xc⟩) h rfl rfl (by omega) (by show (k : Int) < (es.length : Int); omega)) rfl <| ?_
  rw [Int.toNat_natCast]
  refine sy (yd_ldS (i := k) (v := .int .i64 es[k]) h rfl (by simp [hk1]) rfl) rfl <| sa rfl rfl <| st_end <| st_seq <| st_region <| sm rfl rfl <| ?_
  refine sm rfl rfl <| sy (yd_neq rfl rfl) rfl <| st_end <| ?_
  refine st_condP rfl (fun hc1 => ?_) (fun hc1 => ?_) -- slot 14
  · refine st_seq <| st_region <| sm rfl rfl <| sa rfl rfl <| st_end <| st_ret <| ?_
    refine st_done (.tmp rfl .nil) ?_
    rw [← ht, hd, orQ, if_pos hc1]
    rfl
  refine st_skipc <| st_region <| sy (yd_add64 rfl rfl (by omega) (by omega)) rfl <| sm rfl rfl <| st_end <| ?_
  exact st_again (k + 1) ⟨hk1, by rw [← ht, hd, orQ, if_neg hc1]⟩ (by omega) (.cons rfl (.cons rfl (.cons rfl (.cons rfl .nil)))) rfl
def cmpQ (l m : LnQ) : Int := orQ [rcmp l.a m.a, rcmp l.b m.b, rcmp l.c m.c]
theorem cmpQ_eq (l m : LnQ) : cmpQ l m = 0 ↔ l = m := by
  have h1 := rcmp_eq (l.a : Rat) m.a
  have h2 := rcmp_eq (l.b : Rat) m.b
  have h3 := rcmp_eq (l.c : Rat) m.c
  rw [Rat.intCast_inj] at h1 h2 h3
  obtain ⟨a, b, c⟩ := l
  obtain ⟨a', b', c'⟩ := m
  simp only [cmpQ, orQ, LnQ.mk.injEq] at *
  rw [← h1, ← h2, ← h3]
  split
  · rename_i h; simp [h]
  · rename_i h
    split
    · rename_i h2; simp [h2]
    · rename_i h2
      simp only [ne_eq, Decidable.not_not] at h h2
      simp only [h, h2, true_and]
      split <;> simp_all
theorem Ln_Cmp {A B G : Gh} {z1 z2 : LV} {l m : LnQ} {k1 k2 : Nat} (hl : IsL k1 A z1 l) (hm : IsL k2 B z2 m) [GL A G] [GL B G] (hk : k1 + k2 + 1 ≤ 1099511627776)  :
    Fn Tryz.prog 169 [.agg ⟨[.int .i64 z1.a.n, .int .i64 z1.a.d, .pointer z1.a.p, .int .i64 z1.b.n, .int .i64 z1.b.d, .pointer z1.b.p, .int .i64 z1.c.n, .int .i64 z1.c.d, .pointer z1.c.p]⟩, .agg ⟨[.int .i64 z2.a.n, .int .i64 z2.a.d, .pointer z2.a.p, .int .i64 z2.b.n, .int .i64 z2.b.d, .pointer z2.b.p, .int .i64 z2.c.n, .int .i64 z2.c.d, .pointer z2.c.p]⟩] G (fun v _ => v = .int .i64 (cmpQ l m)) := by
  refine Fn.intro Tryz.func169 rfl rfl Tryz.ntmps169 rfl ?_
  intro C _ _
  refine st_seq <| st_region <| ?_
  refine sc (ch_box rfl rfl ?_)
  intro b1
  refine sc (ch_box rfl rfl ?_)
  intro b2
  refine sa rfl rfl <| st_end <| st_seq <| dr (fun _ => false) [(0, true), (1, true), (2, true), (3, true), (5, true), (6, true), (7, true), (8, true), (10, true), (11, true), (12, true), (13, true), (4, false), (9, false), (14, false), (15, false), (16, false), (17, true)] follows (by kernel_rfl) <| ?_
  refine dy rfl (fun _ => yd_fieldAddr rfl) rfl rfl <| dy rfl (fun _ => yd_load_own rfl rfl) rfl rfl <| dy rfl (fun _ => yd_fieldAddr rfl) rfl rfl <| dy rfl (fun _ => yd_load_own rfl rfl) rfl rfl <| ?_
  refine dy rfl (fun _ => yd_fieldAddr rfl) rfl rfl <| dy rfl (fun _ => yd_load_own rfl rfl) rfl rfl <| dy rfl (fun _ => yd_fieldAddr rfl) rfl rfl <| dy rfl (fun _ => yd_load_own rfl rfl) rfl rfl <| ?_
  refine dy rfl (fun _ => yd_fieldAddr rfl) rfl rfl <| dy rfl (fun _ => yd_load_own rfl rfl) rfl rfl <| dy rfl (fun _ => yd_fieldAddr rfl) rfl rfl <| dy rfl (fun _ => yd_load_own rfl rfl) rfl rfl <| ?_
  refine dc rfl rfl (ch_call rfl rfl (R_Cmp hl.a hm.a (by omega)) rfl ?_)
  rintro _ G3 _ rfl
  refine dr_s <| ?_
  refine dc rfl rfl (ch_call rfl rfl (R_Cmp hl.b hm.b (by omega)) rfl ?_)
  rintro _ G4 _ rfl
  refine dr_s <| ?_
  refine dc rfl rfl (ch_call rfl rfl (R_Cmp hl.c hm.c (by omega)) rfl ?_)
  rintro _ G5 _ rfl
  refine dr_s <| ?_
  refine dc rfl rfl (ch_slice (by rfl) (by rfl) (by rfl) (by rfl) rfl ?_)
  intro b6
  refine dr_s <| ?_
  refine st_freeze b6 (.hd ..) ?_
  intro G8 _ hfz
  have hsl : IsSl G8 1 ⟨some ⟨b6, 0, none⟩, 3, 3⟩ ([rcmp l.a m.a, rcmp l.b m.b, rcmp l.c m.c].map (Value.int .i64)) := ⟨rfl, Nat.le_refl _, .inr ⟨b6, 0, _, rfl, hfz.h, fun i hi => by
    match i, hi with
    | 0, _ => rfl
    | 1, _ => rfl
    | 2, _ => rfl⟩⟩
  refine dc rfl rfl (ch_call rfl rfl (cmp_Or (es := [rcmp l.a m.a, rcmp l.b m.b, rcmp l.c m.c]) hsl (Nat.le_of_ble_eq_true rfl)) rfl ?_)
  rintro _ G7 _ rfl
  refine dr_s <| dy rfl (fun _ => yd_assign rfl) rfl rfl <| dn <| st_ret <| ?_
  exact st_done (.tmp rfl .nil) rfl
theorem Ln_Equal {A B G : Gh} {z1 z2 : LV} {l m : LnQ} {k1 k2 : Nat} (hl : IsL k1 A z1 l) (hm : IsL k2 B z2 m) [GL A G] [GL B G] (hk : k1 + k2 + 1 ≤ 1099511627776)  :
    Fn Tryz.prog 132 [.agg ⟨[.int .i64 z1.a.n, .int .i64 z1.a.d, .pointer z1.a.p, .int .i64 z1.b.n, .int .i64 z1.b.d, .pointer z1.b.p, .int .i64 z1.c.n, .int .i64 z1.c.d, .pointer z1.c.p]⟩, .agg ⟨[.int .i64 z2.a.n, .int .i64 z2.a.d, .pointer z2.a.p, .int .i64 z2.b.n, .int .i64 z2.b.d, .pointer z2.b.p, .int .i64 z2.c.n, .int .i64 z2.c.d, .pointer z2.c.p]⟩] G (fun v _ => v = .bool (decide (l = m))) := by
  refine Fn.intro Tryz.func132 rfl rfl Tryz.ntmps132 rfl ?_
  intro C _ _
  refine st_seq <| st_region <| ?_
  refine sc (ch_box rfl rfl ?_)
  intro b1
  refine sc (ch_box rfl rfl ?_)
  intro b2
  refine sa rfl rfl <| st_end <| st_seq <| st_region <| slo rfl rfl rfl <| slo rfl rfl rfl <| ?_
  refine sc (ch_call rfl rfl (Ln_Cmp hl hm hk) rfl ?_)
  rintro _ G3 _ rfl
  refine sy (yd_eql rfl rfl) rfl <| sa rfl rfl <| st_end <| st_ret <| ?_
  exact st_done (.tmp rfl .nil) (by show Value.bool (decide (cmpQ l m = 0)) = _; rw [decide_eq_decide.2 (cmpQ_eq l m)])
theorem Pt_half {A G : Gh} {z : PV} {p : PtQ} {k : Nat} (h : IsP k A z p) [GL A G] (hk : k ≤ 1099511627776) :
    Fn Tryz.prog 195 [.agg ⟨[.int .i64 z.x.n, .int .i64 z.x.d, .pointer z.x.p, .int .i64 z.y.n, .int .i64 z.y.d, .pointer z.y.p]⟩] G (fun v _ => v = .int .i64 p.half) := by
  obtain ⟨hx, hy⟩ := h
  refine Fn.intro Tryz.func195 rfl rfl Tryz.ntmps195 rfl ?_
  intro C _ _
  refine st_seq <| st_region <| ?_
  refine sc (ch_box rfl rfl ?_)
  intro b1
  refine sa rfl rfl <| st_end <| st_seq <| st_seq <| st_region <| sf rfl rfl <| slo rfl rfl rfl <| ?_
  refine sc (ch_call rfl rfl (R_Sign hy (by omega)) rfl ?_)
  rintro _ G2 _ rfl
  refine sa rfl rfl <| st_end <| st_block <| st_seq <| st_region <| sm rfl rfl <| sy (yd_gtr rfl rfl) rfl <| sm rfl rfl <| ?_
  refine st_caseP 10 rfl (fun hg => ?_) (fun hg => ?_)
  · -- slot 10 yes
    refine ss rfl rfl rfl rfl <| ss rfl rfl rfl rfl <| ss rfl rfl rfl rfl <| ssu rfl rfl rfl <| ssu rfl rfl rfl <| ssu rfl rfl rfl <| ssu rfl rfl rfl <| ss rfl rfl rfl rfl <| sy (yd_pickT rfl rfl) rfl <| ?_
    refine sa rfl rfl <| st_end <| st_condT rfl <| st_seq <| st_region <| sa rfl rfl <| st_end <| st_ret <| ?_
    exact st_done (.tmp rfl .nil) (by show Value.int .i64 _ = .int .i64 (PtQ.half p); congr 1; unfold PtQ.half; split <;> (try split) <;> first | rfl | omega)
  refine syg rfl rfl (yd_move rfl) rfl <| syg rfl rfl (yd_eql rfl rfl) rfl <| syg rfl rfl (yd_move rfl) rfl <| ?_
  refine st_caseP 13 rfl (fun hg => ?_) (fun hg => ?_)
  · -- slot 13 yes
    refine syg rfl rfl (yd_fieldAddr rfl) rfl <| syg rfl rfl (yd_load_own rfl rfl) rfl <| ?_
    refine st_chg rfl rfl rfl (ch_call rfl rfl (R_Sign hx (by omega)) rfl ?_)
    rintro _ G3 _ rfl
    refine syg rfl rfl (yd_gtr rfl rfl) rfl <| syg rfl rfl (yd_pickT rfl rfl) rfl <| sy (yd_pickF rfl rfl) rfl <| sa rfl rfl <| st_end <| ?_
    refine st_condP rfl (fun hc => ?_) (fun hc => ?_) -- slot 7
    · -- yes
      refine st_seq <| st_region <| sa rfl rfl <| st_end <| st_ret <| ?_
      exact st_done (.tmp rfl .nil) (by show Value.int .i64 _ = .int .i64 (PtQ.half p); congr 1; unfold PtQ.half; split <;> (try split) <;> first | rfl | omega)
    refine st_seq <| st_region <| sm rfl rfl <| sy (yd_lss rfl rfl) rfl <| sm rfl rfl <| ?_
    refine st_caseP 23 rfl (fun hg => ?_) (fun hg => ?_)
    · -- slot 23 yes
      refine ss rfl rfl rfl rfl <| ss rfl rfl rfl rfl <| ss rfl rfl rfl rfl <| ss rfl rfl rfl rfl <| sy (yd_pickT rfl rfl) rfl <| sa rfl rfl <| st_end <| st_condT rfl <| st_seq <| st_region <| sa rfl rfl <| ?_
      refine st_end <| st_ret <| ?_
      exact st_done (.tmp rfl .nil) (by show Value.int .i64 _ = .int .i64 (PtQ.half p); congr 1; unfold PtQ.half; split <;> (try split) <;> first | rfl | omega)
    refine syg rfl rfl (yd_fieldAddr rfl) rfl <| syg rfl rfl (yd_load_own rfl rfl) rfl <| ?_
    refine st_chg rfl rfl rfl (ch_call rfl rfl (R_Sign hx (by omega)) rfl ?_)
    rintro _ G4 _ rfl
    refine syg rfl rfl (yd_lss rfl rfl) rfl <| sy (yd_pickF rfl rfl) rfl <| sa rfl rfl <| st_end <| ?_
    refine st_condP rfl (fun hc => ?_) (fun hc => ?_) -- slot 20
    · -- yes
      refine st_seq <| st_region <| sa rfl rfl <| st_end <| st_ret <| ?_
      exact st_done (.tmp rfl .nil) (by show Value.int .i64 _ = .int .i64 (PtQ.half p); congr 1; unfold PtQ.half; split <;> (try split) <;> first | rfl | omega)
    refine st_skipc <| st_seq <| st_region <| sa rfl rfl <| st_end <| st_ret <| ?_
    exact st_done (.tmp rfl .nil) (by show Value.int .i64 _ = .int .i64 (PtQ.half p); congr 1; unfold PtQ.half; split <;> (try split) <;> first | rfl | omega)
  refine ss rfl rfl rfl rfl <| ss rfl rfl rfl rfl <| ss rfl rfl rfl rfl <| ss rfl rfl rfl rfl <| syg rfl rfl (yd_pickF rfl rfl) rfl <| sy (yd_pickF rfl rfl) rfl <| sa rfl rfl <| st_end <| st_condF rfl <| ?_
  refine st_seq <| st_region <| sm rfl rfl <| sy (yd_lss rfl rfl) rfl <| sm rfl rfl <| ?_
  refine st_caseP 23 rfl (fun hg => ?_) (fun hg => ?_)
  · -- slot 23 yes
    refine ss rfl rfl rfl rfl <| ss rfl rfl rfl rfl <| ss rfl rfl rfl rfl <| ss rfl rfl rfl rfl <| sy (yd_pickT rfl rfl) rfl <| sa rfl rfl <| st_end <| st_condT rfl <| st_seq <| st_region <| sa rfl rfl <| ?_
    refine st_end <| st_ret <| ?_
    exact st_done (.tmp rfl .nil) (by show Value.int .i64 _ = .int .i64 (PtQ.half p); congr 1; unfold PtQ.half; split <;> (try split) <;> first | rfl | omega)
  refine syg rfl rfl (yd_fieldAddr rfl) rfl <| syg rfl rfl (yd_load_own rfl rfl) rfl <| ?_
  refine st_chg rfl rfl rfl (ch_call rfl rfl (R_Sign hx (by omega)) rfl ?_)
  rintro _ G5 _ rfl
  refine syg rfl rfl (yd_lss rfl rfl) rfl <| sy (yd_pickF rfl rfl) rfl <| sa rfl rfl <| st_end <| ?_
  refine st_condP rfl (fun hc => ?_) (fun hc => ?_) -- slot 20
  · -- yes
    refine st_seq <| st_region <| sa rfl rfl <| st_end <| st_ret <| ?_
    exact st_done (.tmp rfl .nil) (by show Value.int .i64 _ = .int .i64 (PtQ.half p); congr 1; unfold PtQ.half; split <;> (try split) <;> first | rfl | omega)
  refine st_skipc <| st_seq <| st_region <| sa rfl rfl <| st_end <| st_ret <| ?_
  exact st_done (.tmp rfl .nil) (by show Value.int .i64 _ = .int .i64 (PtQ.half p); congr 1; unfold PtQ.half; split <;> (try split) <;> first | rfl | omega)
theorem geo_Angle {A B G : Gh} {z1 z2 : PV} {p q : PtQ} {k1 k2 : Nat} (hp : IsP k1 A z1 p) (hq : IsP k2 B z2 q) [GL A G] [GL B G] (hk : k1 + k2 ≤ 137438953472) :
    Fn Tryz.prog 154 [.agg ⟨[.int .i64 z1.x.n, .int .i64 z1.x.d, .pointer z1.x.p, .int .i64 z1.y.n, .int .i64 z1.y.d, .pointer z1.y.p]⟩, .agg ⟨[.int .i64 z2.x.n, .int .i64 z2.x.d, .pointer z2.x.p, .int .i64 z2.y.n, .int .i64 z2.y.d, .pointer z2.y.p]⟩] G (fun v _ => v = .int .i64 (angleQ p q)) := by
  refine Fn.intro Tryz.func154 rfl rfl Tryz.ntmps154 rfl ?_
  intro C _ _
  refine st_seq <| st_region <| ?_
  refine sc (ch_box rfl rfl ?_)
  intro b1
  refine sc (ch_box rfl rfl ?_)
  intro b2
  refine sa rfl rfl <| st_end <| st_seq <| st_seq <| dr (fun _ => false) [(0, true), (2, true), (1, false), (3, false), (4, true), (5, true)] follows (by kernel_rfl) <| dy rfl (fun _ => yd_load_own rfl rfl) rfl rfl <| ?_
  refine dy rfl (fun _ => yd_load_own rfl rfl) rfl rfl <| ?_
  refine dc rfl rfl (ch_call rfl rfl (Pt_half hp (by omega)) rfl ?_)
  rintro _ G3 _ rfl
  refine dr_s <| ?_
  refine dc rfl rfl (ch_call rfl rfl (Pt_half hq (by omega)) rfl ?_)
  rintro _ G4 _ rfl
  refine dr_s <| dy rfl (fun _ => yd_assign rfl) rfl rfl <| dy rfl (fun _ => yd_assign rfl) rfl rfl <| dn <| st_block <| st_seq <| st_region <| sm rfl rfl <| sm rfl rfl <| sy (yd_lss rfl rfl) rfl <| ?_
  refine sa rfl rfl <| st_end <| ?_
  refine st_condP rfl (fun hc0 => ?_) (fun hc0 => ?_) -- slot 11
  · -- yes
    refine st_seq <| st_region <| sa rfl rfl <| st_end <| st_ret <| ?_
    exact st_done (.tmp rfl .nil) (by rw [angleQ, if_pos hc0]; rfl)
  refine st_seq <| st_region <| sm rfl rfl <| sm rfl rfl <| sy (yd_gtr rfl rfl) rfl <| sa rfl rfl <| st_end <| ?_
  refine st_condP rfl (fun hc1 => ?_) (fun hc1 => ?_) -- slot 15
  · -- yes
    refine st_seq <| st_region <| sa rfl rfl <| st_end <| st_ret <| ?_
    exact st_done (.tmp rfl .nil) (by rw [angleQ, if_neg hc0, if_pos hc1]; rfl)
  refine st_skipc <| st_seq <| st_region <| slo rfl rfl rfl <| slo rfl rfl rfl <| ?_
  refine sc (ch_call rfl rfl (Pt_Cross hp hq (by omega)) rfl ?_)
  rintro _ G5 _ ⟨x6, rfl, h7⟩
  refine sc (ch_call rfl rfl (R_Sign ‹_› (by omega)) rfl ?_)
  rintro _ G8 _ rfl
  refine sy (yd_neg rfl) rfl <| sa rfl rfl <| st_end <| st_ret <| ?_
  exact st_done (.tmp rfl .nil) (by rw [angleQ, if_neg hc0, if_neg hc1]; rcases sign_cases (p.cross q).num with h | h | h <;> (show Value.int .i64 (IntKind.i64.wrap (0 - (p.cross q).num.sign)) = _; rw [h]; rfl))
end Go.Sx
end
