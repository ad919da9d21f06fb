/-
  Package geo: values, bases, points on lines. What the packages geo, bsp and reduce compute, on fractions and trees, and what the reduced tree is like. Calls that take blocks over and hand blocks back, new ones among them. cap, copy, append with room, slices.overlaps; rows of values of several cells. Package geo: intervals.
-/
import Derived.Test.YtkijgpopaaknfaaGreatDoorMb6
import Derived.Laws.Externs
import Derived.Lib.Overlaps
section
set_option maxRecDepth 100000
namespace Go.Sx
open Go Go.Proofs

theorem IsP.mono' {k l : Nat} {G : Gh} {z : PV} {p : PtQ} (h : IsP k G z p) (hk : k ≤ l) : IsP l G z p := ⟨h.x.mono' hk, h.y.mono' hk⟩
def LnQ.value (l : LnQ) (p : PtQ) : Rat := l.nor.dot p + (l.c : Rat)
def LnQ.base (l : LnQ) : PtQ := l.nor.scale (-(l.c : Rat) / l.nor.dot l.nor)
def LnQ.at (l : LnQ) (t : Rat) : PtQ := l.base.add (l.dir.scale t)
theorem Ln_Value {A B G : Gh} {z1 : LV} {z2 : PV} {l : LnQ} {p : PtQ} {k1 k2 : Nat} (hl : IsL k1 A z1 l) (hp : IsP k2 B z2 p) [GL A G] [GL B G] (hk : k1 + k2 ≤ 137438953472) :
    Fn Tryz.prog 191 [.agg ⟨[.int .i64 z1.a.n, .int .i64 z1.a.d, .pointer z1.a.p, .int .i64 z1.b.n, .int .i64 z1.b.d, .pointer z1.b.p, .int .i64 z1.c.n, .int .i64 z1.c.d, .pointer z1.c.p]⟩, .agg ⟨[.int .i64 z2.x.n, .int .i64 z2.x.d, .pointer z2.x.p, .int .i64 z2.y.n, .int .i64 z2.y.d, .pointer z2.y.p]⟩] G (fun v G' => ∃ x : RV, v = x.v ∧ IsR (3 * (k1 + k2) + 2) G' x (l.value p)) := by
  have hc := hl.c
  refine Fn.intro Tryz.func191 rfl rfl Tryz.ntmps191 rfl ?_
  intro C _ _
  refine st_seq <| st_region <| ?_
  refine sc (ch_box rfl rfl ?_)
  intro b1
  refine sc (ch_box rfl rfl ?_)
  intro b2
  refine sc (ch_alloc rfl ?_)
  intro b3
  refine st_end <| st_seq <| dr (fun i => Nat.beq i 7) [(0, true), (2, true), (4, true), (5, true), (1, false), (3, false), (6, false), (7, false)] follows (by kernel_rfl) <| dy rfl (fun _ => yd_load_own rfl rfl) rfl rfl <| ?_
  refine dy rfl (fun _ => yd_load_own rfl rfl) rfl rfl <| dy rfl (fun _ => yd_fieldAddr rfl) rfl rfl <| dy rfl (fun _ => yd_load_own rfl rfl) rfl rfl <| ?_
  refine dc rfl rfl (ch_call rfl rfl (Ln_Normal ‹_›) rfl ?_)
  rintro _ G4 _ ⟨x5, rfl, h6⟩
  refine dr_s <| ?_
  refine dc rfl rfl (ch_call rfl rfl (Pt_Dot ‹_› ‹_› (by omega)) rfl ?_)
  rintro _ G7 _ ⟨x8, rfl, h9⟩
  refine dr_s <| ?_
  refine dc rfl rfl (ch_call rfl rfl (R_Add ‹_› ‹_› (by omega)) rfl ?_)
  rintro _ G10 _ ⟨x11, rfl, h12⟩
  refine dr_s <| ?_
  refine dc rfl rfl (ch_store rfl rfl (by repeat (first | exact .hd .. | apply OUpd.tl)) rfl (Nat.le_of_ble_eq_true rfl) rfl rfl ?_)
  refine dr_f rfl <| dn <| st_ret <| ?_
  exact st_done (.agg rfl inferInstance inferInstance rfl .nil) ⟨_, rfl, IsR.mono' (by assumption) (by omega)⟩
theorem Ln_Side {A B G : Gh} {z1 : LV} {z2 : PV} {l : LnQ} {p : PtQ} {k1 k2 : Nat} (hl : IsL k1 A z1 l) (hp : IsP k2 B z2 p) [GL A G] [GL B G] (hk : k1 + k2 ≤ 137438953472) :
    Fn Tryz.prog 186 [.agg ⟨[.int .i64 z1.a.n, .int .i64 z1.a.d, .pointer z1.a.p, .int .i64 z1.b.n, .int .i64 z1.b.d, .pointer z1.b.p, .int .i64 z1.c.n, .int .i64 z1.c.d, .pointer z1.c.p]⟩, .agg ⟨[.int .i64 z2.x.n, .int .i64 z2.x.d, .pointer z2.x.p, .int .i64 z2.y.n, .int .i64 z2.y.d, .pointer z2.y.p]⟩] G (fun v G' => v = .int .i64 (Int.sign (l.value p).num)) := by
  refine Fn.intro Tryz.func186 rfl rfl Tryz.ntmps186 rfl ?_
  intro C _ _
  refine st_seq <| st_region <| ?_
  refine sc (ch_box rfl rfl ?_)
  intro b1
  refine sc (ch_box rfl rfl ?_)
  intro b2
  refine sa rfl rfl <| st_end <| st_seq <| st_region <| slo rfl rfl rfl <| slo rfl rfl rfl <| ?_
  refine sc (ch_call rfl rfl (Ln_Value ‹_› ‹_› (by omega)) rfl ?_)
  rintro _ G3 _ ⟨x4, rfl, h5⟩
  refine sc (ch_call rfl rfl (R_Sign ‹_› (by omega)) rfl ?_)
  rintro _ G6 _ rfl
  refine sa rfl rfl <| st_end <| st_ret <| ?_
  exact st_done (.tmp rfl .nil) rfl
theorem Ln_Base {A G : Gh} {z : LV} {l : LnQ} {k : Nat} (hl : IsL k A z l) [GL A G] (hk : k ≤ 8589934592) :
    Fn Tryz.prog 192 [.agg ⟨[.int .i64 z.a.n, .int .i64 z.a.d, .pointer z.a.p, .int .i64 z.b.n, .int .i64 z.b.d, .pointer z.b.p, .int .i64 z.c.n, .int .i64 z.c.d, .pointer z.c.p]⟩] G (fun v G' => ∃ x : PV, v = x.v ∧ IsP (6 * k + 1) G' x l.base) := by
  have hc := hl.c
  refine Fn.intro Tryz.func192 rfl rfl Tryz.ntmps192 rfl ?_
  intro C _ _
  refine st_seq <| st_region <| ?_
  refine sc (ch_box rfl rfl ?_)
  intro b1
  refine sc (ch_alloc rfl ?_)
  intro b2
  refine st_end <| st_seq <| st_region <| slo rfl rfl rfl <| ?_
  refine sc (ch_call rfl rfl (Ln_Normal ‹_›) rfl ?_)
  rintro _ G3 _ ⟨x4, rfl, h5⟩
  refine sc (ch_alloc rfl ?_)
  intro b6
  refine sc (ch_store rfl rfl (by repeat (first | exact .hd .. | apply OUpd.tl)) rfl (Nat.le_of_ble_eq_true rfl) rfl rfl ?_)
  refine st_end <| st_seq <| dr (fun i => Nat.beq i 9) [(0, true), (1, true), (2, true), (4, true), (5, true), (3, false), (6, false), (7, false), (8, false), (9, false)] follows (by kernel_rfl) <| ?_
  refine dy rfl (fun _ => yd_load_own rfl rfl) rfl rfl <| dy rfl (fun _ => yd_fieldAddr rfl) rfl rfl <| dy rfl (fun _ => yd_load_own rfl rfl) rfl rfl <| dy rfl (fun _ => yd_load_own rfl rfl) rfl rfl <| ?_
  refine dy rfl (fun _ => yd_load_own rfl rfl) rfl rfl <| ?_
  refine dc rfl rfl (ch_call rfl rfl (R_Neg ‹_› (by omega)) rfl ?_)
  rintro _ G7 _ ⟨x8, rfl, h9⟩
  refine dr_s <| ?_
  refine dc rfl rfl (ch_call rfl rfl (Pt_Dot ‹_› ‹_› (by omega)) rfl ?_)
  rintro _ G10 _ ⟨x11, rfl, h12⟩
  refine dr_s <| ?_
  refine dc rfl rfl (ch_call rfl rfl (R_Quo ‹_› ‹_› (by omega)) rfl ?_)
  rintro _ G13 _ ⟨x14, rfl, h15⟩
  refine dr_s <| ?_
  refine dc rfl rfl (ch_call rfl rfl (Pt_Scale ‹_› ‹_› (by omega)) rfl ?_)
  rintro _ G16 _ ⟨x17, rfl, h18⟩
  refine dr_s <| ?_
  refine dc rfl rfl (ch_store rfl rfl (by repeat (first | exact .hd .. | apply OUpd.tl)) rfl (Nat.le_of_ble_eq_true rfl) rfl rfl ?_)
  refine dr_f rfl <| dn <| st_ret <| ?_
  exact st_done (.agg rfl inferInstance inferInstance rfl .nil) ⟨_, rfl, IsP.mono' (by assumption) (by omega)⟩
theorem Ln_At {A B G : Gh} {z1 : LV} {z2 : RV} {l : LnQ} {c : Rat} {k1 k2 : Nat} (hl : IsL k1 A z1 l) (hc : IsR k2 B z2 c) [GL A G] [GL B G] (hk : k1 + k2 ≤ 8589934592) :
    Fn Tryz.prog 187 [.agg ⟨[.int .i64 z1.a.n, .int .i64 z1.a.d, .pointer z1.a.p, .int .i64 z1.b.n, .int .i64 z1.b.d, .pointer z1.b.p, .int .i64 z1.c.n, .int .i64 z1.c.d, .pointer z1.c.p]⟩, .agg ⟨[.int .i64 z2.n, .int .i64 z2.d, .pointer z2.p]⟩] G (fun v G' => ∃ x : PV, v = x.v ∧ IsP (7 * k1 + k2 + 2) G' x (l.at c)) := by
  refine Fn.intro Tryz.func187 rfl rfl Tryz.ntmps187 rfl ?_
  intro C _ _
  refine st_seq <| st_region <| ?_
  refine sc (ch_box rfl rfl ?_)
  intro b1
  refine sc (ch_box rfl rfl ?_)
  intro b2
  refine sc (ch_alloc rfl ?_)
  intro b3
  refine st_end <| st_seq <| dr (fun i => Nat.beq i 7) [(0, true), (2, true), (4, true), (1, false), (3, false), (5, false), (6, false), (7, false)] follows (by kernel_rfl) <| dy rfl (fun _ => yd_load_own rfl rfl) rfl rfl <| ?_
  refine dy rfl (fun _ => yd_load_own rfl rfl) rfl rfl <| dy rfl (fun _ => yd_load_own rfl rfl) rfl rfl <| ?_
  refine dc rfl rfl (ch_call rfl rfl (Ln_Base ‹_› (by omega)) rfl ?_)
  rintro _ G4 _ ⟨x5, rfl, h6⟩
  refine dr_s <| ?_
  refine dc rfl rfl (ch_call rfl rfl (Ln_Dir ‹_› (by omega)) rfl ?_)
  rintro _ G7 _ ⟨x8, rfl, h9⟩
  refine dr_s <| ?_
  refine dc rfl rfl (ch_call rfl rfl (Pt_Scale ‹_› ‹_› (by omega)) rfl ?_)
  rintro _ G10 _ ⟨x11, rfl, h12⟩
  refine dr_s <| ?_
  refine dc rfl rfl (ch_call rfl rfl (Pt_Add ‹_› ‹_› (by omega)) rfl ?_)
  rintro _ G13 _ ⟨x14, rfl, h15⟩
  refine dr_s <| ?_
  refine dc rfl rfl (ch_store rfl rfl (by repeat (first | exact .hd .. | apply OUpd.tl)) rfl (Nat.le_of_ble_eq_true rfl) rfl rfl ?_)
  refine dr_f rfl <| dn <| st_ret <| ?_
  exact st_done (.agg rfl inferInstance inferInstance rfl .nil) ⟨_, rfl, IsP.mono' (by assumption) (by omega)⟩
end Go.Sx
end

section
set_option maxRecDepth 100000
namespace Go.Sx
open Go

instance : DecidableEq LnQ := fun x y => decidable_of_iff (x.a = y.a ∧ x.b = y.b ∧ x.c = y.c) (by
  cases x; cases y; simp)

structure IvQ where
  lo : Rat
  hi : Rat
  nl : Bool
  nh : Bool
def IvQ.all : IvQ := ⟨0, 0, true, true⟩
def IvQ.empty (v : IvQ) : Bool := !v.nl && (!v.nh && decide (0 ≤ rcmp v.lo v.hi))
def IvQ.meet (v w : IvQ) : IvQ :=
  ⟨if v.nl then w.lo else if w.nl then v.lo else if v.lo < w.lo then w.lo else v.lo,
   if v.nh then w.hi else if w.nh then v.hi else if w.hi < v.hi then w.hi else v.hi, v.nl && w.nl, v.nh && w.nh⟩
def IvQ.sample (v : IvQ) : Rat := if v.nl && v.nh then 0 else if v.nl then v.hi - 1 else if v.nh then v.lo + 1 else (v.lo + v.hi) * mkRat 1 2
/-- The part of v on the left side of m; none: no part of a length. -/
def LnQ.cutK (l m : LnQ) : Rat := m.nor.dot l.dir
def LnQ.cutC (l m : LnQ) : Rat := m.value l.base
def LnQ.cutV (l : LnQ) (v : IvQ) (m : LnQ) : IvQ :=
  if Int.sign (l.cutK m).num = 0 then v
  else if Int.sign (l.cutK m).num = 1 then v.meet ⟨-(l.cutC m / l.cutK m), 0, false, true⟩
  else v.meet ⟨0, -(l.cutC m / l.cutK m), true, false⟩
def LnQ.cutB (l : LnQ) (v : IvQ) (m : LnQ) : Bool :=
  if Int.sign (l.cutK m).num = 0 then decide (0 < Int.sign (l.cutC m).num) else !(l.cutV v m).empty

structure FrQ where
  l : LnQ
  v : IvQ
abbrev CellQ := List FrQ
/-- The part of l inside a cell. -/
def partV (l : LnQ) : CellQ → IvQ → Option IvQ
  | [], v => some v
  | s :: t, v => if l.cutB v s.l then partV l t (l.cutV v s.l) else none
def partQ (c : CellQ) (l : LnQ) : Option IvQ := partV l c IvQ.all
def sideAt (l : LnQ) (s : FrQ) : Int := Int.sign (l.value (s.l.at s.v.sample)).num
def placeV (l : LnQ) : CellQ → Int
  | [] => -1
  | s :: t => if sideAt l s ≠ 0 then sideAt l s else if s.l = l then 1 else placeV l t
def placeQ (c : CellQ) (l : LnQ) : Int := if (partQ c l).isSome then 0 else placeV l c
def PtQ.half (p : PtQ) : Int :=
  if 0 < Int.sign p.y.num ∨ (Int.sign p.y.num = 0 ∧ 0 < Int.sign p.x.num) then 1 else if Int.sign p.y.num < 0 ∨ Int.sign p.x.num < 0 then 2 else 0
def angleQ (u v : PtQ) : Int := if u.half < v.half then -1 else if v.half < u.half then 1 else -(Int.sign (u.cross v).num)
def cutsV (l : LnQ) : CellQ → CellQ
  | [] => []
  | s :: t => if s.l.cutB s.v l then ⟨s.l, s.l.cutV s.v l⟩ :: cutsV l t else cutsV l t
/-- Binary search: the first place from i to j where p is false, if p goes from true to false. -/
def bsq (p : Nat → Bool) (i j : Nat) : Nat :=
  if h : i < j then (if p ((i + j) / 2) then bsq p ((i + j) / 2 + 1) j else bsq p i ((i + j) / 2)) else i
termination_by j - i
def angAt (c : CellQ) (l : LnQ) (i : Nat) : Bool := match c[i]? with
  | some s => decide (angleQ s.l.dir l.dir < 0)
  | none => false
def insQ (c : CellQ) (l : LnQ) (v : IvQ) : CellQ :=
  c.take (bsq (angAt c l) 0 c.length) ++ ⟨l, v⟩ :: c.drop (bsq (angAt c l) 0 c.length)
/-- The part of a cell on the left side of l; none: empty. -/
def clipC (c : CellQ) (l : LnQ) : CellQ := match partQ c l with
  | some v => insQ (cutsV l c) l v
  | none => c
def clipB (c : CellQ) (l : LnQ) : Bool := match partQ c l with
  | some _ => true
  | none => decide (0 < placeQ c l)

theorem bsq_le (p : Nat → Bool) : ∀ (d i j : Nat), j - i ≤ d → i ≤ j → i ≤ bsq p i j ∧ bsq p i j ≤ j
  | 0, i, j, h, hij => by
    rw [bsq, dif_neg (by omega)]; omega
  | d + 1, i, j, h, hij => by
    rw [bsq]
    split
    · split
      · have := bsq_le p d ((i + j) / 2 + 1) j (by omega) (by omega); omega
      · have := bsq_le p d i ((i + j) / 2) (by omega) (by omega); omega
    · omega
theorem cutsV_len (l : LnQ) : ∀ c : CellQ, (cutsV l c).length ≤ c.length
  | [] => Nat.le_refl _
  | s :: t => by
    have := cutsV_len l t
    unfold cutsV
    split <;> simp <;> omega
theorem insQ_len (c : CellQ) (l : LnQ) (v : IvQ) : (insQ c l v).length = c.length + 1 := by
  have := (bsq_le (angAt c l) c.length 0 c.length (by omega) (by omega)).2
  simp [insQ]; omega
theorem clipC_len (c : CellQ) (l : LnQ) : (clipC c l).length ≤ c.length + 1 := by
  unfold clipC
  split
  · rw [insQ_len]; have := cutsV_len l c; omega
  · omega

/-! ### trees -/
inductive Tr where
  | leaf (b : Bool)
  | node (l : LnQ) (x y : Tr)
def Tr.isLeaf : Tr → Bool
  | .leaf _ => true
  | .node .. => false
def Tr.code : Tr → Bool
  | .leaf b => b
  | .node .. => false
def Tr.depth : Tr → Nat
  | .leaf _ => 0
  | .node _ x y => 1 + max x.depth y.depth
def Tr.size : Tr → Nat
  | .leaf _ => 0
  | .node _ x y => 1 + x.size + y.size
def Tr.joinQ (l : LnQ) (x y : Tr) : Tr := if x.isLeaf && (y.isLeaf && (x.code == y.code)) then x else .node l x y
def Tr.restrict : Tr → CellQ → Tr
  | .leaf b, _ => .leaf b
  | .node l x y, c => if !clipB c l.rev then x.restrict c else if !clipB c l then y.restrict c else joinQ l (x.restrict (clipC c l)) (y.restrict (clipC c l.rev))
def Tr.parts : Tr → CellQ → List (Bool × CellQ)
  | .leaf b, c => [(b, c)]
  | .node l x y, c => (if clipB c l then x.parts (clipC c l) else []) ++ (if clipB c l.rev then y.parts (clipC c l.rev) else [])
def Tr.all (p : LnQ → Prop) : Tr → Prop
  | .leaf _ => True
  | .node l x y => p l ∧ x.all p ∧ y.all p
/-- No node has two leaves with the same code. -/
def Tr.good : Tr → Prop
  | .leaf _ => True
  | .node _ x y => ¬ (x.isLeaf = true ∧ y.isLeaf = true ∧ x.code = y.code) ∧ x.good ∧ y.good
structure NQ where
  l : LnQ
  a : Int
  b : Int
def leafCode (b : Bool) : Int := if b then -2 else -1
/-- The nodes of a tree in order, the first one with the number n, and the number of the whole. -/
def Tr.num : Tr → Nat → Int
  | .leaf b, _ => leafCode b
  | .node .., n => n
def Tr.wr : Tr → Nat → List NQ
  | .leaf _, _ => []
  | .node l x y, n => ⟨l, x.num (n + 1), y.num (n + 1 + x.size)⟩ :: x.wr (n + 1) ++ y.wr (n + 1 + x.size)

theorem Tr.wr_len : ∀ (t : Tr) (n : Nat), (t.wr n).length = t.size
  | .leaf _, n => rfl
  | .node l x y, n => by
    have h1 := Tr.wr_len x (n + 1)
    have h2 := Tr.wr_len y (n + 1 + x.size)
    simp [Tr.wr, Tr.size, h1, h2]; omega
theorem Tr.size_lt : ∀ t : Tr, t.size < 2 ^ t.depth
  | .leaf _ => by simp [Tr.size, Tr.depth]
  | .node l x y => by
    have h1 := x.size_lt
    have h2 := y.size_lt
    have e1 : 2 ^ x.depth ≤ 2 ^ max x.depth y.depth := Nat.pow_le_pow_right (by omega) (Nat.le_max_left ..)
    have e2 : 2 ^ y.depth ≤ 2 ^ max x.depth y.depth := Nat.pow_le_pow_right (by omega) (Nat.le_max_right ..)
    simp only [Tr.size, Tr.depth, Nat.add_comm 1 (max _ _), Nat.pow_succ]
    omega
theorem Tr.joinQ_cases (l : LnQ) (x y : Tr) : (Tr.joinQ l x y = x ∧ x.isLeaf = true) ∨ (Tr.joinQ l x y = .node l x y ∧ ¬ (x.isLeaf = true ∧ y.isLeaf = true ∧ x.code = y.code)) := by
  unfold Tr.joinQ
  split
  · rename_i h
    simp at h
    exact .inl ⟨rfl, h.1⟩
  · rename_i h
    simp at h
    exact .inr ⟨rfl, fun ⟨a, b, c⟩ => h a b c⟩
theorem Tr.restrict_depth : ∀ (t : Tr) (c : CellQ), (t.restrict c).depth ≤ t.depth
  | .leaf b, c => Nat.le_refl _
  | .node l x y, c => by
    unfold Tr.restrict
    split
    · have := x.restrict_depth c; simp only [Tr.depth]; omega
    · split
      · have := y.restrict_depth c; simp only [Tr.depth]; omega
      · have h1 := x.restrict_depth (clipC c l)
        have h2 := y.restrict_depth (clipC c l.rev)
        rcases Tr.joinQ_cases l (x.restrict (clipC c l)) (y.restrict (clipC c l.rev)) with ⟨h, _⟩ | ⟨h, _⟩
        · rw [h]; simp only [Tr.depth]; omega
        · rw [h]; simp only [Tr.depth]; omega
theorem Tr.restrict_all (p : LnQ → Prop) : ∀ (t : Tr) (c : CellQ), t.all p → (t.restrict c).all p
  | .leaf b, c, _ => trivial
  | .node l x y, c, h => by
    obtain ⟨h0, h1, h2⟩ := h
    unfold Tr.restrict
    split
    · exact x.restrict_all p c h1
    · split
      · exact y.restrict_all p c h2
      · rcases Tr.joinQ_cases l (x.restrict (clipC c l)) (y.restrict (clipC c l.rev)) with ⟨h, _⟩ | ⟨h, _⟩
        · rw [h]; exact x.restrict_all p _ h1
        · rw [h]; exact ⟨h0, x.restrict_all p _ h1, y.restrict_all p _ h2⟩
end Go.Sx
end

section
namespace Go.Sx
open Go

def relo (fl : Nat → Bool) (o : Own) : Own := { o with lo := fl o.b }
/-- A call that takes over the blocks M and hands back the blocks that K tells of. -/
structure FnO (P : Program) (f : FuncId) (vs : List Value) (M : List Own) (G : Gh) (K : Value → List Own → Gh → Prop) : Prop where
  able : Callable P f
  run : ∀ w, HRel ⟨w, G, M.map (·.b)⟩ (asB M) G w →
    Calls P f ⟨vs⟩ w fun e w' => ∃ v own' G', e = .returned v ∧ HRel ⟨w, G, M.map (·.b)⟩ own' G' w' ∧ K v own' G'
theorem FnO.mono {P : Program} {f : FuncId} {vs : List Value} {M : List Own} {G : Gh} {K K' : Value → List Own → Gh → Prop} (h : FnO P f vs M G K) (hk : ∀ v own' G', GLe G G' → K v own' G' → K' v own' G') : FnO P f vs M G K' :=
  ⟨h.able, fun w hw => (h.run w hw).mono fun _ _ ⟨v, o, G', he, hh, hK⟩ => ⟨v, o, G', he, hh, hk v o G' hh.gle hK⟩⟩

def flM (M : List Own) (b : Nat) : Bool := M.all fun m => !Nat.beq m.b b || m.lo
theorem HRel.calledO {C : Ctx} {M rest own' : List Own} {G G' : Gh} {w w' : World} (h : HRel C (M ++ rest) G w) (k : HRel ⟨w, G, M.map (·.b)⟩ own' G' w') :
    HRel C (own'.map (relo (flM M)) ++ rest) G' w' := by
  have hsz : w.heap.size ≤ w'.heap.size := k.size
  have hnd := h.nd
  have inM : ∀ b, b ∈ M.map (·.b) → ∀ o ∈ rest, o.b ≠ b := fun b hb o ho e => by
    obtain ⟨m, hm, rfl⟩ := List.mem_map.1 hb
    exact (List.pairwise_append.1 hnd).2.2 m hm o ho e.symm
  have bnd : ∀ o ∈ own', o.b ∉ M.map (·.b) → w.heap.size ≤ o.b := fun o ho hb => by
    obtain ⟨_, _, h3, h4⟩ := k.hown o ho
    cases hlo : o.lo with
    | true => exact h3 hlo
    | false => exact absurd (h4 hlo) hb
  refine ⟨k.os.trans h.os, k.tape.trans h.tape, k.output.trans h.output, Nat.le_trans h.size hsz, ?_, k.sub, h.gle.trans k.gle, ?_, ?_, ?_⟩
  · intro b hb hm
    have hs := h.size
    have hnM : b ∉ M.map (·.b) := fun hb' => by
      obtain ⟨m, hmM, rfl⟩ := List.mem_map.1 hb'
      obtain ⟨_, _, h3, h4⟩ := h.hown m (List.mem_append_left _ hmM)
      cases hlo : m.lo with
      | true => have := h3 hlo; omega
      | false => exact hm (h4 hlo)
    rw [k.keep b (by show b < w.heap.size; omega) hnM]; exact h.keep b hb hm
  · intro b hb; have := h.size; rw [k.gold b (by show b < w.heap.size; omega)]; exact h.gold b hb
  · intro o ho
    have hs := h.size
    rcases List.mem_append.1 ho with ho | ho
    · obtain ⟨o', ho', rfl⟩ := List.mem_map.1 ho
      obtain ⟨k1, k2, k3, k4⟩ := k.hown _ ho'
      refine ⟨k1, k2, fun hl => ?_, fun hl => ?_⟩
      · show C.w0.heap.size ≤ o'.b
        by_cases hb : o'.b ∈ M.map (·.b)
        · obtain ⟨m, hm, hmb⟩ := List.mem_map.1 hb
          have hl' : flM M o'.b = true := hl
          have := List.all_eq_true.1 hl' m hm
          simp only [hmb, Bool.or_eq_true, Bool.not_eq_true', Nat.beq_refl] at this
          obtain ⟨_, _, h3, _⟩ := h.hown m (List.mem_append_left _ hm)
          rw [← hmb]
          exact h3 (by rcases this with h | h; · cases h
                       · exact h)
        · have := bnd o' ho' hb; omega
      · show o'.b ∈ C.mb
        have hl' : flM M o'.b = false := hl
        obtain ⟨m, hm, hmb⟩ := List.all_eq_false.1 hl'
        simp only [Bool.or_eq_true, Bool.not_eq_true', not_or] at hmb
        obtain ⟨h1, h2⟩ := hmb
        have e : m.b = o'.b := by
          cases hq : Nat.beq m.b o'.b with
          | true => exact Nat.eq_of_beq_eq_true hq
          | false => exact absurd hq h1
        obtain ⟨_, _, _, h4⟩ := h.hown m (List.mem_append_left _ hm)
        rw [← e]
        exact h4 (by cases hq : m.lo with
          | true => exact absurd hq h2
          | false => rfl)
    · obtain ⟨h1, h2, h3⟩ := h.hown o (List.mem_append_right _ ho)
      have hnM : o.b ∉ M.map (·.b) := fun hb => inM _ hb o ho rfl
      exact ⟨by rw [k.keep _ (blk_lt h1) hnM]; exact h1, by rw [k.gold _ (blk_lt h1)]; exact h2, h3⟩
  · refine List.pairwise_append.2 ⟨?_, (List.pairwise_append.1 hnd).2.1, ?_⟩
    · rw [List.pairwise_map]; exact k.nd
    · intro x hx y hy
      obtain ⟨o', ho', rfl⟩ := List.mem_map.1 hx
      show o'.b ≠ y.b
      by_cases hb : o'.b ∈ M.map (·.b)
      · exact fun e => inM _ hb y hy e.symm
      · have h1 := bnd o' ho' hb
        have h2 := blk_lt (h.hown y (List.mem_append_right _ hy)).1
        omega

def RPostO (C : Ctx) (K : Value → List Own → Gh → Prop) : Ending → World → Prop := fun e w' => ∃ v own' G', e = .returned v ∧ HRel C own' G' w' ∧ K v own' G'
theorem FnO.intro {P : Program} {G : Gh} {f : FuncId} {fn : Func} {c : Code} {vs : List Value} {m : Nat} {M : List Own} {K : Value → List Own → Gh → Prop} (hf : P.funcs[f]? = some fn) (hb : fn.body = some c) (hn : (fn.name == "runtime.NumGoroutine") = false) (hm : fn.ntmps = m) (hlen : Nat.ble vs.length m = true)
    (h : ∀ C : Ctx, C.G0 = G → C.mb = M.map (·.b) → St C m (args0 0 vs) (asB M) G (c.wp P (bodyPost P fn (RPostO C K)))) : FnO P f vs M G K := by
  refine ⟨⟨fn, hf, hn, by simp [hb]⟩, fun w hw => ?_⟩
  have hlen' : vs.length ≤ m := by simpa using hlen
  have := calls_of_wp (P := P) (f := f) (args := ⟨vs⟩) (w := w) (R := RPostO ⟨w, G, M.map (·.b)⟩ K) hf hb (h ⟨w, G, M.map (·.b)⟩ rfl rfl _ w
    ⟨hw, by simp; omega, fun k v hk => by
      obtain ⟨j, rfl, hj⟩ := look_args0 vs 0 k v hk
      have hj' := (List.getElem?_eq_some_iff.1 hj).1
      rw [Array.getElem?_append_left (by simpa using hj')]
      simpa using hj, rfl⟩)
  exact this
section
variable {P : Program} {C : Ctx} {n : Nat} {fr : Fr} {own own' : List Own} {G : Gh} {Φ : Act → World → Prop}
variable {dst : Option Nat} {t t' ty' : TypeId} {pos : String} {af : Array Edge} {gd : Option (Nat × Bool)} {x y : Operand}
theorem st_doneO {fn : Func} {K : Value → List Own → Gh → Prop} {vs : List Value} (hr : RVs P fr own fn.results.toList vs) (own2 own3 : List Own) (hp : own.Perm own2) (hs : own3.Sublist own2) (hk : K (tupled vs) own3 G) : St C n fr own G (bodyPost P fn (RPostO C K) .ret) :=
  fun a w rl => ⟨rl.df, _, run_results hr rl.fr rl.h, _, own3, G, rfl, (rl.h.perm hp).drop hs, hk⟩
theorem ch_callcO {f : FuncId} {fo : Operand} {args : Array Operand} {tys : Array TypeId} {vs c1 c2 : List Value} {M rest : List Own} {K : Value → List Own → Gh → Prop} (ho : opv fr fo = some (.func (.func f) ⟨c1⟩ ⟨c2⟩)) (hv : opvs fr args.toList = some vs)
    (hp : own.Perm (M ++ rest)) (hF : FnO P f (c1 ++ vs ++ c2) M G K) (hd : dstOk n dst = true) (h : ∀ v own1 (G' : Gh), [GE G G'] → K v own1 G' → St C n (put fr dst v) (own1.map (relo (flM M)) ++ rest) G' Φ) :
    Ch P C n fr own G ⟨dst, .call ⟨.value fo, args, tys⟩, ty', pos, af, gd⟩ Φ := by
  intro a w Q rl
  have h2 := run_call (P := P) (dst := dst) (ty' := ty') (pos := pos) (af := af) (gd := gd) (tys := tys) (w := w) hF.able rl.fr ho hv
  simp only [Oper.wp, h2, Oper.upon]
  have hh0 := rl.h.perm hp
  refine (hF.run w hh0.lend).mono ?_
  rintro e w' ⟨v, own1, G', rfl, hh, hK⟩
  exact @h v own1 G' ⟨hh.gle⟩ hK _ _ ((rl.heap (hh0.calledO hh)).put _ hd)
theorem ch_callO {f : FuncId} {fo : Operand} {args : Array Operand} {tys : Array TypeId} {vs : List Value} {M rest : List Own} {K : Value → List Own → Gh → Prop} (ho : opv fr fo = some (.func (.func f) #[] #[])) (hv : opvs fr args.toList = some vs)
    (hp : own.Perm (M ++ rest)) (hF : FnO P f vs M G K) (hd : dstOk n dst = true) (h : ∀ v own1 (G' : Gh), [GE G G'] → K v own1 G' → St C n (put fr dst v) (own1.map (relo (flM M)) ++ rest) G' Φ) :
    Ch P C n fr own G ⟨dst, .call ⟨.value fo, args, tys⟩, ty', pos, af, gd⟩ Φ :=
  ch_callcO (c1 := []) (c2 := []) ho hv hp (by simpa using hF) hd h
/-- In a call that borrowed nothing every block of its own is new. -/
theorem st_new {b : Nat} {cs : List Value} {ty : TypeId} {lo : Bool} (hC : C.mb = []) (h : St C n fr (⟨b, cs, ty, true⟩ :: own) G Φ) : St C n fr (⟨b, cs, ty, lo⟩ :: own) G Φ := by
  intro a w rl
  cases lo with
  | true => exact h a w rl
  | false =>
    have := (rl.h.hown _ List.mem_cons_self).2.2.2 rfl
    rw [hC] at this; cases this
end
end Go.Sx
end

section
namespace Go.Sx
open Go

section
variable {P : Program} {C : Ctx} {n : Nat} {fr : Fr} {own own' own1 : List Own} {G : Gh} {Φ : Act → World → Prop}
variable {dst : Option Nat} {t t' ty' : TypeId} {pos : String} {af : Array Edge} {gd : Option (Nat × Bool)} {x y : Operand} {e s by_ : Nat}

/-- stores, the block's new cells written out -/
theorem ch_storeN {v : Value} {b off k : Nat} {cs cs' : List Value} {ty : TypeId} {lo : Bool} (hx : opv fr x = some (.pointer (some ⟨b, off, none⟩))) (hy : opv fr y = some v) [hs : TyA P t k] [ho : OAt own b cs ty lo]
    (hc : ovw cs off (cellsL v) = cs') (hu : OUpd own b cs ty lo cs' own') (hk : (cellsL v).length = k) (hl : off + k ≤ cs.length) (hf : (cellsL v).all flat = true) (hd : dstOk n dst = true) (h : St C n (put fr dst undef) own' G Φ) :
    Ch P C n fr own G ⟨dst, .store t x y, ty', pos, af, gd⟩ Φ := ch_store hx hy (hc ▸ hu) hk hl hf hd h
theorem ch_storeN1 {v : Value} {b off : Nat} {cs cs' : List Value} {ty : TypeId} {lo : Bool} (hx : opv fr x = some (.pointer (some ⟨b, off, none⟩))) (hy : opv fr y = some v) [hs : TyS P t] [ho : OAt own b cs ty lo]
    (hc : cs.set off v = cs') (hu : OUpd own b cs ty lo cs' own') (hl : off < cs.length) (hf : flat v = true) (hd : dstOk n dst = true) (h : St C n (put fr dst undef) own' G Φ) :
    Ch P C n fr own G ⟨dst, .store t x y, ty', pos, af, gd⟩ Φ := ch_store1 hx hy (hc ▸ hu) hl hf hd h
theorem yd_cap [hT : TySl P t e s by_] {ad : Option Addr} {len cap : Nat} (hx : opv fr x = some (.slice ad len cap)) :
    Yd P C fr own G ⟨dst, .call ⟨.builtin .cap, #[x], #[t]⟩, ty', pos, af, gd⟩ (.int .i64 cap) := by
  intro a w hf hh
  simp only [execOp, resolve, List.map_toArray, List.map_cons, List.map_nil, opv_eval hf hx]
  have h1 : (Builtin.cap_ #[t] ty' #[.slice ad len cap]).run P w = .ok (.int .i64 cap) w := by
    simp only [Builtin.cap_]
    show (underlying t >>= _).run P w = _
    rw [run_ok_bind (hT.u w)]
    rfl
  exact value_of h1

theorem run_copy {w : World} [hT : TySl P t e s by_] {b off l c l2 c2 m : Nat} {ad2 : Option Addr} {cs ys : List Value} {ty : TypeId} (hm : Nat.min l2 l = m)
    (hb : w.heap[b]? = some (.cells ⟨cs⟩ ty (0, 0))) (hsy : (Builtin.firstCells s m (.slice ad2 l2 c2)).run P w = .ok ⟨ys⟩ w) (hf : ∀ v ∈ ys, flat v = true) (hl : off + ys.length ≤ cs.length) :
    (Builtin.copy_ #[t, t'] ty' #[.slice (some ⟨b, off, none⟩) l c, .slice ad2 l2 c2]).run P w =
      .ok (.int .i64 m) (setBlk w b (.cells ⟨ovw cs off ys⟩ ty (0, 0))) := by
  obtain ⟨i, hi, his, hib⟩ := hT.info
  subst his
  have hst := run_storeCells (P := P) ys w off 0 cs hf hb (by omega)
  rw [Nat.add_zero] at hst
  subst hm
  simp [Builtin.copy_, run_underlying hT.un, sizeOf, typeInfo, hi, Builtin.lenOf, hsy, hst]
  rfl
theorem ch_copy [hT : TySl P t e s by_] {b off l c l2 c2 m : Nat} {ad2 : Option Addr} {cs ys : List Value} {ty : TypeId} {lo : Bool} (hx : opv fr x = some (.slice (some ⟨b, off, none⟩) l c)) (hy : opv fr y = some (.slice ad2 l2 c2))
    (hm : Nat.min l2 l = m) (hsy : Src P C own G s m (.slice ad2 l2 c2) ys) (hf : ∀ v ∈ ys, flat v = true) (hl : off + ys.length ≤ cs.length) (hu : OUpd own b cs ty lo (ovw cs off ys) own') (hd : dstOk n dst = true)
    (h : St C n (put fr dst (.int .i64 m)) own' G Φ) : Ch P C n fr own G ⟨dst, .call ⟨.builtin .copy, #[x, y], #[t, t']⟩, ty', pos, af, gd⟩ Φ := by
  intro a w Q rl
  have hb := (rl.h.hown _ (hu.spec rl.h.nd).1).1
  refine ch_value (v := .int .i64 m) (w' := setBlk w b (.cells ⟨ovw cs off ys⟩ ty (0, 0))) ?_ (h _ _ ((rl.heap (rl.h.store hu)).put _ hd))
  simp only [execOp, resolve, List.map_toArray, List.map_cons, List.map_nil, opv_eval rl.fr hx, opv_eval rl.fr hy]
  exact value_of (run_copy hm hb (hsy w rl.h) hf hl)

/-- append where there is room -/
theorem ch_append_room [hT : TySl P t e s by_] [hN : TyN P t'] {b len cap m cap2 : Nat} {ad2 : Option Addr} {cs ys : List Value} {lo : Bool}
    (hx : opv fr x = some (.slice (some ⟨b, 0, none⟩) len cap)) (hy : opv fr y = some (.slice ad2 m cap2)) (hu : OUpd own b cs e lo (ovw cs (len * s) ys) own') (hcs : cs.length = cap * s)
    (hsy : Src P C own G s m (.slice ad2 m cap2) ys) (hys : ys.length = m * s) (hf : ∀ v ∈ ys, flat v = true) (hneed : len + m ≤ cap) (hd : dstOk n dst = true)
    (h : St C n (put fr dst (.slice (some ⟨b, 0, none⟩) (len + m) cap)) own' G Φ) :
    Ch P C n fr own G ⟨dst, .call ⟨.builtin .append, #[x, y], #[t, t']⟩, ty', pos, af, gd⟩ Φ := by
  intro a w Q rl
  have hb := (rl.h.hown _ (hu.spec rl.h.nd).1).1
  refine ch_value (v := .slice (some ⟨b, 0, none⟩) (len + m) cap) (w' := setBlk w b (.cells ⟨ovw cs (len * s) ys⟩ e (0, 0))) ?_ (h _ _ ((rl.heap (rl.h.store hu)).put _ hd))
  simp only [execOp, resolve, List.map_toArray, List.map_cons, List.map_nil, opv_eval rl.fr hx, opv_eval rl.fr hy]
  exact value_of (run_append_room hb hcs (hsy w rl.h) hys hf hneed)

/-- append to a row of the call's own or a borrowed one -/
theorem ch_append_any [hT : TySl P t e s by_] [hN : TyN P t'] {z : Value} [hz : TyZ P e z] {b len cap m cap2 : Nat} {ad2 : Option Addr} {xs ys rest : List Value} {lo : Bool}
    (hx : opv fr x = some (.slice (some ⟨b, 0, none⟩) len cap)) (hy : opv fr y = some (.slice ad2 m cap2)) (hr : ORem own ⟨b, xs ++ rest, e, lo⟩ own1) (hxs : xs.length = len * s) (hcap : xs.length + rest.length = cap * s) (hlc : len ≤ cap)
    (hsy : Src P C own G s m (.slice ad2 m cap2) ys) (hys : ys.length = m * s) (hf : ∀ v ∈ ys, flat v = true)
    (hby : 0 < by_) (hb : (len + m) * by_ ≤ 140737488355328) (hzs : (cellsL z).length = s) (hd : dstOk n dst = true)
    (h : ∀ b lo' cap' rest', len + m ≤ cap' → rest'.length + (len + m) * s = cap' * s → St C n (put fr dst (.slice (some ⟨b, 0, none⟩) (len + m) cap')) (⟨b, xs ++ ys ++ rest', e, lo'⟩ :: own1) G Φ) :
    Ch P C n fr own G ⟨dst, .call ⟨.builtin .append, #[x, y], #[t, t']⟩, ty', pos, af, gd⟩ Φ := by
  intro a w Q rl
  have hp := rl.h.perm hr.perm
  have hblk := (hp.hown _ List.mem_cons_self).1
  simp only [] at hblk
  by_cases hneed : len + m ≤ cap
  · have hcs : (xs ++ rest).length = cap * s := by simp; omega
    have hrun := run_append_room (P := P) (t := t) (t' := t') (ty' := ty') (w := w) (len := len) hblk hcs (hsy w rl.h) hys hf hneed
    have hle : len * s + m * s ≤ cap * s := by rw [← Nat.add_mul]; exact Nat.mul_le_mul_right _ hneed
    have hov : ovw (xs ++ rest) (len * s) ys = xs ++ ys ++ rest.drop (m * s) := by
      rw [ovw_spec _ _ _ (by rw [hys]; omega), ← hxs]
      simp [hys, List.drop_append]
    refine ch_value (v := .slice (some ⟨b, 0, none⟩) (len + m) cap) (w' := setBlk w b (.cells ⟨ovw (xs ++ rest) (len * s) ys⟩ e (0, 0))) ?_ ?_
    · simp only [execOp, resolve, List.map_toArray, List.map_cons, List.map_nil, opv_eval rl.fr hx, opv_eval rl.fr hy]
      exact value_of hrun
    · rw [hov]
      refine h b lo cap (rest.drop (m * s)) hneed ?_ _ _ ((rl.heap (hp.store (.hd ..))).put _ hd)
      rw [List.length_drop, Nat.add_mul]
      omega
  · have hx' : Src P C own G s len (.slice (some ⟨b, 0, none⟩) len cap) xs := fun w' hw' => by
      have hb' := (((hw'.perm hr.perm).hown _ List.mem_cons_self).1)
      refine run_loadCells hb' ?_
      rw [takeL_of _ _ _ (by simp; omega), ← hxs]
      simp
    have hcap' : len + m ≤ grownCap w (len + m) cap e := by unfold grownCap; simp only [Question.cut]; omega
    have hrun := run_append_grow (P := P) (t := t) (t' := t') (ty' := ty') (w := w) (w' := w) (hx' _ rl.h.drew) (hsy _ rl.h.drew) (by omega) hby hb
    refine ch_value (v := .slice (some ⟨w.heap.size, 0, none⟩) (len + m) (grownCap w (len + m) cap e)) (w' := w.drew.alloc (.cells ⟨xs ++ ys ++ zeros z (grownCap w (len + m) cap e - (len + m))⟩ e)) ?_ ?_
    · simp only [execOp, resolve, List.map_toArray, List.map_cons, List.map_nil, opv_eval rl.fr hx, opv_eval rl.fr hy]
      exact value_of hrun
    · refine h w.heap.size _ _ _ hcap' ?_ _ _ ((rl.heap (((hp.drew).drop (List.sublist_cons_self _ _)).alloc _ _)).put _ hd)
      rw [zeros_len, hzs, ← Nat.add_mul]
      congr 1
      omega

/-- slices.overlaps at two rows of the call's own, in two blocks -/
theorem yd_overlaps {f : FuncId} {fn : Func} {tS tR : TypeId} (hf : P.funcs[f]? = some fn) (hname : (fn.name == "runtime.NumGoroutine") = false) (hb : fn.body.isNone = true) (hn : Extern.findNext fn = none)
    (he : Extern.find fn = some (Extern.SlicesOverlaps.overlaps #[tS, tS] #[tR])) [hT : TySl P tS e s by_] {args : Array Operand} {tys : Array TypeId} {fo : Operand}
    {b1 b2 o1 o2 l1 l2 c1 c2 : Nat} {cs1 cs2 : List Value} {t1 t2 : TypeId} {lo1 lo2 : Bool} (ho : opv fr fo = some (.func (.func f) #[] #[]))
    (hv : opvs fr args.toList = some [.slice (some ⟨b1, o1, none⟩) l1 c1, .slice (some ⟨b2, o2, none⟩) l2 c2]) [h1 : OAt own b1 cs1 t1 lo1] [h2 : OAt own b2 cs2 t2 lo2] (hne : b1 ≠ b2) (hc2 : cs2 ≠ []) :
    Yd P C fr own G ⟨dst, .call ⟨.value fo, args, tys⟩, ty', pos, af, gd⟩ (.bool false) := by
  intro a w hfr hh
  have e1 := (hh.hown _ h1.mem).1
  have e2 := (hh.hown _ h2.mem).1
  have ev : args.map a.eval = ⟨[.slice (some ⟨b1, o1, none⟩) l1 c1, .slice (some ⟨b2, o2, none⟩) l2 c2]⟩ := by apply Array.ext'; simpa using opvs_eval hfr hv
  simp only [] at e1 e2
  have hrun := Lib.run_overlaps_apart (P := P) w tS tR e hT.un s hT.siz ⟨b1, o1, none⟩ ⟨b2, o2, none⟩ l1 c1 l2 c2 hne t1 t2 cs1.length cs2.length
    (by simp [World.shape?, e1]) (by simp [World.shape?, e2]) (by simpa using hc2) (by simp [World.frozen?, e1]) (by simp [World.frozen?, e1])
  simp only [execOp, resolve, opv_eval hfr ho, ev, Deferred.ofValue]
  show (invoke (.fn (.func f) #[]) _).run P w = _
  simp only [invoke]
  have h3 := run_callFunc_extern (P := P) hf hname hb hn he
  rw [h3]
  simp [hrun, Result.andThen]
end

instance SubL.cons2 (l m : List Own) (o : Own) [h : SubL l m] : SubL (o :: l) (o :: m) := ⟨h.s.cons_cons o⟩
/-- A drawn region in which one block is written that nothing of the region reads. -/
theorem dr0 {P : Program} {C : Ctx} {n : Nat} {fr : Fr} {own own0 : List Own} {G : Gh} {ops : Array Oper} {Q : Exit → Act → World → Prop} {b : Nat} {cs : List Value} {ty : TypeId} {lo : Bool} (fin : Nat → Bool) (π : List (Nat × Bool)) {id : Nat} (hm : P.follows .mixedOrders = true) (_hr : ORem own ⟨b, cs, ty, lo⟩ own0) (ho : (orderOk ops fin π (Array.replicate ops.size false) && Nat.ble π.length ops.size) = true)
    (h : St C n fr own G (dwL P ops (NoPan Q) (HS C own0 G) fin π)) : St C n fr own G ((Code.region id ops true).wp P Q) := by
  simp only [Bool.and_eq_true] at ho
  intro a w rl
  exact wp_mono (wp_region_any hm (wpAny_of_Z _ _ _ _ (wpAnyZ_of_order (fun _ _ _ _ _ h => h) π _ a _ ho.1 (h a _ (rl.heap rl.h.drew)) _ (by simpa using ho.2)))) NoPan.imp

/-! ### rows of values of several cells -/
def flatL (vs : List Value) : List Value := (vs.map cellsL).flatten
theorem flatL_len {s : Nat} : ∀ (vs : List Value), (∀ v ∈ vs, (cellsL v).length = s) → (flatL vs).length = vs.length * s
  | [], _ => by simp [flatL]
  | v :: vs, h => by
    have h1 := flatL_len vs (fun u hu => h u (List.mem_cons_of_mem _ hu))
    have h2 := h v List.mem_cons_self
    unfold flatL at *
    simp only [List.map_cons, List.flatten_cons, List.length_append, List.length_cons, h1, h2, Nat.succ_mul]
    omega
theorem flatL_app (us vs : List Value) : flatL (us ++ vs) = flatL us ++ flatL vs := by simp [flatL]
theorem flatL_one (v : Value) : flatL [v] = cellsL v := by simp [flatL]
theorem flatL_take {s : Nat} : ∀ (vs : List Value) (i : Nat), (∀ v ∈ vs, (cellsL v).length = s) → i ≤ vs.length → (flatL vs).take (i * s) = flatL (vs.take i)
  | vs, 0, _, _ => by simp [flatL]
  | [], i + 1, _, h => by simp at h
  | v :: vs, i + 1, h, hi => by
    have h1 := flatL_take vs i (fun u hu => h u (List.mem_cons_of_mem _ hu)) (by simpa using hi)
    have h2 := h v List.mem_cons_self
    unfold flatL at *
    simp only [List.map_cons, List.flatten_cons, List.take_succ_cons]
    rw [List.take_append, h2, List.take_of_length_le (by rw [h2, Nat.succ_mul]; omega), Nat.succ_mul, Nat.add_sub_cancel, h1]
theorem flatL_drop {s : Nat} : ∀ (vs : List Value) (i : Nat), (∀ v ∈ vs, (cellsL v).length = s) → i ≤ vs.length → (flatL vs).drop (i * s) = flatL (vs.drop i)
  | vs, 0, _, _ => by simp
  | [], i + 1, _, h => by simp at h
  | v :: vs, i + 1, h, hi => by
    have h1 := flatL_drop vs i (fun u hu => h u (List.mem_cons_of_mem _ hu)) (by simpa using hi)
    have h2 := h v List.mem_cons_self
    unfold flatL at *
    simp only [List.map_cons, List.flatten_cons, List.drop_succ_cons]
    rw [List.drop_append, h2, List.drop_eq_nil_of_le (by rw [h2, Nat.succ_mul]; omega), Nat.succ_mul, Nat.add_sub_cancel, h1, List.nil_append]
/-- One element of such a row. -/
theorem takeL_flat {s : Nat} {vs rest : List Value} (h : ∀ v ∈ vs, (cellsL v).length = s) {i : Nat} (hi : i < vs.length) : takeL (flatL vs ++ rest) (i * s) s = some (cellsL vs[i]) := by
  have hl := flatL_len vs h
  have hle : i * s + s ≤ vs.length * s := by rw [← Nat.succ_mul]; exact Nat.mul_le_mul_right _ hi
  rw [takeL_of _ _ _ (by simp only [List.length_append]; omega)]
  congr 1
  rw [List.drop_append_of_le_length (by omega), flatL_drop vs i h (by omega), List.drop_eq_getElem_cons hi]
  have h2 := h vs[i] (List.getElem_mem hi)
  rw [show (vs[i] :: vs.drop (i + 1)) = [vs[i]] ++ vs.drop (i + 1) from rfl, flatL_app, flatL_one, List.append_assoc, List.take_append_of_le_length (by omega), List.take_of_length_le (by omega)]
/-- A row of the call's own that is written no more. -/
theorem IsSl.of_flat {G : Gh} {b c s : Nat} {vs rest : List Value} (h : ∀ v ∈ vs, (cellsL v).length = s) (hg : G b = some (flatL vs ++ rest)) (hc : vs.length ≤ c) : IsSl G s ⟨some ⟨b, 0, none⟩, vs.length, c⟩ vs :=
  ⟨rfl, hc, .inr ⟨b, 0, _, rfl, hg, fun i hi => by rw [Nat.zero_add]; exact takeL_flat h hi⟩⟩
end Go.Sx
end

section
set_option maxRecDepth 100000
namespace Go.Sx
open Go Go.Proofs

structure IvV where
  lo : RV
  hi : RV
  nl : Bool
  nh : Bool
def IvV.v (z : IvV) : Value := .agg ⟨[.int .i64 z.lo.n, .int .i64 z.lo.d, .pointer z.lo.p, .int .i64 z.hi.n, .int .i64 z.hi.d, .pointer z.hi.p, .bool z.nl, .bool z.nh]⟩
structure IsIv (k : Nat) (G : Gh) (z : IvV) (v : IvQ) : Prop where
  lo : IsR k G z.lo v.lo
  hi : IsR k G z.hi v.hi
  nl : z.nl = v.nl
  nh : z.nh = v.nh
theorem IsIv.up {k : Nat} {A G : Gh} {z : IvV} {v : IvQ} (h : IsIv k A z v) [GL A G] : IsIv k G z v := ⟨h.lo.up, h.hi.up, h.nl, h.nh⟩
theorem IsIv.mono' {k l : Nat} {G : Gh} {z : IvV} {v : IvQ} (h : IsIv k G z v) (hk : k ≤ l) : IsIv l G z v := ⟨h.lo.mono' hk, h.hi.mono' hk, h.nl, h.nh⟩
theorem Iv_empty {A G : Gh} {z : IvV} {v : IvQ} {k : Nat} (h : IsIv k A z v) [GL A G] (hk : 2 * k + 1 ≤ 1099511627776) :
    Fn Tryz.prog 222 [.agg ⟨[.int .i64 z.lo.n, .int .i64 z.lo.d, .pointer z.lo.p, .int .i64 z.hi.n, .int .i64 z.hi.d, .pointer z.hi.p, .bool z.nl, .bool z.nh]⟩] G (fun u _ => u = .bool v.empty) := by
  obtain ⟨hlo, hhi, h1, h2⟩ := h
  obtain ⟨zlo, zhi, znl, znh⟩ := z
  obtain ⟨lo, hi, nl, nh⟩ := v
  simp only [] at hlo hhi h1 h2
  subst h1 h2
  refine Fn.intro Tryz.func222 rfl rfl Tryz.ntmps222 rfl ?_
  intro C _ _
  cases znl
  case true =>
    refine st_seq <| st_region <| ?_
    refine sc (ch_box rfl rfl ?_)
    intro b1
    refine sa rfl rfl <| st_end <| st_seq <| st_region <| sf rfl rfl <| slo1 rfl rfl rfl <| sy (yd_not rfl) rfl <| sm rfl rfl <| ss rfl rfl rfl rfl <| ss rfl rfl rfl rfl <| ss rfl rfl rfl rfl <| sy (yd_pickF rfl rfl) rfl <| ?_
    refine sm rfl rfl <| ss rfl rfl rfl rfl <| ss rfl rfl rfl rfl <| ss rfl rfl rfl rfl <| ss rfl rfl rfl rfl <| ss rfl rfl rfl rfl <| ss rfl rfl rfl rfl <| sy (yd_pickF rfl rfl) rfl <| sa rfl rfl <| ?_
    refine st_end <| st_ret <| ?_
    exact st_done (.tmp rfl .nil) rfl
  cases znh
  case true =>
    refine st_seq <| st_region <| ?_
    refine sc (ch_box rfl rfl ?_)
    intro b1
    refine sa rfl rfl <| st_end <| st_seq <| st_region <| sf rfl rfl <| slo1 rfl rfl rfl <| sy (yd_not rfl) rfl <| sm rfl rfl <| syg rfl rfl (yd_fieldAddr rfl) rfl <| syg rfl rfl (yd_load_own1 rfl rfl) rfl <| ?_
    refine syg rfl rfl (yd_not rfl) rfl <| sy (yd_pickT rfl rfl) rfl <| sm rfl rfl <| ss rfl rfl rfl rfl <| ss rfl rfl rfl rfl <| ss rfl rfl rfl rfl <| ss rfl rfl rfl rfl <| ss rfl rfl rfl rfl <| ?_
    refine ss rfl rfl rfl rfl <| sy (yd_pickF rfl rfl) rfl <| sa rfl rfl <| st_end <| st_ret <| ?_
    exact st_done (.tmp rfl .nil) rfl
  refine st_seq <| st_region <| ?_
  refine sc (ch_box rfl rfl ?_)
  intro b1
  refine sa rfl rfl <| st_end <| st_seq <| st_region <| sf rfl rfl <| slo1 rfl rfl rfl <| sy (yd_not rfl) rfl <| sm rfl rfl <| syg rfl rfl (yd_fieldAddr rfl) rfl <| syg rfl rfl (yd_load_own1 rfl rfl) rfl <| ?_
  refine syg rfl rfl (yd_not rfl) rfl <| sy (yd_pickT rfl rfl) rfl <| sm rfl rfl <| syg rfl rfl (yd_fieldAddr rfl) rfl <| syg rfl rfl (yd_load_own rfl rfl) rfl <| syg rfl rfl (yd_fieldAddr rfl) rfl <| ?_
  refine syg rfl rfl (yd_load_own rfl rfl) rfl <| ?_
  refine st_chg rfl rfl rfl (ch_call rfl rfl (R_Cmp ‹_› ‹_› (by omega)) rfl ?_)
  rintro _ G2 _ rfl
  refine syg rfl rfl (yd_geq rfl rfl) rfl <| sy (yd_pickT rfl rfl) rfl <| sa rfl rfl <| st_end <| st_ret <| ?_
  exact st_done (.tmp rfl .nil) rfl
theorem geo_All {G : Gh} : Fn Tryz.prog 185 [] G (fun u _ => u = IvV.v ⟨⟨0, 0, none⟩, ⟨0, 0, none⟩, true, true⟩) := by
  refine Fn.intro Tryz.func185 rfl rfl Tryz.ntmps185 rfl ?_
  intro C _ _
  refine st_seq <| st_region <| ?_
  refine sc (ch_alloc rfl ?_)
  intro b1
  refine st_end <| st_seq <| st_region <| sy (yd_build rfl) rfl <| ?_
  refine sc (ch_storeN rfl rfl (by first | (dsimp only [ovw, cellsL, List.set_cons_zero, List.set_cons_succ, Nat.reduceAdd, RV.v, LV.v, PV.v, IvV.v]; done) | exact rfl) (by repeat (first | exact .hd .. | apply OUpd.tl)) rfl (Nat.le_of_ble_eq_true rfl) rfl rfl ?_)
  refine st_end <| st_ret <| ?_
  exact st_done (.agg rfl inferInstance inferInstance rfl .nil) rfl
set_option maxHeartbeats 2000000 in
theorem Iv_Meet {A B G : Gh} {z1 z2 : IvV} {v w : IvQ} {k1 k2 : Nat} (h : IsIv k1 A z1 v) (g : IsIv k2 B z2 w) [GL A G] [GL B G] (hk : 2 * (k1 + k2) + 1 ≤ 1099511627776) :
    Fn Tryz.prog 193 [.agg ⟨[.int .i64 z1.lo.n, .int .i64 z1.lo.d, .pointer z1.lo.p, .int .i64 z1.hi.n, .int .i64 z1.hi.d, .pointer z1.hi.p, .bool z1.nl, .bool z1.nh]⟩, .agg ⟨[.int .i64 z2.lo.n, .int .i64 z2.lo.d, .pointer z2.lo.p, .int .i64 z2.hi.n, .int .i64 z2.hi.d, .pointer z2.hi.p, .bool z2.nl, .bool z2.nh]⟩] G (fun u G' => ∃ x : IvV, u = .tuple #[x.v, .bool (!(v.meet w).empty)] ∧ IsIv (max k1 k2) G' x (v.meet w)) := by
  obtain ⟨hlo1, hhi1, h1, h2⟩ := h
  obtain ⟨hlo2, hhi2, h3, h4⟩ := g
  obtain ⟨lo1, hi1, nl1, nh1⟩ := z1
  obtain ⟨lo2, hi2, nl2, nh2⟩ := z2
  obtain ⟨va, vb, vc, vd⟩ := v
  obtain ⟨wa, wb, wc, wd⟩ := w
  simp only [] at hlo1 hhi1 hlo2 hhi2 h1 h2 h3 h4
  subst h1 h2 h3 h4
  refine Fn.intro Tryz.func193 rfl rfl Tryz.ntmps193 rfl ?_
  intro C _ _
  cases nl1
  case true =>
    cases nh1
    case true =>
      refine st_seq <| st_region <| ?_
      refine sc (ch_box rfl rfl ?_)
      intro b1
      refine sc (ch_box rfl rfl ?_)
      intro b2
      refine sc (ch_alloc rfl ?_)
      intro b3
      refine sa rfl rfl <| st_end <| st_seq <| st_region <| slo rfl rfl rfl <| ?_
      refine sc (ch_alloc rfl ?_)
      intro b4
      refine sc (ch_storeN rfl rfl (by first | (dsimp only [ovw, cellsL, List.set_cons_zero, List.set_cons_succ, Nat.reduceAdd, RV.v, LV.v, PV.v, IvV.v]; done) | exact rfl) (by repeat (first | exact .hd .. | apply OUpd.tl)) rfl (Nat.le_of_ble_eq_true rfl) rfl rfl ?_)
      refine st_end <| st_seq <| st_block <| st_seq <| st_region <| sf rfl rfl <| slo1 rfl rfl rfl <| sa rfl rfl <| st_end <| st_condT rfl <| dr0 (b := b4) (fun _ => false) [(0, true), (1, true), (2, true), (3, true), (4, true), (5, false), (6, true), (7, false)] follows (by repeat (first | exact .hd .. | apply ORem.tl)) (by kernel_rfl) <| ?_
      refine dy rfl (fun _ => yd_fieldAddr rfl) rfl rfl <| dy rfl (fun _ => yd_load_own rfl rfl) rfl rfl <| dy rfl (fun _ => yd_fieldAddr rfl) rfl rfl <| dy rfl (fun _ => yd_load_own1 rfl rfl) rfl rfl <| ?_
      refine dy rfl (fun _ => yd_fieldAddr rfl) rfl rfl <| ?_
      refine dc rfl rfl (ch_storeN rfl rfl (by first | (dsimp only [ovw, cellsL, List.set_cons_zero, List.set_cons_succ, Nat.reduceAdd, RV.v, LV.v, PV.v, IvV.v]; done) | exact rfl) (by repeat (first | exact .hd .. | apply OUpd.tl)) rfl (Nat.le_of_ble_eq_true rfl) rfl rfl ?_)
      refine dr_s <| dy rfl (fun _ => yd_fieldAddr rfl) rfl rfl <| ?_
      refine dc rfl rfl (ch_storeN1 rfl rfl (by first | (dsimp only [ovw, cellsL, List.set_cons_zero, List.set_cons_succ, Nat.reduceAdd, RV.v, LV.v, PV.v, IvV.v]; done) | exact rfl) (by repeat (first | exact .hd .. | apply OUpd.tl)) (Nat.le_of_ble_eq_true rfl) rfl rfl ?_)
      refine dr_s <| dn <| st_seq <| st_block <| st_seq <| st_region <| sf rfl rfl <| slo1 rfl rfl rfl <| sa rfl rfl <| st_end <| st_condT rfl <| dr0 (b := b4) (fun _ => false) [(0, true), (1, true), (2, true), (3, true), (4, true), (5, false), (6, true), (7, false)] follows (by repeat (first | exact .hd .. | apply ORem.tl)) (by kernel_rfl) <| ?_
      refine dy rfl (fun _ => yd_fieldAddr rfl) rfl rfl <| dy rfl (fun _ => yd_load_own rfl rfl) rfl rfl <| dy rfl (fun _ => yd_fieldAddr rfl) rfl rfl <| dy rfl (fun _ => yd_load_own1 rfl rfl) rfl rfl <| ?_
      refine dy rfl (fun _ => yd_fieldAddr rfl) rfl rfl <| ?_
      refine dc rfl rfl (ch_storeN rfl rfl (by first | (dsimp only [ovw, cellsL, List.set_cons_zero, List.set_cons_succ, Nat.reduceAdd, RV.v, LV.v, PV.v, IvV.v]; done) | exact rfl) (by repeat (first | exact .hd .. | apply OUpd.tl)) rfl (Nat.le_of_ble_eq_true rfl) rfl rfl ?_)
      refine dr_s <| dy rfl (fun _ => yd_fieldAddr rfl) rfl rfl <| ?_
      refine dc rfl rfl (ch_storeN1 rfl rfl (by first | (dsimp only [ovw, cellsL, List.set_cons_zero, List.set_cons_succ, Nat.reduceAdd, RV.v, LV.v, PV.v, IvV.v]; done) | exact rfl) (by repeat (first | exact .hd .. | apply OUpd.tl)) (Nat.le_of_ble_eq_true rfl) rfl rfl ?_)
      refine dr_s <| dn <| st_seq <| dr0 (b := b3) (fun _ => false) [(0, true), (1, true), (2, false), (3, true), (4, false), (5, true)] follows (by repeat (first | exact .hd .. | apply ORem.tl)) (by kernel_rfl) <| ?_
      refine dy rfl (fun _ => yd_load_own rfl rfl) rfl rfl <| dy rfl (fun _ => yd_load_own rfl rfl) rfl rfl <| ?_
      have hL : IsR (max k1 k2) G lo2 wa := hlo2.up.mono' (by omega)
      have hH : IsR (max k1 k2) G hi2 wb := hhi2.up.mono' (by omega)
      have hm : IsIv (max k1 k2) G ⟨lo2, hi2, nl2, nh2⟩ (IvQ.meet ⟨va, vb, true, true⟩ ⟨wa, wb, nl2, nh2⟩) := ⟨hL, hH, rfl, rfl⟩
      refine dc rfl rfl (ch_call rfl rfl (Iv_empty hm (by omega)) rfl ?_)
      rintro _ G5 _ rfl
      refine dr_s <| dy rfl (fun _ => yd_not rfl) rfl rfl <| ?_
      refine dc rfl rfl (ch_storeN rfl rfl (by first | (dsimp only [ovw, cellsL, List.set_cons_zero, List.set_cons_succ, Nat.reduceAdd, RV.v, LV.v, PV.v, IvV.v]; done) | exact rfl) (by repeat (first | exact .hd .. | apply OUpd.tl)) rfl (Nat.le_of_ble_eq_true rfl) rfl rfl ?_)
      refine dr_s <| dy rfl (fun _ => yd_assign rfl) rfl rfl <| dn <| st_ret <| ?_
      exact st_done (.agg rfl inferInstance inferInstance rfl (.tmp rfl .nil)) ⟨_, rfl, hm.up⟩
    cases nh2
    case true =>
      refine st_seq <| st_region <| ?_
      refine sc (ch_box rfl rfl ?_)
      intro b1
      refine sc (ch_box rfl rfl ?_)
      intro b2
      refine sc (ch_alloc rfl ?_)
      intro b3
      refine sa rfl rfl <| st_end <| st_seq <| st_region <| slo rfl rfl rfl <| ?_
      refine sc (ch_alloc rfl ?_)
      intro b4
      refine sc (ch_storeN rfl rfl (by first | (dsimp only [ovw, cellsL, List.set_cons_zero, List.set_cons_succ, Nat.reduceAdd, RV.v, LV.v, PV.v, IvV.v]; done) | exact rfl) (by repeat (first | exact .hd .. | apply OUpd.tl)) rfl (Nat.le_of_ble_eq_true rfl) rfl rfl ?_)
      refine st_end <| st_seq <| st_block <| st_seq <| st_region <| sf rfl rfl <| slo1 rfl rfl rfl <| sa rfl rfl <| st_end <| st_condT rfl <| dr0 (b := b4) (fun _ => false) [(0, true), (1, true), (2, true), (3, true), (4, true), (5, false), (6, true), (7, false)] follows (by repeat (first | exact .hd .. | apply ORem.tl)) (by kernel_rfl) <| ?_
      refine dy rfl (fun _ => yd_fieldAddr rfl) rfl rfl <| dy rfl (fun _ => yd_load_own rfl rfl) rfl rfl <| dy rfl (fun _ => yd_fieldAddr rfl) rfl rfl <| dy rfl (fun _ => yd_load_own1 rfl rfl) rfl rfl <| ?_
      refine dy rfl (fun _ => yd_fieldAddr rfl) rfl rfl <| ?_
      refine dc rfl rfl (ch_storeN rfl rfl (by first | (dsimp only [ovw, cellsL, List.set_cons_zero, List.set_cons_succ, Nat.reduceAdd, RV.v, LV.v, PV.v, IvV.v]; done) | exact rfl) (by repeat (first | exact .hd .. | apply OUpd.tl)) rfl (Nat.le_of_ble_eq_true rfl) rfl rfl ?_)
      refine dr_s <| dy rfl (fun _ => yd_fieldAddr rfl) rfl rfl <| ?_
      refine dc rfl rfl (ch_storeN1 rfl rfl (by first | (dsimp only [ovw, cellsL, List.set_cons_zero, List.set_cons_succ, Nat.reduceAdd, RV.v, LV.v, PV.v, IvV.v]; done) | exact rfl) (by repeat (first | exact .hd .. | apply OUpd.tl)) (Nat.le_of_ble_eq_true rfl) rfl rfl ?_)
      refine dr_s <| dn <| st_seq <| st_block <| st_seq <| st_region <| sf rfl rfl <| slo1 rfl rfl rfl <| sa rfl rfl <| st_end <| st_condF rfl <| st_seq <| st_region <| sf rfl rfl <| slo1 rfl rfl rfl <| ?_
      refine sy (yd_not rfl) rfl <| sa rfl rfl <| st_end <| st_condF rfl <| st_skipc <| st_seq <| dr0 (b := b3) (fun _ => false) [(0, true), (1, true), (2, false), (3, true), (4, false), (5, true)] follows (by repeat (first | exact .hd .. | apply ORem.tl)) (by kernel_rfl) <| ?_
      refine dy rfl (fun _ => yd_load_own rfl rfl) rfl rfl <| dy rfl (fun _ => yd_load_own rfl rfl) rfl rfl <| ?_
      have hL : IsR (max k1 k2) G lo2 wa := hlo2.up.mono' (by omega)
      have hH : IsR (max k1 k2) G hi1 vb := hhi1.up.mono' (by omega)
      have hm : IsIv (max k1 k2) G ⟨lo2, hi1, nl2, false⟩ (IvQ.meet ⟨va, vb, true, false⟩ ⟨wa, wb, nl2, true⟩) := ⟨hL, hH, rfl, rfl⟩
      refine dc rfl rfl (ch_call rfl rfl (Iv_empty hm (by omega)) rfl ?_)
      rintro _ G5 _ rfl
      refine dr_s <| dy rfl (fun _ => yd_not rfl) rfl rfl <| ?_
      refine dc rfl rfl (ch_storeN rfl rfl (by first | (dsimp only [ovw, cellsL, List.set_cons_zero, List.set_cons_succ, Nat.reduceAdd, RV.v, LV.v, PV.v, IvV.v]; done) | exact rfl) (by repeat (first | exact .hd .. | apply OUpd.tl)) rfl (Nat.le_of_ble_eq_true rfl) rfl rfl ?_)
      refine dr_s <| dy rfl (fun _ => yd_assign rfl) rfl rfl <| dn <| st_ret <| ?_
      exact st_done (.agg rfl inferInstance inferInstance rfl (.tmp rfl .nil)) ⟨_, rfl, hm.up⟩
    refine st_seq <| st_region <| ?_
    refine sc (ch_box rfl rfl ?_)
    intro b1
    refine sc (ch_box rfl rfl ?_)
    intro b2
    refine sc (ch_alloc rfl ?_)
    intro b3
    refine sa rfl rfl <| st_end <| st_seq <| st_region <| slo rfl rfl rfl <| ?_
    refine sc (ch_alloc rfl ?_)
    intro b4
    refine sc (ch_storeN rfl rfl (by first | (dsimp only [ovw, cellsL, List.set_cons_zero, List.set_cons_succ, Nat.reduceAdd, RV.v, LV.v, PV.v, IvV.v]; done) | exact rfl) (by repeat (first | exact .hd .. | apply OUpd.tl)) rfl (Nat.le_of_ble_eq_true rfl) rfl rfl ?_)
    refine st_end <| st_seq <| st_block <| st_seq <| st_region <| sf rfl rfl <| slo1 rfl rfl rfl <| sa rfl rfl <| st_end <| st_condT rfl <| dr0 (b := b4) (fun _ => false) [(0, true), (1, true), (2, true), (3, true), (4, true), (5, false), (6, true), (7, false)] follows (by repeat (first | exact .hd .. | apply ORem.tl)) (by kernel_rfl) <| ?_
    refine dy rfl (fun _ => yd_fieldAddr rfl) rfl rfl <| dy rfl (fun _ => yd_load_own rfl rfl) rfl rfl <| dy rfl (fun _ => yd_fieldAddr rfl) rfl rfl <| dy rfl (fun _ => yd_load_own1 rfl rfl) rfl rfl <| ?_
    refine dy rfl (fun _ => yd_fieldAddr rfl) rfl rfl <| ?_
    refine dc rfl rfl (ch_storeN rfl rfl (by first | (dsimp only [ovw, cellsL, List.set_cons_zero, List.set_cons_succ, Nat.reduceAdd, RV.v, LV.v, PV.v, IvV.v]; done) | exact rfl) (by repeat (first | exact .hd .. | apply OUpd.tl)) rfl (Nat.le_of_ble_eq_true rfl) rfl rfl ?_)
    refine dr_s <| dy rfl (fun _ => yd_fieldAddr rfl) rfl rfl <| ?_
    refine dc rfl rfl (ch_storeN1 rfl rfl (by first | (dsimp only [ovw, cellsL, List.set_cons_zero, List.set_cons_succ, Nat.reduceAdd, RV.v, LV.v, PV.v, IvV.v]; done) | exact rfl) (by repeat (first | exact .hd .. | apply OUpd.tl)) (Nat.le_of_ble_eq_true rfl) rfl rfl ?_)
    refine dr_s <| dn <| st_seq <| st_block <| st_seq <| st_region <| sf rfl rfl <| slo1 rfl rfl rfl <| sa rfl rfl <| st_end <| st_condF rfl <| st_seq <| st_region <| sf rfl rfl <| slo1 rfl rfl rfl <| ?_
    refine sy (yd_not rfl) rfl <| sa rfl rfl <| st_end <| st_condT rfl <| st_region <| sf rfl rfl <| slo rfl rfl rfl <| sf rfl rfl <| slo rfl rfl rfl <| ?_
    refine sc (ch_call rfl rfl (frac_Min hhi1 hhi2 (by omega)) rfl ?_)
    rintro _ G5 _ ⟨x6, rfl, h7⟩
    refine sf rfl rfl <| ?_
    refine sc (ch_storeN rfl rfl (by first | (dsimp only [ovw, cellsL, List.set_cons_zero, List.set_cons_succ, Nat.reduceAdd, RV.v, LV.v, PV.v, IvV.v]; done) | exact rfl) (by repeat (first | exact .hd .. | apply OUpd.tl)) rfl (Nat.le_of_ble_eq_true rfl) rfl rfl ?_)
    refine st_end <| st_seq <| dr0 (b := b3) (fun _ => false) [(0, true), (1, true), (2, false), (3, true), (4, false), (5, true)] follows (by repeat (first | exact .hd .. | apply ORem.tl)) (by kernel_rfl) <| ?_
    refine dy rfl (fun _ => yd_load_own rfl rfl) rfl rfl <| dy rfl (fun _ => yd_load_own rfl rfl) rfl rfl <| ?_
    have hL : IsR (max k1 k2) G5 lo2 wa := hlo2.up.mono' (by omega)
    have hH : IsR (max k1 k2) G5 x6 (if wb < vb then wb else vb) := h7.up.mono' (by omega)
    have hm : IsIv (max k1 k2) G5 ⟨lo2, x6, nl2, false⟩ (IvQ.meet ⟨va, vb, true, false⟩ ⟨wa, wb, nl2, false⟩) := ⟨hL, hH, rfl, rfl⟩
    refine dc rfl rfl (ch_call rfl rfl (Iv_empty hm (by omega)) rfl ?_)
    rintro _ G8 _ rfl
    refine dr_s <| dy rfl (fun _ => yd_not rfl) rfl rfl <| ?_
    refine dc rfl rfl (ch_storeN rfl rfl (by first | (dsimp only [ovw, cellsL, List.set_cons_zero, List.set_cons_succ, Nat.reduceAdd, RV.v, LV.v, PV.v, IvV.v]; done) | exact rfl) (by repeat (first | exact .hd .. | apply OUpd.tl)) rfl (Nat.le_of_ble_eq_true rfl) rfl rfl ?_)
    refine dr_s <| dy rfl (fun _ => yd_assign rfl) rfl rfl <| dn <| st_ret <| ?_
    exact st_done (.agg rfl inferInstance inferInstance rfl (.tmp rfl .nil)) ⟨_, rfl, hm.up⟩
  cases nl2
  case true =>
    cases nh1
    case true =>
      refine st_seq <| st_region <| ?_
      refine sc (ch_box rfl rfl ?_)
      intro b1
      refine sc (ch_box rfl rfl ?_)
      intro b2
      refine sc (ch_alloc rfl ?_)
      intro b3
      refine sa rfl rfl <| st_end <| st_seq <| st_region <| slo rfl rfl rfl <| ?_
      refine sc (ch_alloc rfl ?_)
      intro b4
      refine sc (ch_storeN rfl rfl (by first | (dsimp only [ovw, cellsL, List.set_cons_zero, List.set_cons_succ, Nat.reduceAdd, RV.v, LV.v, PV.v, IvV.v]; done) | exact rfl) (by repeat (first | exact .hd .. | apply OUpd.tl)) rfl (Nat.le_of_ble_eq_true rfl) rfl rfl ?_)
      refine st_end <| st_seq <| st_block <| st_seq <| st_region <| sf rfl rfl <| slo1 rfl rfl rfl <| sa rfl rfl <| st_end <| st_condF rfl <| st_seq <| st_region <| sf rfl rfl <| slo1 rfl rfl rfl <| ?_
      refine sy (yd_not rfl) rfl <| sa rfl rfl <| st_end <| st_condF rfl <| st_skipc <| st_seq <| st_block <| st_seq <| st_region <| sf rfl rfl <| slo1 rfl rfl rfl <| sa rfl rfl <| st_end <| st_condT rfl <| ?_
      refine dr0 (b := b4) (fun _ => false) [(0, true), (1, true), (2, true), (3, true), (4, true), (5, false), (6, true), (7, false)] follows (by repeat (first | exact .hd .. | apply ORem.tl)) (by kernel_rfl) <| ?_
      refine dy rfl (fun _ => yd_fieldAddr rfl) rfl rfl <| dy rfl (fun _ => yd_load_own rfl rfl) rfl rfl <| dy rfl (fun _ => yd_fieldAddr rfl) rfl rfl <| dy rfl (fun _ => yd_load_own1 rfl rfl) rfl rfl <| ?_
      refine dy rfl (fun _ => yd_fieldAddr rfl) rfl rfl <| ?_
      refine dc rfl rfl (ch_storeN rfl rfl (by first | (dsimp only [ovw, cellsL, List.set_cons_zero, List.set_cons_succ, Nat.reduceAdd, RV.v, LV.v, PV.v, IvV.v]; done) | exact rfl) (by repeat (first | exact .hd .. | apply OUpd.tl)) rfl (Nat.le_of_ble_eq_true rfl) rfl rfl ?_)
      refine dr_s <| dy rfl (fun _ => yd_fieldAddr rfl) rfl rfl <| ?_
      refine dc rfl rfl (ch_storeN1 rfl rfl (by first | (dsimp only [ovw, cellsL, List.set_cons_zero, List.set_cons_succ, Nat.reduceAdd, RV.v, LV.v, PV.v, IvV.v]; done) | exact rfl) (by repeat (first | exact .hd .. | apply OUpd.tl)) (Nat.le_of_ble_eq_true rfl) rfl rfl ?_)
      refine dr_s <| dn <| st_seq <| dr0 (b := b3) (fun _ => false) [(0, true), (1, true), (2, false), (3, true), (4, false), (5, true)] follows (by repeat (first | exact .hd .. | apply ORem.tl)) (by kernel_rfl) <| ?_
      refine dy rfl (fun _ => yd_load_own rfl rfl) rfl rfl <| dy rfl (fun _ => yd_load_own rfl rfl) rfl rfl <| ?_
      have hL : IsR (max k1 k2) G lo1 va := hlo1.up.mono' (by omega)
      have hH : IsR (max k1 k2) G hi2 wb := hhi2.up.mono' (by omega)
      have hm : IsIv (max k1 k2) G ⟨lo1, hi2, false, nh2⟩ (IvQ.meet ⟨va, vb, false, true⟩ ⟨wa, wb, true, nh2⟩) := ⟨hL, hH, rfl, rfl⟩
      refine dc rfl rfl (ch_call rfl rfl (Iv_empty hm (by omega)) rfl ?_)
      rintro _ G5 _ rfl
      refine dr_s <| dy rfl (fun _ => yd_not rfl) rfl rfl <| ?_
      refine dc rfl rfl (ch_storeN rfl rfl (by first | (dsimp only [ovw, cellsL, List.set_cons_zero, List.set_cons_succ, Nat.reduceAdd, RV.v, LV.v, PV.v, IvV.v]; done) | exact rfl) (by repeat (first | exact .hd .. | apply OUpd.tl)) rfl (Nat.le_of_ble_eq_true rfl) rfl rfl ?_)
      refine dr_s <| dy rfl (fun _ => yd_assign rfl) rfl rfl <| dn <| st_ret <| ?_
      exact st_done (.agg rfl inferInstance inferInstance rfl (.tmp rfl .nil)) ⟨_, rfl, hm.up⟩
    cases nh2
    case true =>
      refine st_seq <| st_region <| ?_
      refine sc (ch_box rfl rfl ?_)
      intro b1
      refine sc (ch_box rfl rfl ?_)
      intro b2
      refine sc (ch_alloc rfl ?_)
      intro b3
      refine sa rfl rfl <| st_end <| st_seq <| st_region <| slo rfl rfl rfl <| ?_
      refine sc (ch_alloc rfl ?_)
      intro b4
      refine sc (ch_storeN rfl rfl (by first | (dsimp only [ovw, cellsL, List.set_cons_zero, List.set_cons_succ, Nat.reduceAdd, RV.v, LV.v, PV.v, IvV.v]; done) | exact rfl) (by repeat (first | exact .hd .. | apply OUpd.tl)) rfl (Nat.le_of_ble_eq_true rfl) rfl rfl ?_)
      refine st_end <| st_seq <| st_block <| st_seq <| st_region <| sf rfl rfl <| slo1 rfl rfl rfl <| sa rfl rfl <| st_end <| st_condF rfl <| st_seq <| st_region <| sf rfl rfl <| slo1 rfl rfl rfl <| ?_
      refine sy (yd_not rfl) rfl <| sa rfl rfl <| st_end <| st_condF rfl <| st_skipc <| st_seq <| st_block <| st_seq <| st_region <| sf rfl rfl <| slo1 rfl rfl rfl <| sa rfl rfl <| st_end <| st_condF rfl <| ?_
      refine st_seq <| st_region <| sf rfl rfl <| slo1 rfl rfl rfl <| sy (yd_not rfl) rfl <| sa rfl rfl <| st_end <| st_condF rfl <| st_skipc <| st_seq <| dr0 (b := b3) (fun _ => false) [(0, true), (1, true), (2, false), (3, true), (4, false), (5, true)] follows (by repeat (first | exact .hd .. | apply ORem.tl)) (by kernel_rfl) <| ?_
      refine dy rfl (fun _ => yd_load_own rfl rfl) rfl rfl <| dy rfl (fun _ => yd_load_own rfl rfl) rfl rfl <| ?_
      have hL : IsR (max k1 k2) G lo1 va := hlo1.up.mono' (by omega)
      have hH : IsR (max k1 k2) G hi1 vb := hhi1.up.mono' (by omega)
      have hm : IsIv (max k1 k2) G ⟨lo1, hi1, false, false⟩ (IvQ.meet ⟨va, vb, false, false⟩ ⟨wa, wb, true, true⟩) := ⟨hL, hH, rfl, rfl⟩
      refine dc rfl rfl (ch_call rfl rfl (Iv_empty hm (by omega)) rfl ?_)
      rintro _ G5 _ rfl
      refine dr_s <| dy rfl (fun _ => yd_not rfl) rfl rfl <| ?_
      refine dc rfl rfl (ch_storeN rfl rfl (by first | (dsimp only [ovw, cellsL, List.set_cons_zero, List.set_cons_succ, Nat.reduceAdd, RV.v, LV.v, PV.v, IvV.v]; done) | exact rfl) (by repeat (first | exact .hd .. | apply OUpd.tl)) rfl (Nat.le_of_ble_eq_true rfl) rfl rfl ?_)
      refine dr_s <| dy rfl (fun _ => yd_assign rfl) rfl rfl <| dn <| st_ret <| ?_
      exact st_done (.agg rfl inferInstance inferInstance rfl (.tmp rfl .nil)) ⟨_, rfl, hm.up⟩
    refine st_seq <| st_region <| ?_
    refine sc (ch_box rfl rfl ?_)
    intro b1
    refine sc (ch_box rfl rfl ?_)
    intro b2
    refine sc (ch_alloc rfl ?_)
    intro b3
    refine sa rfl rfl <| st_end <| st_seq <| st_region <| slo rfl rfl rfl <| ?_
    refine sc (ch_alloc rfl ?_)
    intro b4
    refine sc (ch_storeN rfl rfl (by first | (dsimp only [ovw, cellsL, List.set_cons_zero, List.set_cons_succ, Nat.reduceAdd, RV.v, LV.v, PV.v, IvV.v]; done) | exact rfl) (by repeat (first | exact .hd .. | apply OUpd.tl)) rfl (Nat.le_of_ble_eq_true rfl) rfl rfl ?_)
    refine st_end <| st_seq <| st_block <| st_seq <| st_region <| sf rfl rfl <| slo1 rfl rfl rfl <| sa rfl rfl <| st_end <| st_condF rfl <| st_seq <| st_region <| sf rfl rfl <| slo1 rfl rfl rfl <| ?_
    refine sy (yd_not rfl) rfl <| sa rfl rfl <| st_end <| st_condF rfl <| st_skipc <| st_seq <| st_block <| st_seq <| st_region <| sf rfl rfl <| slo1 rfl rfl rfl <| sa rfl rfl <| st_end <| st_condF rfl <| ?_
    refine st_seq <| st_region <| sf rfl rfl <| slo1 rfl rfl rfl <| sy (yd_not rfl) rfl <| sa rfl rfl <| st_end <| st_condT rfl <| st_region <| sf rfl rfl <| slo rfl rfl rfl <| sf rfl rfl <| slo rfl rfl rfl <| ?_
    refine sc (ch_call rfl rfl (frac_Min hhi1 hhi2 (by omega)) rfl ?_)
    rintro _ G5 _ ⟨x6, rfl, h7⟩
    refine sf rfl rfl <| ?_
    refine sc (ch_storeN rfl rfl (by first | (dsimp only [ovw, cellsL, List.set_cons_zero, List.set_cons_succ, Nat.reduceAdd, RV.v, LV.v, PV.v, IvV.v]; done) | exact rfl) (by repeat (first | exact .hd .. | apply OUpd.tl)) rfl (Nat.le_of_ble_eq_true rfl) rfl rfl ?_)
    refine st_end <| st_seq <| dr0 (b := b3) (fun _ => false) [(0, true), (1, true), (2, false), (3, true), (4, false), (5, true)] follows (by repeat (first | exact .hd .. | apply ORem.tl)) (by kernel_rfl) <| ?_
    refine dy rfl (fun _ => yd_load_own rfl rfl) rfl rfl <| dy rfl (fun _ => yd_load_own rfl rfl) rfl rfl <| ?_
    have hL : IsR (max k1 k2) G5 lo1 va := hlo1.up.mono' (by omega)
    have hH : IsR (max k1 k2) G5 x6 (if wb < vb then wb else vb) := h7.up.mono' (by omega)
    have hm : IsIv (max k1 k2) G5 ⟨lo1, x6, false, false⟩ (IvQ.meet ⟨va, vb, false, false⟩ ⟨wa, wb, true, false⟩) := ⟨hL, hH, rfl, rfl⟩
    refine dc rfl rfl (ch_call rfl rfl (Iv_empty hm (by omega)) rfl ?_)
    rintro _ G8 _ rfl
    refine dr_s <| dy rfl (fun _ => yd_not rfl) rfl rfl <| ?_
    refine dc rfl rfl (ch_storeN rfl rfl (by first | (dsimp only [ovw, cellsL, List.set_cons_zero, List.set_cons_succ, Nat.reduceAdd, RV.v, LV.v, PV.v, IvV.v]; done) | exact rfl) (by repeat (first | exact .hd .. | apply OUpd.tl)) rfl (Nat.le_of_ble_eq_true rfl) rfl rfl ?_)
    refine dr_s <| dy rfl (fun _ => yd_assign rfl) rfl rfl <| dn <| st_ret <| ?_
    exact st_done (.agg rfl inferInstance inferInstance rfl (.tmp rfl .nil)) ⟨_, rfl, hm.up⟩
  cases nh1
  case true =>
    refine st_seq <| st_region <| ?_
    refine sc (ch_box rfl rfl ?_)
    intro b1
    refine sc (ch_box rfl rfl ?_)
    intro b2
    refine sc (ch_alloc rfl ?_)
    intro b3
    refine sa rfl rfl <| st_end <| st_seq <| st_region <| slo rfl rfl rfl <| ?_
    refine sc (ch_alloc rfl ?_)
    intro b4
    refine sc (ch_storeN rfl rfl (by first | (dsimp only [ovw, cellsL, List.set_cons_zero, List.set_cons_succ, Nat.reduceAdd, RV.v, LV.v, PV.v, IvV.v]; done) | exact rfl) (by repeat (first | exact .hd .. | apply OUpd.tl)) rfl (Nat.le_of_ble_eq_true rfl) rfl rfl ?_)
    refine st_end <| st_seq <| st_block <| st_seq <| st_region <| sf rfl rfl <| slo1 rfl rfl rfl <| sa rfl rfl <| st_end <| st_condF rfl <| st_seq <| st_region <| sf rfl rfl <| slo1 rfl rfl rfl <| ?_
    refine sy (yd_not rfl) rfl <| sa rfl rfl <| st_end <| st_condT rfl <| st_region <| sf rfl rfl <| slo rfl rfl rfl <| sf rfl rfl <| slo rfl rfl rfl <| ?_
    refine sc (ch_call rfl rfl (frac_Max hlo1 hlo2 (by omega)) rfl ?_)
    rintro _ G5 _ ⟨x6, rfl, h7⟩
    refine sf rfl rfl <| ?_
    refine sc (ch_storeN rfl rfl (by first | (dsimp only [ovw, cellsL, List.set_cons_zero, List.set_cons_succ, Nat.reduceAdd, RV.v, LV.v, PV.v, IvV.v]; done) | exact rfl) (by repeat (first | exact .hd .. | apply OUpd.tl)) rfl (Nat.le_of_ble_eq_true rfl) rfl rfl ?_)
    refine st_end <| st_seq <| st_block <| st_seq <| st_region <| sf rfl rfl <| slo1 rfl rfl rfl <| sa rfl rfl <| st_end <| st_condT rfl <| dr0 (b := b4) (fun _ => false) [(0, true), (1, true), (2, true), (3, true), (4, true), (5, false), (6, true), (7, false)] follows (by repeat (first | exact .hd .. | apply ORem.tl)) (by kernel_rfl) <| ?_
    refine dy rfl (fun _ => yd_fieldAddr rfl) rfl rfl <| dy rfl (fun _ => yd_load_own rfl rfl) rfl rfl <| dy rfl (fun _ => yd_fieldAddr rfl) rfl rfl <| dy rfl (fun _ => yd_load_own1 rfl rfl) rfl rfl <| ?_
    refine dy rfl (fun _ => yd_fieldAddr rfl) rfl rfl <| ?_
    refine dc rfl rfl (ch_storeN rfl rfl (by first | (dsimp only [ovw, cellsL, List.set_cons_zero, List.set_cons_succ, Nat.reduceAdd, RV.v, LV.v, PV.v, IvV.v]; done) | exact rfl) (by repeat (first | exact .hd .. | apply OUpd.tl)) rfl (Nat.le_of_ble_eq_true rfl) rfl rfl ?_)
    refine dr_s <| dy rfl (fun _ => yd_fieldAddr rfl) rfl rfl <| ?_
    refine dc rfl rfl (ch_storeN1 rfl rfl (by first | (dsimp only [ovw, cellsL, List.set_cons_zero, List.set_cons_succ, Nat.reduceAdd, RV.v, LV.v, PV.v, IvV.v]; done) | exact rfl) (by repeat (first | exact .hd .. | apply OUpd.tl)) (Nat.le_of_ble_eq_true rfl) rfl rfl ?_)
    refine dr_s <| dn <| st_seq <| dr0 (b := b3) (fun _ => false) [(0, true), (1, true), (2, false), (3, true), (4, false), (5, true)] follows (by repeat (first | exact .hd .. | apply ORem.tl)) (by kernel_rfl) <| ?_
    refine dy rfl (fun _ => yd_load_own rfl rfl) rfl rfl <| dy rfl (fun _ => yd_load_own rfl rfl) rfl rfl <| ?_
    have hL : IsR (max k1 k2) G5 x6 (if va < wa then wa else va) := h7.up.mono' (by omega)
    have hH : IsR (max k1 k2) G5 hi2 wb := hhi2.up.mono' (by omega)
    have hm : IsIv (max k1 k2) G5 ⟨x6, hi2, false, nh2⟩ (IvQ.meet ⟨va, vb, false, true⟩ ⟨wa, wb, false, nh2⟩) := ⟨hL, hH, rfl, rfl⟩
    refine dc rfl rfl (ch_call rfl rfl (Iv_empty hm (by omega)) rfl ?_)
    rintro _ G8 _ rfl
    refine dr_s <| dy rfl (fun _ => yd_not rfl) rfl rfl <| ?_
    refine dc rfl rfl (ch_storeN rfl rfl (by first | (dsimp only [ovw, cellsL, List.set_cons_zero, List.set_cons_succ, Nat.reduceAdd, RV.v, LV.v, PV.v, IvV.v]; done) | exact rfl) (by repeat (first | exact .hd .. | apply OUpd.tl)) rfl (Nat.le_of_ble_eq_true rfl) rfl rfl ?_)
    refine dr_s <| dy rfl (fun _ => yd_assign rfl) rfl rfl <| dn <| st_ret <| ?_
    exact st_done (.agg rfl inferInstance inferInstance rfl (.tmp rfl .nil)) ⟨_, rfl, hm.up⟩
  cases nh2
  case true =>
    refine st_seq <| st_region <| ?_
    refine sc (ch_box rfl rfl ?_)
    intro b1
    refine sc (ch_box rfl rfl ?_)
    intro b2
    refine sc (ch_alloc rfl ?_)
    intro b3
    refine sa rfl rfl <| st_end <| st_seq <| st_region <| slo rfl rfl rfl <| ?_
    refine sc (ch_alloc rfl ?_)
    intro b4
    refine sc (ch_storeN rfl rfl (by first | (dsimp only [ovw, cellsL, List.set_cons_zero, List.set_cons_succ, Nat.reduceAdd, RV.v, LV.v, PV.v, IvV.v]; done) | exact rfl) (by repeat (first | exact .hd .. | apply OUpd.tl)) rfl (Nat.le_of_ble_eq_true rfl) rfl rfl ?_)
    refine st_end <| st_seq <| st_block <| st_seq <| st_region <| sf rfl rfl <| slo1 rfl rfl rfl <| sa rfl rfl <| st_end <| st_condF rfl <| st_seq <| st_region <| sf rfl rfl <| slo1 rfl rfl rfl <| ?_
    refine sy (yd_not rfl) rfl <| sa rfl rfl <| st_end <| st_condT rfl <| st_region <| sf rfl rfl <| slo rfl rfl rfl <| sf rfl rfl <| slo rfl rfl rfl <| ?_
    refine sc (ch_call rfl rfl (frac_Max hlo1 hlo2 (by omega)) rfl ?_)
    rintro _ G5 _ ⟨x6, rfl, h7⟩
    refine sf rfl rfl <| ?_
    refine sc (ch_storeN rfl rfl (by first | (dsimp only [ovw, cellsL, List.set_cons_zero, List.set_cons_succ, Nat.reduceAdd, RV.v, LV.v, PV.v, IvV.v]; done) | exact rfl) (by repeat (first | exact .hd .. | apply OUpd.tl)) rfl (Nat.le_of_ble_eq_true rfl) rfl rfl ?_)
    refine st_end <| st_seq <| st_block <| st_seq <| st_region <| sf rfl rfl <| slo1 rfl rfl rfl <| sa rfl rfl <| st_end <| st_condF rfl <| st_seq <| st_region <| sf rfl rfl <| slo1 rfl rfl rfl <| ?_
    refine sy (yd_not rfl) rfl <| sa rfl rfl <| st_end <| st_condF rfl <| st_skipc <| st_seq <| dr0 (b := b3) (fun _ => false) [(0, true), (1, true), (2, false), (3, true), (4, false), (5, true)] follows (by repeat (first | exact .hd .. | apply ORem.tl)) (by kernel_rfl) <| ?_
    refine dy rfl (fun _ => yd_load_own rfl rfl) rfl rfl <| dy rfl (fun _ => yd_load_own rfl rfl) rfl rfl <| ?_
    have hL : IsR (max k1 k2) G5 x6 (if va < wa then wa else va) := h7.up.mono' (by omega)
    have hH : IsR (max k1 k2) G5 hi1 vb := hhi1.up.mono' (by omega)
    have hm : IsIv (max k1 k2) G5 ⟨x6, hi1, false, false⟩ (IvQ.meet ⟨va, vb, false, false⟩ ⟨wa, wb, false, true⟩) := ⟨hL, hH, rfl, rfl⟩
    refine dc rfl rfl (ch_call rfl rfl (Iv_empty hm (by omega)) rfl ?_)
    rintro _ G8 _ rfl
    refine dr_s <| dy rfl (fun _ => yd_not rfl) rfl rfl <| ?_
    refine dc rfl rfl (ch_storeN rfl rfl (by first | (dsimp only [ovw, cellsL, List.set_cons_zero, List.set_cons_succ, Nat.reduceAdd, RV.v, LV.v, PV.v, IvV.v]; done) | exact rfl) (by repeat (first | exact .hd .. | apply OUpd.tl)) rfl (Nat.le_of_ble_eq_true rfl) rfl rfl ?_)
    refine dr_s <| dy rfl (fun _ => yd_assign rfl) rfl rfl <| dn <| st_ret <| ?_
    exact st_done (.agg rfl inferInstance inferInstance rfl (.tmp rfl .nil)) ⟨_, rfl, hm.up⟩
  refine st_seq <| st_region <| ?_
  refine sc (ch_box rfl rfl ?_)
  intro b1
  refine sc (ch_box rfl rfl ?_)
  intro b2
  refine sc (ch_alloc rfl ?_)
  intro b3
  refine sa rfl rfl <| st_end <| st_seq <| st_region <| slo rfl rfl rfl <| ?_
  refine sc (ch_alloc rfl ?_)
  intro b4
  refine sc (ch_storeN rfl rfl (by first | (dsimp only [ovw, cellsL, List.set_cons_zero, List.set_cons_succ, Nat.reduceAdd, RV.v, LV.v, PV.v, IvV.v]; done) | exact rfl) (by repeat (first | exact .hd .. | apply OUpd.tl)) rfl (Nat.le_of_ble_eq_true rfl) rfl rfl ?_)
  refine st_end <| st_seq <| st_block <| st_seq <| st_region <| sf rfl rfl <| slo1 rfl rfl rfl <| sa rfl rfl <| st_end <| st_condF rfl <| st_seq <| st_region <| sf rfl rfl <| slo1 rfl rfl rfl <| ?_
  refine sy (yd_not rfl) rfl <| sa rfl rfl <| st_end <| st_condT rfl <| st_region <| sf rfl rfl <| slo rfl rfl rfl <| sf rfl rfl <| slo rfl rfl rfl <| ?_
  refine sc (ch_call rfl rfl (frac_Max hlo1 hlo2 (by omega)) rfl ?_)
  rintro _ G5 _ ⟨x6, rfl, h7⟩
  refine sf rfl rfl <| ?_
  refine sc (ch_storeN rfl rfl (by first | (dsimp only [ovw, cellsL, List.set_cons_zero, List.set_cons_succ, Nat.reduceAdd, RV.v, LV.v, PV.v, IvV.v]; done) | exact rfl) (by repeat (first | exact .hd .. | apply OUpd.tl)) rfl (Nat.le_of_ble_eq_true rfl) rfl rfl ?_)
  refine st_end <| st_seq <| st_block <| st_seq <| st_region <| sf rfl rfl <| slo1 rfl rfl rfl <| sa rfl rfl <| st_end <| st_condF rfl <| st_seq <| st_region <| sf rfl rfl <| slo1 rfl rfl rfl <| ?_
  refine sy (yd_not rfl) rfl <| sa rfl rfl <| st_end <| st_condT rfl <| st_region <| sf rfl rfl <| slo rfl rfl rfl <| sf rfl rfl <| slo rfl rfl rfl <| ?_
  refine sc (ch_call rfl rfl (frac_Min hhi1 hhi2 (by omega)) rfl ?_)
  rintro _ G8 _ ⟨x9, rfl, h10⟩
  refine sf rfl rfl <| ?_
  refine sc (ch_storeN rfl rfl (by first | (dsimp only [ovw, cellsL, List.set_cons_zero, List.set_cons_succ, Nat.reduceAdd, RV.v, LV.v, PV.v, IvV.v]; done) | exact rfl) (by repeat (first | exact .hd .. | apply OUpd.tl)) rfl (Nat.le_of_ble_eq_true rfl) rfl rfl ?_)
  refine st_end <| st_seq <| dr0 (b := b3) (fun _ => false) [(0, true), (1, true), (2, false), (3, true), (4, false), (5, true)] follows (by repeat (first | exact .hd .. | apply ORem.tl)) (by kernel_rfl) <| ?_
  refine dy rfl (fun _ => yd_load_own rfl rfl) rfl rfl <| dy rfl (fun _ => yd_load_own rfl rfl) rfl rfl <| ?_
  have hL : IsR (max k1 k2) G8 x6 (if va < wa then wa else va) := h7.up.mono' (by omega)
  have hH : IsR (max k1 k2) G8 x9 (if wb < vb then wb else vb) := h10.up.mono' (by omega)
  have hm : IsIv (max k1 k2) G8 ⟨x6, x9, false, false⟩ (IvQ.meet ⟨va, vb, false, false⟩ ⟨wa, wb, false, false⟩) := ⟨hL, hH, rfl, rfl⟩
  refine dc rfl rfl (ch_call rfl rfl (Iv_empty hm (by omega)) rfl ?_)
  rintro _ G11 _ rfl
  refine dr_s <| dy rfl (fun _ => yd_not rfl) rfl rfl <| ?_
  refine dc rfl rfl (ch_storeN rfl rfl (by first | (dsimp only [ovw, cellsL, List.set_cons_zero, List.set_cons_succ, Nat.reduceAdd, RV.v, LV.v, PV.v, IvV.v]; done) | exact rfl) (by repeat (first | exact .hd .. | apply OUpd.tl)) rfl (Nat.le_of_ble_eq_true rfl) rfl rfl ?_)
  refine dr_s <| dy rfl (fun _ => yd_assign rfl) rfl rfl <| dn <| st_ret <| ?_
  exact st_done (.agg rfl inferInstance inferInstance rfl (.tmp rfl .nil)) ⟨_, rfl, hm.up⟩
end Go.Sx
end
