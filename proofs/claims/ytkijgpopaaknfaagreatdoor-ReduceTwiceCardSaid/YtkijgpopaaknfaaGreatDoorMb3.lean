/-
  Natural numbers as lists of digits in base 2^32, the least significant first: plain lemmas. Slices, natural numbers and what is known of them in memory; operations on them. Package nat: the functions without a loop over two numbers. DERIVED: THE SHELF's CONTRACTS AT THIS DUMP, IN PLAIN WORDS (tools/lay-plain.mjs out of 'TryzShelf.lean', which tools/lay-shelf.mjs wrote): THE SAME DECLARATIONS UNDER THE SAME NAMES: 'import', 'namespace', 'open', 'def', 'theorem' AND NOTHING ELSE: no command of the shelf's: FOR A HAND-IN. Each laying: the table of numbers ('.._ren') and one theorem, a field a fact of the dump's own or the kernel's comparison; each contract: ONE APPLICATION. Package nat: words, the number of digits, comparison. Package nat: sum, difference, product. Package nat: the product, division by one digit, shifts.
-/
import Derived.Test.YtkijgpopaaknfaaGreatDoorMb2
import Derived.Shelf.Small.Bits
import Derived.Shelf.Bits.Mul64
import Derived.Test.YtkijgpopaaknfaaGreatDoorProg
section
namespace Go.Sx

def dv : List Nat → Nat
  | [] => 0
  | d :: t => d + 4294967296 * dv t
def DOk (ds : List Nat) : Prop := ∀ d ∈ ds, d < 4294967296
def Nrm (ds : List Nat) : Prop := ds.getLast? ≠ some 0

instance (ds : List Nat) : Decidable (Nrm ds) := inferInstanceAs (Decidable (ds.getLast? ≠ some 0))

theorem DOk.nil : DOk [] := fun _ h => by cases h
theorem DOk.cons {d : Nat} {ds : List Nat} (h : d < 4294967296) (k : DOk ds) : DOk (d :: ds) := fun x hx => by
  rcases List.mem_cons.1 hx with rfl | h'
  · exact h
  · exact k _ h'
theorem DOk.head {d : Nat} {ds : List Nat} (h : DOk (d :: ds)) : d < 4294967296 := h d List.mem_cons_self
theorem DOk.tail {d : Nat} {ds : List Nat} (h : DOk (d :: ds)) : DOk ds := fun x hx => h x (List.mem_cons_of_mem _ hx)
theorem DOk.append {a b : List Nat} (h : DOk a) (k : DOk b) : DOk (a ++ b) := fun x hx => by
  rcases List.mem_append.1 hx with h' | h'
  · exact h _ h'
  · exact k _ h'
theorem DOk.take {a : List Nat} (h : DOk a) (n : Nat) : DOk (a.take n) := fun x hx => h x (List.mem_of_mem_take hx)
theorem DOk.drop {a : List Nat} (h : DOk a) (n : Nat) : DOk (a.drop n) := fun x hx => h x (List.mem_of_mem_drop hx)
theorem DOk.get {a : List Nat} (h : DOk a) (i : Nat) : a.getD i 0 < 4294967296 := by
  rw [List.getD_eq_getElem?_getD]
  cases hi : a[i]? with
  | none => simp
  | some d => exact h d (List.mem_of_getElem? hi)
theorem DOk.set {a : List Nat} (h : DOk a) (i : Nat) {d : Nat} (hd : d < 4294967296) : DOk (a.set i d) := fun x hx => by
  rcases List.mem_or_eq_of_mem_set hx with h' | rfl
  · exact h _ h'
  · exact hd
theorem DOk.replicate (n : Nat) : DOk (List.replicate n 0) := fun x hx => by
  rw [List.eq_of_mem_replicate hx]; omega

theorem dv_append (a b : List Nat) : dv (a ++ b) = dv a + 4294967296 ^ a.length * dv b := by
  induction a with
  | nil => simp [dv]
  | cons d t ih =>
    simp only [List.cons_append, dv, ih, List.length_cons, Nat.pow_succ]
    rw [Nat.mul_add, ← Nat.add_assoc, ← Nat.mul_assoc, Nat.mul_comm 4294967296 (4294967296 ^ t.length)]
theorem dv_lt {ds : List Nat} (h : DOk ds) : dv ds < 4294967296 ^ ds.length := by
  induction ds with
  | nil => simp [dv]
  | cons d t ih =>
    have h1 := h.head
    have h2 := ih h.tail
    simp only [dv, List.length_cons, Nat.pow_succ]
    omega
theorem dv_replicate (n : Nat) : dv (List.replicate n 0) = 0 := by
  induction n with
  | zero => rfl
  | succ n ih => simp [List.replicate_succ, dv, ih]
theorem dv_take_succ (ds : List Nat) (i : Nat) : dv (ds.take (i + 1)) = dv (ds.take i) + 4294967296 ^ i * ds.getD i 0 := by
  by_cases h : i < ds.length
  · rw [List.take_succ_eq_append_getElem h, dv_append]
    simp [dv, Nat.min_eq_left (Nat.le_of_lt h), List.getD_eq_getElem?_getD, h]
  · have : ds.getD i 0 = 0 := by rw [List.getD_eq_getElem?_getD, List.getElem?_eq_none (by omega)]; rfl
    rw [this, List.take_of_length_le (by omega), List.take_of_length_le (by omega)]
    simp
theorem dv_split (ds : List Nat) (i : Nat) (h : i ≤ ds.length) : dv ds = dv (ds.take i) + 4294967296 ^ i * dv (ds.drop i) := by
  have := dv_append (ds.take i) (ds.drop i)
  rw [List.take_append_drop] at this
  rw [this]
  simp [Nat.min_eq_left h]

/-- the list without the zeros at its end -/
def trimD : List Nat → List Nat
  | [] => []
  | d :: t => match trimD t with
    | [] => if d = 0 then [] else [d]
    | t' => d :: t'
theorem trimD_cons (d : Nat) (t : List Nat) : trimD (d :: t) = if trimD t = [] ∧ d = 0 then [] else d :: trimD t := by
  simp only [trimD]
  cases h : trimD t with
  | nil => by_cases hd : d = 0 <;> simp [hd]
  | cons a b => simp
theorem dv_trimD (ds : List Nat) : dv (trimD ds) = dv ds := by
  induction ds with
  | nil => rfl
  | cons d t ih =>
    rw [trimD_cons]
    split
    · rename_i h
      rw [h.1] at ih
      simp [dv, ← ih, h.2]
    · simp [dv, ih]
theorem trimD_snoc0 (ds : List Nat) : trimD (ds ++ [0]) = trimD ds := by
  induction ds with
  | nil => rfl
  | cons d t ih => rw [List.cons_append, trimD_cons, trimD_cons, ih]
theorem trimD_snoc {ds : List Nat} {d : Nat} (h : d ≠ 0) : trimD (ds ++ [d]) = ds ++ [d] := by
  induction ds with
  | nil => simp [trimD, h]
  | cons e t ih => rw [List.cons_append, trimD_cons, ih]; simp
theorem Nrm.trimD (ds : List Nat) : Nrm (trimD ds) := by
  induction ds with
  | nil => simp [Nrm, Sx.trimD]
  | cons d t ih =>
    rw [trimD_cons]
    split
    · simp [Nrm]
    · rename_i h
      unfold Nrm at *
      rw [List.getLast?_cons]
      cases ht : (Sx.trimD t).getLast? with
      | none =>
        have : Sx.trimD t = [] := by simpa using ht
        simp only [Option.getD_none, ne_eq, Option.some.injEq]
        exact fun hd => h ⟨this, hd⟩
      | some x => rw [ht] at ih; simpa using ih
theorem trimD_len (ds : List Nat) : (trimD ds).length ≤ ds.length := by
  induction ds with
  | nil => simp [trimD]
  | cons d t ih =>
    rw [trimD_cons]
    split
    · simp
    · simp; omega
theorem trimD_take (ds : List Nat) : trimD ds = ds.take (trimD ds).length := by
  induction ds with
  | nil => rfl
  | cons d t ih =>
    rw [trimD_cons]
    split
    · rfl
    · simp only [List.length_cons, List.take_succ_cons]; rw [← ih]
theorem DOk.trimD {ds : List Nat} (h : DOk ds) : DOk (trimD ds) := by rw [trimD_take]; exact h.take _
theorem trimD_nrm {ds : List Nat} (h : Nrm ds) : trimD ds = ds := by
  rcases List.eq_nil_or_concat ds with rfl | ⟨l, d, rfl⟩
  · rfl
  · rw [List.concat_eq_append] at *
    exact trimD_snoc (fun e => by subst e; simp [Nrm] at h)

theorem nrm_ge {ds : List Nat} (h : Nrm ds) (hne : ds ≠ []) : 4294967296 ^ (ds.length - 1) ≤ dv ds := by
  rcases List.eq_nil_or_concat ds with rfl | ⟨l, d, rfl⟩
  · exact absurd rfl hne
  · rw [List.concat_eq_append] at *
    have hd : d ≠ 0 := fun e => by subst e; simp [Nrm] at h
    rw [dv_append]
    simp only [List.length_append, List.length_cons, List.length_nil, dv]
    have : 4294967296 ^ (l.length + (0 + 1) - 1) = 4294967296 ^ l.length := by congr 1
    rw [this]
    have h1 : 4294967296 ^ l.length * 1 ≤ 4294967296 ^ l.length * (d + 4294967296 * 0) := Nat.mul_le_mul_left _ (by omega)
    omega
theorem nrm_zero {ds : List Nat} (h : Nrm ds) : dv ds = 0 ↔ ds = [] := by
  constructor
  · intro h0
    by_cases hne : ds = []
    · exact hne
    · have := nrm_ge h hne
      have hp : 0 < 4294967296 ^ (ds.length - 1) := Nat.pow_pos (by omega)
      omega
  · rintro rfl; rfl
theorem dv_len_lt {a b : List Nat} (ha : DOk a) (hb : Nrm b) (h : a.length < b.length) : dv a < dv b := by
  have h1 := dv_lt ha
  have h2 := nrm_ge hb (fun e => by subst e; simp at h)
  have h3 : 4294967296 ^ a.length ≤ 4294967296 ^ (b.length - 1) := Nat.pow_le_pow_right (by omega) (by omega)
  omega
theorem dv_inj : ∀ {a b : List Nat}, DOk a → DOk b → a.length = b.length → dv a = dv b → a = b
  | [], [], _, _, _, _ => rfl
  | d :: t, e :: u, ha, hb, hl, h => by
    have h1 := ha.head
    have h2 := hb.head
    simp only [dv] at h
    have : d = e := by omega
    subst this
    rw [dv_inj ha.tail hb.tail (by simpa using hl) (by omega)]
theorem nrm_inj {a b : List Nat} (ha : DOk a) (hb : DOk b) (na : Nrm a) (nb : Nrm b) (h : dv a = dv b) : a = b := by
  refine dv_inj ha hb ?_ h
  rcases Nat.lt_trichotomy a.length b.length with h' | h' | h'
  · have := dv_len_lt ha nb h'; omega
  · exact h'
  · have := dv_len_lt hb na h'; omega
/-- a comparison from above -/
theorem dv_cmp {a b : List Nat} (ha : DOk a) (hb : DOk b) (i : Nat) (hia : i < a.length) (hib : i < b.length) (hl : a.length = b.length) (hs : a.drop (i + 1) = b.drop (i + 1)) (h : a.getD i 0 < b.getD i 0) : dv a < dv b := by
  rw [dv_split a (i + 1) (by omega), dv_split b (i + 1) (by omega), hs, dv_take_succ, dv_take_succ]
  have h1 := dv_lt (ha.take i)
  rw [List.length_take, Nat.min_eq_left (by omega)] at h1
  have h2 : 4294967296 ^ i * (a.getD i 0 + 1) ≤ 4294967296 ^ i * b.getD i 0 := Nat.mul_le_mul_left _ h
  rw [Nat.mul_add] at h2
  omega
/-- how many digits a number below 2^k has -/
theorem nrm_len {ds : List Nat} {k : Nat} (h : Nrm ds) (hk : dv ds < 2 ^ k) : 32 * ds.length ≤ k + 31 := by
  by_cases hne : ds = []
  · subst hne; simp
  · have h1 := nrm_ge h hne
    have h2 : (4294967296 : Nat) ^ (ds.length - 1) = 2 ^ (32 * (ds.length - 1)) := by
      rw [Nat.pow_mul]
    rw [h2] at h1
    have h3 : 2 ^ (32 * (ds.length - 1)) < 2 ^ k := Nat.lt_of_le_of_lt h1 hk
    have h4 := (Nat.pow_lt_pow_iff_right (by omega : 1 < 2)).1 h3
    have : 0 < ds.length := by cases ds with | nil => exact absurd rfl hne | cons _ _ => simp
    omega
/-- the digits of a number -/
def dg (x : Nat) : List Nat := if h : x = 0 then [] else (x % 4294967296) :: dg (x / 4294967296)
termination_by x
decreasing_by omega
theorem dg_spec (x : Nat) : dv (dg x) = x ∧ DOk (dg x) ∧ Nrm (dg x) := by
  induction x using Nat.strongRecOn with
  | _ x ih =>
    unfold dg
    split
    · rename_i h; subst h; exact ⟨rfl, .nil, by simp [Nrm]⟩
    · rename_i h
      obtain ⟨h1, h2, h3⟩ := ih (x / 4294967296) (by omega)
      refine ⟨by rw [dv, h1]; omega, .cons (by omega) h2, ?_⟩
      unfold Nrm at *
      rw [List.getLast?_cons]
      cases hl : (dg (x / 4294967296)).getLast? with
      | none =>
        have : dg (x / 4294967296) = [] := by simpa using hl
        rw [this] at h1
        simp only [Option.getD_none, ne_eq, Option.some.injEq]
        simp only [dv] at h1
        omega
      | some y => rw [hl] at h3; simpa using h3
theorem dg_dv {ds : List Nat} (h : DOk ds) (n : Nrm ds) : dg (dv ds) = ds := nrm_inj (dg_spec _).2.1 h (dg_spec _).2.2 n (dg_spec _).1
theorem dg_trim {ds : List Nat} (h : DOk ds) : dg (dv ds) = trimD ds := by rw [← dv_trimD]; exact dg_dv h.trimD (Nrm.trimD _)

/-! ### writing a digit -/
theorem dv_set : ∀ (ws : List Nat) (j d : Nat), j < ws.length → dv (ws.set j d) + 4294967296 ^ j * ws.getD j 0 = dv ws + 4294967296 ^ j * d
  | [], j, d, h => by simp at h
  | w :: t, 0, d, h => by simp [dv]; omega
  | w :: t, j + 1, d, h => by
    have ih := dv_set t j d (by simpa using h)
    simp only [List.set_cons_succ, dv, List.getD_cons_succ, Nat.pow_succ]
    have h1 : 4294967296 ^ j * 4294967296 * t.getD j 0 = 4294967296 * (4294967296 ^ j * t.getD j 0) := by rw [Nat.mul_comm (4294967296 ^ j), Nat.mul_assoc]
    have h2 : 4294967296 ^ j * 4294967296 * d = 4294967296 * (4294967296 ^ j * d) := by rw [Nat.mul_comm (4294967296 ^ j), Nat.mul_assoc]
    rw [h1, h2]
    omega
theorem dv_set_take {ws : List Nat} {k d : Nat} (h : k < ws.length) : dv ((ws.set k d).take (k + 1)) = dv (ws.take k) + 4294967296 ^ k * d := by
  rw [List.take_succ_eq_append_getElem (by simpa using h), List.take_set_of_le (Nat.le_refl _), dv_append]
  simp [dv, Nat.min_eq_left (Nat.le_of_lt h)]
theorem mul_split (p x : Nat) : p * x = p * (x % 4294967296) + p * 4294967296 * (x / 4294967296) := by
  have h : p * x = p * (4294967296 * (x / 4294967296) + x % 4294967296) := by rw [Nat.div_add_mod]
  rw [Nat.mul_add, ← Nat.mul_assoc] at h
  omega
theorem add_step {p A E W c a b : Nat} (h : W + p * c = A + E) : (W + p * ((c + a + b) % 4294967296)) + (p * 4294967296) * ((c + a + b) / 4294967296) = (A + p * a) + (E + p * b) := by
  have h1 := mul_split p (c + a + b)
  rw [Nat.mul_add, Nat.mul_add] at h1
  omega
theorem sub_no {p A E W bo b a : Nat} (h : W + E = A + p * bo) (hle : bo + b ≤ a) : (W + p * (a - (bo + b))) + (E + p * b) = (A + p * a) + p * 4294967296 * 0 := by
  have h1 : p * a = p * (a - (bo + b)) + p * bo + p * b := by
    rw [← Nat.mul_add, ← Nat.mul_add]; congr 1; omega
  omega
theorem sub_yes {p A E W bo b a : Nat} (h : W + E = A + p * bo) (hle : a < bo + b) (hb : bo + b ≤ a + 4294967296) : (W + p * (a + 4294967296 - (bo + b))) + (E + p * b) = (A + p * a) + p * 4294967296 * 1 := by
  have h1 : p * a + p * 4294967296 = p * (a + 4294967296 - (bo + b)) + p * bo + p * b := by
    rw [← Nat.mul_add, ← Nat.mul_add, ← Nat.mul_add]; congr 1; omega
  omega
theorem mul_step {p W W' T c m w : Nat} (hs : W' + p * w = W + p * ((c + m + w) % 4294967296)) (h : W + p * c = T) : W' + (p * 4294967296) * ((c + m + w) / 4294967296) = T + p * m := by
  have h1 := mul_split p (c + m + w)
  rw [Nat.mul_add, Nat.mul_add] at h1
  omega
end Go.Sx
end

section
namespace Go.Sx
open Go

structure SV where
  a : Option Addr
  n : Nat
  c : Nat
def SV.v (x : SV) : Value := .slice x.a x.n x.c

/-- A slice whose elements are es (each of s cells). -/
structure IsSl (G : Gh) (s : Nat) (x : SV) (es : List Value) : Prop where
  len : x.n = es.length
  cap : x.n ≤ x.c
  mem : es = [] ∨ ∃ b off cs, x.a = some ⟨b, off, none⟩ ∧ G b = some cs ∧ ∀ i (h : i < es.length), takeL cs (off + i * s) s = some (cellsL es[i])
theorem IsSl.up' {A G : Gh} {s : Nat} {x : SV} {es : List Value} (h : IsSl A s x es) (k : GLe A G) : IsSl G s x es :=
  ⟨h.len, h.cap, h.mem.imp id (fun ⟨b, off, cs, h1, h2, h3⟩ => ⟨b, off, cs, h1, k _ _ h2, h3⟩)⟩
theorem IsSl.up {A G : Gh} {s : Nat} {x : SV} {es : List Value} (h : IsSl A s x es) [k : GL A G] : IsSl G s x es := h.up' k.le
theorem IsSl.nil (G : Gh) (s : Nat) : IsSl G s ⟨none, 0, 0⟩ [] := ⟨rfl, Nat.le_refl _, .inl rfl⟩
theorem IsSl.take {G : Gh} {s : Nat} {x : SV} {es : List Value} (h : IsSl G s x es) (k : Nat) (hk : k ≤ es.length) : IsSl G s ⟨x.a, k, x.c⟩ (es.take k) := by
  refine ⟨by simp [hk], by show k ≤ x.c; have := h.len; have := h.cap; omega, ?_⟩
  rcases h.mem with h0 | ⟨b, off, cs, h1, h2, h3⟩
  · left; simp [h0]
  · right; exact ⟨b, off, cs, h1, h2, fun i hi => by
      simp only [List.length_take] at hi
      rw [h3 i (by omega)]; simp⟩

def adAt (a : Option Addr) (k : Nat) : Option Addr := a.map (·.add k)

section
variable {P : Program} {C : Ctx} {n : Nat} {fr : Fr} {own own' : List Own} {G : Gh} {Φ : Act → World → Prop}
variable {dst : Option Nat} {t t' ty' : TypeId} {pos : String} {af : Array Edge} {gd : Option (Nat × Bool)} {x y : Operand} {e s by_ : Nat}

theorem yd_ix {A : Gh} [hT : TySl P t e s by_] {k : IntKind} {z : SV} {es : List Value} {i : Int} (hs : IsSl A s z es) (hx : opv fr x = some (.slice z.a z.n z.c)) (hy : opv fr y = some (.int k i)) (h0 : 0 ≤ i) (h1 : i < z.n) :
    Yd P C fr own G ⟨dst, .indexAddr t x y, ty', pos, af, gd⟩ (.pointer (adAt z.a (i.toNat * s))) := by
  rcases hs.mem with h | ⟨b, off, cs, ha, hg, hc⟩
  · have := hs.len; rw [h] at this; simp at this; omega
  · rw [ha] at hx
    have := yd_index (P := P) (C := C) (own := own) (G := G) (t := t) (dst := dst) (ty' := ty') (pos := pos) (af := af) (gd := gd) (by_ := by_) hx hy h0 h1
    rw [ha]
    simpa [adAt, addr_add] using this
theorem yd_ldA {A : Gh} [hA : TyA P t s] {z : SV} {es : List Value} {i : Nat} {l : List Value} (hs : IsSl A s z es) [hl : GL A G] (hx : opv fr x = some (.pointer (adAt z.a (i * s)))) (h1 : i < es.length) (he : es[i]? = some (.agg ⟨l⟩)) :
    Yd P C fr own G ⟨dst, .load t x, ty', pos, af, gd⟩ (.agg ⟨l⟩) := by
  rcases hs.mem with h | ⟨b, off, cs, ha, hg, hc⟩
  · rw [h] at h1; simp at h1
  · rw [ha] at hx
    have h2 := hc i h1
    rw [List.getElem?_eq_getElem h1] at he
    have he' : es[i] = .agg ⟨l⟩ := by simpa using he
    rw [he'] at h2
    exact yd_load_gh (by simpa [adAt, addr_add] using hx) (hl.le _ _ hg) h2
theorem yd_ldS {A : Gh} [hA : TyS P t] {z : SV} {es : List Value} {i : Nat} {v : Value} (hs : IsSl A 1 z es) [hl : GL A G] (hx : opv fr x = some (.pointer (adAt z.a (i * 1)))) (he : es[i]? = some v) (hv : flat v = true) :
    Yd P C fr own G ⟨dst, .load t x, ty', pos, af, gd⟩ v := by
  obtain ⟨h1, he'⟩ := List.getElem?_eq_some_iff.1 he
  rcases hs.mem with h | ⟨b, off, cs, ha, hg, hc⟩
  · rw [h] at h1; simp at h1
  · rw [ha] at hx
    have h2 := hc i h1
    rw [he'] at h2
    have hcv : cellsL v = [v] := by cases v <;> first | rfl | (simp [flat] at hv)
    rw [hcv] at h2
    obtain ⟨_, h3⟩ := takeL_spec _ _ _ _ h2
    have h4 := h3 0 (by omega)
    exact yd_load_gh1 (off := off + i * 1) (by simpa [adAt, addr_add] using hx) (hl.le _ _ hg) (by simpa using h4)
end

/-! ### lists of digits -/
def dI (d : Nat) : Value := .int .u32 (d : Int)
structure IsD (G : Gh) (x : SV) (ds : List Nat) : Prop where
  ok : DOk ds
  sl : IsSl G 1 x (ds.map dI)
theorem IsD.len {G : Gh} {x : SV} {ds : List Nat} (h : IsD G x ds) : x.n = ds.length := by simpa using h.sl.len
theorem IsD.up {A G : Gh} {x : SV} {ds : List Nat} (h : IsD A x ds) [k : GL A G] : IsD G x ds := ⟨h.ok, h.sl.up⟩
theorem IsD.nil (G : Gh) : IsD G ⟨none, 0, 0⟩ [] := ⟨.nil, .nil G 1⟩
theorem IsD.take {G : Gh} {x : SV} {ds : List Nat} (h : IsD G x ds) (k : Nat) (hk : k ≤ ds.length) : IsD G ⟨x.a, k, x.c⟩ (ds.take k) :=
  ⟨h.ok.take k, by rw [List.map_take]; exact h.sl.take k (by simpa using hk)⟩
theorem IsD.trim {G : Gh} {x : SV} {ds : List Nat} (h : IsD G x ds) : IsD G ⟨x.a, (trimD ds).length, x.c⟩ (trimD ds) := by
  have := h.take _ (trimD_len ds)
  rwa [← trimD_take] at this
/-- a block of digits that is written no more -/
theorem IsD.of_block {G : Gh} {b c k : Nat} {cs : List Value} {ds : List Nat} (ok : DOk ds) (hg : G b = some cs) (hk : k = ds.length) (hc : k ≤ c) (hcs : cs.take ds.length = ds.map dI) : IsD G ⟨some ⟨b, 0, none⟩, k, c⟩ ds := by
  refine ⟨ok, by simpa using hk, hc, .inr ⟨b, 0, cs, rfl, hg, fun i hi => ?_⟩⟩
  have hi' : i < ds.length := by simpa using hi
  have hl : ds.length ≤ cs.length := by
    have := congrArg List.length hcs
    simp at this; omega
  rw [takeL_of _ _ _ (by omega)]
  congr 1
  have h1 : (cs.take ds.length)[i]? = (ds.map dI)[i]? := by rw [hcs]
  rw [List.getElem?_take, if_pos hi', List.getElem?_map, List.getElem?_eq_getElem hi', List.getElem?_eq_getElem (by omega)] at h1
  have h2 : cs[i] = dI ds[i] := by simpa using h1
  rw [Nat.zero_add, Nat.mul_one, List.drop_eq_getElem_cons (by omega), List.take_succ_cons, List.take_zero, h2, List.getElem_map]
  rfl

/-- the number x below 2^k, in normal form -/
structure IsN (k : Nat) (G : Gh) (x : SV) (v : Nat) : Prop where
  d : IsD G x (dg v)
  lt : v < 2 ^ k
theorem IsN.up {k : Nat} {A G : Gh} {x : SV} {v : Nat} (h : IsN k A x v) [GL A G] : IsN k G x v := ⟨h.d.up, h.lt⟩
theorem IsN.len {k : Nat} {G : Gh} {x : SV} {v : Nat} (h : IsN k G x v) : x.n = (dg v).length := h.d.len
theorem IsN.bits {k : Nat} {G : Gh} {x : SV} {v : Nat} (h : IsN k G x v) : 32 * x.n ≤ k + 31 := by
  rw [h.len]
  exact nrm_len (dg_spec v).2.2 (by rw [(dg_spec v).1]; exact h.lt)
theorem IsN.mono {k k' : Nat} {G : Gh} {x : SV} {v : Nat} (h : IsN k G x v) (hk : v < 2 ^ k') : IsN k' G x v := ⟨h.d, hk⟩
theorem IsN.of {k : Nat} {G : Gh} {x : SV} {ds : List Nat} (h : IsD G x ds) (hn : Nrm ds) (hk : dv ds < 2 ^ k) : IsN k G x (dv ds) := ⟨by rw [dg_dv h.ok hn]; exact h, hk⟩

section
variable {P : Program} {C : Ctx} {n : Nat} {fr : Fr} {own own' : List Own} {G : Gh} {Φ : Act → World → Prop}
variable {dst : Option Nat} {t t' ty' : TypeId} {pos : String} {af : Array Edge} {gd : Option (Nat × Bool)} {x y : Operand} {e s by_ : Nat}
theorem yd_ixD {A : Gh} [hT : TySl P t e 1 by_] {k : IntKind} {z : SV} {ds : List Nat} {i : Int} (hs : IsD A z ds) (hx : opv fr x = some (.slice z.a z.n z.c)) (hy : opv fr y = some (.int k i)) (h0 : 0 ≤ i) (h1 : i < z.n) :
    Yd P C fr own G ⟨dst, .indexAddr t x y, ty', pos, af, gd⟩ (.pointer (adAt z.a (i.toNat * 1))) := yd_ix hs.sl hx hy h0 h1
theorem yd_ldD {A : Gh} [hA : TyS P t] {z : SV} {ds : List Nat} {i : Nat} (hs : IsD A z ds) [hl : GL A G] (hx : opv fr x = some (.pointer (adAt z.a (i * 1)))) (h1 : i < ds.length) :
    Yd P C fr own G ⟨dst, .load t x, ty', pos, af, gd⟩ (.int .u32 ((ds.getD i 0 : Nat) : Int)) :=
  yd_ldS hs.sl hx (by rw [List.getElem?_map, List.getElem?_eq_getElem h1, List.getD_eq_getElem?_getD, List.getElem?_eq_getElem h1]; rfl) rfl

theorem src_D {A : Gh} {z : SV} {ds : List Nat} (h : IsD A z ds) [hl : GL A G] : Src P C own G 1 z.n (.slice z.a z.n z.c) (ds.map dI) := by
  intro w hw
  by_cases hne : ds = []
  · rw [h.len]
    subst hne
    exact src_zero w hw
  rcases h.sl.mem with h0 | ⟨b, off, cs, ha, hg, hc⟩
  · exact absurd (by simpa using h0) hne
  · rw [ha]
    have hn := h.len
    refine src_gh (hl.le _ _ hg) ?_ w hw
    rw [Nat.mul_one]
    have hel : ∀ i, i < ds.length → cs[off + i]? = some (dI (ds.getD i 0)) := fun i hi => by
      have h1 := hc i (by simpa using hi)
      obtain ⟨_, h2⟩ := takeL_spec _ _ _ _ h1
      have h3 := h2 0 (by omega)
      rw [Nat.mul_one, Nat.add_zero] at h3
      rw [h3, List.getElem_map, List.getD_eq_getElem?_getD, List.getElem?_eq_getElem hi]
      rfl
    by_cases h00 : ds.length = 0
    · exact absurd h00 (fun e => hne (List.eq_nil_of_length_eq_zero e))
    · have hlast := hel (ds.length - 1) (by omega)
      have hle : off + ds.length ≤ cs.length := by
        have := (List.getElem?_eq_some_iff.1 hlast).1
        omega
      rw [hn, takeL_of _ _ _ hle]
      congr 1
      apply List.ext_getElem?
      intro i
      rw [List.getElem?_take]
      split
      · rename_i hi
        rw [List.getElem?_drop, hel i hi, List.getElem?_map, List.getD_eq_getElem?_getD, List.getElem?_eq_getElem hi]
        rfl
      · rename_i hi
        rw [List.getElem?_eq_none (by simpa using hi)]

/-! rows of digits of the call's own -/
theorem zeros_dI (n : Nat) : zeros (.int .u32 0) n = (List.replicate n 0).map dI := by
  unfold zeros
  induction n with
  | zero => rfl
  | succ n ih => rw [List.replicate_succ, List.flatten_cons, ih]; rfl
theorem yd_ixO [hT : TySl P t e s by_] {k : IntKind} {b len cap : Nat} {i : Int} (hx : opv fr x = some (.slice (some ⟨b, 0, none⟩) len cap)) (hy : opv fr y = some (.int k i)) (h0 : 0 ≤ i) (h1 : i < len) :
    Yd P C fr own G ⟨dst, .indexAddr t x y, ty', pos, af, gd⟩ (.pointer (some ⟨b, i.toNat * s, none⟩)) := by
  have := yd_index (P := P) (C := C) (own := own) (G := G) (t := t) (dst := dst) (ty' := ty') (pos := pos) (af := af) (gd := gd) (by_ := by_) hx hy h0 h1
  rwa [Nat.zero_add] at this
theorem yd_ldO [hA : TyS P t] {b i : Nat} {ws : List Nat} {ty : TypeId} {lo : Bool} (hx : opv fr x = some (.pointer (some ⟨b, i * 1, none⟩))) [ho : OAt own b (ws.map dI) ty lo] (h1 : i < ws.length) :
    Yd P C fr own G ⟨dst, .load t x, ty', pos, af, gd⟩ (.int .u32 ((ws.getD i 0 : Nat) : Int)) := by
  rw [Nat.mul_one] at hx
  refine yd_load_own1 hx ?_
  rw [List.getElem?_map, List.getElem?_eq_getElem h1, List.getD_eq_getElem?_getD, List.getElem?_eq_getElem h1]
  rfl
theorem ch_storeD {b i d : Nat} {ws : List Nat} {ty : TypeId} {lo : Bool} {v : Int} [hs : TyS P t] (hx : opv fr x = some (.pointer (some ⟨b, i * 1, none⟩))) (hy : opv fr y = some (.int .u32 v)) (hv : v = (d : Int))
    (hu : OUpd own b (ws.map dI) ty lo ((ws.set i d).map dI) own') (hi : i < ws.length) (hd : dstOk n dst = true) (h : St C n (put fr dst undef) own' G Φ) :
    Ch P C n fr own G ⟨dst, .store t x y, ty', pos, af, gd⟩ Φ := by
  rw [Nat.mul_one] at hx
  have hu' : OUpd own b (ws.map dI) ty lo ((ws.map dI).set i (.int .u32 v)) own' := by
    rw [hv, ← show dI d = .int .u32 (d : Int) from rfl, ← List.map_set]
    exact hu
  exact ch_store1 hx hy hu' (by simpa using hi) rfl hd h

/-! arithmetic on ints, bounds as inequalities -/
theorem yd_add64 {p q : Int} (hx : opv fr x = some (.int .i64 p)) (hy : opv fr y = some (.int .i64 q)) (h0 : -9223372036854775808 ≤ p + q) (h1 : p + q ≤ 9223372036854775807) : Yd P C fr own G ⟨dst, .binOp .add t x y t', ty', pos, af, gd⟩ (.int .i64 (p + q)) := yd_add hx hy ⟨h0, h1⟩
theorem yd_sub64 {p q : Int} (hx : opv fr x = some (.int .i64 p)) (hy : opv fr y = some (.int .i64 q)) (h0 : -9223372036854775808 ≤ p - q) (h1 : p - q ≤ 9223372036854775807) : Yd P C fr own G ⟨dst, .binOp .sub t x y t', ty', pos, af, gd⟩ (.int .i64 (p - q)) := yd_sub hx hy ⟨h0, h1⟩
theorem yd_mul64 {p q : Int} (hx : opv fr x = some (.int .i64 p)) (hy : opv fr y = some (.int .i64 q)) (h0 : -9223372036854775808 ≤ p * q) (h1 : p * q ≤ 9223372036854775807) : Yd P C fr own G ⟨dst, .binOp .mul t x y t', ty', pos, af, gd⟩ (.int .i64 (p * q)) := yd_mul hx hy ⟨h0, h1⟩
theorem yd_addU {p q : Int} (hx : opv fr x = some (.int .u64 p)) (hy : opv fr y = some (.int .u64 q)) (h0 : 0 ≤ p + q) (h1 : p + q ≤ 18446744073709551615) : Yd P C fr own G ⟨dst, .binOp .add t x y t', ty', pos, af, gd⟩ (.int .u64 (p + q)) := yd_add hx hy ⟨h0, h1⟩
theorem yd_subU {p q : Int} (hx : opv fr x = some (.int .u64 p)) (hy : opv fr y = some (.int .u64 q)) (h0 : 0 ≤ p - q) (h1 : p - q ≤ 18446744073709551615) : Yd P C fr own G ⟨dst, .binOp .sub t x y t', ty', pos, af, gd⟩ (.int .u64 (p - q)) := yd_sub hx hy ⟨h0, h1⟩
theorem yd_mulU {p q : Int} (hx : opv fr x = some (.int .u64 p)) (hy : opv fr y = some (.int .u64 q)) (h0 : 0 ≤ p * q) (h1 : p * q ≤ 18446744073709551615) : Yd P C fr own G ⟨dst, .binOp .mul t x y t', ty', pos, af, gd⟩ (.int .u64 (p * q)) := yd_mul hx hy ⟨h0, h1⟩
/-- '>>', '<<' by a small count -/
theorem yd_shr {k k' : IntKind} {p q : Int} (hx : opv fr x = some (.int k p)) (hy : opv fr y = some (.int k' q)) (h0 : 0 ≤ q) : Yd P C fr own G ⟨dst, .binOp .shr t x y t', ty', pos, af, gd⟩ (.int k (p.fdiv (2 ^ min q.toNat k.bits))) := by
  intro a w hf hh
  simp only [execOp, opv_eval hf hx, opv_eval hf hy]
  have h1 : (eqGuard .shr t x y (.int k p) (.int k' q)).run P w = .ok () w := rfl
  have h2 : (binOp .shr t (.int k p) (.int k' q)).run P w = .ok (.int k (p.fdiv (2 ^ min q.toNat k.bits))) w := by
    simp [binOp, Op.shift, Int.not_lt.2 h0, run_pure]
  exact value_of (by rw [run_ok_bind h1]; exact h2)
theorem yd_shl {k k' : IntKind} {p q : Int} (hx : opv fr x = some (.int k p)) (hy : opv fr y = some (.int k' q)) (h0 : 0 ≤ q) : Yd P C fr own G ⟨dst, .binOp .shl t x y t', ty', pos, af, gd⟩ (.int k (k.wrap (p * 2 ^ min q.toNat k.bits))) := by
  intro a w hf hh
  simp only [execOp, opv_eval hf hx, opv_eval hf hy]
  have h1 : (eqGuard .shl t x y (.int k p) (.int k' q)).run P w = .ok () w := rfl
  have h2 : (binOp .shl t (.int k p) (.int k' q)).run P w = .ok (.int k (k.wrap (p * 2 ^ min q.toNat k.bits))) w := by
    simp [binOp, Op.shift, Int.not_lt.2 h0, run_pure]
  exact value_of (by rw [run_ok_bind h1]; exact h2)
/-- 'uint32(x)', 'uint64(x)', 'int(x)' where it fits -/
theorem yd_toU64 {k : IntKind} {p : Int} [hs : TyI P t k] [hd : TyI P t' .u64] (hx : opv fr x = some (.int k p)) (h0 : 0 ≤ p) (h1 : p ≤ 18446744073709551615) : Yd P C fr own G ⟨dst, .convert t t' x, ty', pos, af, gd⟩ (.int .u64 p) := yd_convi hx ⟨h0, h1⟩
theorem yd_toI64 {k : IntKind} {p : Int} [hs : TyI P t k] [hd : TyI P t' .i64] (hx : opv fr x = some (.int k p)) (h0 : -9223372036854775808 ≤ p) (h1 : p ≤ 9223372036854775807) : Yd P C fr own G ⟨dst, .convert t t' x, ty', pos, af, gd⟩ (.int .i64 p) := yd_convi hx ⟨h0, h1⟩
theorem wrap_u32 (p : Int) : IntKind.u32.wrap p = p % 4294967296 := by simp [IntKind.wrap, IntKind.bits, IntKind.signed]
theorem wrap_u64 (p : Int) : IntKind.u64.wrap p = p % 18446744073709551616 := by simp [IntKind.wrap, IntKind.bits, IntKind.signed]
theorem yd_toU32 {k : IntKind} {p : Int} [hs : TyI P t k] [hd : TyI P t' .u32] (hx : opv fr x = some (.int k p)) : Yd P C fr own G ⟨dst, .convert t t' x, ty', pos, af, gd⟩ (.int .u32 (p % 4294967296)) := by
  have := yd_conv (P := P) (C := C) (own := own) (G := G) (dst := dst) (ty' := ty') (pos := pos) (af := af) (gd := gd) (t := t) (t' := t') hx
  rwa [wrap_u32] at this
theorem yd_remU {k : IntKind} {p q : Int} (hx : opv fr x = some (.int k p)) (hy : opv fr y = some (.int k q)) (h0 : 0 ≤ p) (h : q ≠ 0) : Yd P C fr own G ⟨dst, .binOp .rem t x y t', ty', pos, af, gd⟩ (.int k (p % q)) := by
  have := yd_rem (P := P) (C := C) (own := own) (G := G) (dst := dst) (ty' := ty') (pos := pos) (af := af) (gd := gd) (t := t) (t' := t') hx hy h
  rwa [Int.tmod_eq_emod_of_nonneg h0] at this
theorem yd_quoU {p q : Int} (hx : opv fr x = some (.int .u64 p)) (hy : opv fr y = some (.int .u64 q)) (h0 : 0 ≤ p) (h1 : p ≤ 18446744073709551615) (h : 0 < q) : Yd P C fr own G ⟨dst, .binOp .quo t x y t', ty', pos, af, gd⟩ (.int .u64 (p / q)) := by
  have := yd_quow (P := P) (C := C) (own := own) (G := G) (dst := dst) (ty' := ty') (pos := pos) (af := af) (gd := gd) (t := t) (t' := t') hx hy (by omega)
  rw [Int.tdiv_eq_ediv_of_nonneg h0, wrap_u64, Int.emod_eq_of_lt (Int.ediv_nonneg h0 (by omega)) (by have := Int.ediv_le_self q h0; omega)] at this
  exact this
/-- the other way first -/
theorem st_condE {Q : Exit → Act → World → Prop} {p : Prop} {inst : Decidable p} {c : Operand} {x y : Code} (hc : opv fr c = some (.bool (@decide p inst))) (h2 : ¬ p → St C n fr own G (y.wp P Q)) (h1 : p → St C n fr own G (x.wp P Q)) :
    St C n fr own G ((Code.cond c x y).wp P Q) := st_condP hc h1 h2
end
end Go.Sx
end

section
set_option maxRecDepth 100000
namespace Go.Sx
open Go Go.Proofs

theorem trimD_step {ds : List Nat} {k : Nat} (hk : k < ds.length) (h : trimD ds = trimD (ds.take (k + 1))) (h0 : ds.getD k 0 = 0) : trimD ds = trimD (ds.take k) := by
  rw [h, List.take_succ_eq_append_getElem hk]
  have : ds[k] = 0 := by rw [List.getD_eq_getElem?_getD, List.getElem?_eq_getElem hk] at h0; simpa using h0
  rw [this, trimD_snoc0]
theorem trimD_stop {ds : List Nat} {k : Nat} (hk : k < ds.length) (h : trimD ds = trimD (ds.take (k + 1))) (h0 : ds.getD k 0 ≠ 0) : trimD ds = ds.take (k + 1) := by
  rw [h, List.take_succ_eq_append_getElem hk]
  have : ds[k] ≠ 0 := by rw [List.getD_eq_getElem?_getD, List.getElem?_eq_getElem hk] at h0; simpa using h0
  exact trimD_snoc this

theorem nat_trim {A G : Gh} {x : SV} {ds : List Nat} (hx : IsD A x ds) [GL A G] (hb : ds.length ≤ 1125899906842624) : Fn Tryz.prog 181 [x.v] G (fun v _ => v = .slice x.a (trimD ds).length x.c) := by
  have hlen := hx.len
  have hcap := hx.sl.cap
  refine Fn.intro Tryz.func181 rfl rfl Tryz.ntmps181 rfl ?_
  intro C _ _
  refine st_seq <| st_region <| sa rfl rfl <| st_end <| st_seq <| st_block <| ?_
  refine st_loop (X := Nat) (fun k => [(0, .slice x.a k x.c)]) (fun _ => []) (fun k _ => k ≤ ds.length ∧ trimD ds = trimD (ds.take k)) (fun k => k) ds.length ⟨Nat.le_refl _, by simp⟩ (hlen ▸ .cons rfl .nil) rfl ?_
  rintro k Gx _ ⟨hk, ht⟩
  refine st_seq <| st_seq <| st_region <| sm rfl rfl <| slen rfl rfl <| sy (yd_gtr rfl rfl) rfl <| sm rfl rfl <| ?_
  refine st_caseP 6 rfl (fun hg => ?_) (fun hg => ?_)
  · have hk1 : k - 1 < ds.length := by omega
    have hkt : ((k : Int) - 1).toNat = k - 1 := by omega
    have hk2 : k = k - 1 + 1 := by omega
    refine syg rfl rfl (yd_move rfl) rfl <| syg rfl rfl (yd_move rfl) rfl <| syg rfl rfl (yd_len rfl) rfl <| syg rfl rfl (yd_sub64 rfl rfl (by omega) (by omega)) rfl <| ?_
    refine syg rfl rfl (yd_ixD (z := ⟨x.a, k, x.c⟩) (hx.take k hk) rfl rfl (by omega) (by show _ < (k : Int); omega)) rfl <| syg rfl rfl (yd_ldD hx rfl (by omega)) rfl <| syg rfl rfl (yd_eql rfl rfl) rfl <| sy (yd_pickT rfl rfl) rfl <| st_end <| ?_
    rw [hkt]
    refine st_condE rfl (fun hc => ?_) (fun hc => ?_) -- slot 14
    · refine st_exit <| st_te <| st_te <| st_inBlock_eq <| st_seq <| st_region <| sm rfl rfl <| sa rfl rfl <| st_end <| st_ret <| ?_
      have hs := trimD_stop hk1 (hk2 ▸ ht) (fun e => hc (by rw [e]; rfl))
      refine st_done (.tmp rfl .nil) ?_
      rw [hs, ← hk2]
      simp [tupled, hk]
    refine st_skipc <| st_block <| st_region <| sm rfl rfl <| sm rfl rfl <| slen rfl rfl <| sy (yd_sub64 rfl rfl (by omega) (by omega)) rfl <| sy (yd_slice_hi rfl rfl (by omega) (by omega)) rfl <| ?_
    refine sa rfl rfl <| st_end <| ?_
    exact st_again (k - 1) ⟨by omega, trimD_step hk1 (hk2 ▸ ht) (by omega)⟩ (by omega) (.cons (by rw [← hkt]; rfl) .nil) rfl
  refine ss rfl rfl rfl rfl <| ss rfl rfl rfl rfl <| ss rfl rfl rfl rfl <| ss rfl rfl rfl rfl <| ss rfl rfl rfl rfl <| ss rfl rfl rfl rfl <| ?_
  refine ss rfl rfl rfl rfl <| sy (yd_pickF rfl rfl) rfl <| st_end <| st_condF rfl <| st_exit <| st_te <| st_te <| st_inBlock_eq <| st_seq <| st_region <| sm rfl rfl <| sa rfl rfl <| st_end <| st_ret <| ?_
  have hk0 : k = 0 := by omega
  subst hk0
  refine st_done (.tmp rfl .nil) ?_
  rw [ht]
  rfl

/-! ### Normal, Clone, Norm -/
theorem nat_Normal {A G : Gh} {x : SV} {ds : List Nat} (hx : IsD A x ds) [GL A G] (hb : ds.length ≤ 1125899906842624) : Fn Tryz.prog 139 [x.v] G (fun v _ => v = .bool (decide (Nrm ds))) := by
  have hlen := hx.len
  refine Fn.intro Tryz.func139 rfl rfl Tryz.ntmps139 rfl ?_
  intro C _ _
  refine st_seq <| st_region <| sa rfl rfl <| st_end <| st_seq <| st_region <| sm rfl rfl <| slen rfl rfl <| sy (yd_eql rfl rfl) rfl <| sm rfl rfl <| ?_
  refine st_caseP 6 rfl (fun hg => ?_) (fun hg => ?_)
  · refine ss rfl rfl rfl rfl <| ss rfl rfl rfl rfl <| ss rfl rfl rfl rfl <| ss rfl rfl rfl rfl <| ss rfl rfl rfl rfl <| ss rfl rfl rfl rfl <| ss rfl rfl rfl rfl <| sy (yd_pickT rfl rfl) rfl <| sa rfl rfl <| ?_
    refine st_end <| st_ret <| ?_
    refine st_done (.tmp rfl .nil) ?_
    have : ds = [] := List.eq_nil_of_length_eq_zero (by omega)
    subst this
    simp [tupled, Nrm]
  have hne : 0 < ds.length := by omega
  have hkt : ((x.n : Int) - 1).toNat = ds.length - 1 := by omega
  refine syg rfl rfl (yd_move rfl) rfl <| syg rfl rfl (yd_move rfl) rfl <| syg rfl rfl (yd_len rfl) rfl <| syg rfl rfl (yd_sub64 rfl rfl (by omega) (by omega)) rfl <| syg rfl rfl (yd_ixD hx rfl rfl (by omega) (by omega)) rfl <| ?_
  refine syg rfl rfl (yd_ldD hx rfl (by omega)) rfl <| syg rfl rfl (yd_neq rfl rfl) rfl <| sy (yd_pickF rfl rfl) rfl <| sa rfl rfl <| st_end <| st_ret <| ?_
  refine st_done (.tmp rfl .nil) ?_
  rw [hkt]
  simp only [tupled, Value.bool.injEq, decide_eq_decide, Nrm, List.getLast?_eq_getElem?, List.getD_eq_getElem?_getD, List.getElem?_eq_getElem (show ds.length - 1 < ds.length by omega), Option.getD_some, ne_eq, Option.some.injEq]
  exact not_congr (by omega)

theorem dI_flat (ds : List Nat) : ∀ v ∈ ds.map dI, flat v = true := fun v hv => by
  obtain ⟨d, _, rfl⟩ := List.mem_map.1 hv; rfl

theorem nat_Clone {A G : Gh} {x : SV} {ds : List Nat} (hx : IsD A x ds) [GL A G] (hb : ds.length ≤ 1125899906842) : Fn Tryz.prog 212 [x.v] G (fun v G' => ∃ z : SV, v = z.v ∧ IsD G' z ds) := by
  have hlen := hx.len
  refine Fn.intro Tryz.func212 rfl rfl Tryz.ntmps212 rfl ?_
  intro C _ _
  refine st_seq <| st_region <| sa rfl rfl <| st_end <| st_seq <| st_seq <| st_region <| sm rfl rfl <| sy (yd_eqS rfl rfl) rfl <| st_end <| ?_
  refine st_condB rfl (fun hc => ?_) (fun hc => ?_)
  · refine st_seq <| st_region <| sa rfl rfl <| st_end <| st_ret <| ?_
    refine st_done (.tmp rfl .nil) ⟨⟨none, 0, 0⟩, rfl, ?_⟩
    rcases hx.sl.mem with h | ⟨b, off, cs, ha, _⟩
    · have : ds = [] := by simpa using h
      subst this; exact .nil _
    · rw [ha] at hc; cases hc
  refine st_skipc <| st_seq <| st_region <| ?_
  refine sc (ch_slice0 rfl ?_)
  intro b1
  refine sm rfl rfl <| ?_
  refine sc (ch_append_own (xs := []) (rest := []) (ys := ds.map dI) rfl rfl (.hd ..) rfl rfl (Nat.le_refl _) (src_D hx) (by simp [hlen]) (dI_flat ds) (by decide) (by omega) rfl rfl ?_)
  intro b cap rest h1 h2
  refine sa rfl rfl <| st_end <| st_freeze b (.hd ..) (fun G' _ hgb => ?_)
  refine st_ret <| ?_
  refine st_done (.tmp rfl .nil) ⟨⟨some ⟨b, 0, none⟩, x.n, cap⟩, by simp [tupled, SV.v], ?_⟩
  exact .of_block hx.ok hgb.h hlen (by omega) (by simp)

theorem nat_Norm {A G : Gh} {x : SV} {ds : List Nat} {k : Nat} (hx : IsD A x ds) [GL A G] (hk : dv ds < 2 ^ k) (hb : ds.length ≤ 1125899906842) : Fn Tryz.prog 180 [x.v] G (fun v G' => ∃ z : SV, v = z.v ∧ IsN k G' z (dv ds)) := by
  have htl := trimD_len ds
  refine Fn.intro Tryz.func180 rfl rfl Tryz.ntmps180 rfl ?_
  intro C _ _
  refine st_seq <| st_region <| sa rfl rfl <| st_end <| st_seq <| st_region <| sm rfl rfl <| ?_
  refine sc (ch_call rfl rfl (nat_trim hx (by omega)) rfl ?_)
  rintro _ G1 _ rfl
  refine sc (ch_call rfl rfl (nat_Clone hx.trim (by omega)) rfl ?_)
  rintro _ G2 _ ⟨z, rfl, hz⟩
  refine sa rfl rfl <| st_end <| st_ret <| ?_
  refine st_done (.tmp rfl .nil) ⟨z, rfl, ?_⟩
  exact ⟨by rw [dg_trim hx.ok]; exact hz, hk⟩

end Go.Sx
end

section
namespace Go.Proofs
open Go.Shelf
def Tryz.lays128_ren : Go.Shelf.Ren := ⟨fun | 128 => 225 | n => n, fun | 51 => 224 | 3 => 3 | 4 => 4 | 46 => 235 | 5 => 5 | 9 => 9 | n => n, fun | n => n⟩
def Tryz.lays133_ren : Go.Shelf.Ren := ⟨fun | 133 => 202 | 128 => 225 | n => n, fun | 51 => 224 | 3 => 3 | 4 => 4 | 46 => 235 | 5 => 5 | 9 => 9 | n => n, fun | n => n⟩
theorem Tryz.lays133 : Go.Proofs.Lays.n133 Tryz.prog Tryz.lays133_ren := {
  mixed := by kernel_rfl
  f128 := Tryz.func225.trans (congrArg some (by kernel_rfl))
  f133 := Tryz.func202.trans (congrArg some (by kernel_rfl))
  t3 := Tryz.underlying3
  a3 := Tryz.isAgg3
  z3 := Tryz.sizeOf3
  v3 := Tryz.zeroValue3
  t4 := Tryz.underlying4
  a4 := Tryz.isAgg4
  z4 := Tryz.sizeOf4
  v4 := Tryz.zeroValue4
  t5 := Tryz.underlying5
  a5 := Tryz.isAgg5
  z5 := Tryz.sizeOf5
  v5 := Tryz.zeroValue5
  t9 := Tryz.underlying9
  a9 := Tryz.isAgg9
  z9 := Tryz.sizeOf9
  v9 := Tryz.zeroValue9
  t46 := Tryz.underlying235
  a46 := Tryz.isAgg235
  z46 := Tryz.sizeOf235
  v46 := Tryz.zeroValue235
  t51 := Tryz.underlying224
  a51 := Tryz.isAgg224
  z51 := Tryz.sizeOf224
  v51 := Tryz.zeroValue224 }
/-- bits.LeadingZeros32: "LeadingZeros32 returns the number of leading zero bits in x; the result is 32 for x == 0.": IT RETURNS '32 - Lib.bitLen x'; the world is as it was. ITS CALLEE bits.Len32 IS MET BY ITS OWN CONTRACT OFF THE SHELF (lay that first): entered in place it sends the kernel out of memory. (LAID: no walk: one application.) -/
theorem Tryz.bits_LeadingZeros32 (x : Int) (w : World) (h0 : 0 ≤ x) (h1 : x ≤ 4294967295) :
    Calls Tryz.prog 202 #[.int .u32 x] w fun e w' => e = .returned (.int .i64 (32 - (Lib.bitLen x.toNat : Int))) ∧ w' = w := Any.bits_LeadingZeros32 Tryz.lays133 x w h0 h1
def Tryz.lays264_ren : Go.Shelf.Ren := ⟨fun | 264 => 233 | n => n, fun | 53 => 199 | 46 => 235 | n => n, fun | n => n⟩
theorem Tryz.lays264 : Go.Proofs.Lays.n264 Tryz.prog Tryz.lays264_ren := {
  mixed := by kernel_rfl
  f264 := Tryz.func233.trans (congrArg some (by kernel_rfl))
  t46 := Tryz.underlying235
  a46 := Tryz.isAgg235
  z46 := Tryz.sizeOf235
  v46 := Tryz.zeroValue235
  t53 := Tryz.underlying199
  a53 := Tryz.isAgg199
  z53 := Tryz.sizeOf199
  v53 := Tryz.zeroValue199 }
open Go.RowKit Go.Lib in
theorem Tryz.bits_Mul64 (x y : Nat) (hx : x < 18446744073709551616) (hy : y < 18446744073709551616) (w : World) :
    Calls Tryz.prog 233 #[.int .u64 x, .int .u64 y] w fun e w' => e = .returned (.tuple #[.int .u64 ((x * y / 18446744073709551616 : Nat) : Int), .int .u64 ((x * y % 18446744073709551616 : Nat) : Int)]) ∧ w' = w := Any.bits_Mul64 Tryz.lays264 x y hx hy w
end Go.Proofs
end

section
set_option maxRecDepth 100000
namespace Go.Sx
open Go Go.Proofs

/-! ### the number of binary digits -/
def bl (x : Nat) : Nat := if x = 0 then 0 else Nat.log2 x + 1
theorem bl_zero : bl 0 = 0 := rfl
theorem lt_bl (x : Nat) : x < 2 ^ bl x := by
  unfold bl
  split
  · rename_i h; subst h; decide
  · exact Nat.lt_log2_self
theorem bl_le {x k : Nat} : bl x ≤ k ↔ x < 2 ^ k := by
  constructor
  · intro h; exact Nat.lt_of_lt_of_le (lt_bl x) (Nat.pow_le_pow_right (by omega) h)
  · intro h
    unfold bl
    split
    · omega
    · rename_i h0
      have := (Nat.log2_lt h0).2 h
      omega
theorem bl_half {x : Nat} (h : x ≠ 0) : bl x = 1 + bl (x / 2) := by
  have h1 : ∀ k, bl x ≤ k + 1 ↔ bl (x / 2) ≤ k := fun k => by
    rw [bl_le, bl_le, Nat.pow_succ]; omega
  have h2 : bl x ≠ 0 := fun e => by
    have := lt_bl x; rw [e] at this; simp at this; exact h this
  have h3 := (h1 (bl (x / 2))).2 (Nat.le_refl _)
  have h4 := (h1 (bl x - 1)).1 (by omega)
  omega
theorem bitLenAux_eq : ∀ (f x : Nat), x < 2 ^ f → Lib.bitLenAux f x = bl x
  | 0, x, h => by
    have : x = 0 := by simpa using h
    subst this; rfl
  | f + 1, x, h => by
    unfold Lib.bitLenAux
    split
    · rename_i h0; subst h0; rfl
    · rename_i h0
      rw [bitLenAux_eq f (x / 2) (by rw [Nat.pow_succ] at h; omega), bl_half h0]
theorem bitLen_eq {x : Nat} (h : x < 2 ^ 64) : Lib.bitLen x = bl x := bitLenAux_eq 64 x h
theorem bl_shift {x k : Nat} (d : Nat) (h : x < 2 ^ k) (hd : d ≠ 0) : bl (x + 2 ^ k * d) = k + bl d := by
  have h1 : ∀ j, bl (x + 2 ^ k * d) ≤ k + j ↔ bl d ≤ j := fun j => by
    rw [bl_le, bl_le, Nat.pow_add]
    constructor
    · intro h'
      exact Nat.lt_of_mul_lt_mul_left (a := 2 ^ k) (by omega)
    · intro h'
      have : 2 ^ k * (d + 1) ≤ 2 ^ k * 2 ^ j := Nat.mul_le_mul_left _ h'
      rw [Nat.mul_add] at this
      omega
  have h2 : k < bl (x + 2 ^ k * d) := by
    rcases Nat.lt_or_ge k (bl (x + 2 ^ k * d)) with h' | h'
    · exact h'
    · have := bl_le.1 h'
      have h3 : 2 ^ k * 1 ≤ 2 ^ k * d := Nat.mul_le_mul_left _ (by omega)
      omega
  have h3 := (h1 (bl d)).2 (Nat.le_refl _)
  have h4 := (h1 (bl (x + 2 ^ k * d) - k)).1 (by omega)
  omega
theorem bl_dv {ds : List Nat} (h : DOk ds) (hn : Nrm ds) (hne : ds ≠ []) : bl (dv ds) = 32 * (ds.length - 1) + bl (ds.getD (ds.length - 1) 0) := by
  rcases List.eq_nil_or_concat ds with rfl | ⟨l, d, rfl⟩
  · exact absurd rfl hne
  · rw [List.concat_eq_append] at *
    have hd : d ≠ 0 := fun e => by subst e; simp [Nrm] at hn
    have hl : DOk l := fun x hx => h x (List.mem_append_left _ hx)
    have h1 := dv_lt hl
    rw [dv_append]
    have h2 : (4294967296 : Nat) ^ l.length = 2 ^ (32 * l.length) := by rw [Nat.pow_mul]
    rw [h2] at h1 ⊢
    have h3 : dv [d] = d := by simp [dv]
    rw [h3, bl_shift d h1 hd]
    have h4 : (l ++ [d]).length - 1 = l.length := by simp
    rw [h4, List.getD_eq_getElem?_getD, List.getElem?_append_right (Nat.le_refl _)]
    simp

theorem callable_of {P : Program} {f : FuncId} {fn : Func} {c : Code} (h : P.funcs[f]? = some fn) (hb : fn.body = some c) (hn : (fn.name == "runtime.NumGoroutine") = false) : Callable P f := ⟨fn, h, hn, by rw [hb]; rfl⟩
theorem bits_lz32 {G : Gh} {x : Nat} (hx : x < 4294967296) : Fn Tryz.prog 202 [.int .u32 (x : Int)] G (fun v _ => v = .int .i64 (32 - (bl x : Int))) := by
  have h := Fn.of_calls (G := G) (callable_of Tryz.func202 rfl rfl) (fun w => Tryz.bits_LeadingZeros32 (x : Int) w (by omega) (by omega))
  rw [Int.toNat_natCast, bitLen_eq (Nat.lt_trans hx (by decide))] at h
  exact h

/-! ### FromUint, Uint, Bits -/
theorem nat_FromUint {G : Gh} {u : Nat} (hu : u < 18446744073709551616) : Fn Tryz.prog 182 [.int .u64 (u : Int)] G (fun v G' => ∃ z : SV, v = z.v ∧ IsN 64 G' z u) := by
  refine Fn.intro Tryz.func182 rfl rfl Tryz.ntmps182 rfl ?_
  intro C _ _
  refine st_seq <| st_region <| sa rfl rfl <| st_end <| st_seq <| st_region <| sm rfl rfl <| sy (yd_toU32 rfl) rfl <| sm rfl rfl <| ?_
  refine sy (yd_shr rfl rfl (by decide)) rfl <| sy (yd_toU32 rfl) rfl <| ?_
  refine sc (ch_slice (by rfl) (by rfl) (by rfl) (by rfl) rfl ?_)
  intro b1
  refine st_freeze b1 (.hd ..) (fun G1 _ hgb => ?_)
  have h1 : ((u : Int) % 4294967296) = ((u % 4294967296 : Nat) : Int) := by omega
  have h2 : ((u : Int).fdiv (2 ^ min (32 : Int).toNat IntKind.u64.bits) % 4294967296) = ((u / 4294967296 : Nat) : Int) := by
    have : (2 ^ min (32 : Int).toNat IntKind.u64.bits : Int) = 4294967296 := by decide
    rw [this, Int.fdiv_eq_ediv_of_nonneg _ (by omega)]
    omega
  have hok : DOk [u % 4294967296, u / 4294967296] := .cons (by omega) (.cons (by omega) .nil)
  have hd : IsD G1 ⟨some ⟨b1, 0, none⟩, 2, 2⟩ [u % 4294967296, u / 4294967296] := .of_block hok hgb.h rfl (Nat.le_refl _) (by rw [h1, h2]; rfl)
  have hv : dv [u % 4294967296, u / 4294967296] = u := by simp only [dv]; omega
  refine sc (ch_call rfl rfl (nat_trim hd (by simp)) rfl ?_)
  rintro _ G2 _ rfl
  refine sa rfl rfl <| st_end <| st_ret <| ?_
  refine st_done (.tmp rfl .nil) ⟨⟨some ⟨b1, 0, none⟩, (trimD [u % 4294967296, u / 4294967296]).length, 2⟩, rfl, ?_⟩
  have := hd.trim.up (G := G2)
  rw [← dg_trim hok, hv] at this
  exact ⟨by rw [← dg_trim hok, hv]; exact this, Nat.lt_of_lt_of_le hu (by decide)⟩

theorem or_add {P : Program} {t : TypeId} (a b k : Nat) (ha : a < 2 ^ k) (h : a + b * 2 ^ k < 18446744073709551616) (w : World) : (binOp .or t (.int .u64 (a : Int)) (.int .u64 ((b * 2 ^ k : Nat) : Int))).run P w = .ok (.int .u64 ((a + b * 2 ^ k : Nat) : Int)) w := by
  have h1 : (BitVec.ofInt 64 (a : Int) ||| BitVec.ofInt 64 ((b * 2 ^ k : Nat) : Int)).toNat = a + b * 2 ^ k := by
    rw [BitVec.toNat_or, BitVec.ofInt_natCast, BitVec.ofInt_natCast, BitVec.toNat_ofNat, BitVec.toNat_ofNat, Nat.mod_eq_of_lt (by omega), Nat.mod_eq_of_lt (by omega)]
    rw [← Nat.shiftLeft_eq, Nat.or_comm, ← Nat.shiftLeft_add_eq_or_of_lt ha, Nat.shiftLeft_eq]
    omega
  have h2 : IntKind.u64.wrap ((a + b * 2 ^ k : Nat) : Int) = ((a + b * 2 ^ k : Nat) : Int) := by rw [wrap_u64]; omega
  simp only [binOp]
  show (Op.intBits .or .u64 (a : Int) ((b * 2 ^ k : Nat) : Int)).run P w = _
  unfold Op.intBits
  show (pure (Value.int .u64 (IntKind.u64.wrap ((BitVec.ofInt 64 (a : Int) ||| BitVec.ofInt 64 ((b * 2 ^ k : Nat) : Int)).toNat : Int))) : Sem Value).run P w = _
  rw [h1, h2, run_pure]

theorem nat_Uint {A G : Gh} {x : SV} {ds : List Nat} (hx : IsD A x ds) [GL A G] (hb : ds.length ≤ 1125899906842624) : Fn Tryz.prog 178 [x.v] G (fun v _ => v = .tuple #[.int .u64 ((if dv ds < 18446744073709551616 then dv ds else 0 : Nat) : Int), .bool (decide (dv ds < 18446744073709551616))]) := by
  have htl := trimD_len ds
  have hdv := dv_trimD ds
  have hok := hx.ok.trimD
  have hnr := Nrm.trimD ds
  have hxt := hx.trim
  have hcall := fun G1 (_ : GL A G1) => nat_trim (G := G1) hx (by omega)
  generalize trimD ds = es at *
  have hlen := hxt.len
  rw [← hdv]
  have hbig : (if dv es < 18446744073709551616 then dv es else 0) = if es.length ≤ 2 then dv es else 0 := by
    by_cases h2 : es.length ≤ 2
    · have h3 := dv_lt hok
      have h4 : (4294967296 : Nat) ^ es.length ≤ 4294967296 ^ 2 := Nat.pow_le_pow_right (by omega) h2
      rw [if_pos h2, if_pos (by omega)]
    · have h3 := nrm_ge hnr (fun e => by subst e; simp at h2)
      have h4 : (4294967296 : Nat) ^ 2 ≤ 4294967296 ^ (es.length - 1) := Nat.pow_le_pow_right (by omega) (by omega)
      rw [if_neg h2, if_neg (by omega)]
  have hbig2 : decide (dv es < 18446744073709551616) = decide (es.length ≤ 2) := by
    rw [decide_eq_decide]
    by_cases h2 : es.length ≤ 2
    · have h3 := dv_lt hok
      have h4 : (4294967296 : Nat) ^ es.length ≤ 4294967296 ^ 2 := Nat.pow_le_pow_right (by omega) h2
      exact ⟨fun _ => h2, fun _ => by omega⟩
    · have h3 := nrm_ge hnr (fun e => by subst e; simp at h2)
      have h4 : (4294967296 : Nat) ^ 2 ≤ 4294967296 ^ (es.length - 1) := Nat.pow_le_pow_right (by omega) (by omega)
      exact ⟨fun _ => by omega, fun h => absurd h h2⟩
  rw [hbig, hbig2]
  refine Fn.intro Tryz.func178 rfl rfl Tryz.ntmps178 rfl ?_
  intro C _ _
  refine st_seq <| st_region <| sa rfl rfl <| sa rfl rfl <| st_end <| st_seq <| st_region <| sm rfl rfl <| ?_
  refine sc (ch_call rfl rfl (hcall _ inferInstance) rfl ?_)
  rintro _ G1 _ rfl
  refine sa rfl rfl <| st_end <| st_seq <| st_seq <| st_region <| sm rfl rfl <| slen rfl rfl <| sy (yd_gtr rfl rfl) rfl <| st_end <| ?_
  refine st_condP rfl (fun hc => ?_) (fun hc => ?_) -- slot 11
  · refine st_seq <| st_region <| sa rfl rfl <| sa rfl rfl <| st_end <| st_ret <| ?_
    refine st_done (.tmp rfl (.tmp rfl .nil)) ?_
    have : ¬ es.length ≤ 2 := by omega
    simp [tupled, this]
  have h2 : es.length ≤ 2 := by omega
  refine st_skipc <| st_seq <| st_region <| sa rfl rfl <| st_end <| st_seq <| st_seq <| st_region <| sm rfl rfl <| slen rfl rfl <| sm rfl rfl <| st_end <| st_block <| ?_
  refine st_loop (X := Nat) (fun k => [(14, .int .i64 k), (13, .int .i64 es.length), (12, .slice x.a es.length x.c), (4, .int .u64 ((dv (es.take k) : Nat) : Int))]) (fun _ => []) (fun k _ => k ≤ es.length) (fun k => es.length - k) 0 (Nat.zero_le _) (.cons rfl (.cons rfl (.cons rfl (.cons rfl .nil)))) rfl ?_
  rintro k Gx _ hk
  refine st_seq <| st_region <| sy (yd_lss rfl rfl) rfl <| st_end <| st_seq <| ?_
  refine st_condE rfl (fun hc => ?_) (fun hc => ?_) -- slot 15
  · refine st_exit <| st_te <| st_te <| st_inBlock_eq <| st_seq <| st_region <| sm rfl rfl <| sa rfl rfl <| sa rfl rfl <| st_end <| st_ret <| ?_
    refine st_done (.tmp rfl (.tmp rfl .nil)) ?_
    have hk' : k = es.length := by omega
    subst hk'
    simp [tupled, h2]
  have hk' : k < es.length := by omega
  have hdk := hok.get k
  have hdt := dv_lt (hok.take k)
  rw [List.length_take, Nat.min_eq_left (by omega)] at hdt
  have hds := dv_take_succ es k
  have hd2 := dv_lt (hok.take (k + 1))
  rw [List.length_take, Nat.min_eq_left (by omega)] at hd2
  have hp2 : (4294967296 : Nat) ^ (k + 1) ≤ 4294967296 ^ 2 := Nat.pow_le_pow_right (by omega) (by omega)
  have hpk : (4294967296 : Nat) ^ k = 2 ^ (32 * k) := by rw [Nat.pow_mul]
  refine st_skipc <| st_seq <| st_block <| st_seq <| st_region <| sm rfl rfl <| sy (yd_ixD (z := ⟨x.a, es.length, x.c⟩) hxt rfl rfl (by omega) (by show (k : Int) < (es.length : Nat); omega)) rfl <| sy (yd_ldD hxt rfl (by omega)) rfl <| sa rfl rfl <| sa rfl rfl <| st_end <| st_region <| ?_
  refine sm rfl rfl <| sm rfl rfl <| sy (yd_toU64 rfl (by omega) (by rw [Int.toNat_natCast]; omega)) rfl <| sm rfl rfl <| sy (yd_mul64 rfl rfl (by omega) (by omega)) rfl <| ?_
  have hsh : IntKind.u64.wrap (((es.getD (k : Int).toNat 0 : Nat) : Int) * 2 ^ min ((32 : Int) * (k : Int)).toNat IntKind.u64.bits) = ((es.getD k 0 * 2 ^ (32 * k) : Nat) : Int) := by
    have e1 : ((32 : Int) * (k : Int)).toNat = 32 * k := by omega
    rw [e1, Int.toNat_natCast, Nat.min_eq_left (by show 32 * k ≤ 64; omega), wrap_u64]
    have e2 : ((es.getD k 0 : Nat) : Int) * 2 ^ (32 * k) = ((es.getD k 0 * 2 ^ (32 * k) : Nat) : Int) := by push_cast; rfl
    rw [e2]
    have e3 : es.getD k 0 * 2 ^ (32 * k) < 18446744073709551616 := by rw [← hpk, Nat.mul_comm]; omega
    omega
  refine sy (yd_shl rfl rfl (by omega)) rfl <| ?_
  rw [hsh]
  refine sy (yd_int rfl rfl (or_add (dv (es.take k)) (es.getD k 0) (32 * k) (by rw [← hpk]; exact hdt) (by rw [← hpk, Nat.mul_comm]; omega))) rfl <| sa rfl rfl <| st_end <| st_region <| sy (yd_add64 rfl rfl (by omega) (by omega)) rfl <| sm rfl rfl <| st_end <| ?_
  refine st_again (k + 1) (by omega) (by omega) (.cons rfl (.cons rfl (.cons rfl (.cons ?_ .nil)))) rfl
  rw [hds, hpk, Nat.mul_comm (2 ^ (32 * k))]
  rfl

theorem nat_Bits {A G : Gh} {x : SV} {ds : List Nat} (hx : IsD A x ds) [GL A G] (hb : ds.length ≤ 1125899906842624) : Fn Tryz.prog 174 [x.v] G (fun v _ => v = .int .i64 ((bl (dv ds) : Nat) : Int)) := by
  have htl := trimD_len ds
  have hdv := dv_trimD ds
  have hok := hx.ok.trimD
  have hnr := Nrm.trimD ds
  have hxt := hx.trim
  have hcall := fun G1 (_ : GL A G1) => nat_trim (G := G1) hx (by omega)
  generalize trimD ds = es at *
  have hlen := hxt.len
  rw [← hdv]
  refine Fn.intro Tryz.func174 rfl rfl Tryz.ntmps174 rfl ?_
  intro C _ _
  refine st_seq <| st_region <| sa rfl rfl <| st_end <| st_seq <| st_region <| sm rfl rfl <| ?_
  refine sc (ch_call rfl rfl (hcall _ inferInstance) rfl ?_)
  rintro _ G1 _ rfl
  refine sa rfl rfl <| st_end <| st_seq <| st_seq <| st_region <| sm rfl rfl <| slen rfl rfl <| sy (yd_eql rfl rfl) rfl <| st_end <| ?_
  refine st_condP rfl (fun hc => ?_) (fun hc => ?_) -- slot 7
  · refine st_seq <| st_region <| sa rfl rfl <| st_end <| st_ret <| ?_
    refine st_done (.tmp rfl .nil) ?_
    have : es = [] := List.eq_nil_of_length_eq_zero (by omega)
    subst this
    rfl
  have hne : 0 < es.length := by omega
  have hkt : ((es.length : Int) - 1).toNat = es.length - 1 := by omega
  have hg := hok.get (es.length - 1)
  have hbl : bl (es.getD (es.length - 1) 0) ≤ 32 := bl_le.2 (by omega)
  refine st_skipc <| st_seq <| st_region <| sm rfl rfl <| slen rfl rfl <| sy (yd_mul64 rfl rfl (by omega) (by omega)) rfl <| sm rfl rfl <| sm rfl rfl <| slen rfl rfl <| sy (yd_sub64 rfl rfl (by omega) (by omega)) rfl <| ?_
  refine sy (yd_ixD (z := ⟨x.a, es.length, x.c⟩) hxt rfl rfl (by omega) (by show _ < ((es.length : Nat) : Int); omega)) rfl <| sy (yd_ldD hxt rfl (by omega)) rfl <| ?_
  rw [hkt]
  refine sc (ch_call rfl rfl (bits_lz32 hg) rfl ?_)
  rintro _ G2 _ rfl
  refine sy (yd_sub64 rfl rfl (by omega) (by omega)) rfl <| sa rfl rfl <| st_end <| st_ret <| ?_
  refine st_done (.tmp rfl .nil) ?_
  rw [bl_dv hok hnr (fun e => by subst e; simp at hne)]
  simp only [tupled, Value.int.injEq, true_and]
  omega

/-- the sign of a comparison -/
def cmpN (a b : Nat) : Int := if a < b then -1 else if a = b then 0 else 1
theorem nat_Cmp {A B G : Gh} {x y : SV} {ds es : List Nat} (hx : IsD A x ds) (hy : IsD B y es) [GL A G] [GL B G] (hb : ds.length ≤ 1125899906842624) (hb2 : es.length ≤ 1125899906842624) :
    Fn Tryz.prog 211 [x.v, y.v] G (fun v _ => v = .int .i64 (cmpN (dv ds) (dv es))) := by
  have htl := trimD_len ds
  have htl2 := trimD_len es
  have hcall := fun G1 (_ : GL A G1) => nat_trim (G := G1) hx (by omega)
  have hcall2 := fun G1 (_ : GL B G1) => nat_trim (G := G1) hy (by omega)
  have hxt := hx.trim
  have hyt := hy.trim
  have hok := hx.ok.trimD
  have hok2 := hy.ok.trimD
  have hnr := Nrm.trimD ds
  have hnr2 := Nrm.trimD es
  rw [← dv_trimD ds, ← dv_trimD es]
  generalize trimD ds = a at *
  generalize trimD es = b at *
  refine Fn.intro Tryz.func211 rfl rfl Tryz.ntmps211 rfl ?_
  intro C _ _
  refine st_seq <| st_region <| sa rfl rfl <| st_end <| st_seq <| st_region <| sm rfl rfl <| ?_
  refine sc (ch_call rfl rfl (hcall _ inferInstance) rfl ?_)
  rintro _ G1 _ rfl
  refine sm rfl rfl <| ?_
  refine sc (ch_call rfl rfl (hcall2 _ inferInstance) rfl ?_)
  rintro _ G2 _ rfl
  refine sa rfl rfl <| sa rfl rfl <| st_end <| st_seq <| st_seq <| st_region <| sm rfl rfl <| slen rfl rfl <| sm rfl rfl <| slen rfl rfl <| sy (yd_neq rfl rfl) rfl <| st_end <| ?_
  refine st_condP rfl (fun hc => ?_) (fun hc => ?_) -- slot 14
  · refine st_seq <| st_seq <| st_region <| sm rfl rfl <| slen rfl rfl <| sm rfl rfl <| slen rfl rfl <| sy (yd_lss rfl rfl) rfl <| st_end <| ?_
    refine st_condP rfl (fun hc2 => ?_) (fun hc2 => ?_) -- slot 19
    · refine st_seq <| st_region <| sa rfl rfl <| st_end <| st_ret <| ?_
      refine st_done (.tmp rfl .nil) ?_
      have := dv_len_lt hok hnr2 (by omega)
      simp [tupled, cmpN, this]
    refine st_skipc <| st_seq <| st_region <| sa rfl rfl <| st_end <| st_ret <| ?_
    refine st_done (.tmp rfl .nil) ?_
    have := dv_len_lt hok2 hnr (by omega)
    have h1 : ¬ dv a < dv b := by omega
    have h2 : ¬ dv a = dv b := by omega
    simp [tupled, cmpN, h1, h2]
  have hl : a.length = b.length := by omega
  refine st_skipc <| st_seq <| st_seq <| st_region <| sm rfl rfl <| slen rfl rfl <| sy (yd_sub64 rfl rfl (by omega) (by omega)) rfl <| sa rfl rfl <| st_end <| st_block <| ?_
  refine st_loop (X := Nat) (fun k => [(5, .int .i64 (k - 1)), (0, .slice x.a a.length x.c), (1, .slice y.a b.length y.c)]) (fun _ => []) (fun k _ => k ≤ a.length ∧ a.drop k = b.drop k) (fun k => k) a.length ⟨Nat.le_refl _, by rw [List.drop_length, hl, List.drop_length]⟩ (.cons rfl (.cons rfl (.cons rfl .nil))) rfl ?_
  rintro k Gx _ ⟨hk, hd⟩
  refine st_seq <| st_seq <| st_region <| sm rfl rfl <| sy (yd_geq rfl rfl) rfl <| st_end <| ?_
  refine st_condE rfl (fun hc => ?_) (fun hc => ?_) -- slot 24
  · refine st_exit <| st_te <| st_te <| st_inBlock_eq <| st_seq <| st_region <| sa rfl rfl <| st_end <| st_ret <| ?_
    refine st_done (.tmp rfl .nil) ?_
    have : k = 0 := by omega
    subst this
    have hab : a = b := by simpa using hd
    subst hab
    simp [tupled, cmpN]
  have hk1 : 0 < k := by omega
  have hkt : ((k : Int) - 1).toNat = k - 1 := by omega
  have hga := hok.get (k - 1)
  have hgb := hok2.get (k - 1)
  have hk2 : k - 1 + 1 = k := by omega
  refine st_skipc <| st_seq <| st_block <| st_block <| st_seq <| dr (fun _ => false) [(0, true), (1, true), (2, true), (3, true), (4, true), (5, true), (6, true), (7, true), (8, true), (9, true)] follows (by kernel_rfl) <| ?_
  refine dy rfl (fun _ => yd_move rfl) rfl rfl <| dy rfl (fun _ => yd_move rfl) rfl rfl <| dy rfl (fun _ => yd_ixD (z := ⟨x.a, a.length, x.c⟩) hxt rfl rfl (by omega) (by show _ < ((a.length : Nat) : Int); omega)) rfl rfl <| dy rfl (fun _ => yd_ldD hxt rfl (by omega)) rfl rfl <| ?_
  refine dy rfl (fun _ => yd_move rfl) rfl rfl <| dy rfl (fun _ => yd_move rfl) rfl rfl <| dy rfl (fun _ => yd_ixD (z := ⟨y.a, b.length, y.c⟩) hyt rfl rfl (by omega) (by show _ < ((b.length : Nat) : Int); omega)) rfl rfl <| dy rfl (fun _ => yd_ldD hyt rfl (by omega)) rfl rfl <| ?_
  refine dy rfl (fun _ => yd_lss rfl rfl) rfl rfl <| dy rfl (fun _ => yd_assign rfl) rfl rfl <| dn <| ?_
  refine st_condP rfl (fun hc2 => ?_) (fun hc2 => ?_) -- slot 27
  · refine st_seq <| st_region <| sa rfl rfl <| st_end <| st_ret <| ?_
    refine st_done (.tmp rfl .nil) ?_
    rw [hkt] at hc2
    have := dv_cmp hok hok2 (k - 1) (by omega) (by omega) hl (by rw [hk2]; exact hd) (by omega)
    simp [tupled, cmpN, this]
  refine st_seq <| dr (fun _ => false) [(0, true), (1, true), (2, true), (3, true), (4, true), (5, true), (6, true), (7, true), (8, true), (9, true)] follows (by kernel_rfl) <| dy rfl (fun _ => yd_move rfl) rfl rfl <| ?_
  refine dy rfl (fun _ => yd_move rfl) rfl rfl <| dy rfl (fun _ => yd_ixD (z := ⟨x.a, a.length, x.c⟩) hxt rfl rfl (by omega) (by show _ < ((a.length : Nat) : Int); omega)) rfl rfl <| dy rfl (fun _ => yd_ldD hxt rfl (by omega)) rfl rfl <| dy rfl (fun _ => yd_move rfl) rfl rfl <| ?_
  refine dy rfl (fun _ => yd_move rfl) rfl rfl <| dy rfl (fun _ => yd_ixD (z := ⟨y.a, b.length, y.c⟩) hyt rfl rfl (by omega) (by show _ < ((b.length : Nat) : Int); omega)) rfl rfl <| dy rfl (fun _ => yd_ldD hyt rfl (by omega)) rfl rfl <| dy rfl (fun _ => yd_gtr rfl rfl) rfl rfl <| ?_
  refine dy rfl (fun _ => yd_assign rfl) rfl rfl <| dn <| ?_
  rw [hkt] at *
  refine st_condP rfl (fun hc3 => ?_) (fun hc3 => ?_) -- slot 37
  · refine st_seq <| st_region <| sa rfl rfl <| st_end <| st_ret <| ?_
    refine st_done (.tmp rfl .nil) ?_
    have := dv_cmp hok2 hok (k - 1) (by omega) (by omega) hl.symm (by rw [hk2]; exact hd.symm) (by omega)
    have h1 : ¬ dv a < dv b := by omega
    have h2 : ¬ dv a = dv b := by omega
    simp [tupled, cmpN, h1, h2]
  refine st_skipc <| st_region <| sm rfl rfl <| sy (yd_sub64 rfl rfl (by omega) (by omega)) rfl <| sa rfl rfl <| st_end <| ?_
  refine st_again (k - 1) ⟨by omega, ?_⟩ (by omega) (.cons (by rw [show ((k - 1 : Nat) : Int) = (k : Int) - 1 by omega]; rfl) (.cons rfl (.cons rfl .nil))) rfl
  have heq : a.getD (k - 1) 0 = b.getD (k - 1) 0 := by omega
  rw [List.getD_eq_getElem?_getD, List.getD_eq_getElem?_getD, List.getElem?_eq_getElem (by omega), List.getElem?_eq_getElem (by omega)] at heq
  rw [List.drop_eq_getElem_cons (by omega : k - 1 < a.length), List.drop_eq_getElem_cons (by omega : k - 1 < b.length), hk2, hd]
  congr 1

end Go.Sx
end

section
set_option maxRecDepth 100000
namespace Go.Sx
open Go Go.Proofs

theorem getD_ge {ds : List Nat} {k : Nat} (h : ds.length ≤ k) : ds.getD k 0 = 0 := by
  rw [List.getD_eq_getElem?_getD, List.getElem?_eq_none h]; rfl
theorem getD_rep (n k : Nat) : (List.replicate n 0).getD k 0 = 0 := by
  rw [List.getD_eq_getElem?_getD]
  by_cases h : k < n
  · simp [h]
  · rw [List.getElem?_eq_none (by simpa using h)]; rfl
theorem add_lt {a b c : Nat} (ha : a < 4294967296) (hb : b < 4294967296) (hc : c ≤ 1) : (c + a + b) / 4294967296 ≤ 1 := by omega

structure NatAdd where
  ws : List Nat
  k : Nat
  c : Nat

set_option maxHeartbeats 1000000 in
theorem nat_Add {A B G : Gh} {x y : SV} {ds es : List Nat} {kk : Nat} (hx : IsD A x ds) (hy : IsD B y es) [GL A G] [GL B G] (hk : dv ds + dv es < 2 ^ kk) (hb : ds.length ≤ 1125899906842) (hb2 : es.length ≤ 1125899906842) :
    Fn Tryz.prog 235 [x.v, y.v] G (fun v G' => ∃ z : SV, v = z.v ∧ IsN kk G' z (dv ds + dv es)) := by
  have hlen := hx.len
  have hlen2 := hy.len
  refine Fn.intro Tryz.func235 rfl rfl Tryz.ntmps235 rfl ?_
  intro C _ _
  refine st_seq <| st_region <| sa rfl rfl <| st_end <| ?_
  refine st_cut ((SV × List Nat) × (SV × List Nat)) (fun q => [(0, .slice q.1.1.a q.1.1.n q.1.1.c), (1, .slice q.2.1.a q.2.1.n q.2.1.c)]) (fun _ => [])
    (fun q G => IsD G q.1.1 q.1.2 ∧ IsD G q.2.1 q.2.2 ∧ dv q.1.2 + dv q.2.2 = dv ds + dv es ∧ q.2.2.length ≤ q.1.2.length ∧ q.1.2.length ≤ 1125899906842) ?_ ?_
  · refine st_seq <| st_region <| sm rfl rfl <| slen rfl rfl <| sm rfl rfl <| slen rfl rfl <| sy (yd_lss rfl rfl) rfl <| st_end <| ?_
    refine st_condP rfl (fun hc => ?_) (fun hc => ?_) -- slot 13
    · refine st_region <| sm rfl rfl <| sm rfl rfl <| sa rfl rfl <| sa rfl rfl <| st_end <| ?_
      exact st_at ((y, es), (x, ds)) ⟨hy.up, hx.up, by simp; omega, by simp; omega, by simp; omega⟩ (.cons rfl (.cons rfl .nil)) rfl
    refine st_skipc <| ?_
    exact st_at ((x, ds), (y, es)) ⟨hx.up, hy.up, rfl, by simp; omega, by simp; omega⟩ (.cons rfl (.cons rfl .nil)) rfl
  rintro ⟨⟨x, a⟩, ⟨y, b⟩⟩ Gx _ ⟨hx, hy, hsum, hle, hba⟩
  rw [← hsum] at hk ⊢
  clear hlen hlen2 hsum
  have hlen := hx.len
  have hlen2 := hy.len
  simp only [] at hx hy hle hba hlen hlen2 hk ⊢
  refine st_seq <| st_region <| sm rfl rfl <| slen rfl rfl <| sy (yd_add64 rfl rfl (by omega) (by omega)) rfl <| ?_
  refine sc (ch_make rfl rfl (by omega) (by omega) (by omega) (by rfl) rfl ?_)
  intro b1
  rw [zeros_dI, show ((x.n : Int) + 1).toNat = a.length + 1 by omega]
  refine sa rfl rfl <| st_end <| st_seq <| st_region <| sa rfl rfl <| st_end <| st_seq <| st_seq <| st_region <| sm rfl rfl <| slen rfl rfl <| sm rfl rfl <| st_end <| st_block <| ?_
  refine st_loop (X := NatAdd) (fun q => [(22, .int .i64 q.k), (21, .int .i64 x.n), (20, .slice x.a x.n x.c), (6, .int .u64 q.c), (0, .slice x.a x.n x.c), (1, .slice y.a y.n y.c), (5, .slice (some ⟨b1, 0, none⟩) (a.length + 1) (a.length + 1))])
    (fun q => [⟨b1, q.ws.map dI, 224, true⟩])
    (fun q _ => q.k ≤ a.length ∧ q.ws.length = a.length + 1 ∧ DOk q.ws ∧ q.c ≤ 1 ∧ dv (q.ws.take q.k) + 4294967296 ^ q.k * q.c = dv (a.take q.k) + dv (b.take q.k)) (fun q => a.length - q.k) ⟨List.replicate (a.length + 1) 0, 0, 0⟩
    ⟨Nat.zero_le _, by simp, .replicate _, Nat.zero_le _, by simp [dv]⟩ (.cons rfl (.cons rfl (.cons rfl (.cons rfl (.cons rfl (.cons rfl (.cons rfl .nil))))))) rfl ?_
  rintro ⟨ws, k, c⟩ Gy _ ⟨hka, hwl, hwo, hc1, hinv⟩
  simp only [] at hka hwl hwo hc1 hinv ⊢
  refine st_seq <| st_region <| sy (yd_lss rfl rfl) rfl <| st_end <| st_seq <| ?_
  refine st_condE rfl (fun hc => ?_) (fun hc => ?_) -- slot 23
  · have hkn : k = a.length := by omega
    refine st_exit <| st_te <| st_te <| st_inBlock_eq <| st_seq <| st_region <| sm rfl rfl <| sm rfl rfl <| slen rfl rfl <| sm rfl rfl <| sy (yd_toU32 rfl) rfl <| ?_
    refine sy (yd_ixO rfl rfl (by omega) (by omega)) rfl <| ?_
    refine sc (ch_storeD (d := c) rfl rfl (by omega) (.hd ..) (by omega) rfl ?_)
    rw [show (x.n : Int).toNat = a.length by omega]
    refine st_end <| st_seq <| st_region <| sm rfl rfl <| ?_
    refine st_freeze b1 (.hd ..) (fun G1 _ hgb => ?_)
    have hwo2 : DOk (ws.set a.length c) := hwo.set _ (by omega)
    have hD : IsD G1 ⟨some ⟨b1, 0, none⟩, a.length + 1, a.length + 1⟩ (ws.set a.length c) := .of_block hwo2 hgb.h (by simp [hwl]) (Nat.le_refl _) (by rw [List.take_of_length_le (by simp)])
    have hdv : dv (ws.set a.length c) = dv a + dv b := by
      have h1 := dv_set_take (ws := ws) (k := a.length) (d := c) (by omega)
      rw [List.take_of_length_le (by simp; omega)] at h1
      rw [h1, ← hkn, hinv, hkn, List.take_of_length_le (Nat.le_refl _), List.take_of_length_le hle]
    refine sc (ch_call rfl rfl (nat_trim hD (by simp; omega)) rfl ?_)
    rintro _ G2 _ rfl
    refine sa rfl rfl <| st_end <| st_ret <| ?_
    refine st_done (.tmp rfl .nil) ⟨⟨some ⟨b1, 0, none⟩, (trimD (ws.set a.length c)).length, a.length + 1⟩, rfl, ?_⟩
    have h3 := hD.trim.up (G := G2)
    rw [← hdv] at hk ⊢
    exact ⟨by rw [dg_trim hwo2]; exact h3, hk⟩
  have hka' : k < a.length := by omega
  have hga := hx.ok.get k
  have hgb := hy.ok.get k
  refine st_skipc <| st_seq <| st_block <| st_seq <| st_region <| sm rfl rfl <| sy (yd_ixD hx rfl rfl (by omega) (by omega)) rfl <| sy (yd_ldD hx rfl (by omega)) rfl <| sa rfl rfl <| sa rfl rfl <| st_end <| st_seq <| ?_
  refine st_region <| sm rfl rfl <| sm rfl rfl <| sy (yd_toU64 rfl (by omega) (by rw [Int.toNat_natCast]; omega)) rfl <| sy (yd_addU rfl rfl (by omega) (by rw [Int.toNat_natCast]; omega)) rfl <| sa rfl rfl <| st_end <| ?_
  rw [Int.toNat_natCast]
  refine st_cut Unit (fun _ => [(22, .int .i64 k), (7, .int .i64 k), (21, .int .i64 x.n), (20, .slice x.a x.n x.c), (6, .int .u64 ((c + a.getD k 0 + b.getD k 0 : Nat) : Int)), (0, .slice x.a x.n x.c), (1, .slice y.a y.n y.c), (5, .slice (some ⟨b1, 0, none⟩) (a.length + 1) (a.length + 1))]) (fun _ => [⟨b1, ws.map dI, 224, true⟩]) (fun _ _ => True) ?_ ?_
  · refine st_seq <| st_region <| sm rfl rfl <| sm rfl rfl <| slen rfl rfl <| sy (yd_lss rfl rfl) rfl <| st_end <| ?_
    refine st_condP rfl (fun hc2 => ?_) (fun hc2 => ?_) -- slot 34
    · refine st_region <| sm rfl rfl <| sm rfl rfl <| sm rfl rfl <| sy (yd_ixD hy rfl rfl (by omega) (by omega)) rfl <| sy (yd_ldD hy rfl (by omega)) rfl <| sy (yd_toU64 rfl (by omega) (by rw [Int.toNat_natCast]; omega)) rfl <| ?_
      rw [Int.toNat_natCast]
      refine sy (yd_addU rfl rfl (by omega) (by omega)) rfl <| sa rfl rfl <| st_end <| ?_
      exact st_at () trivial (.cons rfl (.cons rfl (.cons rfl (.cons rfl (.cons (by rw [Int.natCast_add, Int.natCast_add]; rfl) (.cons rfl (.cons rfl (.cons rfl .nil)))))))) rfl
    refine st_skipc <| ?_
    have h0 : b.getD k 0 = 0 := getD_ge (by omega)
    exact st_at () trivial (.cons rfl (.cons rfl (.cons rfl (.cons rfl (.cons (by rw [h0, Nat.add_zero, Int.natCast_add]; rfl) (.cons rfl (.cons rfl (.cons rfl .nil)))))))) rfl
  rintro _ Gz _ _
  generalize hcc : c + a.getD k 0 + b.getD k 0 = cc
  have hcb : cc / 4294967296 ≤ 1 := by rw [← hcc]; exact add_lt hga hgb hc1
  refine st_seq <| st_region <| sm rfl rfl <| sm rfl rfl <| sm rfl rfl <| sy (yd_toU32 rfl) rfl <| sy (yd_ixO rfl rfl (by omega) (by omega)) rfl <| ?_
  rw [Int.toNat_natCast]
  refine sc (ch_storeD (d := cc % 4294967296) rfl rfl (by omega) (.hd ..) (by omega) rfl ?_)
  refine st_end <| st_region <| sm rfl rfl <| sy (yd_shr rfl rfl (by decide)) rfl <| sa rfl rfl <| st_end <| st_region <| sy (yd_add64 rfl rfl (by omega) (by omega)) rfl <| sm rfl rfl <| st_end <| ?_
  have hsh : ((cc : Int).fdiv (2 ^ min (32 : Int).toNat IntKind.u64.bits)) = ((cc / 4294967296 : Nat) : Int) := by
    have : (2 ^ min (32 : Int).toNat IntKind.u64.bits : Int) = 4294967296 := by decide
    rw [this, Int.fdiv_eq_ediv_of_nonneg _ (by omega)]; rfl
  rw [hsh]
  refine st_again ⟨ws.set k (cc % 4294967296), k + 1, cc / 4294967296⟩ ⟨by show k + 1 ≤ _; omega, by simp [hwl], hwo.set _ (by omega), hcb, ?_⟩ (by show a.length - (k + 1) < a.length - k; omega) (.cons rfl (.cons rfl (.cons rfl (.cons rfl (.cons rfl (.cons rfl (.cons rfl .nil))))))) rfl
  show dv ((ws.set k (cc % 4294967296)).take (k + 1)) + 4294967296 ^ (k + 1) * (cc / 4294967296) = dv (a.take (k + 1)) + dv (b.take (k + 1))
  rw [dv_set_take (by omega), dv_take_succ a, dv_take_succ b, ← hcc, Nat.pow_succ]
  exact add_step hinv

structure NatSub where
  ws : List Nat
  k : Nat
  c : Nat
theorem shr63 (p : Int) (h0 : 0 ≤ p) : p.fdiv (2 ^ min (63 : Int).toNat IntKind.u64.bits) = p / 9223372036854775808 := by
  have : (2 ^ min (63 : Int).toNat IntKind.u64.bits : Int) = 9223372036854775808 := by decide
  rw [this, Int.fdiv_eq_ediv_of_nonneg _ (by omega)]
theorem shr32 (p : Nat) : ((p : Int).fdiv (2 ^ min (32 : Int).toNat IntKind.u64.bits)) = ((p / 4294967296 : Nat) : Int) := by
  have : (2 ^ min (32 : Int).toNat IntKind.u64.bits : Int) = 4294967296 := by decide
  rw [this, Int.fdiv_eq_ediv_of_nonneg _ (by omega)]; rfl

set_option maxHeartbeats 1000000 in
theorem nat_less {A B G : Gh} {x y : SV} {a b : List Nat} {kk : Nat} (hx : IsD A x a) (hy : IsD B y b) [GL A G] [GL B G] (hle : b.length ≤ a.length) (hge : dv b ≤ dv a) (hk : dv a < 2 ^ kk) (hba : a.length ≤ 1125899906842) :
    Fn Tryz.prog 237 [x.v, y.v] G (fun v G' => ∃ z : SV, v = z.v ∧ IsN kk G' z (dv a - dv b)) := by
  have hlen := hx.len
  have hlen2 := hy.len
  refine Fn.intro Tryz.func237 rfl rfl Tryz.ntmps237 rfl ?_
  intro C _ _
  refine st_seq <| st_region <| sa rfl rfl <| st_end <| st_seq <| st_region <| sm rfl rfl <| slen rfl rfl <| ?_
  refine sc (ch_make rfl rfl (by omega) (by omega) (by omega) (by rfl) rfl ?_)
  intro b1
  rw [zeros_dI, show (x.n : Int).toNat = a.length by omega]
  refine sa rfl rfl <| st_end <| st_seq <| st_region <| sa rfl rfl <| st_end <| st_seq <| st_seq <| st_region <| sm rfl rfl <| slen rfl rfl <| sm rfl rfl <| st_end <| st_block <| ?_
  refine st_loop (X := NatSub) (fun q => [(16, .int .i64 q.k), (15, .int .i64 x.n), (14, .slice x.a x.n x.c), (6, .int .u64 q.c), (1, .slice y.a y.n y.c), (5, .slice (some ⟨b1, 0, none⟩) a.length a.length)])
    (fun q => [⟨b1, q.ws.map dI, 224, true⟩])
    (fun q _ => q.k ≤ a.length ∧ q.ws.length = a.length ∧ DOk q.ws ∧ q.c ≤ 1 ∧ dv (q.ws.take q.k) + dv (b.take q.k) = dv (a.take q.k) + 4294967296 ^ q.k * q.c) (fun q => a.length - q.k) ⟨List.replicate a.length 0, 0, 0⟩
    ⟨Nat.zero_le _, by simp, .replicate _, Nat.zero_le _, by simp [dv]⟩ (.cons rfl (.cons rfl (.cons rfl (.cons rfl (.cons rfl (.cons rfl .nil)))))) rfl ?_
  rintro ⟨ws, k, c⟩ Gy _ ⟨hka, hwl, hwo, hc1, hinv⟩
  simp only [] at hka hwl hwo hc1 hinv ⊢
  refine st_seq <| st_region <| sy (yd_lss rfl rfl) rfl <| st_end <| st_seq <| ?_
  refine st_condE rfl (fun hc => ?_) (fun hc => ?_) -- slot 17
  · have hkn : k = a.length := by omega
    refine st_exit <| st_te <| st_te <| st_inBlock_eq <| st_seq <| st_region <| sm rfl rfl <| ?_
    refine st_freeze b1 (.hd ..) (fun G1 _ hgb => ?_)
    have hD : IsD G1 ⟨some ⟨b1, 0, none⟩, a.length, a.length⟩ ws := .of_block hwo hgb.h hwl.symm (Nat.le_refl _) (by rw [List.take_of_length_le (by simp)])
    have hdv : dv ws = dv a - dv b := by
      rw [hkn, List.take_of_length_le (by omega), List.take_of_length_le hle, List.take_of_length_le (Nat.le_refl _)] at hinv
      have h2 := dv_lt hwo
      rw [hwl] at h2
      rcases Nat.eq_zero_or_pos c with h0 | h0
      · subst h0; omega
      · have : c = 1 := by omega
        subst this; omega
    refine sc (ch_call rfl rfl (nat_trim hD (by omega)) rfl ?_)
    rintro _ G2 _ rfl
    refine sa rfl rfl <| st_end <| st_ret <| ?_
    refine st_done (.tmp rfl .nil) ⟨⟨some ⟨b1, 0, none⟩, (trimD ws).length, a.length⟩, rfl, ?_⟩
    have h3 := hD.trim.up (G := G2)
    rw [← hdv]
    exact ⟨by rw [dg_trim hwo]; exact h3, by omega⟩
  have hka' : k < a.length := by omega
  have hga := hx.ok.get k
  have hgb := hy.ok.get k
  refine st_skipc <| st_seq <| st_block <| st_seq <| st_region <| sm rfl rfl <| sy (yd_ixD hx rfl rfl (by omega) (by omega)) rfl <| sy (yd_ldD hx rfl (by omega)) rfl <| sa rfl rfl <| sa rfl rfl <| st_end <| st_seq <| ?_
  rw [Int.toNat_natCast]
  refine st_region <| sm rfl rfl <| sa rfl rfl <| st_end <| ?_
  refine st_cut Unit (fun _ => [(16, .int .i64 k), (7, .int .i64 k), (15, .int .i64 x.n), (14, .slice x.a x.n x.c), (8, .int .u32 ((a.getD k 0 : Nat) : Int)), (9, .int .u64 ((c + b.getD k 0 : Nat) : Int)), (1, .slice y.a y.n y.c), (5, .slice (some ⟨b1, 0, none⟩) a.length a.length)]) (fun _ => [⟨b1, ws.map dI, 224, true⟩]) (fun _ _ => True) ?_ ?_
  · refine st_seq <| st_region <| sm rfl rfl <| sm rfl rfl <| slen rfl rfl <| sy (yd_lss rfl rfl) rfl <| st_end <| ?_
    refine st_condP rfl (fun hc2 => ?_) (fun hc2 => ?_) -- slot 25
    · refine st_region <| sm rfl rfl <| sm rfl rfl <| sm rfl rfl <| sy (yd_ixD hy rfl rfl (by omega) (by omega)) rfl <| sy (yd_ldD hy rfl (by omega)) rfl <| sy (yd_toU64 rfl (by omega) (by rw [Int.toNat_natCast]; omega)) rfl <| ?_
      rw [Int.toNat_natCast]
      refine sy (yd_addU rfl rfl (by omega) (by omega)) rfl <| sa rfl rfl <| st_end <| ?_
      exact st_at () trivial (.cons rfl (.cons rfl (.cons rfl (.cons rfl (.cons rfl (.cons (by rw [Int.natCast_add]; rfl) (.cons rfl (.cons rfl .nil)))))))) rfl
    refine st_skipc <| ?_
    have h0 : b.getD k 0 = 0 := getD_ge (by omega)
    exact st_at () trivial (.cons rfl (.cons rfl (.cons rfl (.cons rfl (.cons rfl (.cons (by rw [h0, Nat.add_zero]; rfl) (.cons rfl (.cons rfl .nil)))))))) rfl
  rintro _ Gz _ _
  generalize htt : c + b.getD k 0 = tt
  have htb : tt ≤ 4294967296 := by omega
  refine st_seq <| st_region <| sm rfl rfl <| sy (yd_toU64 rfl (by omega) (by omega)) rfl <| sm rfl rfl <| sy (yd_subw rfl rfl) rfl <| sa rfl rfl <| st_end <| st_seq <| st_region <| sm rfl rfl <| sm rfl rfl <| sm rfl rfl <| ?_
  rw [wrap_u64]
  refine sy (yd_toU32 rfl) rfl <| sy (yd_ixO rfl rfl (by omega) (by omega)) rfl <| ?_
  rw [Int.toNat_natCast]
  by_cases hno : tt ≤ a.getD k 0
  · refine sc (ch_storeD (d := a.getD k 0 - tt) rfl rfl (by omega) (.hd ..) (by omega) rfl ?_)
    refine st_end <| st_region <| sm rfl rfl <| sy (yd_shr rfl rfl (by decide)) rfl <| sa rfl rfl <| st_end <| st_region <| sy (yd_add64 rfl rfl (by omega) (by omega)) rfl <| sm rfl rfl <| st_end <| ?_
    rw [shr63 _ (by omega), show (((a.getD k 0 : Nat) : Int) - (tt : Int)) % 18446744073709551616 / 9223372036854775808 = ((0 : Nat) : Int) by omega]
    refine st_again ⟨ws.set k (a.getD k 0 - tt), k + 1, 0⟩ ⟨by show k + 1 ≤ _; omega, by simp [hwl], hwo.set _ (by omega), Nat.zero_le _, ?_⟩ (by show a.length - (k + 1) < a.length - k; omega) (.cons rfl (.cons rfl (.cons rfl (.cons rfl (.cons rfl (.cons rfl .nil)))))) rfl
    show dv ((ws.set k (a.getD k 0 - tt)).take (k + 1)) + dv (b.take (k + 1)) = dv (a.take (k + 1)) + 4294967296 ^ (k + 1) * 0
    rw [dv_set_take (by omega), dv_take_succ a, dv_take_succ b, ← htt, Nat.pow_succ]
    exact sub_no hinv (by omega)
  · refine sc (ch_storeD (d := a.getD k 0 + 4294967296 - tt) rfl rfl (by omega) (.hd ..) (by omega) rfl ?_)
    refine st_end <| st_region <| sm rfl rfl <| sy (yd_shr rfl rfl (by decide)) rfl <| sa rfl rfl <| st_end <| st_region <| sy (yd_add64 rfl rfl (by omega) (by omega)) rfl <| sm rfl rfl <| st_end <| ?_
    rw [shr63 _ (by omega), show (((a.getD k 0 : Nat) : Int) - (tt : Int)) % 18446744073709551616 / 9223372036854775808 = ((1 : Nat) : Int) by omega]
    refine st_again ⟨ws.set k (a.getD k 0 + 4294967296 - tt), k + 1, 1⟩ ⟨by show k + 1 ≤ _; omega, by simp [hwl], hwo.set _ (by omega), Nat.le_refl _, ?_⟩ (by show a.length - (k + 1) < a.length - k; omega) (.cons rfl (.cons rfl (.cons rfl (.cons rfl (.cons rfl (.cons rfl .nil)))))) rfl
    show dv ((ws.set k (a.getD k 0 + 4294967296 - tt)).take (k + 1)) + dv (b.take (k + 1)) = dv (a.take (k + 1)) + 4294967296 ^ (k + 1) * 1
    rw [dv_set_take (by omega), dv_take_succ a, dv_take_succ b, ← htt, Nat.pow_succ]
    exact sub_yes hinv (by omega) (by omega)

theorem nat_Sub {A B G : Gh} {x y : SV} {ds es : List Nat} {kk : Nat} (hx : IsD A x ds) (hy : IsD B y es) [GL A G] [GL B G] (hk : dv ds < 2 ^ kk) (hb : ds.length ≤ 1125899906842) (hb2 : es.length ≤ 1125899906842) :
    Fn Tryz.prog 236 [x.v, y.v] G (fun v G' => ∃ z : SV, v = .tuple #[z.v, .bool (decide (dv es ≤ dv ds))] ∧ IsN kk G' z (dv ds - dv es)) := by
  refine Fn.intro Tryz.func236 rfl rfl Tryz.ntmps236 rfl ?_
  intro C _ _
  refine st_seq <| st_region <| sa rfl rfl <| sa rfl rfl <| st_end <| st_seq <| st_seq <| st_region <| sm rfl rfl <| sm rfl rfl <| ?_
  refine sc (ch_call rfl rfl (nat_Cmp hx hy (by omega) (by omega)) rfl ?_)
  rintro _ G1 _ rfl
  refine sy (yd_lss rfl rfl) rfl <| st_end <| ?_
  refine st_condP rfl (fun hc => ?_) (fun hc => ?_) -- slot 9
  · have hlt : dv ds < dv es := by
      unfold cmpN at hc
      split at hc
      · assumption
      · split at hc <;> omega
    refine st_seq <| st_region <| sa rfl rfl <| sa rfl rfl <| st_end <| st_ret <| ?_
    refine st_done (.tmp rfl (.tmp rfl .nil)) ⟨⟨none, 0, 0⟩, ?_, ?_⟩
    · have : ¬ dv es ≤ dv ds := by omega
      simp [tupled, SV.v, this]
    · rw [Nat.sub_eq_zero_of_le (by omega)]
      exact ⟨by unfold dg; exact .nil _, Nat.pow_pos (by omega)⟩
  have hge : dv es ≤ dv ds := by
    unfold cmpN at hc
    split at hc
    · omega
    · omega
  have htl := trimD_len ds
  have htl2 := trimD_len es
  refine st_skipc <| st_seq <| st_region <| sm rfl rfl <| ?_
  refine sc (ch_call rfl rfl (nat_trim hx (by omega)) rfl ?_)
  rintro _ G2 _ rfl
  refine sm rfl rfl <| ?_
  refine sc (ch_call rfl rfl (nat_trim hy (by omega)) rfl ?_)
  rintro _ G3 _ rfl
  have hl : (trimD es).length ≤ (trimD ds).length := by
    rcases Nat.lt_or_ge (trimD ds).length (trimD es).length with h | h
    · have := dv_len_lt hx.ok.trimD (Nrm.trimD es) h
      rw [dv_trimD, dv_trimD] at this; omega
    · exact h
  refine sc (ch_call rfl rfl (nat_less (kk := kk) hx.trim hy.trim hl (by rw [dv_trimD, dv_trimD]; exact hge) (by rw [dv_trimD]; exact hk) (by omega)) rfl ?_)
  rintro _ G4 _ ⟨z, rfl, hz⟩
  refine sa rfl rfl <| sa rfl rfl <| st_end <| st_ret <| ?_
  refine st_done (.tmp rfl (.tmp rfl .nil)) ⟨z, by simp [tupled, hge], ?_⟩
  rw [dv_trimD, dv_trimD] at hz
  exact hz

end Go.Sx
end

section
set_option maxRecDepth 100000
namespace Go.Sx
open Go Go.Proofs

structure NatMulO where
  ws : List Nat
  i : Nat
structure NatMulI where
  ws : List Nat
  k : Nat
  c : Nat

theorem mul_c {x y w c : Nat} (hx : x < 4294967296) (hy : y < 4294967296) (hw : w < 4294967296) (hc : c < 4294967296) : c + x * y + w < 18446744073709551616 := by
  have : x * y ≤ 4294967295 * 4294967295 := Nat.mul_le_mul (by omega) (by omega)
  omega
theorem set_getD {ws : List Nat} {i j d : Nat} (h : i ≠ j) : (ws.set i d).getD j 0 = ws.getD j 0 := by
  rw [List.getD_eq_getElem?_getD, List.getD_eq_getElem?_getD, List.getElem?_set_ne h]
set_option maxHeartbeats 1000000 in
theorem nat_Mul {A B G : Gh} {x y : SV} {ds es : List Nat} {kk : Nat} (hx : IsD A x ds) (hy : IsD B y es) [GL A G] [GL B G] (hk : dv ds * dv es < 2 ^ kk) (hb : ds.length ≤ 562949953421) (hb2 : es.length ≤ 562949953421) :
    Fn Tryz.prog 143 [x.v, y.v] G (fun v G' => ∃ z : SV, v = z.v ∧ IsN kk G' z (dv ds * dv es)) := by
  have htl := trimD_len ds
  have htl2 := trimD_len es
  have hcall := fun G1 (_ : GL A G1) => nat_trim (G := G1) hx (by omega)
  have hcall2 := fun G1 (_ : GL B G1) => nat_trim (G := G1) hy (by omega)
  have hxt := hx.trim
  have hyt := hy.trim
  rw [← dv_trimD ds, ← dv_trimD es] at hk ⊢
  generalize trimD ds = a at *
  generalize trimD es = b at *
  have hok := hxt.ok
  have hok2 := hyt.ok
  refine Fn.intro Tryz.func143 rfl rfl Tryz.ntmps143 rfl ?_
  intro C _ _
  refine st_seq <| st_region <| sa rfl rfl <| st_end <| st_seq <| st_region <| sm rfl rfl <| ?_
  refine sc (ch_call rfl rfl (hcall _ inferInstance) rfl ?_)
  rintro _ G1 _ rfl
  refine sm rfl rfl <| ?_
  refine sc (ch_call rfl rfl (hcall2 _ inferInstance) rfl ?_)
  rintro _ G2 _ rfl
  refine sa rfl rfl <| sa rfl rfl <| st_end <| st_seq <| st_region <| sm rfl rfl <| slen rfl rfl <| sm rfl rfl <| slen rfl rfl <| sy (yd_add64 rfl rfl (by omega) (by omega)) rfl <| ?_
  refine sc (ch_make rfl rfl (by omega) (by omega) (by omega) (by rfl) rfl ?_)
  intro b3
  rw [zeros_dI, show ((a.length : Int) + (b.length : Int)).toNat = a.length + b.length by omega]
  refine sa rfl rfl <| st_end <| st_seq <| st_seq <| st_region <| sm rfl rfl <| slen rfl rfl <| sm rfl rfl <| st_end <| st_block <| ?_
  refine st_loop (X := NatMulO) (fun q => [(23, .int .i64 q.i), (22, .int .i64 a.length), (21, .slice x.a a.length x.c), (1, .slice y.a b.length y.c), (5, .slice (some ⟨b3, 0, none⟩) (a.length + b.length) (a.length + b.length))])
    (fun q => [⟨b3, q.ws.map dI, 224, true⟩])
    (fun q _ => q.i ≤ a.length ∧ q.ws.length = a.length + b.length ∧ DOk q.ws ∧ (∀ j, q.i + b.length ≤ j → q.ws.getD j 0 = 0) ∧ dv q.ws = dv (a.take q.i) * dv b) (fun q => a.length - q.i) ⟨List.replicate (a.length + b.length) 0, 0⟩
    ⟨Nat.zero_le _, by simp, .replicate _, fun j _ => getD_rep _ _, by simp [dv, dv_replicate]⟩ (.cons rfl (.cons rfl (.cons rfl (.cons rfl (.cons rfl .nil))))) rfl ?_
  rintro ⟨ws, i⟩ Gy _ ⟨hia, hwl, hwo, hz, hinv⟩
  simp only [] at hia hwl hwo hz hinv ⊢
  refine st_seq <| st_region <| sy (yd_lss rfl rfl) rfl <| st_end <| st_seq <| ?_
  refine st_condE rfl (fun hc => ?_) (fun hc => ?_) -- slot 24
  · have hin : i = a.length := by omega
    refine st_exit <| st_te <| st_te <| st_inBlock_eq <| st_seq <| st_region <| sm rfl rfl <| ?_
    refine st_freeze b3 (.hd ..) (fun G3 _ hgb => ?_)
    have hD : IsD G3 ⟨some ⟨b3, 0, none⟩, a.length + b.length, a.length + b.length⟩ ws := .of_block hwo hgb.h hwl.symm (Nat.le_refl _) (by rw [List.take_of_length_le (by simp)])
    have hdv : dv ws = dv a * dv b := by rw [hinv, hin, List.take_of_length_le (Nat.le_refl _)]
    refine sc (ch_call rfl rfl (nat_trim hD (by omega)) rfl ?_)
    rintro _ G4 _ rfl
    refine sa rfl rfl <| st_end <| st_ret <| ?_
    refine st_done (.tmp rfl .nil) ⟨⟨some ⟨b3, 0, none⟩, (trimD ws).length, a.length + b.length⟩, rfl, ?_⟩
    have h3 := hD.trim.up (G := G4)
    rw [← hdv] at hk ⊢
    exact ⟨by rw [dg_trim hwo]; exact h3, hk⟩
  have hia' : i < a.length := by omega
  have hga := hok.get i
  refine st_skipc <| st_seq <| st_block <| st_seq <| st_region <| sm rfl rfl <| sy (yd_ixD (z := ⟨x.a, a.length, x.c⟩) hxt rfl rfl (by omega) (by show (i : Int) < (a.length : Nat); omega)) rfl <| sy (yd_ldD hxt rfl (by omega)) rfl <| sa rfl rfl <| sa rfl rfl <| st_end <| st_seq <| ?_
  rw [Int.toNat_natCast]
  refine st_region <| sa rfl rfl <| st_end <| st_seq <| st_seq <| st_region <| sm rfl rfl <| slen rfl rfl <| sm rfl rfl <| st_end <| st_block <| ?_
  refine st_loop (X := NatMulI) (fun q => [(30, .int .i64 q.k), (29, .int .i64 b.length), (28, .slice y.a b.length y.c), (8, .int .u64 q.c), (7, .int .u32 ((a.getD i 0 : Nat) : Int)), (5, .slice (some ⟨b3, 0, none⟩) (a.length + b.length) (a.length + b.length)), (6, .int .i64 i), (23, .int .i64 i), (22, .int .i64 a.length), (21, .slice x.a a.length x.c), (1, .slice y.a b.length y.c)])
    (fun q => [⟨b3, q.ws.map dI, 224, true⟩])
    (fun q _ => q.k ≤ b.length ∧ q.ws.length = a.length + b.length ∧ DOk q.ws ∧ q.c < 4294967296 ∧ (∀ j, i + b.length ≤ j → q.ws.getD j 0 = 0) ∧ dv q.ws + 4294967296 ^ (i + q.k) * q.c = dv (a.take i) * dv b + 4294967296 ^ i * (a.getD i 0 * dv (b.take q.k))) (fun q => b.length - q.k) ⟨ws, 0, 0⟩
    ⟨Nat.zero_le _, hwl, hwo, Nat.zero_lt_succ _, hz, by simp [dv, hinv]⟩ (.cons rfl (.cons rfl (.cons rfl (.cons rfl (.cons rfl (.cons rfl (.cons rfl (.cons rfl (.cons rfl (.cons rfl (.cons rfl .nil))))))))))) rfl ?_
  clear hz hwl hwo hinv ws
  rintro ⟨ws, k, c⟩ Gz _ ⟨hkb, hwl, hwo, hcc, hz, hinv⟩
  simp only [] at hkb hwl hwo hcc hz hinv ⊢
  refine st_seq <| st_region <| sy (yd_lss rfl rfl) rfl <| st_end <| st_seq <| ?_
  refine st_condE rfl (fun hc2 => ?_) (fun hc2 => ?_) -- slot 31
  · have hkn : k = b.length := by omega
    have e1 : ((i : Int) + (b.length : Int)).toNat = i + b.length := by omega
    refine st_exit <| st_te <| st_te <| st_inBlock_eq <| st_region <| sm rfl rfl <| sm rfl rfl <| sm rfl rfl <| slen rfl rfl <| sy (yd_add64 rfl rfl (by omega) (by omega)) rfl <| sm rfl rfl <| sy (yd_toU32 rfl) rfl <| ?_
    refine sy (yd_ixO rfl rfl (by omega) (by omega)) rfl <| ?_
    rw [e1]
    refine sc (ch_storeD (d := c) rfl rfl (by omega) (.hd ..) (by omega) rfl ?_)
    refine st_end <| st_region <| sy (yd_add64 rfl rfl (by omega) (by omega)) rfl <| sm rfl rfl <| st_end <| ?_
    refine st_again ⟨ws.set (i + b.length) c, i + 1⟩ ⟨by show i + 1 ≤ _; omega, by simp [hwl], hwo.set _ hcc, fun j hj => ?_, ?_⟩ (by show a.length - (i + 1) < a.length - i; omega) (.cons rfl (.cons rfl (.cons rfl (.cons rfl (.cons rfl .nil))))) rfl
    · have hj' : i + 1 + b.length ≤ j := hj
      show (ws.set (i + b.length) c).getD j 0 = 0
      rw [set_getD (by omega)]; exact hz j (by omega)
    · show dv (ws.set (i + b.length) c) = dv (a.take (i + 1)) * dv b
      have h1 := dv_set ws (i + b.length) c (by omega)
      rw [hz (i + b.length) (Nat.le_refl _), Nat.mul_zero, Nat.add_zero] at h1
      rw [h1, ← hkn, hinv, hkn, List.take_of_length_le (Nat.le_refl _), dv_take_succ, Nat.add_mul, Nat.mul_assoc]
  have hkb' : k < b.length := by omega
  have hgb := hok2.get k
  have hgw := hwo.get (i + k)
  have hm := mul_c hga hgb hgw hcc
  have e1 : ((i : Int) + (k : Int)).toNat = i + k := by omega
  have e2 : ((a.getD i 0 : Nat) : Int) * ((b.getD k 0 : Nat) : Int) = ((a.getD i 0 * b.getD k 0 : Nat) : Int) := by rw [Int.natCast_mul]
  refine st_skipc <| st_seq <| st_block <| st_seq <| st_region <| sm rfl rfl <| sy (yd_ixD (z := ⟨y.a, b.length, y.c⟩) hyt rfl rfl (by omega) (by show (k : Int) < (b.length : Nat); omega)) rfl <| sy (yd_ldD hyt rfl (by omega)) rfl <| sa rfl rfl <| sa rfl rfl <| st_end <| st_seq <| ?_
  rw [Int.toNat_natCast]
  refine st_region <| sm rfl rfl <| sm rfl rfl <| sy (yd_toU64 rfl (by omega) (by omega)) rfl <| sm rfl rfl <| sy (yd_toU64 rfl (by omega) (by omega)) rfl <| sy (yd_mulU rfl rfl (by rw [e2]; omega) (by rw [e2]; omega)) rfl <| ?_
  rw [e2]
  refine sm rfl rfl <| sm rfl rfl <| sm rfl rfl <| sy (yd_add64 rfl rfl (by omega) (by omega)) rfl <| sy (yd_ixO rfl rfl (by omega) (by omega)) rfl <| ?_
  rw [e1]
  refine sy (yd_ldO rfl (by omega)) rfl <| sy (yd_toU64 rfl (by omega) (by omega)) rfl <| ?_
  refine sy (yd_addU rfl rfl (by omega) (by omega)) rfl <| sy (yd_addU rfl rfl (by omega) (by omega)) rfl <| sa rfl rfl <| st_end <| st_seq <| st_region <| sm rfl rfl <| sm rfl rfl <| sm rfl rfl <| ?_
  rw [show (c : Int) + (((a.getD i 0 * b.getD k 0 : Nat) : Int) + ((ws.getD (i + k) 0 : Nat) : Int)) = ((c + a.getD i 0 * b.getD k 0 + ws.getD (i + k) 0 : Nat) : Int) by omega]
  generalize hcc2 : c + a.getD i 0 * b.getD k 0 + ws.getD (i + k) 0 = cc
  rw [hcc2] at hm
  refine sy (yd_add64 rfl rfl (by omega) (by omega)) rfl <| sm rfl rfl <| sy (yd_toU32 rfl) rfl <| sy (yd_ixO rfl rfl (by omega) (by omega)) rfl <| ?_
  rw [e1]
  refine sc (ch_storeD (d := cc % 4294967296) rfl rfl (by omega) (.hd ..) (by omega) rfl ?_)
  refine st_end <| st_region <| sm rfl rfl <| sy (yd_shr rfl rfl (by decide)) rfl <| sa rfl rfl <| st_end <| st_region <| sy (yd_add64 rfl rfl (by omega) (by omega)) rfl <| sm rfl rfl <| st_end <| ?_
  rw [shr32]
  refine st_again ⟨ws.set (i + k) (cc % 4294967296), k + 1, cc / 4294967296⟩ ⟨by show k + 1 ≤ _; omega, by simp [hwl], hwo.set _ (by omega), by show cc / 4294967296 < _; omega, fun j hj => ?_, ?_⟩ (by show b.length - (k + 1) < b.length - k; omega) (.cons rfl (.cons rfl (.cons rfl (.cons rfl (.cons rfl (.cons rfl (.cons rfl (.cons rfl (.cons rfl (.cons rfl (.cons rfl .nil))))))))))) rfl
  · show (ws.set (i + k) (cc % 4294967296)).getD j 0 = 0
    rw [set_getD (by omega)]; exact hz j hj
  · show dv (ws.set (i + k) (cc % 4294967296)) + 4294967296 ^ (i + (k + 1)) * (cc / 4294967296) = dv (a.take i) * dv b + 4294967296 ^ i * (a.getD i 0 * dv (b.take (k + 1)))
    have h1 := dv_set ws (i + k) (cc % 4294967296) (by omega)
    rw [← hcc2] at h1 ⊢
    have h2 := mul_step h1 hinv
    rw [← Nat.add_assoc, Nat.pow_succ, h2, dv_take_succ, Nat.mul_add, Nat.mul_add, Nat.pow_add]
    have : 4294967296 ^ i * (a.getD i 0 * (4294967296 ^ k * b.getD k 0)) = 4294967296 ^ i * 4294967296 ^ k * (a.getD i 0 * b.getD k 0) := by
      rw [Nat.mul_left_comm (a.getD i 0), ← Nat.mul_assoc]
    rw [this, Nat.add_assoc]
end Go.Sx
end
