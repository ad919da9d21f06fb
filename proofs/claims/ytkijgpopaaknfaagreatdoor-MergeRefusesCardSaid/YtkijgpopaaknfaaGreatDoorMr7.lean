/-
  The abstract machine: stores to elements, slices, names anew; the steps as a proof spells them. The abstract machine: the steps as a proof spells them. The abstract machine: names anew; calls that borrow a variable. Zero values of the program's types as deep values. Package nat: the functions without a loop over two numbers. DERIVED: THE SHELF's CONTRACTS AT THIS DUMP, IN PLAIN WORDS (tools/lay-plain.mjs out of 'TryzShelf.lean', which tools/lay-shelf.mjs wrote): THE SAME DECLARATIONS UNDER THE SAME NAMES: 'import', 'namespace', 'open', 'def', 'theorem' AND NOTHING ELSE: no command of the shelf's: FOR A HAND-IN. Each laying: the table of numbers ('.._ren') and one theorem, a field a fact of the dump's own or the kernel's comparison; each contract: ONE APPLICATION. Package nat: words, the number of digits, comparison.
-/
import Derived.Test.YtkijgpopaaknfaaGreatDoorMr6
import Derived.Shelf.Small.Bits
import Derived.Shelf.Bits.Mul64
import Derived.Test.YtkijgpopaaknfaaGreatDoorProg
set_option linter.unusedSimpArgs false
set_option linter.unusedVariables false
section
set_option maxRecDepth 100000
namespace Go.Sx
open Go Go.Proofs
section
variable {P : Program} {T : TT} {GB : Gh} {C : Ctx} {n : Nat} {lk : LK} {bk : BM} {ρ : NE} {G : Gh} {ov : List Own} {a : Act} {w : World}
variable {dst : Option Nat} {t t' ty' : TypeId} {pos : String} {af : Array Edge} {gd : Option (Nat × Bool)} {x y : Operand} {e s by_ : Nat}
theorem flatL_put {vs : List Value} {rest cs : List Value} {i sz j : Nat} {v' : Value} (hil : i < vs.length) (hvs : ∀ v ∈ vs, (cellsL v).length = sz) (hv' : cellsL v' = ovw (cellsL vs[i]) j cs) (hj : j + cs.length ≤ sz) : ovw (flatL vs ++ rest) (i * sz + j) cs = flatL (vs.set i v') ++ rest := by
 have hm : (cellsL vs[i]).length = sz := hvs _ (List.getElem_mem hil)
 have hl' : (cellsL v').length = sz := by rw [hv', ovw_len, hm]
 rw [← flatL_set (rest := rest) (u := v') vs i hil hvs hl', hv']
 have hlv := flatL_len vs hvs
 have hle : i * sz + sz ≤ vs.length * sz := by rw [← Nat.succ_mul]; exact Nat.mul_le_mul_right _ hil
 generalize hmm : cellsL vs[i] = m at *
 have hX : flatL vs ++ rest = (flatL vs).take (i * sz) ++ (m ++ ((flatL vs).drop (i * sz + sz) ++ rest)) := by
  have t1 := takeL_flat (rest := rest) hvs hil
  rw [hmm] at t1
  obtain ⟨_, t2⟩ := takeL_eq t1
  have t3 : m = ((flatL vs).drop (i * sz)).take sz := by
   have : m = ((flatL vs ++ rest).drop (i * sz)).take sz := t2
   rw [this, List.drop_append_of_le_length (by omega), List.take_append_of_le_length (by rw [List.length_drop]; omega)]
  rw [t3]
  conv => lhs; rw [← List.take_append_drop (i * sz) (flatL vs), ← List.take_append_drop sz ((flatL vs).drop (i * sz)), List.drop_drop]
  simp [List.append_assoc]
 have hP : ((flatL vs).take (i * sz)).length = i * sz := by rw [List.length_take]; omega
 generalize (flatL vs).take (i * sz) = A at hX hP
 generalize (flatL vs).drop (i * sz + sz) ++ rest = Z at hX
 rw [hX, ← hP, ovw_app A m Z (ovw m j cs) (by rw [ovw_len])]
 rw [ovw_spec _ m j (by omega), ovw_spec _ _ _ (by simp only [List.length_append]; omega)]
 rw [List.take_append, List.take_of_length_le (by omega), Nat.add_sub_cancel_left, List.take_append_of_le_length (by omega)]
 rw [List.drop_append, List.drop_of_length_le (by omega), List.nil_append, show A.length + j + cs.length - A.length = j + cs.length by omega, List.drop_append_of_le_length (by omega)]
 simp [List.append_assoc]
def stE (ag : Option Nat) (d : DV) (j : Nat) (u : DV) : Option DV := match d with
 | .ag l => match ag with
   | some k => bif u.okc && (Nat.beq u.cells.length k && Nat.ble (j + k) l.length) then some (.ag (ovD l j u.cells)) else none
   | none => bif u.flat && Nat.blt j l.length then some (.ag (l.set j u)) else none
 | d => match ag with
   | some _ => none
   | none => bif d.flat && (u.flat && Nat.beq j 0) then some u else none
theorem RlX.wroteRow {nm b : Nat} {ty : TypeId} {sz : Nat} {ds ds' : List DV} {lo lo' : Bool} {m' : List Value} {own' : List Own} (r : RlX GB C n lk bk ρ G ov a w) (hb : bk nm = some (.b ty sz ds lo)) (ha : (ρ nm).a = some ⟨b, 0, none⟩) (hB : BufIs G ⟨ρ nm, sz, ty, ds', lo⟩ [⟨b, m', ty, lo'⟩])
  (h1 : ⟨b, m', ty, lo'⟩ ∈ own') (h2 : ∀ o ∈ ov, o.b ≠ b → o ∈ own') {K : Act → World → Prop} (hk : SX GB C n (upL lk dst .un) (Sx.upB bk [(nm, some (.b ty sz ds' lo))]) K) {a' : Act} {w' : World} (rl : Rel C n (Sx.put (frA a) dst undef) own' G a' w') : K a' w' := by
 have r2 := r.upB (G' := G) (ov' := own') (w' := w') (B' := .b ty sz ds' lo) (GLe.refl _) rl.h (hB.toBk rfl) (fun o ho => by rw [List.mem_singleton.1 ho]; exact h1) (fun o ho hne => h2 o ho fun e => hne (by rw [ha, e])) ⟨_, hb⟩
 exact hk.run _ _ _ a' w' (r2.put rfl (putA_rel rl))
theorem ovw_one (cs : List Value) (o : Nat) (v : Value) : ovw cs o [v] = cs.set o v := rfl
theorem ok_stB {i : TI} {ag : Option Nat} {nm sz k j : Nat} {ty : TypeId} {ds ds' : List DV} {lo : Bool} {d d' u : DV} (hi : tiOf P t = some i) (ha : i.ag = some ag) (hx : evX lk x = some (.be nm sz k j)) (hb : bk nm = some (.b ty sz ds lo)) (hy : evD lk y = some u) (he : ds[k]? = some d) (hl : stE ag d j u = some d') (hds : ds.set k d' = ds') :
   OpR P GB C n lk bk ⟨dst, .store t x y, ty', pos, af, gd⟩ .un [(nm, some (.b ty sz ds' lo))] [] := by
 intro hd tl tb K s1 s2 hf hk
 refine ⟨fun ρ G ov a w r Q => ?_⟩
 subst hds
 have r1 := r.mono s1 s2
 obtain ⟨y', h1, h2⟩ := r1.evD hy
 obtain ⟨x', h3, b, hwb, rfl⟩ := r1.ev hx
 obtain ⟨B, hB, hBo⟩ := r1.row (y := .nilFunc) hb
 obtain ⟨b', vs, rest, lo', e1, rfl, hv, hvs, hil, hup⟩ := hB.upd he
 rw [hwb] at e1; cases e1
 obtain ⟨v, g1, g2⟩ := hv.get he
 obtain ⟨g3, g4⟩ := List.getElem?_eq_some_iff.1 g1
 have hlv := flatL_len vs hvs
 have hle : k * sz + sz ≤ vs.length * sz := by rw [← Nat.succ_mul]; exact Nat.mul_le_mul_right _ hil
 have hml : (cellsL v).length = sz := hvs _ (List.mem_of_getElem? g1)
 cases ag with
 | some q =>
   have := ti_agA hi ha
   unfold stE at hl
   split at hl
   · rename_i l
     simp only at hl
     cases hc : (u.okc && (Nat.beq u.cells.length q && Nat.ble (j + q) l.length)) with
     | false => rw [hc] at hl; cases hl
     | true =>
       rw [hc] at hl; cases hl
       simp only [Bool.and_eq_true, Nat.ble_eq] at hc
       obtain ⟨c1, c2, c3⟩ := hc
       replace c2 := Nat.eq_of_beq_eq_true c2
       obtain ⟨c4, c5⟩ := h2.cells c1
       obtain ⟨m, rfl, hm⟩ := is_ag.1 g2
       have hcl : (cellsL y').length = q := by rw [c4.len, c2]
       have hmd := hm.len
       have hsz : m.length = sz := hml
       have key := hup (.agg ⟨ovw m j (cellsL y')⟩) (.ag (ovD l j u.cells)) (is_ag.2 ⟨_, rfl, hm.ov c4⟩) (by show (ovw m j (cellsL y')).length = sz; rw [ovw_len, hsz])
       have hov := flatL_put (rest := rest) (v' := .agg ⟨ovw m j (cellsL y')⟩) (cs := cellsL y') (j := j) hil hvs (by rw [g4]; rfl) (by omega)
       obtain ⟨own', u1, u2, u3⟩ := OUpd.of_mem (cs' := ovw (flatL vs ++ rest) (k * sz + j) (cellsL y')) (hBo _ List.mem_cons_self)
       refine ch_store h3 h1 u1 hcl (by rw [List.length_append]; omega) (List.all_eq_true.2 c5) hd (fun a' w' rl => ?_) a w Q ⟨r.h, r.sz, frA_ok a, r.df⟩
       rw [hov] at u2
       exact r.wroteRow (s2 _ _ hb) hwb key u2 u3 hk rl
   · simp at hl
 | none =>
   have := ti_agS hi ha
   unfold stE at hl
   split at hl
   · rename_i l
     simp only at hl
     cases hc : (u.flat && Nat.blt j l.length) with
     | false => rw [hc] at hl; cases hl
     | true =>
       rw [hc] at hl; cases hl
       simp only [Bool.and_eq_true, Nat.blt_eq] at hc
       obtain ⟨c1, c2⟩ := hc
       have hfl := h2.flat c1
       have hcl := cellsL_flat hfl
       obtain ⟨m, rfl, hm⟩ := is_ag.1 g2
       have hmd := hm.len
       have hsz : m.length = sz := hml
       have key := hup (.agg ⟨m.set j y'⟩) (.ag (l.set j u)) (is_ag.2 ⟨_, rfl, hm.set j h2⟩) (by show (m.set j y').length = sz; rw [List.length_set, hsz])
       have hov := flatL_put (rest := rest) (v' := .agg ⟨m.set j y'⟩) (cs := [y']) (j := j) hil hvs (by rw [g4]; rfl) (by simp; omega)
       rw [ovw_one] at hov
       obtain ⟨own', u1, u2, u3⟩ := OUpd.of_mem (cs' := (flatL vs ++ rest).set (k * sz + j) y') (hBo _ List.mem_cons_self)
       refine ch_store1 h3 h1 u1 (by rw [List.length_append]; omega) hfl hd (fun a' w' rl => ?_) a w Q ⟨r.h, r.sz, frA_ok a, r.df⟩
       rw [hov] at u2
       exact r.wroteRow (s2 _ _ hb) hwb key u2 u3 hk rl
   · rename_i hna
     simp only at hl
     cases hc : (d.flat && (u.flat && Nat.beq j 0)) with
     | false => rw [hc] at hl; cases hl
     | true =>
       rw [hc] at hl; cases hl
       simp only [Bool.and_eq_true] at hc
       obtain ⟨c0, c1, c2⟩ := hc
       cases Nat.eq_of_beq_eq_true c2
       have hfl := h2.flat c1
       have hcl := cellsL_flat hfl
       have hvl := cellsL_flat (g2.flat c0)
       have h1z : 1 = sz := by rw [← hml, hvl]; rfl
       have key := hup y' d' h2 (by rw [hcl, ← h1z]; rfl)
       have hov := flatL_put (rest := rest) (v' := y') (cs := [y']) (j := 0) hil hvs (by rw [g4, hvl, hcl]; rfl) (by simp; omega)
       rw [ovw_one] at hov
       obtain ⟨own', u1, u2, u3⟩ := OUpd.of_mem (cs' := (flatL vs ++ rest).set (k * sz + 0) y') (hBo _ List.mem_cons_self)
       refine ch_store1 h3 h1 u1 (by rw [List.length_append]; omega) hfl hd (fun a' w' rl => ?_) a w Q ⟨r.h, r.sz, frA_ok a, r.df⟩
       rw [hov] at u2
       exact r.wroteRow (s2 _ _ hb) hwb key u2 u3 hk rl
/-! slices -/
def bdX (lk : LK) (dflt : Nat) : Option Operand → Option Int
 | none => some (dflt : Nat)
 | some o => match evX lk o with
   | some (.d (.v (.int .i64 i))) => some i
   | _ => none
theorem ok_slc {l : List DV} {lo hi : Option Operand} {nlo nhi : Nat} [hT : TySl P t e s by_] (hx : evD lk x = some (.sl l)) (ho : slOk s l) (hlo : bdX lk 0 lo = some (nlo : Int)) (hhi : bdX lk l.length hi = some (nhi : Int)) (h1 : nlo ≤ nhi) (h2 : nhi ≤ l.length) :
   OpR P GB C n lk bk ⟨dst, .slice t x lo hi none, ty', pos, af, gd⟩ (.d (.sl ((l.take nhi).drop nlo))) [] [] := .yd fun ρ G ov a w r => by
 obtain ⟨u, h3, h4⟩ := r.evD hx
 obtain ⟨s', z, es, rfl, hsl, hl⟩ := is_sl.1 h4
 have hn := hsl.len
 have hcap := hsl.cap
 have hll := hl.len
 have key : ∀ mx', nhi ≤ mx' → mx' ≤ z.c → Is G (.sl ((l.take nhi).drop nlo)) (slTo z.a z.n z.c nlo nhi mx' s) := by
   intro mx' hm1 hm2
   rcases sl_stride hsl hl ho with he | he
   · subst he
     have : l = [] := List.eq_nil_of_length_eq_zero (by rw [← hll]; rfl)
     subst this
     have e1 : nhi = 0 := by simp at h2; exact h2
     have e2 : nlo = 0 := by omega
     subst e1 e2
     refine is_sl.2 ⟨s, ⟨_, 0, mx'⟩, [], rfl, ⟨rfl, Nat.zero_le _, .inl rfl⟩, by simpa using IsLs.nil⟩
   · subst he
     refine is_sl.2 ⟨s', ⟨_, _, _⟩, _, rfl, hsl.sub nlo nhi mx' h1 (by omega) hm1 hm2, (hl.take nhi).drop nlo⟩
 have bnd : ∀ {o : Operand} {d : Nat} {i : Int}, bdX lk d (some o) = some i → opv (frA a) o = some (.int .i64 i) := fun {o d i} h => by
   simp only [bdX] at h
   split at h <;> cases h
   rename_i he
   obtain ⟨q, g1, g2⟩ := r.ev he
   rw [isX_int] at g2; subst g2; exact g1
 match lo, hi, hlo, hhi with
 | none, none, hlo, hhi =>
   simp only [bdX, Option.some.injEq] at hlo hhi
   have e1 : nlo = 0 := by omega
   have e2 : nhi = l.length := by omega
   subst e1 e2
   refine ⟨_, key z.c (by omega) (Nat.le_refl _), ?_⟩
   intro a w0 hf hh
   simp only [execOp, opv_eval hf h3, Option.map_none]
   have h9 := run_slice (P := P) (t := t) (ad := z.a) (len := z.n) (cap := z.c) w0 (lo := none) (hi := none) (mx := none) (l := 0) (h := l.length) (m := z.c) (fun w0 => by
     simp [Instr.sliceBounds, Result.andThen, run_pure]; omega)
   exact value_of h9
 | none, some o2, hlo, hhi =>
   simp only [bdX, Option.some.injEq] at hlo
   have e1 : nlo = 0 := by omega
   subst e1
   refine ⟨_, key z.c (by omega) (Nat.le_refl _), ?_⟩
   have h9 := yd_slice_hi (P := P) (C := C) (own := ov) (G := G) (t := t) (dst := dst) (ty' := ty') (pos := pos) (af := af) (gd := gd) h3 (bnd hhi) (by omega) (by omega)
   have e9 : slTo z.a z.n z.c 0 nhi z.c s = .slice z.a nhi z.c := by
     unfold slTo
     cases z.a with
     | none => simp
     | some ad => simp [Addr.add]
   rw [e9]
   simpa using h9
 | some o1, none, hlo, hhi =>
   simp only [bdX, Option.some.injEq] at hhi
   have e2 : nhi = l.length := by omega
   subst e2
   refine ⟨_, key z.c (by omega) (Nat.le_refl _), ?_⟩
   have h9 := yd_slice_lo (P := P) (C := C) (own := ov) (G := G) (t := t) (dst := dst) (ty' := ty') (pos := pos) (af := af) (gd := gd) h3 (bnd hlo) (by omega) (by omega)
   have e9 : z.n = l.length := by omega
   rw [Int.toNat_natCast, e9] at h9
   rw [e9]
   exact h9
 | some o1, some o2, hlo, hhi =>
   refine ⟨_, key z.c (by omega) (Nat.le_refl _), ?_⟩
   have h9 := yd_slice_lohi (P := P) (C := C) (own := ov) (G := G) (t := t) (dst := dst) (ty' := ty') (pos := pos) (af := af) (gd := gd) h3 (bnd hlo) (bnd hhi) (by omega) (by omega) (by omega)
   simpa using h9
theorem ok_slc3 {l : List DV} {hi mx : Operand} {nhi : Nat} [hT : TySl P t e s by_] (hx : evD lk x = some (.sl l)) (ho : slOk s l) (hhi : bdX lk 0 (some hi) = some (nhi : Int)) (hmx : bdX lk 0 (some mx) = some (nhi : Int)) (h2 : nhi ≤ l.length) :
  OpR P GB C n lk bk ⟨dst, .slice t x none (some hi) (some mx), ty', pos, af, gd⟩ (.ct (l.take nhi)) [] [] := .yd fun ρ G ov a w r => by
 obtain ⟨u, h3, h4⟩ := r.evD hx
 obtain ⟨s', z, es, rfl, hsl, hl⟩ := is_sl.1 h4
 have hn := hsl.len
 have hcap := hsl.cap
 have hll := hl.len
 have bnd : ∀ {o : Operand} {d : Nat} {i : Int}, bdX lk d (some o) = some i → opv (frA a) o = some (.int .i64 i) := fun {o d i} h => by
  simp only [bdX] at h
  split at h <;> cases h
  rename_i he
  obtain ⟨q, g1, g2⟩ := r.ev he
  rw [isX_int] at g2; subst g2; exact g1
 refine ⟨.slice z.a nhi nhi, ⟨⟨_, _, rfl⟩, slice_key hsl hl ho h2 (Nat.le_refl _) (by omega)⟩, ?_⟩
 have h9 := yd_slice_3 (P := P) (C := C) (own := ov) (G := G) (t := t) (dst := dst) (ty' := ty') (pos := pos) (af := af) (gd := gd) h3 (bnd hhi) (bnd hmx) (by omega) (Int.le_refl _) (by omega)
 simpa using h9
theorem ok_appC {d : Nat} {i : TI} {z : DV} {ds ds2 : List DV} [hT : TySl P t e s by_] [hN : TyN P t'] (hi : tiOf P e = some i) (hz : zeE i = some z) (hs : Nat.beq z.cells.length s = true) (hx : evX lk x = some (.ct ds) ∨ (evX lk x = some .nl ∧ ds = [])) (ox : slOk s ds) (hy : srcX lk bk s y = some ds2) (hk2 : slOk s ds2) (hne : 0 < ds2.length)
   (hby : Nat.blt 0 by_ = true) (hbd : (ds.length + ds2.length) * by_ ≤ 140737488355328) {ds' : List DV} (hds : ds ++ ds2 = ds') :
   OpR P GB C n lk bk ⟨some d, .call ⟨.builtin .append, #[x, y], #[t, t']⟩, ty', pos, af, gd⟩ (.rw d) [(d, some (.b e s ds' true))] [d] := by
 intro hd tl tb K s1 s2 hf hk
 refine ⟨fun ρ G ov a w r Q => ?_⟩
 subst hds
 have r1 := r.mono s1 s2
 obtain ⟨v, hz1, hz2, hz3⟩ := zeE_ok hi hz
 have cz := ((hz2 G).cells hz3).1.len
 replace hs := Nat.eq_of_beq_eq_true hs
 rw [Nat.blt_eq] at hby
 obtain ⟨w2, us, h1, h2, h3, h4, h5, h6⟩ := src_ok (P := P) r1 hy hk2
 have hxs : srcX lk bk s x = some ds := by
   unfold srcX
   rcases hx with hx | ⟨hx, rfl⟩ <;> rw [hx] <;> rfl
 obtain ⟨w1, vs, g1, g2, g3, g4, g5, g6⟩ := src_ok (P := P) r1 hxs ox
 have hc1 : w1.c = w1.n := by
   rcases hx with hx | ⟨hx, rfl⟩
   · obtain ⟨y1, k1, ⟨a1, n1, rfl⟩, _⟩ := r1.ev hx
     rw [k1] at g1
     simp only [Option.some.injEq, Value.slice.injEq] at g1
     omega
   · obtain ⟨y1, k1, k2⟩ := r1.ev hx
     cases k2
     rw [k1] at g1
     simp only [Option.some.injEq, Value.slice.injEq] at g1
     omega
 have hl3 := h3.len
 have hl4 := g3.len
 have hall : ∀ v ∈ vs ++ us, (cellsL v).length = s := fun v hv => by
   rcases List.mem_append.1 hv with hv | hv
   · exact g4 v hv
   · exact h4 v hv
 refine ch_append_grow (z := v) (xs := flatL vs) (ys := flatL us) (ad := w1.a) (len := w1.n) (cap := w1.c) g1 h1 g6 h6 (by omega) hby (by rw [g2, h2, hl3, hl4]; exact hbd) hd (fun b cap' hc a' w' rl => ?_) a w Q ⟨r.h, r.sz, frA_ok a, r.df⟩
 rw [← flatL_app] at rl
 have hnd' := (List.pairwise_cons.1 rl.h.nd).1
 refine r.newRow (z := ⟨some ⟨b, 0, none⟩, w1.n + w2.n, cap'⟩) (B := [⟨b, flatL (vs ++ us) ++ zeros v (cap' - (w1.n + w2.n)), e, true⟩]) hf ⟨vs ++ us, .inr ⟨b, _, true, by simp [g2, h2], rfl, flatL_len _ hall, ?_, by simpa [g2, h2] using hc⟩, g3.app h3, hall, fun _ o ho => by rw [List.mem_singleton.1 ho]⟩
   (fun o ho => by rw [List.mem_singleton.1 ho]; exact List.mem_cons_self) (fun m B' hm e o ho _ => ⟨List.mem_cons_of_mem _ ho, fun e' => by cases e'; exact hnd' o ho rfl⟩) hk rl
 rw [flatL_len _ hall, List.length_append, zeros_len, cz, hs, ← Nat.add_mul, g2, h2]
 congr 1
 rw [g2, h2] at hc
 dsimp only
 omega
end
end Go.Sx
end

section
set_option maxRecDepth 100000
namespace Go.Sx
open Go Go.Proofs
section
variable {GB : Gh} {C : Ctx} {n : Nat} {Q0 : Exit → Act → World → Prop} {fr fr' : FrX} {own own' : OwX} {cf cf' : Cf} {vc : List Prop} {ops : Array Oper} {o : Oper} {K : List Kt} {r : List Oper}
def opC (fr : FrX) (cf : Cf) : Option Oper := match hdC cf with
 | some (ops, o) => bif grd ops (lkC fr cf) o.guard then some o else none
 | none => none
theorem opC_ok (h : opC fr cf = some o) : ∃ ops, hdC cf = some (ops, o) ∧ grd ops (lkC fr cf) o.guard = true := by
 unfold opC at h
 split at h <;> try (cases h; done)
 rename_i ops o' hh
 cases hg : grd ops (lkC fr cf) o'.guard with
 | false => rw [hg] at h; cases h
 | true => rw [hg] at h; cases h; exact ⟨ops, hh, hg⟩
theorem us {q : Nat} {f : FX} {bl : List (Nat × Option Bk)} {nw : List Nat} (hh : opC fr cf = some o) (h : OpR Tryz.prog GB C n (lkC fr cf) (bkC fr own cf) o f bl nw)
  (hgo : goA tt n q fr own cf f bl nw = ⟨vc, fr', own', cf'⟩) (hv : allP vc) (k : CfS Tryz.prog GB C n Q0 fr' own' cf') : CfS Tryz.prog GB C n Q0 fr own cf := by
 obtain ⟨ops, h1, h2⟩ := opC_ok hh
 exact uo h1 h2 h hgo hv k
/-! calls -/
def calA (fr : FrX) (cf : Cf) : Option (FuncId × List DV) := match opC fr cf with
 | some ⟨_, .call ⟨.value fo, args, _⟩, _, _, _, _⟩ => cargs (lkC fr cf) fo args
 | _ => none
theorem cl [fu : Fu] {f : FuncId} {ds : List DV} {rv : DV} (ha : calA fr cf = some (f, ds)) (hF : PF GB Tryz.prog f ds rv) (hgo : goA tt n fu.n fr own cf (.d rv) [] [] = ⟨vc, fr', own', cf'⟩) (k : CfS Tryz.prog GB C n Q0 fr' own' cf')
  (hv : allP vc := by first | exact trivial | (simp only [allP]; kernel_rfl) | (simp only [allP]; omega) | (simp only [allP, List.length_map, List.length_set, List.length_replicate]; omega)) : CfS Tryz.prog GB C n Q0 fr own cf := by
 unfold calA at ha
 split at ha <;> try (cases ha; done)
 rename_i hh
 exact us hh (ok_call ha hF) hgo hv k
/-! elements of what is written no more -/
def ixA (fr : FrX) (cf : Cf) : Option (List DV × Int × Nat) := match opC fr cf with
 | some ⟨_, .indexAddr t x y, _, _, _, _⟩ => match evD (lkC fr cf) x with
   | some (.sl l) => match evX (lkC fr cf) y with
     | some (.d (.v (.int _ i))) => match lookT tt t with
       | some ⟨.sl _ s _, _, _, _⟩ => some (l, i, s)
       | _ => none
     | _ => none
   | _ => none
 | _ => none
def ixG (n q : Nat) (fr : FrX) (own : OwX) (cf : Cf) (d : DV) (s : Nat) : Res := bif d.okc && Nat.beq d.cells.length s then fcL d.cells fun cs => goA tt n q fr own cf (.ep cs) [] [] else bad
theorem ix [fu : Fu] (d : DV) {l : List DV} {i : Int} {s : Nat} (h : ixA fr cf = some (l, i, s)) (he : l[i.toNat]? = some d) (hgo : ixG n fu.n fr own cf d s = ⟨vc, fr', own', cf'⟩) (k : CfS Tryz.prog GB C n Q0 fr' own' cf') (h0 : 0 ≤ i := by omega)
   (hv : allP vc := by first | exact trivial | (simp only [allP]; kernel_rfl) | (simp only [allP]; omega) | (simp only [allP, List.length_map, List.length_set, List.length_replicate]; omega)) : CfS Tryz.prog GB C n Q0 fr own cf := by
 unfold ixA at h
 split at h <;> try (cases h; done)
 rename_i hh
 split at h <;> try (cases h; done)
 rename_i hx
 split at h <;> try (cases h; done)
 rename_i hy
 split at h <;> cases h
 rename_i hT
 have := ti_sl (tt_ok _ _ hT) rfl
 unfold ixG at hgo
 cases hc : (d.okc && Nat.beq d.cells.length s) with
 | false => simp only [hc, cond_false, bad] at hgo; cases hgo; exact absurd hv (fun x => x)
 | true =>
   simp only [hc, cond_true, fcL_eq] at hgo
   exact us hh (ok_ixF hx hy h0 he hc) hgo hv k
/-! elements of rows -/
structure LbA where
 ds : List DV
 k : Nat
 j : Nat
 ag : Option Nat
def ldbA (fr : FrX) (own : OwX) (cf : Cf) : Option LbA := match opC fr cf with
 | some ⟨_, .load t x, _, _, _, _⟩ => match evX (lkC fr cf) x with
   | some (.be nm sz k j) => match bkC fr own cf nm with
     | some (.b _ s ds _) => bif Nat.beq s sz then (match lookT tt t with
       | some i => match i.ag with
         | some ag => some ⟨ds, k, j, ag⟩
         | none => none
       | none => none) else none
     | _ => none
   | _ => none
 | _ => none
def ldbG (n q : Nat) (fr : FrX) (own : OwX) (cf : Cf) (d : DV) (ag : Option Nat) (j : Nat) : Res := bif d.okc then (match ldE ag d.cells j with
 | some c => goA tt n q fr own cf (.d c) [] []
 | none => bad) else bad
theorem lb [fu : Fu] (d : DV) {ds : List DV} {k' j : Nat} {ag : Option Nat} (h : ldbA fr own cf = some ⟨ds, k', j, ag⟩) (he : ds[k']? = some d) (hgo : ldbG n fu.n fr own cf d ag j = ⟨vc, fr', own', cf'⟩) (k : CfS Tryz.prog GB C n Q0 fr' own' cf')
   (hv : allP vc := by first | exact trivial | (simp only [allP]; kernel_rfl) | (simp only [allP]; omega) | (simp only [allP, List.length_map, List.length_set, List.length_replicate]; omega)) : CfS Tryz.prog GB C n Q0 fr own cf := by
 unfold ldbA at h
 split at h <;> try (cases h; done)
 rename_i hh
 split at h <;> try (cases h; done)
 rename_i hx
 split at h <;> try (cases h; done)
 rename_i ty s ds' lo hb
 rw [cond_eq_ite] at h
 split at h <;> try (cases h; done)
 rename_i hs
 cases Nat.eq_of_beq_eq_true hs
 split at h <;> try (cases h; done)
 rename_i hT
 split at h <;> cases h
 rename_i ha
 unfold ldbG at hgo
 cases hc : d.okc with
 | false => simp only [hc, cond_false, bad] at hgo; cases hgo; exact absurd hv (fun x => x)
 | true =>
   simp only [hc, cond_true] at hgo
   cases hl : ldE ag d.cells j with
   | none => simp only [hl, bad] at hgo; cases hgo; exact absurd hv (fun x => x)
   | some c => simp only [hl] at hgo; exact us hh (ok_ldB (tt_ok _ _ hT) ha hx hb he hc hl) hgo hv k
structure SbA where
 nm : Nat
 ty : TypeId
 s : Nat
 ds : List DV
 lo : Bool
 k : Nat
 j : Nat
 ag : Option Nat
 u : DV
def stbA (fr : FrX) (own : OwX) (cf : Cf) : Option SbA := match opC fr cf with
 | some ⟨_, .store t x y, _, _, _, _⟩ => match evX (lkC fr cf) x with
   | some (.be nm sz k j) => match bkC fr own cf nm with
     | some (.b ty s ds lo) => bif Nat.beq s sz then (match lookT tt t with
       | some i => match i.ag with
         | some ag => match evD (lkC fr cf) y with
           | some u => some ⟨nm, ty, s, ds, lo, k, j, ag, u⟩
           | none => none
         | none => none
       | none => none) else none
     | _ => none
   | _ => none
 | _ => none
theorem sb [fu : Fu] (d : DV) {nm : Nat} {ty : TypeId} {s : Nat} {ds : List DV} {lo : Bool} {k' j : Nat} {ag : Option Nat} {u d' : DV} (ds' : List DV) (h : stbA fr own cf = some ⟨nm, ty, s, ds, lo, k', j, ag, u⟩) (he : ds[k']? = some d) (hl : stE ag d j u = some d') (hds : ds.set k' d' = ds')
  (hgo : goA tt n fu.n fr own cf .un [(nm, some (.b ty s ds' lo))] [] = ⟨vc, fr', own', cf'⟩) (k : CfS Tryz.prog GB C n Q0 fr' own' cf')
  (hv : allP vc := by first | exact trivial | (simp only [allP]; kernel_rfl) | (simp only [allP]; omega) | (simp only [allP, List.length_map, List.length_set, List.length_replicate]; omega)) : CfS Tryz.prog GB C n Q0 fr own cf := by
 unfold stbA at h
 split at h <;> try (cases h; done)
 rename_i hh
 split at h <;> try (cases h; done)
 rename_i hx
 split at h <;> try (cases h; done)
 rename_i hb
 rw [cond_eq_ite] at h
 split at h <;> try (cases h; done)
 rename_i hs
 cases Nat.eq_of_beq_eq_true hs
 split at h <;> try (cases h; done)
 rename_i hT
 split at h <;> try (cases h; done)
 rename_i ha
 split at h <;> cases h
 rename_i hy
 exact us hh (ok_stB (tt_ok _ _ hT) ha hx hb hy he hl hds) hgo hv k
/-! rows made -/
structure MkA where
 d : Nat
 e : Nat
 s : Nat
 b : Nat
 z : DV
 l : Int
def mkA (fr : FrX) (cf : Cf) : Option MkA := match opC fr cf with
 | some ⟨some d, .makeSlice t x y, _, _, _, _⟩ => match evX (lkC fr cf) x with
   | some (.d (.v (.int _ l))) => match lookT tt t with
     | some ⟨.sl e s b, _, _, _⟩ => match lookT tt e with
       | some i => match zeE i with
         | some z => bif Nat.beq z.cells.length s then some ⟨d, e, s, b, z, l⟩ else none
         | none => none
       | none => none
     | _ => none
   | _ => none
 | _ => none
theorem mk [fu : Fu] {d e s b : Nat} {z : DV} {l : Int} {k' : IntKind} (ds : List DV) (h : mkA fr cf = some ⟨d, e, s, b, z, l⟩) (hy : (match opC fr cf with | some ⟨_, .makeSlice _ _ y, _, _, _, _⟩ => evX (lkC fr cf) y | _ => none) = some (.d (.v (.int k' l)))) (hds : List.replicate l.toNat z = ds)
  (hgo : goA tt n fu.n fr own cf (.rw d) [(d, some (.b e s ds true))] [d] = ⟨vc, fr', own', cf'⟩) (k : CfS Tryz.prog GB C n Q0 fr' own' cf') (h0 : 0 ≤ l := by omega) (hb : b * l ≤ 140737488355328 := by omega) (hl : l ≤ 1152921504606846976 := by omega)
  (hv : allP vc := by first | exact trivial | (simp only [allP]; kernel_rfl) | (simp only [allP]; omega) | (simp only [allP, List.length_map, List.length_set, List.length_replicate]; omega)) : CfS Tryz.prog GB C n Q0 fr own cf := by
 unfold mkA at h
 split at h <;> try (cases h; done)
 rename_i hh
 split at h <;> try (cases h; done)
 rename_i hx
 split at h <;> try (cases h; done)
 rename_i hT
 split at h <;> try (cases h; done)
 rename_i hi
 split at h <;> try (cases h; done)
 rename_i hz
 rw [cond_eq_ite] at h
 split at h <;> cases h
 rename_i hs
 rw [hh] at hy
 have := ti_sl (tt_ok _ _ hT) rfl
 exact us hh (ok_make (tt_ok _ _ hi) hz hs hx hy h0 hb hl hds) hgo hv k
structure RwA where
 d : Nat
 e : Nat
 s : Nat
 ds : List DV
def rowA (fr : FrX) (cf : Cf) : Option RwA := match opC fr cf with
 | some ⟨some d, .buildSlice t len parts, _, _, _, _⟩ => match lookT tt t with
   | some ⟨.sl e s _, _, _, _⟩ => match lookT tt e with
     | some i => match zeE i with
       | some z => match rowX (lkC fr cf) 0 parts.toList with
         | some ds => bif Nat.beq z.cells.length s && (okRow s ds && (Nat.beq parts.toList.length len && (Nat.ble (len * s) 1000 && Nat.blt 0 (len * s)))) then some ⟨d, e, s, ds⟩ else none
         | none => none
       | none => none
     | none => none
   | _ => none
 | _ => none
theorem rowA_ok {d e s : Nat} {ds : List DV} (h : rowA fr cf = some ⟨d, e, s, ds⟩) : ∃ o, opC fr cf = some o ∧ o.dst = some d ∧ OpR Tryz.prog GB C n (lkC fr cf) (bkC fr own cf) o (.rw d) [(d, some (.b e s ds true))] [d] := by
 unfold rowA at h
 split at h <;> try (cases h; done)
 rename_i hh
 split at h <;> try (cases h; done)
 rename_i hT
 split at h <;> try (cases h; done)
 rename_i hi
 split at h <;> try (cases h; done)
 rename_i hz
 split at h <;> try (cases h; done)
 rename_i hr
 rw [cond_eq_ite] at h
 split at h <;> cases h
 rename_i hc
 simp only [Bool.and_eq_true] at hc
 have := ti_sl (tt_ok _ _ hT) rfl
 exact ⟨_, hh, rfl, ok_row (tt_ok _ _ hi) hz hc.1 hr hc.2.1 hc.2.2.1 hc.2.2.2.1 hc.2.2.2.2⟩
theorem ro [fu : Fu] {d e s : Nat} {ds : List DV} (h : rowA fr cf = some ⟨d, e, s, ds⟩) (hgo : goA tt n fu.n fr own cf (.rw d) [(d, some (.b e s ds true))] [d] = ⟨vc, fr', own', cf'⟩) (k : CfS Tryz.prog GB C n Q0 fr' own' cf')
  (hv : allP vc := by first | exact trivial | (simp only [allP]; kernel_rfl) | (simp only [allP]; omega) | (simp only [allP, List.length_map, List.length_set, List.length_replicate]; omega)) : CfS Tryz.prog GB C n Q0 fr own cf := by
 obtain ⟨o, h1, _, h3⟩ := rowA_ok (GB := GB) (C := C) (n := n) (own := own) h
 exact us h1 h3 hgo hv k
theorem rf [fu : Fu] {d e s : Nat} {ds : List DV} (h : rowA fr cf = some ⟨d, e, s, ds⟩) (hgo : goA tt n fu.n fr own cf (.d (.sl ds)) [(d, none)] [d] = ⟨vc, fr', own', cf'⟩) (k : CfS Tryz.prog GB C n Q0 fr' own' cf')
  (hv : allP vc := by first | exact trivial | (simp only [allP]; kernel_rfl) | (simp only [allP]; omega) | (simp only [allP, List.length_map, List.length_set, List.length_replicate]; omega)) : CfS Tryz.prog GB C n Q0 fr own cf := by
 obtain ⟨o, h1, h2, h3⟩ := rowA_ok (GB := GB) (C := C) (n := n) (own := own) h
 exact us h1 (h3.frzRow h2) hgo hv k
def isRow0 (fr : FrX) (cf : Cf) : Option (Nat × Nat × Nat) := match opC fr cf with
 | some ⟨some d, .buildSlice t 0 ⟨[]⟩, _, _, _, _⟩ => match lookT tt t with
   | some ⟨.sl e s _, _, _, _⟩ => some (d, e, s)
   | _ => none
 | _ => none
theorem ro0 [fu : Fu] {d e s : Nat} (h : isRow0 fr cf = some (d, e, s)) (hgo : goA tt n fu.n fr own cf (.rw d) [(d, some (.b e s [] true))] [d] = ⟨vc, fr', own', cf'⟩) (k : CfS Tryz.prog GB C n Q0 fr' own' cf')
  (hv : allP vc := by first | exact trivial | (simp only [allP]; kernel_rfl) | (simp only [allP]; omega) | (simp only [allP, List.length_map, List.length_set, List.length_replicate]; omega)) : CfS Tryz.prog GB C n Q0 fr own cf := by
 unfold isRow0 at h
 split at h <;> try (cases h; done)
 rename_i hh
 split at h <;> cases h
 rename_i hT
 have := ti_sl (tt_ok _ _ hT) rfl
 exact us hh ok_row0 hgo hv k
/-! append -/
structure ApA where
 d : Nat
 nm : Option Nat
 e : Nat
 s : Nat
 b : Nat
 ds : List DV
 ds2 : List DV
def appA (fr : FrX) (own : OwX) (cf : Cf) : Option ApA := match opC fr cf with
 | some ⟨some d, .call ⟨.builtin .append, ⟨[x, y]⟩, ⟨[t, t']⟩⟩, _, _, _, _⟩ => match lookT tt t with
   | some ⟨.sl e s b, _, _, _⟩ => match lookT tt t' with
     | some ⟨.sl _ _ _, _, _, _⟩ => match lookT tt e with
       | some i => match zeE i with
         | some z => bif Nat.beq z.cells.length s && Nat.blt 0 b then (match srcX (lkC fr cf) (bkC fr own cf) s y with
           | some ds2 => match evX (lkC fr cf) x with
             | some (.rw nm) => match bkC fr own cf nm with
               | some (.b e' s' ds true) => bif (Nat.beq e' e && Nat.beq s' s) && !Nat.beq nm d then some ⟨d, some nm, e, s, b, ds, ds2⟩ else none
               | _ => none
             | some (.ct ds) => some ⟨d, none, e, s, b, ds, ds2⟩
             | some .nl => some ⟨d, none, e, s, b, [], ds2⟩
             | _ => none
           | none => none) else none
         | none => none
       | none => none
     | _ => none
   | _ => none
 | _ => none
def aBl (d : Nat) (nm : Option Nat) (B : Bk) : List (Nat × Option Bk) := match nm with
 | some nm => [(nm, none), (d, some B)]
 | none => [(d, some B)]
theorem appA_ok {d : Nat} {nm : Option Nat} {e s b : Nat} {ds ds2 : List DV} (h : appA fr own cf = some ⟨d, nm, e, s, b, ds, ds2⟩) (ds' : List DV) (hds : ds ++ ds2 = ds') (ho : nm.isNone = true → slOk s ds ∧ 0 < ds2.length) (ho2 : slOk s ds2) (hbd : (ds.length + ds2.length) * b ≤ 140737488355328) :
   ∃ o, opC fr cf = some o ∧ o.dst = some d ∧ OpR Tryz.prog GB C n (lkC fr cf) (bkC fr own cf) o (.rw d) (aBl d nm (.b e s ds' true)) [d] := by
 unfold appA at h
 split at h <;> try (cases h; done)
 rename_i hh
 split at h <;> try (cases h; done)
 rename_i hT
 split at h <;> try (cases h; done)
 rename_i hT'
 split at h <;> try (cases h; done)
 rename_i hi
 split at h <;> try (cases h; done)
 rename_i hz
 rw [cond_eq_ite] at h
 split at h <;> try (cases h; done)
 rename_i hc
 simp only [Bool.and_eq_true] at hc
 split at h <;> try (cases h; done)
 rename_i hy
 have := ti_sl (tt_ok _ _ hT) rfl
 have hN : TyN Tryz.prog _ := ⟨_, (ti_sl (tt_ok _ _ hT') rfl).un⟩
 refine ⟨_, hh, ?_⟩
 split at h <;> try (cases h; done)
 · rename_i hx
   split at h <;> try (cases h; done)
   rename_i hb
   rw [cond_eq_ite] at h
   split at h <;> cases h
   rename_i hq
   simp only [Bool.and_eq_true, Bool.not_eq_true'] at hq
   cases Nat.eq_of_beq_eq_true hq.1.1
   cases Nat.eq_of_beq_eq_true hq.1.2
   exact ⟨rfl, ok_apnd (tt_ok _ _ hi) hz hc.1 hx hb hy ho2 hc.2 hbd hq.2 hds⟩
 · rename_i hx
   cases h
   obtain ⟨h1, h2⟩ := ho rfl
   exact ⟨rfl, ok_appC (tt_ok _ _ hi) hz hc.1 (.inl hx) h1 hy ho2 h2 hc.2 hbd hds⟩
 · rename_i hx
   cases h
   obtain ⟨h1, h2⟩ := ho rfl
   exact ⟨rfl, ok_appC (tt_ok _ _ hi) hz hc.1 (.inr ⟨hx, rfl⟩) h1 hy ho2 h2 hc.2 hbd hds⟩
theorem ap [fu : Fu] {d : Nat} {nm : Option Nat} {e s b : Nat} {ds ds2 : List DV} (ds' : List DV) (h : appA fr own cf = some ⟨d, nm, e, s, b, ds, ds2⟩) (hds : ds ++ ds2 = ds') (ho2 : slOk s ds2) (hgo : goA tt n fu.n fr own cf (.rw d) (aBl d nm (.b e s ds' true)) [d] = ⟨vc, fr', own', cf'⟩) (k : CfS Tryz.prog GB C n Q0 fr' own' cf')
  (ho : nm.isNone = true → slOk s ds ∧ 0 < ds2.length := by intro h; first | (cases h; done) | exact ⟨okRow_spec rfl, by simp⟩) (hbd : (ds.length + ds2.length) * b ≤ 140737488355328 := by simp; omega)
  (hv : allP vc := by first | exact trivial | (simp only [allP]; kernel_rfl) | (simp only [allP]; omega) | (simp only [allP, List.length_map, List.length_set, List.length_replicate]; omega)) : CfS Tryz.prog GB C n Q0 fr own cf := by
 obtain ⟨o, h1, _, h3⟩ := appA_ok (GB := GB) (C := C) (n := n) h ds' hds ho ho2 hbd
 exact us h1 h3 hgo hv k
/-! slices -/
def slcA (fr : FrX) (cf : Cf) : Option (List DV × Int × Int × Nat × Bool) := match opC fr cf with
 | some ⟨_, .slice t x lo hi mx, _, _, _, _⟩ => match evD (lkC fr cf) x with
   | some (.sl l) => match lookT tt t with
     | some ⟨.sl _ s _, _, _, _⟩ => match bdX (lkC fr cf) 0 lo, bdX (lkC fr cf) l.length hi with
       | some i, some j => match mx with
         | none => some (l, i, j, s, false)
         | some _ => none
       | _, _ => none
     | _ => none
   | _ => none
 | _ => none
theorem sc' [fu : Fu] {l : List DV} {i j : Int} {s : Nat} (nlo nhi : Nat) (ls : List DV) (h : slcA fr cf = some (l, i, j, s, false)) (ei : i = nlo) (ej : j = nhi) (hls : (l.take nhi).drop nlo = ls) (ho : slOk s l) (h1 : nlo ≤ nhi) (h2 : nhi ≤ l.length)
  (hgo : goA tt n fu.n fr own cf (.d (.sl ls)) [] [] = ⟨vc, fr', own', cf'⟩) (k : CfS Tryz.prog GB C n Q0 fr' own' cf')
  (hv : allP vc := by first | exact trivial | (simp only [allP]; kernel_rfl) | (simp only [allP]; omega) | (simp only [allP, List.length_map, List.length_set, List.length_replicate]; omega)) : CfS Tryz.prog GB C n Q0 fr own cf := by
 unfold slcA at h
 split at h <;> try (cases h; done)
 rename_i hh
 split at h <;> try (cases h; done)
 rename_i hx
 split at h <;> try (cases h; done)
 rename_i hT
 split at h <;> try (cases h; done)
 rename_i hi hj
 split at h <;> cases h
 have := ti_sl (tt_ok _ _ hT) rfl
 subst ei ej hls
 exact us hh (ok_slc hx ho hi hj h1 h2) hgo hv k
def sl3A (fr : FrX) (cf : Cf) : Option (List DV × Int × Int × Nat) := match opC fr cf with
 | some ⟨_, .slice t x none (some hi) (some mx), _, _, _, _⟩ => match evD (lkC fr cf) x with
   | some (.sl l) => match lookT tt t with
     | some ⟨.sl _ s _, _, _, _⟩ => match bdX (lkC fr cf) 0 (some hi), bdX (lkC fr cf) 0 (some mx) with
       | some i, some j => some (l, i, j, s)
       | _, _ => none
     | _ => none
   | _ => none
 | _ => none
theorem s3 [fu : Fu] {l : List DV} {i j : Int} {s : Nat} (nhi : Nat) (ls : List DV) (h : sl3A fr cf = some (l, i, j, s)) (ei : i = nhi) (ej : j = nhi) (hls : l.take nhi = ls) (ho : slOk s l) (h2 : nhi ≤ l.length)
  (hgo : goA tt n fu.n fr own cf (.ct ls) [] [] = ⟨vc, fr', own', cf'⟩) (k : CfS Tryz.prog GB C n Q0 fr' own' cf')
  (hv : allP vc := by first | exact trivial | (simp only [allP]; kernel_rfl) | (simp only [allP]; omega) | (simp only [allP, List.length_map, List.length_set, List.length_replicate]; omega)) : CfS Tryz.prog GB C n Q0 fr own cf := by
 unfold sl3A at h
 split at h <;> try (cases h; done)
 rename_i hh
 split at h <;> try (cases h; done)
 rename_i hx
 split at h <;> try (cases h; done)
 rename_i hT
 split at h <;> cases h
 rename_i hi hj
 have := ti_sl (tt_ok _ _ hT) rfl
 subst ei ej hls
 exact us hh (ok_slc3 hx ho hi hj h2) hgo hv k
def boxA (fr : FrX) (cf : Cf) : Option (Nat × List DV) := match opC fr cf with
 | some ⟨some d, .box _ x, _, _, _, _⟩ => match evX (lkC fr cf) x with
   | some f => bif f.okc && nmNe f d then (match toDXs f.cells with
     | some l => some (d, l)
     | none => none) else none
   | none => none
 | _ => none
end
end Go.Sx
end

section
set_option maxRecDepth 100000
namespace Go.Sx
open Go Go.Proofs
section
variable {GB : Gh} {C : Ctx} {n : Nat} {Q0 : Exit → Act → World → Prop} {fr fr' : FrX} {own own' : OwX} {cf cf' : Cf} {vc : List Prop} {ops : Array Oper} {o : Oper} {K : List Kt} {r : List Oper}
/-! ### names anew -/
def rnN (x y m : Nat) (k : Option Nat) : Option Nat := bif Nat.beq m x then some y else bif Nat.beq m y then none else k
def rnX (x y : Nat) : FX → FX
 | .rw m => bif Nat.beq m x then .rw y else bif Nat.beq m y then .no else .rw m
 | .ov m o => bif Nat.beq m x then .ov y o else bif Nat.beq m y then .no else .ov m o
 | .be m s i j => bif Nat.beq m x then .be y s i j else bif Nat.beq m y then .no else .be m s i j
 | .bx tp pre m post => bif Nat.beq m x then .bx tp pre y post else bif Nat.beq m y then .no else .bx tp pre m post
 | f => f
def rnB (x y : Nat) : Option Bk → Option Bk
 | some (.o ty cs lo) => some (.o ty (cs.map (rnX x y)) lo)
 | B => B
def rnK (x y k : Nat) : Nat := bif Nat.beq k x then y else bif Nat.beq k y then x else k
def mapK {α : Type} (g : FX → FX) : List FX → (List FX → α) → α
 | [], k => k []
 | f :: t, k => mapK g t fun t' => fcX (g f) fun f' => k (f' :: t')
theorem mapK_eq {α : Type} {g : FX → FX} : ∀ {cs : List FX} {k : List FX → α}, mapK g cs k = k (cs.map g)
 | [], k => rfl
 | f :: t, k => by simp only [mapK, fcX_eq]; rw [mapK_eq]; rfl
def mapF {α : Type} (g : FX → FX) : FrX → (FrX → α) → α
 | [], k => k []
 | (j, f) :: t, k => mapF g t fun t' => fcX (g f) fun f' => k ((j, f') :: t')
theorem mapF_eq {α : Type} {g : FX → FX} : ∀ {fr : FrX} {k : FrX → α}, mapF g fr k = k (fr.map fun e => (e.1, g e.2))
 | [], k => rfl
 | (j, f) :: t, k => by simp only [mapF, fcX_eq]; rw [mapF_eq]; rfl
def rnO {α : Type} (x y : Nat) : OwX → (OwX → α) → α
 | [], k => k []
 | (j, B) :: t, k => rnO x y t fun t' => bif Nat.beq j y then k ((x, none) :: t') else match B with
   | some (.o ty cs lo) => mapK (rnX x y) cs fun cs' => bif Nat.beq j x then k ((y, some (.o ty cs' lo)) :: t') else k ((j, some (.o ty cs' lo)) :: t')
   | B => bif Nat.beq j x then k ((y, B) :: t') else k ((j, B) :: t')
theorem rnO_eq {α : Type} {x y : Nat} : ∀ {own : OwX} {k : OwX → α}, rnO x y own k = k (own.map fun e => (bif Nat.beq e.1 y then x else bif Nat.beq e.1 x then y else e.1, bif Nat.beq e.1 y then none else rnB x y e.2))
 | [], k => rfl
 | (j, B) :: t, k => by
   simp only [rnO, rnO_eq (own := t), List.map_cons]
   cases Nat.beq j y with
   | true => rfl
   | false =>
     cases B with
     | none => cases Nat.beq j x <;> rfl
     | some B => cases B <;> cases Nat.beq j x <;> simp only [cond_false, cond_true, mapK_eq, rnB]
theorem rnO_look {x y : Nat} (hxy : x ≠ y) : ∀ {own : OwX} {k : Nat}, lookO (own.map fun e => (bif Nat.beq e.1 y then x else bif Nat.beq e.1 x then y else e.1, bif Nat.beq e.1 y then none else rnB x y e.2)) k = if k = x then none else if k = y then rnB x y (lookO own x) else rnB x y (lookO own k)
 | [], k => by simp [lookO, rnB]
 | (j, B) :: t, k => by
   have bq : ∀ a b : Nat, Nat.beq a b = decide (a = b) := fun a b => by
     by_cases h : a = b
     · subst h; simp
     · rw [decide_eq_false h]
       cases hb : Nat.beq a b with
       | false => rfl
       | true => exact absurd (Nat.eq_of_beq_eq_true hb) h
   simp only [List.map_cons]
   rw [lookO_cons, rnO_look hxy (own := t), lookO_cons, lookO_cons]
   by_cases h1 : j = y
   · subst h1
     simp only [bq, decide_true, cond_true]
     by_cases h2 : k = x
     · simp [h2]
     · by_cases h3 : k = j
       · subst h3; simp [h2, Ne.symm h2, hxy]
       · simp [h2, h3]
   · by_cases h4 : j = x
     · subst h4
       simp only [bq, h1, decide_false, cond_false, decide_true, cond_true]
       by_cases h2 : k = y
       · subst h2; simp [Ne.symm h1]
       · by_cases h3 : k = j
         · subst h3; simp [h1]
         · simp [h2, h3]
     · simp only [bq, h1, h4, decide_false, cond_false]
       by_cases h2 : k = j
       · subst h2; simp [h1, h4]
       · by_cases h3 : k = x
         · subst h3; simp [h2]
         · by_cases h5 : k = y
           · subst h5; simp [h2, h3, Ne.symm h4]
           · simp [h2, h3, h5]
theorem rnX_is {x y : Nat} (hxy : x ≠ y) {ρ : NE} {G : Gh} {f : FX} {v : Value} (h : IsX ρ G f v) : IsX (fun k => if k = y then ρ x else ρ k) G (rnX x y f) v := by
 have key : ∀ m : Nat, Nat.beq m y = false → (fun k => if k = y then ρ x else ρ k) m = ρ m := fun m hm => if_neg fun e => by subst e; simp at hm
 cases f with
 | rw m =>
   simp only [rnX]
   cases hb : Nat.beq m x with
   | true => cases Nat.eq_of_beq_eq_true hb; simp only [cond_true]; show v = _; simp; exact h
   | false =>
     cases hb' : Nat.beq m y with
     | true => trivial
     | false => simp only [cond_false]; show v = _; rw [key m hb']; exact h
 | ov m off =>
   simp only [rnX]
   cases hb : Nat.beq m x with
   | true => cases Nat.eq_of_beq_eq_true hb; simp only [cond_true]; obtain ⟨b, h1, h2⟩ := h; exact ⟨b, by simp; exact h1, h2⟩
   | false =>
     cases hb' : Nat.beq m y with
     | true => trivial
     | false => simp only [cond_false]; obtain ⟨b, h1, h2⟩ := h; exact ⟨b, by rw [key m hb']; exact h1, h2⟩
 | be m s i j =>
   simp only [rnX]
   cases hb : Nat.beq m x with
   | true => cases Nat.eq_of_beq_eq_true hb; simp only [cond_true]; obtain ⟨b, h1, h2⟩ := h; exact ⟨b, by simp; exact h1, h2⟩
   | false =>
     cases hb' : Nat.beq m y with
     | true => trivial
     | false => simp only [cond_false]; obtain ⟨b, h1, h2⟩ := h; exact ⟨b, by rw [key m hb']; exact h1, h2⟩
 | bx tp pre m post =>
   simp only [rnX]
   cases hb : Nat.beq m x with
   | true => cases Nat.eq_of_beq_eq_true hb; simp only [cond_true]; obtain ⟨m1, m2, e, h1, h2⟩ := h; exact ⟨m1, m2, by simpa using e, h1, h2⟩
   | false =>
     cases hb' : Nat.beq m y with
     | true => trivial
     | false => simp only [cond_false]; obtain ⟨m1, m2, e, h1, h2⟩ := h; exact ⟨m1, m2, by rw [key m hb']; exact e, h1, h2⟩
 | _ => exact h
theorem rnXs_is {x y : Nat} (hxy : x ≠ y) {ρ : NE} {G : Gh} : ∀ {cs : List FX} {m : List Value}, IsXs ρ G cs m → IsXs (fun k => if k = y then ρ x else ρ k) G (cs.map (rnX x y)) m
 | [], m, h => h
 | f :: t, m, ⟨v, q, e, h1, h2⟩ => ⟨v, q, e, rnX_is hxy h1, rnXs_is hxy h2⟩
def rnA (x y : Nat) (fr : FrX) (own : OwX) : Option FzR := bif Nat.beq x y then none else mapF (rnX x y) fr fun fr' => rnO x y own fun own' => some ⟨fr', own'⟩
theorem rnA_ok {x y : Nat} {Φ : Act → World → Prop} {R : FzR} (h : rnA x y fr own = some R) (hk : SX GB C n (lookX R.fr) (lookO R.own) Φ) : SX GB C n (lookX fr) (lookO own) Φ := by
 unfold rnA at h
 rw [cond_eq_ite] at h
 split at h <;> try (cases h; done)
 rename_i hb
 have hxy : x ≠ y := fun e => hb (by subst e; simp)
 rw [mapF_eq, rnO_eq] at h; cases h
 refine ⟨fun ρ G ov a w r => hk.run (fun k => if k = y then ρ x else ρ k) G ov a w ?_⟩
 have inv : ∀ m B, lookO (own.map fun e => (bif Nat.beq e.1 y then x else bif Nat.beq e.1 x then y else e.1, bif Nat.beq e.1 y then none else rnB x y e.2)) m = some B → ∃ m0 B0, lookO own m0 = some B0 ∧ rnB x y (some B0) = some B ∧ (m = y ∧ m0 = x ∨ m ≠ y ∧ m ≠ x ∧ m0 = m) := fun m B e => by
   rw [rnO_look hxy] at e
   split at e
   · cases e
   · rename_i hm
     split at e
     · cases hl : lookO own x with
       | none => rw [hl] at e; cases e
       | some B0 => rw [hl] at e; exact ⟨x, B0, hl, e, .inl ⟨by assumption, rfl⟩⟩
     · cases hl : lookO own m with
       | none => rw [hl] at e; cases e
       | some B0 => rw [hl] at e; exact ⟨m, B0, hl, e, .inr ⟨by assumption, hm, rfl⟩⟩
 have rho : ∀ m m0, (m = y ∧ m0 = x ∨ m ≠ y ∧ m ≠ x ∧ m0 = m) → (fun k => if k = y then ρ x else ρ k) m = ρ m0 := fun m m0 h => by
   rcases h with ⟨h1, h2⟩ | ⟨h1, _, h2⟩
   · subst h1 h2; simp
   · subst h2; exact if_neg h1
 refine ⟨r.gb, r.h, r.sz, r.df, fun k f e => ?_, fun m B e => ?_, fun m m' B B' e e' hne => ?_⟩
 · rw [look_map] at e
   cases hf : lookX fr k with
   | none => rw [hf] at e; cases e
   | some g =>
     rw [hf] at e; cases e
     obtain ⟨v, h1, h2⟩ := r.fx k g hf
     exact ⟨v, h1, rnX_is hxy h2⟩
 · obtain ⟨m0, B0, h1, h2, h3⟩ := inv m B e
   obtain ⟨os, h4, h5⟩ := r.bx m0 B0 h1
   refine ⟨os, ?_, h5⟩
   have hr := rho m m0 h3
   cases B0 with
   | b => cases h2; obtain ⟨vs, q1, q2, q3, q4⟩ := h4; exact ⟨vs, by rw [hr]; exact q1, q2, q3, q4⟩
   | c => cases h2; obtain ⟨vs, q1, q2, q3, q4, q5⟩ := h4; exact ⟨vs, by rw [hr]; exact q1, q2, q3, q4, by rw [hr]; exact q5⟩
   | o ty cs lo => cases h2; obtain ⟨b, q, q1, q2, q3⟩ := h4; exact ⟨b, q, by rw [hr]; exact q1, q2, rnXs_is hxy q3⟩
 · obtain ⟨m0, B0, h1, _, h3⟩ := inv m B e
   obtain ⟨m1, B1, h4, _, h6⟩ := inv m' B' e'
   have q1 := rho m m0 h3
   have q2 := rho m' m1 h6
   simp only at q1 q2
   rw [q1, q2]
   refine r.dj m0 m1 B0 B1 h1 h4 fun e => ?_
   rcases h3 with ⟨h7, h8⟩ | ⟨h7, h8, h9⟩ <;> rcases h6 with ⟨g7, g8⟩ | ⟨g7, g8, g9⟩
   · exact hne (h7.trans g7.symm)
   · exact g8 (by rw [← g9, ← e, h8])
   · exact h8 (by rw [← h9, e, g8])
   · exact hne (by rw [← h9, e, g9])
theorem rnE (x y : Nat) {fr1 : FrX} {own1 : OwX} {e : Exit} (h : rnA x y fr own = some ⟨fr1, own1⟩) (k : CfS Tryz.prog GB C n Q0 fr1 own1 (.ex e K)) : CfS Tryz.prog GB C n Q0 fr own (.ex e K) := rnA_ok h k
theorem lookX_nl {d nm : Nat} (hl : lookX fr d = some .nl) {Φ : Act → World → Prop} {ty s : Nat} (hf : FreshX [nm] none (lookX fr) (lookO own)) (h : SX GB C n (lookX ((d, .rw nm) :: fr)) (lookO (setO own nm (some (.b ty s [] true)))) Φ) : SX GB C n (lookX fr) (lookO own) Φ := by
 refine ⟨fun ρ G ov a w r => ?_⟩
 obtain ⟨f1, f2⟩ := hf nm List.mem_cons_self
 have hset : lookO (setO own nm (some (.b ty s [] true))) = upB (lookO own) [(nm, some (.b ty s [] true))] := by funext j; rw [lookO_set]; rfl
 rw [hset] at h
 refine h.run (fun k => if k = nm then ⟨none, 0, 0⟩ else ρ k) G ov a w ⟨r.gb, r.h, r.sz, r.df, fun k f e => ?_, fun m B e => ?_, fun m m' B B' e e' hne => ?_⟩
 · rw [lookX_cons] at e
   split at e
   · cases e; rename_i hk; subst hk
     obtain ⟨v, h1, h2⟩ := r.fx _ _ hl
     exact ⟨v, h1, by rw [show v = _ from h2]; show _ = _; simp⟩
   · obtain ⟨v, h1, h2⟩ := r.fx k f e
     exact ⟨v, h1, h2.ren fun m hm => neN _ fun hc => f1 k f (by simp) e (by rw [hm, hc])⟩
 · simp only [upB] at e
   by_cases hm : m = nm
   · subst hm; simp only [if_true] at e; cases e
     exact ⟨[], ⟨[], by simp only [if_true]; exact .inl ⟨rfl, rfl, rfl⟩, .nil, by simp, fun _ o ho => by cases ho⟩, fun o ho => by cases ho⟩
   · simp only [hm, if_false] at e
     obtain ⟨os, h1, h2⟩ := r.bx m B e
     exact ⟨os, h1.ren (if_neg hm) fun q hq => neN _ fun hc => f2 m B hm e (by rw [← hc]; exact hq), h2⟩
 · simp only [upB] at e e'
   intro b hb hb'
   by_cases hm : m = nm
   · simp [hm] at hb
   · by_cases hm' : m' = nm
     · simp [hm'] at hb'
     · simp only [hm, hm', if_false] at e e' hb hb'
       exact r.dj m m' B B' e e' hne b hb hb'
theorem nr (d nm ty s : Nat) {own1 : OwX} {c : Code} (hl : lookX fr d = some .nl) (hf : freshL [nm] none fr own = true) (ho : setK own nm (some (.b ty s [] true)) id = own1) (k : CfS Tryz.prog GB C n Q0 ((d, .rw nm) :: fr) own1 (.code c K)) : CfS Tryz.prog GB C n Q0 fr own (.code c K) := by
 subst ho
 exact lookX_nl hl (freshL_ok hf) k
/-! ### calls that borrow a variable -/
def mkP : List (Option DV) → Nat → List DV
 | [], _ => []
 | some d :: t, b => d :: mkP t b
 | none :: t, b => .v (.pointer (some ⟨b, 0, none⟩)) :: mkP t b
def evMs (lk : LK) : List Operand → Option (Option Nat × List (Option DV))
 | [] => some (none, [])
 | x :: t => match evX lk x, evMs lk t with
   | some (.ov nm 0), some (none, l) => some (some nm, none :: l)
   | some f, some (q, l) => match toDX f with
     | some d => some (q, some d :: l)
     | none => none
   | _, _ => none
def cargM (lk : LK) (fo : Operand) (args : Array Operand) : Option (FuncId × Nat × List (Option DV)) := match evX lk fo with
 | some (.d (.v (.func (.func f) ⟨[]⟩ ⟨[]⟩))) => match evMs lk args.toList with
   | some (some nm, l) => some (f, nm, l)
   | _ => none
 | _ => none
structure CmA where
 f : FuncId
 nm : Nat
 l : List (Option DV)
 ty : TypeId
 cs : List DV
 lo : Bool
def calM (fr : FrX) (own : OwX) (cf : Cf) : Option CmA := match opC fr cf with
 | some ⟨_, .call ⟨.value fo, args, _⟩, _, _, _, _⟩ => match cargM (lkC fr cf) fo args with
   | some (f, nm, l) => match bkC fr own cf nm with
     | some (.o ty cs lo) => match toDXs cs with
       | some csd => some ⟨f, nm, l, ty, csd, lo⟩
       | none => none
     | _ => none
   | none => none
 | _ => none
def mapD {α : Type} : List DV → (List FX → α) → α
 | [], k => k []
 | d :: t, k => mapD t fun t' => k (.d d :: t')
abbrev NM : Nat := 1000000
def args0M : Nat → List (Option DV) → FrX
 | _, [] => []
 | i, some v :: t => (i, .d v) :: args0M (i + 1) t
 | i, none :: t => (i, .ov NM 0) :: args0M (i + 1) t
def PMpost (C : Ctx) (b : Nat) (m : List Value) (ty : TypeId) (lo : Bool) (rv : DV) (cs' : List DV) : Ending → World → Prop := RPostM C [⟨b, m, ty, lo⟩] (fun v css G' => Is G' rv v ∧ ∃ m', css = [m'] ∧ IsLs G' cs' m')
def ownD (own : OwX) (nm : Nat) : Option (TypeId × List DV) := match lookO own nm with
 | some (.o ty cs false) => match toDXs cs with
   | some l => some (ty, l)
   | none => none
 | _ => none
end
end Go.Sx
end

section
set_option maxRecDepth 100000
namespace Go.Sx
open Go Go.Proofs
theorem isNilS (G : Gh) : Is G (.sl []) (.slice none 0 0) := is_sl.2 ⟨0, ⟨none, 0, 0⟩, [], rfl, IsSl.nil G 0, .nil⟩
instance : TyZD Tryz.prog 36 (.agg ⟨[.int .i64 0, .slice none 0 0]⟩) [.v (.int .i64 0), .sl []] := ⟨inferInstance, (.cons ((is_v.2 rfl)) (.cons (isNilS _) .nil))⟩
instance : TyZD Tryz.prog 60 (.agg ⟨[.bool false, .slice none 0 0, .bool false, .slice none 0 0, .bool false, .slice none 0 0, .int .i64 0, .int .i64 0]⟩) [.v (.bool false), .sl [], .v (.bool false), .sl [], .v (.bool false), .sl [], .v (.int .i64 0), .v (.int .i64 0)] := ⟨inferInstance, (.cons ((is_v.2 rfl)) (.cons (isNilS _) (.cons ((is_v.2 rfl)) (.cons (isNilS _) (.cons ((is_v.2 rfl)) (.cons (isNilS _) (.cons ((is_v.2 rfl)) (.cons ((is_v.2 rfl)) .nil))))))))⟩
instance : TyZE Tryz.prog 60 (.ag [.v (.bool false), .sl [], .v (.bool false), .sl [], .v (.bool false), .sl [], .v (.int .i64 0), .v (.int .i64 0)]) := ⟨⟨_, inferInstance, is_ag.2 ⟨_, rfl, (.cons ((is_v.2 rfl)) (.cons (isNilS _) (.cons ((is_v.2 rfl)) (.cons (isNilS _) (.cons ((is_v.2 rfl)) (.cons (isNilS _) (.cons ((is_v.2 rfl)) (.cons ((is_v.2 rfl)) .nil))))))))⟩, rfl⟩⟩
end Go.Sx
end

section
set_option maxRecDepth 100000
namespace Go.Sx
open Go Go.Proofs
theorem trimD_step {ds : List Nat} {k : Nat} (hk : k < ds.length) (h : trimD ds = trimD (ds.take (k + 1))) (h0 : ds.getD k 0 = 0) : trimD ds = trimD (ds.take k) := by
 rw [h, List.take_succ_eq_append_getElem hk]
 have : ds[k] = 0 := by rw [List.getD_eq_getElem?_getD, List.getElem?_eq_getElem hk] at h0; simpa using h0
 rw [this, trimD_snoc0]
theorem trimD_stop {ds : List Nat} {k : Nat} (hk : k < ds.length) (h : trimD ds = trimD (ds.take (k + 1))) (h0 : ds.getD k 0 ≠ 0) : trimD ds = ds.take (k + 1) := by
 rw [h, List.take_succ_eq_append_getElem hk]
 have : ds[k] ≠ 0 := by rw [List.getD_eq_getElem?_getD, List.getElem?_eq_getElem hk] at h0; simpa using h0
 exact trimD_snoc this
theorem nat_trim {A G : Gh} {x : SV} {ds : List Nat} (hx : IsD A x ds) [GL A G] (hb : ds.length ≤ 1125899906842624) : Fn Tryz.prog 181 [x.v] G (fun v _ => v = .slice x.a (trimD ds).length x.c) := by
 have hlen := hx.len
 have hcap := hx.sl.cap
 refine Fn.intro Tryz.func181 rfl rfl Tryz.ntmps181 rfl ?_
 intro C _ _
 refine sR <| sa rfl rfl <| zE <| st_seq <| st_block <| ?_
 refine st_loop (X := Nat) (fun k => [(0, .slice x.a k x.c)]) (fun _ => []) (fun k _ => k ≤ ds.length ∧ trimD ds = trimD (ds.take k)) (fun k => k) ds.length ⟨Nat.le_refl _, by simp⟩ (hlen ▸ .cons rfl .nil) rfl ?_
 rintro k Gx _ ⟨hk, ht⟩
 refine st_seq <| sR <| sm rfl rfl <| slen rfl rfl <| sy (yd_gtr rfl rfl) rfl <| sm rfl rfl <| ?_
 refine st_caseP 6 rfl (fun hg => ?_) (fun hg => ?_)
 · have hk1 : k - 1 < ds.length := by omega
   have hkt : ((k : Int) - 1).toNat = k - 1 := by omega
   have hk2 : k = k - 1 + 1 := by omega
   refine syg rfl rfl (yd_move rfl) rfl <| syg rfl rfl (yd_move rfl) rfl <| syg rfl rfl (yd_len rfl) rfl <| syg rfl rfl (yd_sub64 rfl rfl) rfl <| ?_
   refine syg rfl rfl (yd_ixD (z := ⟨x.a, k, x.c⟩) (hx.take k hk) rfl rfl (by omega) (by show _ < (k : Int); omega)) rfl <| syg rfl rfl (yd_ldD hx rfl (by omega)) rfl <| syg rfl rfl (yd_eql rfl rfl) rfl <| sy (yd_pickT rfl rfl) rfl <| zE <| ?_
   rw [hkt]
   refine st_condE rfl (fun hc => ?_) (fun hc => ?_) -- slot 14
   · refine st_exit <| st_te <| st_te <| st_inBlock_eq <| sR <| sm rfl rfl <| sa rfl rfl <| zE <| st_ret <| ?_
     have hs := trimD_stop hk1 (hk2 ▸ ht) (fun e => hc (by rw [e]; rfl))
     refine zD (.tmp rfl .nil) ?_
     rw [hs, ← hk2]
     simp [tupled, hk]
   refine zK <| st_block <| st_region <| sm rfl rfl <| sm rfl rfl <| slen rfl rfl <| sy (yd_sub64 rfl rfl) rfl <| sy (yd_slice_hi rfl rfl (by omega) (by omega)) rfl <| ?_
   refine sa rfl rfl <| zE <| ?_
   exact st_again (k - 1) ⟨by omega, trimD_step hk1 (hk2 ▸ ht) (by omega)⟩ (by omega) (.cons (by rw [← hkt]; rfl) .nil) rfl
 refine ss rfl rfl rfl rfl <| ss rfl rfl rfl rfl <| ss rfl rfl rfl rfl <| ss rfl rfl rfl rfl <| ss rfl rfl rfl rfl <| ss rfl rfl rfl rfl <| ?_
 refine ss rfl rfl rfl rfl <| sy (yd_pickF rfl rfl) rfl <| zE <| st_condF rfl <| st_exit <| st_te <| st_te <| st_inBlock_eq <| sR <| sm rfl rfl <| sa rfl rfl <| zE <| st_ret <| ?_
 have hk0 : k = 0 := by omega
 subst hk0
 refine zD (.tmp rfl .nil) ?_
 rw [ht]
 rfl
/-! ### Normal, Clone, Norm -/
theorem nat_Normal {A G : Gh} {x : SV} {ds : List Nat} (hx : IsD A x ds) [GL A G] (hb : ds.length ≤ 1125899906842624) : Fn Tryz.prog 139 [x.v] G (fun v _ => v = .bool (decide (Nrm ds))) := by
 have hlen := hx.len
 refine Fn.intro Tryz.func139 rfl rfl Tryz.ntmps139 rfl ?_
 intro C _ _
 refine sR <| sa rfl rfl <| zE <| sR <| sm rfl rfl <| slen rfl rfl <| sy (yd_eql rfl rfl) rfl <| sm rfl rfl <| ?_
 refine st_caseP 6 rfl (fun hg => ?_) (fun hg => ?_)
 · refine ss rfl rfl rfl rfl <| ss rfl rfl rfl rfl <| ss rfl rfl rfl rfl <| ss rfl rfl rfl rfl <| ss rfl rfl rfl rfl <| ss rfl rfl rfl rfl <| ss rfl rfl rfl rfl <| sy (yd_pickT rfl rfl) rfl <| sa rfl rfl <| ?_
   refine zE <| st_ret <| ?_
   refine zD (.tmp rfl .nil) ?_
   have : ds = [] := List.eq_nil_of_length_eq_zero (by omega)
   subst this
   simp [tupled, Nrm]
 have hne : 0 < ds.length := by omega
 have hkt : ((x.n : Int) - 1).toNat = ds.length - 1 := by omega
 refine syg rfl rfl (yd_move rfl) rfl <| syg rfl rfl (yd_move rfl) rfl <| syg rfl rfl (yd_len rfl) rfl <| syg rfl rfl (yd_sub64 rfl rfl) rfl <| syg rfl rfl (yd_ixD hx rfl rfl (by omega) (by omega)) rfl <| ?_
 refine syg rfl rfl (yd_ldD hx rfl (by omega)) rfl <| syg rfl rfl (yd_neq rfl rfl) rfl <| sy (yd_pickF rfl rfl) rfl <| sa rfl rfl <| zE <| st_ret <| ?_
 refine zD (.tmp rfl .nil) ?_
 rw [hkt]
 simp only [tupled, Value.bool.injEq, decide_eq_decide, Nrm, List.getLast?_eq_getElem?, List.getD_eq_getElem?_getD, List.getElem?_eq_getElem (show ds.length - 1 < ds.length by omega), Option.getD_some, ne_eq, Option.some.injEq]
 exact not_congr (by omega)
theorem dI_flat (ds : List Nat) : ∀ v ∈ ds.map dI, flat v = true := fun v hv => by
 obtain ⟨d, _, rfl⟩ := List.mem_map.1 hv; rfl
theorem nat_Clone {A G : Gh} {x : SV} {ds : List Nat} (hx : IsD A x ds) [GL A G] (hb : ds.length ≤ 1125899906842) : Fn Tryz.prog 212 [x.v] G (fun v G' => ∃ z : SV, v = z.v ∧ IsD G' z ds) := by
 have hlen := hx.len
 refine Fn.intro Tryz.func212 rfl rfl Tryz.ntmps212 rfl ?_
 intro C _ _
 refine sR <| sa rfl rfl <| zE <| st_seq <| sR <| sm rfl rfl <| sy (yd_eqS rfl rfl) rfl <| zE <| ?_
 refine st_condB rfl (fun hc => ?_) (fun hc => ?_)
 · refine sR <| sa rfl rfl <| zE <| st_ret <| ?_
   refine zD (.tmp rfl .nil) ⟨⟨none, 0, 0⟩, rfl, ?_⟩
   rcases hx.sl.mem with h | ⟨b, off, cs, ha, _⟩
   · have : ds = [] := by simpa using h
     subst this; exact .nil _
   · rw [ha] at hc; cases hc
 refine zK <| sR <| ?_
 refine sc (ch_slice0 rfl ?_)
 intro b1
 refine sm rfl rfl <| ?_
 refine sc (ch_append_own (xs := []) (rest := []) (ys := ds.map dI) rfl rfl (.hd ..) rfl rfl (Nat.le_refl _) (src_D hx) (by simp [hlen]) (dI_flat ds) (by decide) (by omega) rfl rfl ?_)
 intro b cap rest h1 h2
 refine sa rfl rfl <| zE <| st_freeze b (.hd ..) (fun G' _ hgb => ?_)
 refine st_ret <| ?_
 refine zD (.tmp rfl .nil) ⟨⟨some ⟨b, 0, none⟩, x.n, cap⟩, by simp [tupled, SV.v], ?_⟩
 exact .of_block hx.ok hgb.h hlen (by omega) (by simp)
theorem nat_Norm {A G : Gh} {x : SV} {ds : List Nat} {k : Nat} (hx : IsD A x ds) [GL A G] (hk : dv ds < 2 ^ k) (hb : ds.length ≤ 1125899906842) : Fn Tryz.prog 180 [x.v] G (fun v G' => ∃ z : SV, v = z.v ∧ IsN k G' z (dv ds)) := by
 have htl := trimD_len ds
 refine Fn.intro Tryz.func180 rfl rfl Tryz.ntmps180 rfl ?_
 intro C _ _
 refine sR <| sa rfl rfl <| zE <| sR <| sm rfl rfl <| ?_
 refine sc (zC rfl rfl (nat_trim hx (by omega)) rfl ?_)
 rintro _ G1 _ rfl
 refine sc (zC rfl rfl (nat_Clone hx.trim (by omega)) rfl ?_)
 rintro _ G2 _ ⟨z, rfl, hz⟩
 refine sa rfl rfl <| zE <| st_ret <| ?_
 refine zD (.tmp rfl .nil) ⟨z, rfl, ?_⟩
 exact ⟨by rw [dg_trim hx.ok]; exact hz, hk⟩
end Go.Sx
end

section
namespace Go.Proofs
open Go.Shelf
def Tryz.lays128_ren : Go.Shelf.Ren := ⟨fun | 128 => 225 | n => n, fun | 51 => 224 | 3 => 3 | 4 => 4 | 46 => 235 | 5 => 5 | 9 => 9 | n => n, fun | n => n⟩
def Tryz.lays133_ren : Go.Shelf.Ren := ⟨fun | 133 => 202 | 128 => 225 | n => n, fun | 51 => 224 | 3 => 3 | 4 => 4 | 46 => 235 | 5 => 5 | 9 => 9 | n => n, fun | n => n⟩
theorem Tryz.lays133 : Go.Proofs.Lays.n133 Tryz.prog Tryz.lays133_ren := {
 mixed := by kernel_rfl
 f128 := Tryz.func225.trans (congrArg some (by kernel_rfl))
 f133 := Tryz.func202.trans (congrArg some (by kernel_rfl))
 t3 := Tryz.underlying3
 a3 := Tryz.isAgg3
 z3 := Tryz.sizeOf3
 v3 := Tryz.zeroValue3
 t4 := Tryz.underlying4
 a4 := Tryz.isAgg4
 z4 := Tryz.sizeOf4
 v4 := Tryz.zeroValue4
 t5 := Tryz.underlying5
 a5 := Tryz.isAgg5
 z5 := Tryz.sizeOf5
 v5 := Tryz.zeroValue5
 t9 := Tryz.underlying9
 a9 := Tryz.isAgg9
 z9 := Tryz.sizeOf9
 v9 := Tryz.zeroValue9
 t46 := Tryz.underlying235
 a46 := Tryz.isAgg235
 z46 := Tryz.sizeOf235
 v46 := Tryz.zeroValue235
 t51 := Tryz.underlying224
 a51 := Tryz.isAgg224
 z51 := Tryz.sizeOf224
 v51 := Tryz.zeroValue224 }
theorem Tryz.bits_LeadingZeros32 (x : Int) (w : World) (h0 : 0 ≤ x) (h1 : x ≤ 4294967295) :
  Calls Tryz.prog 202 #[.int .u32 x] w fun e w' => e = .returned (.int .i64 (32 - (Lib.bitLen x.toNat : Int))) ∧ w' = w := Any.bits_LeadingZeros32 Tryz.lays133 x w h0 h1
def Tryz.lays264_ren : Go.Shelf.Ren := ⟨fun | 264 => 233 | n => n, fun | 53 => 199 | 46 => 235 | n => n, fun | n => n⟩
theorem Tryz.lays264 : Go.Proofs.Lays.n264 Tryz.prog Tryz.lays264_ren := {
 mixed := by kernel_rfl
 f264 := Tryz.func233.trans (congrArg some (by kernel_rfl))
 t46 := Tryz.underlying235
 a46 := Tryz.isAgg235
 z46 := Tryz.sizeOf235
 v46 := Tryz.zeroValue235
 t53 := Tryz.underlying199
 a53 := Tryz.isAgg199
 z53 := Tryz.sizeOf199
 v53 := Tryz.zeroValue199 }
open Go.RowKit Go.Lib in
theorem Tryz.bits_Mul64 (x y : Nat) (hx : x < 18446744073709551616) (hy : y < 18446744073709551616) (w : World) :
  Calls Tryz.prog 233 #[.int .u64 x, .int .u64 y] w fun e w' => e = .returned (.tuple #[.int .u64 ((x * y / 18446744073709551616 : Nat) : Int), .int .u64 ((x * y % 18446744073709551616 : Nat) : Int)]) ∧ w' = w := Any.bits_Mul64 Tryz.lays264 x y hx hy w
end Go.Proofs
end

section
set_option maxRecDepth 100000
namespace Go.Sx
open Go Go.Proofs
/-! ### the number of binary digits -/
def bl (x : Nat) : Nat := if x = 0 then 0 else Nat.log2 x + 1
theorem lt_bl (x : Nat) : x < 2 ^ bl x := by
 unfold bl
 split
 · rename_i h; subst h; decide
 · exact Nat.lt_log2_self
theorem bl_le {x k : Nat} : bl x ≤ k ↔ x < 2 ^ k := by
 constructor
 · intro h; exact Nat.lt_of_lt_of_le (lt_bl x) (Nat.pow_le_pow_right (by omega) h)
 · intro h
   unfold bl
   split
   · omega
   · rename_i h0
     have := (Nat.log2_lt h0).2 h
     omega
theorem bl_half {x : Nat} (h : x ≠ 0) : bl x = 1 + bl (x / 2) := by
 have h1 : ∀ k, bl x ≤ k + 1 ↔ bl (x / 2) ≤ k := fun k => by
  rw [bl_le, bl_le, Nat.pow_succ]; omega
 have h2 : bl x ≠ 0 := fun e => by
  have := lt_bl x; rw [e] at this; simp at this; exact h this
 have h3 := (h1 (bl (x / 2))).2 (Nat.le_refl _)
 have h4 := (h1 (bl x - 1)).1 (by omega)
 omega
theorem bitLenAux_eq : ∀ (f x : Nat), x < 2 ^ f → Lib.bitLenAux f x = bl x
 | 0, x, h => by
   have : x = 0 := by simpa using h
   subst this; rfl
 | f + 1, x, h => by
   unfold Lib.bitLenAux
   split
   · rename_i h0; subst h0; rfl
   · rename_i h0
     rw [bitLenAux_eq f (x / 2) (by rw [Nat.pow_succ] at h; omega), bl_half h0]
theorem bitLen_eq {x : Nat} (h : x < 2 ^ 64) : Lib.bitLen x = bl x := bitLenAux_eq 64 x h
theorem bl_shift {x k : Nat} (d : Nat) (h : x < 2 ^ k) (hd : d ≠ 0) : bl (x + 2 ^ k * d) = k + bl d := by
 have h1 : ∀ j, bl (x + 2 ^ k * d) ≤ k + j ↔ bl d ≤ j := fun j => by
   rw [bl_le, bl_le, Nat.pow_add]
   constructor
   · intro h'
     exact Nat.lt_of_mul_lt_mul_left (a := 2 ^ k) (by omega)
   · intro h'
     have : 2 ^ k * (d + 1) ≤ 2 ^ k * 2 ^ j := Nat.mul_le_mul_left _ h'
     rw [Nat.mul_add] at this
     omega
 have h2 : k < bl (x + 2 ^ k * d) := by
   rcases Nat.lt_or_ge k (bl (x + 2 ^ k * d)) with h' | h'
   · exact h'
   · have := bl_le.1 h'
     have h3 : 2 ^ k * 1 ≤ 2 ^ k * d := Nat.mul_le_mul_left _ (by omega)
     omega
 have h3 := (h1 (bl d)).2 (Nat.le_refl _)
 have h4 := (h1 (bl (x + 2 ^ k * d) - k)).1 (by omega)
 omega
theorem bl_dv {ds : List Nat} (h : DOk ds) (hn : Nrm ds) (hne : ds ≠ []) : bl (dv ds) = 32 * (ds.length - 1) + bl (ds.getD (ds.length - 1) 0) := by
 rcases List.eq_nil_or_concat ds with rfl | ⟨l, d, rfl⟩
 · exact absurd rfl hne
 · rw [List.concat_eq_append] at *
   have hd : d ≠ 0 := fun e => by subst e; simp [Nrm] at hn
   have hl : DOk l := fun x hx => h x (List.mem_append_left _ hx)
   have h1 := dv_lt hl
   rw [dv_append]
   have h2 : (4294967296 : Nat) ^ l.length = 2 ^ (32 * l.length) := by rw [Nat.pow_mul]
   rw [h2] at h1 ⊢
   have h3 : dv [d] = d := by simp [dv]
   rw [h3, bl_shift d h1 hd]
   have h4 : (l ++ [d]).length - 1 = l.length := by simp
   rw [h4, List.getD_eq_getElem?_getD, List.getElem?_append_right (Nat.le_refl _)]
   simp
theorem callable_of {P : Program} {f : FuncId} {fn : Func} {c : Code} (h : P.funcs[f]? = some fn) (hb : fn.body = some c) (hn : (fn.name == "runtime.NumGoroutine") = false) : Callable P f := ⟨fn, h, hn, by rw [hb]; rfl⟩
theorem bits_lz32 {G : Gh} {x : Nat} (hx : x < 4294967296) : Fn Tryz.prog 202 [.int .u32 (x : Int)] G (fun v _ => v = .int .i64 (32 - (bl x : Int))) := by
 have h := Fn.of_calls (G := G) (callable_of Tryz.func202 rfl rfl) (fun w => Tryz.bits_LeadingZeros32 (x : Int) w (by omega) (by omega))
 rw [Int.toNat_natCast, bitLen_eq (Nat.lt_trans hx (by decide))] at h
 exact h
/-! ### FromUint, Uint, Bits -/
theorem nat_FromUint {G : Gh} {u : Nat} (hu : u < 18446744073709551616) : Fn Tryz.prog 182 [.int .u64 (u : Int)] G (fun v G' => ∃ z : SV, v = z.v ∧ IsN 64 G' z u) := by
 refine Fn.intro Tryz.func182 rfl rfl Tryz.ntmps182 rfl ?_
 intro C _ _
 refine sR <| sa rfl rfl <| zE <| sR <| sm rfl rfl <| sy (yd_toU32 rfl) rfl <| sm rfl rfl <| ?_
 refine sy (yd_shr rfl rfl (by decide)) rfl <| sy (yd_toU32 rfl) rfl <| ?_
 refine sc (ch_slice (by rfl) (by rfl) (by rfl) (by rfl) rfl ?_)
 intro b1
 refine st_freeze b1 (.hd ..) (fun G1 _ hgb => ?_)
 have h1 : ((u : Int) % 4294967296) = ((u % 4294967296 : Nat) : Int) := by omega
 have h2 : ((u : Int).fdiv (2 ^ min (32 : Int).toNat IntKind.u64.bits) % 4294967296) = ((u / 4294967296 : Nat) : Int) := by
  have : (2 ^ min (32 : Int).toNat IntKind.u64.bits : Int) = 4294967296 := by decide
  rw [this, Int.fdiv_eq_ediv_of_nonneg _ (by omega)]
  omega
 have hok : DOk [u % 4294967296, u / 4294967296] := .cons (by omega) (.cons (by omega) .nil)
 have hd : IsD G1 ⟨some ⟨b1, 0, none⟩, 2, 2⟩ [u % 4294967296, u / 4294967296] := .of_block hok hgb.h rfl (Nat.le_refl _) (by rw [h1, h2]; rfl)
 have hv : dv [u % 4294967296, u / 4294967296] = u := by simp only [dv]; omega
 refine sc (zC rfl rfl (nat_trim hd (by simp)) rfl ?_)
 rintro _ G2 _ rfl
 refine sa rfl rfl <| zE <| st_ret <| ?_
 refine zD (.tmp rfl .nil) ⟨⟨some ⟨b1, 0, none⟩, (trimD [u % 4294967296, u / 4294967296]).length, 2⟩, rfl, ?_⟩
 have := hd.trim.up (G := G2)
 rw [← dg_trim hok, hv] at this
 exact ⟨by rw [← dg_trim hok, hv]; exact this, Nat.lt_of_lt_of_le hu (by decide)⟩
theorem or_add {P : Program} {t : TypeId} (a b k : Nat) (ha : a < 2 ^ k) (h : a + b * 2 ^ k < 18446744073709551616) (w : World) : (binOp .or t (.int .u64 (a : Int)) (.int .u64 ((b * 2 ^ k : Nat) : Int))).run P w = .ok (.int .u64 ((a + b * 2 ^ k : Nat) : Int)) w := by
 have h1 : (BitVec.ofInt 64 (a : Int) ||| BitVec.ofInt 64 ((b * 2 ^ k : Nat) : Int)).toNat = a + b * 2 ^ k := by
  rw [BitVec.toNat_or, BitVec.ofInt_natCast, BitVec.ofInt_natCast, BitVec.toNat_ofNat, BitVec.toNat_ofNat, Nat.mod_eq_of_lt (by omega), Nat.mod_eq_of_lt (by omega)]
  rw [← Nat.shiftLeft_eq, Nat.or_comm, ← Nat.shiftLeft_add_eq_or_of_lt ha, Nat.shiftLeft_eq]
  omega
 have h2 : IntKind.u64.wrap ((a + b * 2 ^ k : Nat) : Int) = ((a + b * 2 ^ k : Nat) : Int) := by rw [wrap_u64]; omega
 simp only [binOp]
 show (Op.intBits .or .u64 (a : Int) ((b * 2 ^ k : Nat) : Int)).run P w = _
 unfold Op.intBits
 show (pure (Value.int .u64 (IntKind.u64.wrap ((BitVec.ofInt 64 (a : Int) ||| BitVec.ofInt 64 ((b * 2 ^ k : Nat) : Int)).toNat : Int))) : Sem Value).run P w = _
 rw [h1, h2, run_pure]
theorem nat_Uint {A G : Gh} {x : SV} {ds : List Nat} (hx : IsD A x ds) [GL A G] (hb : ds.length ≤ 1125899906842624) : Fn Tryz.prog 178 [x.v] G (fun v _ => v = .tuple #[.int .u64 ((if dv ds < 18446744073709551616 then dv ds else 0 : Nat) : Int), .bool (decide (dv ds < 18446744073709551616))]) := by
 have htl := trimD_len ds
 have hdv := dv_trimD ds
 have hok := hx.ok.trimD
 have hnr := Nrm.trimD ds
 have hxt := hx.trim
 have hcall := fun G1 (_ : GL A G1) => nat_trim (G := G1) hx (by omega)
 generalize trimD ds = es at *
 have hlen := hxt.len
 rw [← hdv]
 have hbig : (if dv es < 18446744073709551616 then dv es else 0) = if es.length ≤ 2 then dv es else 0 := by
   by_cases h2 : es.length ≤ 2
   · have h3 := dv_lt hok
     have h4 : (4294967296 : Nat) ^ es.length ≤ 4294967296 ^ 2 := Nat.pow_le_pow_right (by omega) h2
     rw [if_pos h2, if_pos (by omega)]
   · have h3 := nrm_ge hnr (fun e => by subst e; simp at h2)
     have h4 : (4294967296 : Nat) ^ 2 ≤ 4294967296 ^ (es.length - 1) := Nat.pow_le_pow_right (by omega) (by omega)
     rw [if_neg h2, if_neg (by omega)]
 have hbig2 : decide (dv es < 18446744073709551616) = decide (es.length ≤ 2) := by
   rw [decide_eq_decide]
   by_cases h2 : es.length ≤ 2
   · have h3 := dv_lt hok
     have h4 : (4294967296 : Nat) ^ es.length ≤ 4294967296 ^ 2 := Nat.pow_le_pow_right (by omega) h2
     exact ⟨fun _ => h2, fun _ => by omega⟩
   · have h3 := nrm_ge hnr (fun e => by subst e; simp at h2)
     have h4 : (4294967296 : Nat) ^ 2 ≤ 4294967296 ^ (es.length - 1) := Nat.pow_le_pow_right (by omega) (by omega)
     exact ⟨fun _ => by omega, fun h => absurd h h2⟩
 rw [hbig, hbig2]
 refine Fn.intro Tryz.func178 rfl rfl Tryz.ntmps178 rfl ?_
 intro C _ _
 refine sR <| sa rfl rfl <| sa rfl rfl <| zE <| sR <| sm rfl rfl <| ?_
 refine sc (zC rfl rfl (hcall _ inferInstance) rfl ?_)
 rintro _ G1 _ rfl
 refine sa rfl rfl <| zE <| st_seq <| sR <| sm rfl rfl <| slen rfl rfl <| sy (yd_gtr rfl rfl) rfl <| zE <| ?_
 refine st_condP rfl (fun hc => ?_) (fun hc => ?_) -- slot 11
 · refine sR <| sa rfl rfl <| sa rfl rfl <| zE <| st_ret <| ?_
   refine zD (.tmp rfl (.tmp rfl .nil)) ?_
   have : ¬ es.length ≤ 2 := by omega
   simp [tupled, this]
 have h2 : es.length ≤ 2 := by omega
 refine zK <| sR <| sa rfl rfl <| zE <| st_seq <| sR <| sm rfl rfl <| slen rfl rfl <| sm rfl rfl <| zE <| st_block <| ?_
 refine st_loop (X := Nat) (fun k => [(14, .int .i64 k), (13, .int .i64 es.length), (12, .slice x.a es.length x.c), (4, .int .u64 ((dv (es.take k) : Nat) : Int))]) (fun _ => []) (fun k _ => k ≤ es.length) (fun k => es.length - k) 0 (Nat.zero_le _) (.cons rfl (.cons rfl (.cons rfl (.cons rfl .nil)))) rfl ?_
 rintro k Gx _ hk
 refine sR <| sy (yd_lss rfl rfl) rfl <| zE <| st_seq <| ?_
 refine st_condE rfl (fun hc => ?_) (fun hc => ?_) -- slot 15
 · refine st_exit <| st_te <| st_te <| st_inBlock_eq <| sR <| sm rfl rfl <| sa rfl rfl <| sa rfl rfl <| zE <| st_ret <| ?_
   refine zD (.tmp rfl (.tmp rfl .nil)) ?_
   have hk' : k = es.length := by omega
   subst hk'
   simp [tupled, h2]
 have hk' : k < es.length := by omega
 have hdk := hok.get k
 have hdt := dv_lt (hok.take k)
 rw [List.length_take, Nat.min_eq_left (by omega)] at hdt
 have hds := dv_take_succ es k
 have hd2 := dv_lt (hok.take (k + 1))
 rw [List.length_take, Nat.min_eq_left (by omega)] at hd2
 have hp2 : (4294967296 : Nat) ^ (k + 1) ≤ 4294967296 ^ 2 := Nat.pow_le_pow_right (by omega) (by omega)
 have hpk : (4294967296 : Nat) ^ k = 2 ^ (32 * k) := by rw [Nat.pow_mul]
 refine zK <| st_seq <| st_block <| sR <| sm rfl rfl <| sy (yd_ixD (z := ⟨x.a, es.length, x.c⟩) hxt rfl rfl (by omega) (by show (k : Int) < (es.length : Nat); omega)) rfl <| sy (yd_ldD hxt rfl (by omega)) rfl <| sa rfl rfl <| sa rfl rfl <| zE <| st_region <| ?_
 refine sm rfl rfl <| sm rfl rfl <| sy (yd_toU64 rfl (by omega) (by rw [Int.toNat_natCast]; omega)) rfl <| sm rfl rfl <| sy (yd_mul64 rfl rfl (by omega) (by omega)) rfl <| ?_
 have hsh : IntKind.u64.wrap (((es.getD (k : Int).toNat 0 : Nat) : Int) * 2 ^ min ((32 : Int) * (k : Int)).toNat IntKind.u64.bits) = ((es.getD k 0 * 2 ^ (32 * k) : Nat) : Int) := by
   have e1 : ((32 : Int) * (k : Int)).toNat = 32 * k := by omega
   rw [e1, Int.toNat_natCast, Nat.min_eq_left (by show 32 * k ≤ 64; omega), wrap_u64]
   have e2 : ((es.getD k 0 : Nat) : Int) * 2 ^ (32 * k) = ((es.getD k 0 * 2 ^ (32 * k) : Nat) : Int) := by push_cast; rfl
   rw [e2]
   have e3 : es.getD k 0 * 2 ^ (32 * k) < 18446744073709551616 := by rw [← hpk, Nat.mul_comm]; omega
   omega
 refine sy (yd_shl rfl rfl (by omega)) rfl <| ?_
 rw [hsh]
 refine sy (yd_int rfl rfl (or_add (dv (es.take k)) (es.getD k 0) (32 * k) (by rw [← hpk]; exact hdt) (by rw [← hpk, Nat.mul_comm]; omega))) rfl <| sa rfl rfl <| zE <| st_region <| sy (yd_add64 rfl rfl) rfl <| sm rfl rfl <| zE <| ?_
 refine st_again (k + 1) (by omega) (by omega) (.cons rfl (.cons rfl (.cons rfl (.cons ?_ .nil)))) rfl
 rw [hds, hpk, Nat.mul_comm (2 ^ (32 * k))]
 rfl
theorem nat_Bits {A G : Gh} {x : SV} {ds : List Nat} (hx : IsD A x ds) [GL A G] (hb : ds.length ≤ 1125899906842624) : Fn Tryz.prog 174 [x.v] G (fun v _ => v = .int .i64 ((bl (dv ds) : Nat) : Int)) := by
 have htl := trimD_len ds
 have hdv := dv_trimD ds
 have hok := hx.ok.trimD
 have hnr := Nrm.trimD ds
 have hxt := hx.trim
 have hcall := fun G1 (_ : GL A G1) => nat_trim (G := G1) hx (by omega)
 generalize trimD ds = es at *
 have hlen := hxt.len
 rw [← hdv]
 refine Fn.intro Tryz.func174 rfl rfl Tryz.ntmps174 rfl ?_
 intro C _ _
 refine sR <| sa rfl rfl <| zE <| sR <| sm rfl rfl <| ?_
 refine sc (zC rfl rfl (hcall _ inferInstance) rfl ?_)
 rintro _ G1 _ rfl
 refine sa rfl rfl <| zE <| st_seq <| sR <| sm rfl rfl <| slen rfl rfl <| sy (yd_eql rfl rfl) rfl <| zE <| ?_
 refine st_condP rfl (fun hc => ?_) (fun hc => ?_) -- slot 7
 · refine sR <| sa rfl rfl <| zE <| st_ret <| ?_
   refine zD (.tmp rfl .nil) ?_
   have : es = [] := List.eq_nil_of_length_eq_zero (by omega)
   subst this
   rfl
 have hne : 0 < es.length := by omega
 have hkt : ((es.length : Int) - 1).toNat = es.length - 1 := by omega
 have hg := hok.get (es.length - 1)
 have hbl : bl (es.getD (es.length - 1) 0) ≤ 32 := bl_le.2 (by omega)
 refine zK <| sR <| sm rfl rfl <| slen rfl rfl <| sy (yd_mul64 rfl rfl (by omega) (by omega)) rfl <| sm rfl rfl <| sm rfl rfl <| slen rfl rfl <| sy (yd_sub64 rfl rfl) rfl <| ?_
 refine sy (yd_ixD (z := ⟨x.a, es.length, x.c⟩) hxt rfl rfl (by omega) (by show _ < ((es.length : Nat) : Int); omega)) rfl <| sy (yd_ldD hxt rfl (by omega)) rfl <| ?_
 rw [hkt]
 refine sc (zC rfl rfl (bits_lz32 hg) rfl ?_)
 rintro _ G2 _ rfl
 refine sy (yd_sub64 rfl rfl) rfl <| sa rfl rfl <| zE <| st_ret <| ?_
 refine zD (.tmp rfl .nil) ?_
 rw [bl_dv hok hnr (fun e => by subst e; simp at hne)]
 simp only [tupled, Value.int.injEq, true_and]
 omega
def cmpN (a b : Nat) : Int := if a < b then -1 else if a = b then 0 else 1
theorem nat_Cmp {A B G : Gh} {x y : SV} {ds es : List Nat} (hx : IsD A x ds) (hy : IsD B y es) [GL A G] [GL B G] (hb : ds.length ≤ 1125899906842624) (hb2 : es.length ≤ 1125899906842624) :
   Fn Tryz.prog 211 [x.v, y.v] G (fun v _ => v = .int .i64 (cmpN (dv ds) (dv es))) := by
 have htl := trimD_len ds
 have htl2 := trimD_len es
 have hcall := fun G1 (_ : GL A G1) => nat_trim (G := G1) hx (by omega)
 have hcall2 := fun G1 (_ : GL B G1) => nat_trim (G := G1) hy (by omega)
 have hxt := hx.trim
 have hyt := hy.trim
 have hok := hx.ok.trimD
 have hok2 := hy.ok.trimD
 have hnr := Nrm.trimD ds
 have hnr2 := Nrm.trimD es
 rw [← dv_trimD ds, ← dv_trimD es]
 generalize trimD ds = a at *
 generalize trimD es = b at *
 refine Fn.intro Tryz.func211 rfl rfl Tryz.ntmps211 rfl ?_
 intro C _ _
 refine sR <| sa rfl rfl <| zE <| sR <| sm rfl rfl <| ?_
 refine sc (zC rfl rfl (hcall _ inferInstance) rfl ?_)
 rintro _ G1 _ rfl
 refine sm rfl rfl <| ?_
 refine sc (zC rfl rfl (hcall2 _ inferInstance) rfl ?_)
 rintro _ G2 _ rfl
 refine sa rfl rfl <| sa rfl rfl <| zE <| st_seq <| sR <| sm rfl rfl <| slen rfl rfl <| sm rfl rfl <| slen rfl rfl <| sy (yd_neq rfl rfl) rfl <| zE <| ?_
 refine st_condP rfl (fun hc => ?_) (fun hc => ?_) -- slot 14
 · refine st_seq <| sR <| sm rfl rfl <| slen rfl rfl <| sm rfl rfl <| slen rfl rfl <| sy (yd_lss rfl rfl) rfl <| zE <| ?_
   refine st_condP rfl (fun hc2 => ?_) (fun hc2 => ?_) -- slot 19
   · refine sR <| sa rfl rfl <| zE <| st_ret <| ?_
     refine zD (.tmp rfl .nil) ?_
     have := dv_len_lt hok hnr2 (by omega)
     simp [tupled, cmpN, this]
   refine zK <| sR <| sa rfl rfl <| zE <| st_ret <| ?_
   refine zD (.tmp rfl .nil) ?_
   have := dv_len_lt hok2 hnr (by omega)
   have h1 : ¬ dv a < dv b := by omega
   have h2 : ¬ dv a = dv b := by omega
   simp [tupled, cmpN, h1, h2]
 have hl : a.length = b.length := by omega
 refine zK <| st_seq <| sR <| sm rfl rfl <| slen rfl rfl <| sy (yd_sub64 rfl rfl) rfl <| sa rfl rfl <| zE <| st_block <| ?_
 refine st_loop (X := Nat) (fun k => [(5, .int .i64 (k - 1)), (0, .slice x.a a.length x.c), (1, .slice y.a b.length y.c)]) (fun _ => []) (fun k _ => k ≤ a.length ∧ a.drop k = b.drop k) (fun k => k) a.length ⟨Nat.le_refl _, by rw [List.drop_length, hl, List.drop_length]⟩ (.cons rfl (.cons rfl (.cons rfl .nil))) rfl ?_
 rintro k Gx _ ⟨hk, hd⟩
 refine st_seq <| sR <| sm rfl rfl <| sy (yd_geq rfl rfl) rfl <| zE <| ?_
 refine st_condE rfl (fun hc => ?_) (fun hc => ?_) -- slot 24
 · refine st_exit <| st_te <| st_te <| st_inBlock_eq <| sR <| sa rfl rfl <| zE <| st_ret <| ?_
   refine zD (.tmp rfl .nil) ?_
   have : k = 0 := by omega
   subst this
   have hab : a = b := by simpa using hd
   subst hab
   simp [tupled, cmpN]
 have hk1 : 0 < k := by omega
 have hkt : ((k : Int) - 1).toNat = k - 1 := by omega
 have hga := hok.get (k - 1)
 have hgb := hok2.get (k - 1)
 have hk2 : k - 1 + 1 = k := by omega
 refine zK <| st_seq <| st_block <| st_block <| st_seq <| dr (fun _ => false) [(0, true), (1, true), (2, true), (3, true), (4, true), (5, true), (6, true), (7, true), (8, true), (9, true)] follows (by kernel_rfl) <| ?_
 refine dM rfl rfl rfl <| dM rfl rfl rfl <| dy rfl (fun _ => yd_ixD (z := ⟨x.a, a.length, x.c⟩) hxt rfl rfl (by omega) (by show _ < ((a.length : Nat) : Int); omega)) rfl rfl <| dy rfl (fun _ => yd_ldD hxt rfl (by omega)) rfl rfl <| ?_
 refine dM rfl rfl rfl <| dM rfl rfl rfl <| dy rfl (fun _ => yd_ixD (z := ⟨y.a, b.length, y.c⟩) hyt rfl rfl (by omega) (by show _ < ((b.length : Nat) : Int); omega)) rfl rfl <| dy rfl (fun _ => yd_ldD hyt rfl (by omega)) rfl rfl <| ?_
 refine dy rfl (fun _ => yd_lss rfl rfl) rfl rfl <| dA rfl rfl rfl <| dn <| ?_
 refine st_condP rfl (fun hc2 => ?_) (fun hc2 => ?_) -- slot 27
 · refine sR <| sa rfl rfl <| zE <| st_ret <| ?_
   refine zD (.tmp rfl .nil) ?_
   rw [hkt] at hc2
   have := dv_cmp hok hok2 (k - 1) (by omega) (by omega) hl (by rw [hk2]; exact hd) (by omega)
   simp [tupled, cmpN, this]
 refine st_seq <| dr (fun _ => false) [(0, true), (1, true), (2, true), (3, true), (4, true), (5, true), (6, true), (7, true), (8, true), (9, true)] follows (by kernel_rfl) <| dM rfl rfl rfl <| ?_
 refine dM rfl rfl rfl <| dy rfl (fun _ => yd_ixD (z := ⟨x.a, a.length, x.c⟩) hxt rfl rfl (by omega) (by show _ < ((a.length : Nat) : Int); omega)) rfl rfl <| dy rfl (fun _ => yd_ldD hxt rfl (by omega)) rfl rfl <| dM rfl rfl rfl <| ?_
 refine dM rfl rfl rfl <| dy rfl (fun _ => yd_ixD (z := ⟨y.a, b.length, y.c⟩) hyt rfl rfl (by omega) (by show _ < ((b.length : Nat) : Int); omega)) rfl rfl <| dy rfl (fun _ => yd_ldD hyt rfl (by omega)) rfl rfl <| dy rfl (fun _ => yd_gtr rfl rfl) rfl rfl <| ?_
 refine dA rfl rfl rfl <| dn <| ?_
 rw [hkt] at *
 refine st_condP rfl (fun hc3 => ?_) (fun hc3 => ?_) -- slot 37
 · refine sR <| sa rfl rfl <| zE <| st_ret <| ?_
   refine zD (.tmp rfl .nil) ?_
   have := dv_cmp hok2 hok (k - 1) (by omega) (by omega) hl.symm (by rw [hk2]; exact hd.symm) (by omega)
   have h1 : ¬ dv a < dv b := by omega
   have h2 : ¬ dv a = dv b := by omega
   simp [tupled, cmpN, h1, h2]
 refine zK <| st_region <| sm rfl rfl <| sy (yd_sub64 rfl rfl) rfl <| sa rfl rfl <| zE <| ?_
 refine st_again (k - 1) ⟨by omega, ?_⟩ (by omega) (.cons (by rw [show ((k - 1 : Nat) : Int) = (k : Int) - 1 by omega]; rfl) (.cons rfl (.cons rfl .nil))) rfl
 have heq : a.getD (k - 1) 0 = b.getD (k - 1) 0 := by omega
 rw [List.getD_eq_getElem?_getD, List.getD_eq_getElem?_getD, List.getElem?_eq_getElem (by omega), List.getElem?_eq_getElem (by omega)] at heq
 rw [List.drop_eq_getElem_cons (by omega : k - 1 < a.length), List.drop_eq_getElem_cons (by omega : k - 1 < b.length), hk2, hd]
 congr 1
end Go.Sx
end
