/-
  The abstract machine: rows lent to a call that reads, rows with room, calls that take such a row over. The abstract machine: the steps for rows with room. The abstract machine: words of 32 bits. Zero values of the program's types as deep values. Package nat: the functions without a loop over two numbers. DERIVED: THE SHELF's CONTRACTS AT THIS DUMP, IN PLAIN WORDS (tools/lay-plain.mjs out of 'TryzShelf.lean', which tools/lay-shelf.mjs wrote): THE SAME DECLARATIONS UNDER THE SAME NAMES: 'import', 'namespace', 'open', 'def', 'theorem' AND NOTHING ELSE: no command of the shelf's: FOR A HAND-IN. Each laying: the table of numbers ('.._ren') and one theorem, a field a fact of the dump's own or the kernel's comparison; each contract: ONE APPLICATION. Package nat: words, the number of digits, comparison. Package nat: sum, difference, product.
-/
import Derived.Test.YtkijgpopaaknfaaGreatDoorRf7
import Derived.Shelf.Small.Bits
import Derived.Shelf.Bits.Mul64
import Derived.Test.YtkijgpopaaknfaaGreatDoorProg
set_option linter.unusedSimpArgs false
set_option linter.unusedVariables false
section
set_option maxRecDepth 100000
namespace Go.Sx
open Go Go.Proofs
section
variable {P : Program} {C : Ctx} {n : Nat} {fr : Fr} {own own' : List Own} {G : Gh} {Φ : Act → World → Prop}
variable {dst : Option Nat} {t t' ty' : TypeId} {pos : String} {af : Array Edge} {gd : Option (Nat × Bool)} {x y : Operand} {e s by_ : Nat}
theorem ch_mkR [hT : TySl P t e s by_] {z : Value} [hz : TyZ P e z] {k k' : IntKind} {l : Int} (hx : opv fr x = some (.int k 0)) (hy : opv fr y = some (.int k' l)) (h0 : 0 ≤ l) (hb : by_ * l ≤ 2 ^ 47) (hl : l ≤ 2 ^ 60) (hs : (cellsL z).length = s) (hd : dstOk n dst = true)
   (h : ∀ b, St C n (put fr dst (.slice (some ⟨b, 0, none⟩) 0 l.toNat)) (⟨b, zeros z l.toNat, e, true⟩ :: own) G Φ) :
   Ch P C n fr own G ⟨dst, .makeSlice t x y, ty', pos, af, gd⟩ Φ := by
 intro a w Q rl
 have h1 : (Instr.makeSlice t (a.eval x) (a.eval y)).run P w = .ok (.slice (some ⟨w.heap.size, 0, none⟩) 0 l.toNat) (w.alloc (.cells ⟨zeros z l.toNat⟩ e)) := by
   obtain ⟨i, hi, hib⟩ := run_bytes (P := P) (t := t) (e := e) (s := s) (by_ := by_) w
   rw [opv_eval rl.fr hx, opv_eval rl.fr hy]
   unfold Instr.makeSlice
   rw [run_ok_bind (hT.u w)]
   simp only [asInt, asIntOf]
   rw [run_ok_bind (a := 0) (w' := w) rfl, run_ok_bind (a := l) (w' := w) rfl, run_ok_bind hi, hib]
   have hw : IntKind.i64.wrap l = l := wrap_in (by simp [IntKind.min, IntKind.max, IntKind.signed, IntKind.bits]; omega)
   have hw0 : IntKind.i64.wrap 0 = 0 := rfl
   simp only [hw, hw0]
   have c1 : ¬ ((by_ : Int) * l > 2 ^ 48) := by
     have : (2:Int)^47 ≤ 2^48 := by decide
     omega
   have c5 : decide ((by_ : Int) * l > 2 ^ 48) = false := decide_eq_false c1
   have c2 : decide (l < 0) = false := decide_eq_false (by omega)
   have c4 : decide ((0 : Int) > l) = false := by simp; omega
   simp only [c2, c4, c5, Bool.false_or, Int.lt_irrefl, decide_false, Bool.or_false, Bool.false_eq_true, if_false]
   have hr : ¬ (l.toNat * by_ > roomBytes) := by
     unfold roomBytes
     have : ((l.toNat * by_ : Nat) : Int) = by_ * l := by rw [Int.natCast_mul, Int.toNat_of_nonneg h0, Int.mul_comm]
     have h47 : ((2 ^ 47 : Nat) : Int) = 2 ^ 47 := by decide
     omega
   unfold askRoom
   simp only [hr, if_false]
   rw [run_ok_bind (run_pure _ _ _), run_ok_bind (hT.siz w)]
   have hn : l.toNat * s = l.toNat * (cellsL z).length := by rw [hs]
   by_cases h00 : l.toNat * s = 0
   · rw [if_pos h00, run_ok_bind (run_pure _ _ _)]
     have e0 : zeros z l.toNat = [] := List.eq_nil_of_length_eq_zero (by rw [zeros_len, hs]; exact h00)
     rw [h00, e0, show (Array.range 0) = #[] from rfl, Array.map_empty]
     rfl
   · rw [if_neg h00, run_ok_bind (hz.zero w), cells_eq]
     rw [run_ok_bind (run_pure _ _ _), range_zeros hn]
     rfl
 refine ch_value (v := .slice (some ⟨w.heap.size, 0, none⟩) 0 l.toNat) (value_of h1) (h w.heap.size _ _ ((rl.heap (rl.h.alloc _ _)).put _ hd))
def lendG (G : Gh) (ov : List Own) : Gh := fun b => match G b with
 | some cs => some cs
 | none => (ov.find? fun o => Nat.beq o.b b).map (·.cs)
theorem lend_le {ov : List Own} : GLe G (lendG G ov) := fun b cs h => by unfold lendG; rw [h]
theorem find_own {o : Own} : ∀ {ov : List Own}, o ∈ ov → ov.Pairwise (fun x y => x.b ≠ y.b) → ov.find? (fun u => Nat.beq u.b o.b) = some o
 | u :: t, ho, nd => by
   rcases List.mem_cons.1 ho with rfl | ho
   · rw [List.find?_cons_of_pos (by simp)]
   · have := (List.pairwise_cons.1 nd).1 o ho
     rw [List.find?_cons_of_neg (by simpa using this)]
     exact find_own ho (List.pairwise_cons.1 nd).2
theorem lend_own {ov : List Own} {o : Own} (ho : o ∈ ov) (hn : G o.b = none) (nd : ov.Pairwise (fun x y => x.b ≠ y.b)) : lendG G ov o.b = some o.cs := by
 unfold lendG; rw [hn, find_own ho nd]; rfl
theorem HRel.lendSub {ov : List Own} {w : World} (h : HRel C ov G w) (b : Nat) (cs : List Value) (hb : lendG G ov b = some cs) : ∃ ty fz, w.heap[b]? = some (.cells ⟨cs⟩ ty fz) := by
 unfold lendG at hb
 split at hb
 · rename_i hg; cases hb; exact h.sub _ _ hg
 · cases hf : ov.find? (fun o => Nat.beq o.b b) with
   | none => rw [hf] at hb; cases hb
   | some o =>
     rw [hf] at hb; cases hb
     have e : o.b = b := Nat.eq_of_beq_eq_true (by simpa using List.find?_some hf)
     subst e
     exact ⟨_, _, (h.hown o (List.mem_of_find?_eq_some hf)).1⟩
theorem HRel.lent {ov : List Own} {G' : Gh} {w w' : World} (h : HRel C ov G w) (k : HRel ⟨w, lendG G ov, []⟩ [] G' w') : HRel C ov G w' := by
 have same : ∀ b o, w.heap[b]? = some o → w'.heap[b]? = some o := fun b o hb => by rw [k.keep b (blk_lt hb) (by simp)]; exact hb
 have hsz : w.heap.size ≤ w'.heap.size := k.size
 refine ⟨k.os.trans h.os, k.tape.trans h.tape, k.output.trans h.output, Nat.le_trans h.size hsz, fun b hb hm => ?_, fun b cs hb => ?_, h.gle, h.gold, fun o ho => ?_, h.nd⟩
 · have := h.size; rw [k.keep b (by show b < w.heap.size; omega) (by simp)]; exact h.keep b hb hm
 · obtain ⟨ty, fz, h1⟩ := h.sub b cs hb; exact ⟨ty, fz, same _ _ h1⟩
 · obtain ⟨h1, h2⟩ := h.hown o ho; exact ⟨same _ _ h1, h2⟩
theorem ch_callL {f : FuncId} {fo : Operand} {args : Array Operand} {tys : Array TypeId} {vs : List Value} {K : Value → Gh → Prop} (ho : opv fr fo = some (.func (.func f) #[] #[])) (hv : opvs fr args.toList = some vs)
  (hF : Fn P f vs (lendG G own) K) (hd : dstOk n dst = true) (h : ∀ v (G' : Gh), K v G' → St C n (put fr dst v) own G Φ) : Ch P C n fr own G ⟨dst, .call ⟨.value fo, args, tys⟩, ty', pos, af, gd⟩ Φ := by
 intro a w Q rl
 have h2 := run_call (c1 := []) (c2 := []) (P := P) (dst := dst) (ty' := ty') (pos := pos) (af := af) (gd := gd) (tys := tys) (w := w) hF.able rl.fr ho hv
 rw [List.nil_append, List.append_nil] at h2
 simp only [Oper.wp, h2, Oper.upon]
 refine (hF.run w rl.h.lendSub).mono ?_
 rintro e w' ⟨v, G', rfl, hh, hK⟩
 exact h v G' hK _ _ ((rl.heap (rl.h.lent hh)).put _ hd)
end
def DV.np : DV → Bool
 | .v _ => true
 | .tp l => l.all fun d => match d with
   | .v _ => true
   | _ => false
 | _ => false
theorem isl_np {A G : Gh} : ∀ {l : List DV} {m : List Value}, (l.all fun d => match d with | .v _ => true | _ => false) = true → IsLs A l m → IsLs G l m
 | [], m, _, k => isl_nil.2 (isl_nil.1 k)
 | d :: t, m, h, k => by
   obtain ⟨y, n, rfl, k1, k2⟩ := isl_cons.1 k
   simp only [List.all_cons, Bool.and_eq_true] at h
   refine .cons ?_ (isl_np h.2 k2)
   cases d with
   | v x => exact is_v.2 (is_v.1 k1)
   | _ => simp at h
theorem Is.np {A G : Gh} {d : DV} {y : Value} (h : d.np = true) (k : Is A d y) : Is G d y := by
 cases d with
 | v x => exact is_v.2 (is_v.1 k)
 | tp l => obtain ⟨m, e, k⟩ := is_tp.1 k; exact is_tp.2 ⟨m, e, isl_np h k⟩
 | _ => cases h
section
variable {GB : Gh} {C : Ctx} {n : Nat} {Q0 : Exit → Act → World → Prop} {fr fr' : FrX} {own own' : OwX} {cf cf' : Cf} {vc : List Prop} {lk : LK} {bk : BM} {ρ : NE} {G : Gh} {ov : List Own} {a : Act} {w : World}
variable {dst : Option Nat} {t t' ty' : TypeId} {pos : String} {af : Array Edge} {gd : Option (Nat × Bool)} {x y : Operand} {e s by_ : Nat}
/-! ### rows lent -/
def rowDs : Option Bk → Option (List DV)
 | some (.b _ _ ds _) => some ds
 | some (.c _ _ ds _) => some ds
 | _ => none
def evL1 (lk : LK) (bk : BM) (x : Operand) : Option DV := match evX lk x with
 | some (.rw nm) => match rowDs (bk nm) with
   | some ds => some (.sl ds)
   | none => none
 | some f => toDX f
 | none => none
def evLs (lk : LK) (bk : BM) : List Operand → Option (List DV)
 | [] => some []
 | x :: t => match evL1 lk bk x, evLs lk bk t with
   | some d, some l => some (d :: l)
   | _, _ => none
theorem evL1_ok (r : RlX GB C n lk bk ρ G ov a w) {d : DV} (h : evL1 lk bk x = some d) : ∃ y, opv (frA a) x = some y ∧ Is (lendG G ov) d y := by
 unfold evL1 at h
 split at h
 · rename_i nm h1
   obtain ⟨y, h2, h3⟩ := r.ev h1
   cases (show y = _ from h3)
   refine ⟨_, h2, ?_⟩
   split at h <;> cases h
   rename_i ds hr
   obtain ⟨ty, s, vs, B, hB, hv, hs, hBo⟩ : ∃ ty s vs B, Buf s ty (ρ nm) vs B ∧ IsLs G ds vs ∧ (∀ v ∈ vs, (cellsL v).length = s) ∧ ∀ o ∈ B, o ∈ ov := by
     unfold rowDs at hr
     split at hr <;> cases hr
     · rename_i hb; obtain ⟨B, ⟨vs, h4, h5, h6, _⟩, h7⟩ := r.bx _ _ hb; exact ⟨_, _, vs, B, h4, h5, h6, h7⟩
     · rename_i hb; obtain ⟨B, ⟨vs, h4, h5, h6, _⟩, h7⟩ := r.bx _ _ hb; exact ⟨_, _, vs, B, h4, h5, h6, h7⟩
   rcases hB with ⟨e1, e2, e3⟩ | ⟨b, rest, lo', e2, e3, h5, h6, h7⟩
   · subst e1
     have ed : ds = [] := List.eq_nil_of_length_eq_zero (by rw [← hv.len]; rfl)
     subst ed
     rw [e2]
     exact is_sl.2 ⟨0, ⟨none, 0, 0⟩, [], rfl, .nil _ 0, .nil⟩
   · subst e3
     have ho := hBo _ List.mem_cons_self
     have hg := lend_own ho (r.h.hown _ ho).2.1 r.h.nd
     rw [e2]
     exact is_sl.2 ⟨s, ⟨some ⟨b, 0, none⟩, vs.length, _⟩, vs, rfl, IsSl.of_flat hs hg h7, hv.up lend_le⟩
 · rename_i h1
   obtain ⟨y, h2, h3⟩ := r.ev h1
   exact ⟨y, h2, (toDX_is h3 h).up lend_le⟩
 · cases h
theorem evLs_ok (r : RlX GB C n lk bk ρ G ov a w) : ∀ {l : List Operand} {ds : List DV}, evLs lk bk l = some ds → ∃ vs, opvs (frA a) l = some vs ∧ IsLs (lendG G ov) ds vs
 | [], ds, e => by cases e; exact ⟨[], rfl, .nil⟩
 | x :: t, ds, e => by
   simp only [evLs] at e
   split at e <;> cases e
   rename_i h1 h2
   obtain ⟨y, h3, h4⟩ := evL1_ok r h1
   obtain ⟨vs, h5, h6⟩ := evLs_ok r h2
   exact ⟨y :: vs, by simp only [opvs, h3, h5], .cons h4 h6⟩
def cargL (lk : LK) (bk : BM) (fo : Operand) (args : Array Operand) : Option (FuncId × List DV) := match evX lk fo with
 | some (.d (.v (.func (.func f) ⟨[]⟩ ⟨[]⟩))) => match evLs lk bk args.toList with
   | some ds => some (f, ds)
   | none => none
 | _ => none
theorem ok_callL {fo : Operand} {args : Array Operand} {tys : Array TypeId} {f : FuncId} {ds : List DV} {rv : DV} (ha : cargL lk bk fo args = some (f, ds)) (hnp : rv.np = true) (hF : PF GB Tryz.prog f ds rv) : OpR Tryz.prog GB C n lk bk ⟨dst, .call ⟨.value fo, args, tys⟩, ty', pos, af, gd⟩ (.d rv) [] [] := by
 intro hd tl tb K' s1 s2 hf hk
 refine ⟨fun ρ G ov a w r Q => ?_⟩
 have r1 := r.mono s1 s2
 unfold cargL at ha
 split at ha <;> try (cases ha; done)
 rename_i h1
 split at ha <;> cases ha
 rename_i h2
 obtain ⟨y, hy, hy'⟩ := r1.ev h1
 rw [(is_v (G := G)).1 hy'] at hy
 obtain ⟨vs, h3, h4⟩ := evLs_ok r1 h2
 refine ch_callL hy h3 (hF _ vs (r.gb.trans lend_le) h4) hd (fun v G' hK a' w' rl => ?_) a w Q ⟨r.h, r.sz, frA_ok a, r.df⟩
 exact hk.run ρ G ov a' w' ⟨r.gb, rl.h, rl.sz, rl.df, (putA_rel rl).fx (fun k g _ e => r.fx k g e) (Is.np hnp hK), r.bx, r.dj⟩
def calL (fr : FrX) (own : OwX) (cf : Cf) : Option (FuncId × List DV) := match opC fr cf with
 | some ⟨_, .call ⟨.value fo, args, _⟩, _, _, _, _⟩ => cargL (lkC fr cf) (bkC fr own cf) fo args
 | _ => none
theorem cL [fu : Fu] {f : FuncId} {ds : List DV} {rv : DV} (ha : calL fr own cf = some (f, ds)) (hF : PF GB Tryz.prog f ds rv) (hnp : rv.np = true) (hgo : goA tt n fu.n fr own cf (.d rv) [] [] = ⟨vc, fr', own', cf'⟩) (k : CfS Tryz.prog GB C n Q0 fr' own' cf')
  (hv : allP vc := by first | exact trivial | (simp only [allP]; kernel_rfl) | (simp only [allP]; omega)) : CfS Tryz.prog GB C n Q0 fr own cf := by
 unfold calL at ha
 split at ha <;> try (cases ha; done)
 rename_i hh
 exact us hh (ok_callL ha hnp hF) hgo hv k
/-! ### rows with room -/
theorem ok_mkc {d cap : Nat} {i : TI} {z : DV} {k k' : IntKind} [hT : TySl Tryz.prog t e s by_] (hi : tiOf Tryz.prog e = some i) (hz : zeE i = some z) (hs : Nat.beq z.cells.length s = true) (hx : evX lk x = some (.d (.v (.int k 0)))) (hy : evX lk y = some (.d (.v (.int k' (cap : Nat))))) (hb : by_ * cap ≤ 140737488355328) (hl : cap ≤ 1152921504606846976) :
  OpR Tryz.prog GB C n lk bk ⟨some d, .makeSlice t x y, ty', pos, af, gd⟩ (.rw d) [(d, some (.c e s [] cap))] [d] := by
 intro hd tl tb K s1 s2 hf hk
 refine ⟨fun ρ G ov a w r Q => ?_⟩
 obtain ⟨v, hz1, hz2, hz3⟩ := zeE_ok hi hz
 obtain ⟨q1, p1, p2⟩ := (r.mono s1 s2).ev hx
 obtain ⟨q2, p3, p4⟩ := (r.mono s1 s2).ev hy
 rw [isX_int] at p2 p4; subst p2 p4
 have c1 := ((hz2 G).cells hz3).1.len
 replace hs := Nat.eq_of_beq_eq_true hs
 refine ch_mkR p1 p3 (by omega) (by have : ((by_ * cap : Nat) : Int) = by_ * cap := Int.natCast_mul ..; omega) (by omega) (by rw [c1, hs]) hd (fun b a' w' rl => ?_) a w Q ⟨r.h, r.sz, frA_ok a, r.df⟩
 rw [Int.toNat_natCast] at rl
 have hnd := (List.pairwise_cons.1 rl.h.nd).1
 refine hk.run _ _ _ a' w' (r.new' (x := ⟨some ⟨b, 0, none⟩, 0, cap⟩) (B' := .c e s [] cap) (os := [⟨b, zeros v cap, e, true⟩]) (f := .rw d) (y := .slice (some ⟨b, 0, none⟩) 0 cap) hf (GLe.refl _) rl.h ⟨[], .inr ⟨b, zeros v cap, true, by simp, rfl, by simp [flatL], ?_, by simp⟩, .nil, by simp, fun o ho => by rw [List.mem_singleton.1 ho], by simp⟩
  (fun o ho => by rw [List.mem_singleton.1 ho]; exact List.mem_cons_self) (fun m B' _ _ o ho _ => ⟨List.mem_cons_of_mem _ ho, fun e' => by cases e'; exact hnd o ho rfl⟩) (by show _ = _; simp) (putA_rel rl))
 rw [zeros_len, c1, hs]; simp [flatL]
theorem ok_apc {d nm cap : Nat} {ds ds2 : List DV} [hT : TySl Tryz.prog t e s by_] [hN : TyN Tryz.prog t'] (hx : evX lk x = some (.rw nm)) (hb : bk nm = some (.c e s ds cap)) (hy : srcX lk bk s y = some ds2) (hk2 : slOk s ds2) (hc : ds.length + ds2.length ≤ cap) (hp : 0 < ds2.length) (hnd : Nat.beq nm d = false) :
   OpR Tryz.prog GB C n lk bk ⟨some d, .call ⟨.builtin .append, #[x, y], #[t, t']⟩, ty', pos, af, gd⟩ (.rw d) [(nm, none), (d, some (.c e s (ds ++ ds2) cap))] [d] := by
 intro hd tl tb K s1 s2 hf hk
 refine ⟨fun ρ G ov a w r Q => ?_⟩
 have r1 := r.mono s1 s2
 have hne : nm ≠ d := fun e => by subst e; simp at hnd
 obtain ⟨u, hx', hx2⟩ := r1.ev hx
 cases hx2
 obtain ⟨B, ⟨vs, hB, hv, hvs, hlo, hcap⟩, hBo⟩ := r1.bx _ _ hb
 obtain ⟨w2, us, hy', h2, h3, h4, h5, h6⟩ := src_ok (P := Tryz.prog) (C := C) r1 hy hk2
 have hus : (flatL us).length = us.length * s := flatL_len us h4
 have hl1 := hv.len
 have hl2 := h3.len
 have rd := r.dropB nm
 have hf' : FreshX [d] (some d) tl (Sx.upB tb [(nm, none)]) := fun m hm => by
   obtain ⟨g1, g2⟩ := hf m hm
   refine ⟨g1, fun k B' hk e => g2 k B' hk ?_⟩
   simp only [Sx.upB] at e
   split at e
   · cases e
   · exact e
 rcases hB with ⟨e1, e2, e3⟩ | ⟨b, rest, lo', k3, k4, k5, k6, k7⟩
 · rw [e2] at hcap; simp at hcap; omega
 subst k4
 have hl' := hlo _ List.mem_cons_self
 simp only at hl'; subst hl'
 have ha : (ρ nm).a = some ⟨b, 0, none⟩ := by rw [k3]
 have hn : (ρ nm).n = vs.length := by rw [k3]
 rw [ha, hn] at hx'
 rw [h2] at hy' h6
 have hin := hBo _ List.mem_cons_self
 obtain ⟨l1, l2, e5⟩ := List.append_of_mem hin
 have hperm : ov.Perm (⟨b, flatL vs ++ rest, e, true⟩ :: (l1 ++ l2)) := by rw [e5]; exact List.perm_middle
 have hall : ∀ v ∈ vs ++ us, (cellsL v).length = s := fun v hv => by
   rcases List.mem_append.1 hv with hv | hv
   · exact hvs v hv
   · exact h4 v hv
 have hcs : (flatL vs ++ rest).length = (ρ nm).c * s := by rw [List.length_append]; exact k6
 have hroom : vs.length + us.length ≤ (ρ nm).c := by omega
 have hmul : (vs.length + us.length) * s ≤ (ρ nm).c * s := Nat.mul_le_mul_right _ hroom
 rw [Nat.add_mul] at hmul
 have hrest : us.length * s ≤ rest.length := by rw [k5] at k6; omega
 have hovw : ovw (flatL vs ++ rest) (vs.length * s) (flatL us) = flatL (vs ++ us) ++ rest.drop (us.length * s) := by
   rw [ovw_spec _ _ _ (by rw [hus, List.length_append]; omega), flatL_app, ← k5]
   simp [hus, List.drop_append, List.append_assoc]
 refine ch_append_room (P := Tryz.prog) (own := ⟨b, flatL vs ++ rest, e, true⟩ :: (l1 ++ l2)) (m := us.length) (ys := flatL us) hx' hy' (.hd ..) hcs (fun w hh => h6 w (hh.perm hperm.symm)) hus h5 hroom hd (fun a' w' rl => ?_) a w Q ⟨r.h.perm hperm, r.sz, frA_ok a, r.df⟩
 rw [hovw] at rl
 have hnd' := (List.pairwise_cons.1 rl.h.nd).1
 refine hk.run _ _ _ a' w' (rd.new' (x := ⟨some ⟨b, 0, none⟩, vs.length + us.length, (ρ nm).c⟩) (B' := .c e s (ds ++ ds2) cap) (os := [⟨b, flatL (vs ++ us) ++ rest.drop (us.length * s), e, true⟩]) (f := .rw d) (y := .slice (some ⟨b, 0, none⟩) (vs.length + us.length) (ρ nm).c) hf' (GLe.refl _) rl.h
   ⟨vs ++ us, .inr ⟨b, rest.drop (us.length * s), true, by simp, rfl, flatL_len _ hall, ?_, by simpa using hroom⟩, hv.app h3, hall, fun o ho => by rw [List.mem_singleton.1 ho], by simpa using hcap⟩ (fun o ho => by rw [List.mem_singleton.1 ho]; exact List.mem_cons_self)
   (fun m B' hm e' o ho hmo => ?_) (by show _ = _; simp) (putA_rel rl))
 · rw [flatL_len _ hall, List.length_append, List.length_drop, Nat.add_mul]
   simp only [if_true]
   rw [k5] at k6; omega
 · have hmn : m ≠ nm ∧ tb m = some B' := by
     simp only [Sx.upB] at e'
     split at e'
     · cases e'
     · exact ⟨by assumption, e'⟩
   have hob : o.b ≠ b := fun e6 => r.dj m nm B' _ hmn.2 (s2 _ _ hb) hmn.1 b (by rw [hmo, e6]) ha
   refine ⟨?_, fun e6 => by cases e6; exact hob rfl⟩
   rcases List.mem_cons.1 (hperm.mem_iff.1 ho) with rfl | ho
   · exact absurd rfl hob
   · exact List.mem_cons_of_mem _ ho
end
end Go.Sx
end

section
set_option maxRecDepth 100000
namespace Go.Sx
open Go Go.Proofs
section
variable {GB : Gh} {C : Ctx} {n : Nat} {Q0 : Exit → Act → World → Prop} {fr fr' : FrX} {own own' : OwX} {cf cf' : Cf} {vc : List Prop}
theorem mkc [fu : Fu] {d e s b : Nat} {z : DV} {k' : IntKind} (cap : Nat) (h : mkA fr cf = some ⟨d, e, s, b, z, 0⟩) (hy : (match opC fr cf with | some ⟨_, .makeSlice _ _ y, _, _, _, _⟩ => evX (lkC fr cf) y | _ => none) = some (.d (.v (.int k' (cap : Nat)))))
  (hgo : goA tt n fu.n fr own cf (.rw d) [(d, some (.c e s [] cap))] [d] = ⟨vc, fr', own', cf'⟩) (k : CfS Tryz.prog GB C n Q0 fr' own' cf') (hb : b * cap ≤ 140737488355328 := by omega) (hl : cap ≤ 1152921504606846976 := by omega)
  (hv : allP vc := by first | exact trivial | (simp only [allP]; kernel_rfl) | (simp only [allP]; omega)) : CfS Tryz.prog GB C n Q0 fr own cf := by
 unfold mkA at h
 split at h <;> try (cases h; done)
 rename_i hh
 split at h <;> try (cases h; done)
 rename_i hx
 split at h <;> try (cases h; done)
 rename_i hT
 split at h <;> try (cases h; done)
 rename_i hi
 split at h <;> try (cases h; done)
 rename_i hz
 rw [cond_eq_ite] at h
 split at h <;> cases h
 rename_i hs
 rw [hh] at hy
 have := ti_sl (tt_ok _ _ hT) rfl
 exact us hh (ok_mkc (tt_ok _ _ hi) hz hs hx hy hb hl) hgo hv k
structure ApcA where
 d : Nat
 nm : Nat
 e : Nat
 s : Nat
 ds : List DV
 ds2 : List DV
 cap : Nat
def apcA (fr : FrX) (own : OwX) (cf : Cf) : Option ApcA := match opC fr cf with
 | some ⟨some d, .call ⟨.builtin .append, ⟨[x, y]⟩, ⟨[t, t']⟩⟩, _, _, _, _⟩ => match lookT tt t, lookT tt t' with
   | some ⟨.sl e s _, _, _, _⟩, some ⟨.sl _ _ _, _, _, _⟩ => match evX (lkC fr cf) x with
     | some (.rw nm) => match bkC fr own cf nm, srcX (lkC fr cf) (bkC fr own cf) s y with
       | some (.c e' s' ds cap), some ds2 => bif (Nat.beq e' e && Nat.beq s' s) && !Nat.beq nm d then some ⟨d, nm, e, s, ds, ds2, cap⟩ else none
       | _, _ => none
     | _ => none
   | _, _ => none
 | _ => none
theorem apc [fu : Fu] {d nm e s cap : Nat} {ds ds2 : List DV} (ds' : List DV) (h : apcA fr own cf = some ⟨d, nm, e, s, ds, ds2, cap⟩) (hds : ds ++ ds2 = ds') (ho2 : slOk s ds2) (hc : ds.length + ds2.length ≤ cap) (hgo : goA tt n fu.n fr own cf (.rw d) [(nm, none), (d, some (.c e s ds' cap))] [d] = ⟨vc, fr', own', cf'⟩) (k : CfS Tryz.prog GB C n Q0 fr' own' cf')
  (hp : 0 < ds2.length := by simp) (hv : allP vc := by first | exact trivial | (simp only [allP]; kernel_rfl) | (simp only [allP]; omega)) : CfS Tryz.prog GB C n Q0 fr own cf := by
 subst hds
 unfold apcA at h
 split at h <;> try (cases h; done)
 rename_i hh
 split at h <;> try (cases h; done)
 rename_i hT hT'
 split at h <;> try (cases h; done)
 rename_i hx
 split at h <;> try (cases h; done)
 rename_i hb hy
 rw [cond_eq_ite] at h
 split at h <;> cases h
 rename_i h2
 simp only [Bool.and_eq_true, Bool.not_eq_true'] at h2
 cases Nat.eq_of_beq_eq_true h2.1.1
 cases Nat.eq_of_beq_eq_true h2.1.2
 have := ti_sl (tt_ok _ _ hT) rfl
 have hN : TyN Tryz.prog _ := ⟨_, (ti_sl (tt_ok _ _ hT') rfl).un⟩
 exact us hh (ok_apc hx hb hy ho2 hc hp h2.2) hgo hv k
def PI (GB : Gh) (P : Program) (f : FuncId) (i : Int) (s : Nat) (ty ty2 : TypeId) (ds : List DV) (x : DV) (cap : Nat) (dso : List DV) : Prop :=
 ∀ G w w2 B B2, GLe GB G → BufIs G ⟨w, s, ty, ds, false⟩ B → cap ≤ w.c → BufIs G ⟨w2, s, ty2, [x], false⟩ B2 → FnO P f [.slice w.a w.n w.c, .int .i64 i, .slice w2.a w2.n w2.c] (B ++ B2) G fun v own' G' => ∃ w', v = .slice w'.a w'.n w'.c ∧ BufIs G' ⟨w', s, ty, dso, false⟩ own'
structure CiA where
 f : FuncId
 nm : Nat
 nm2 : Nat
 i : Int
 ty : TypeId
 ty2 : TypeId
 s : Nat
 ds : List DV
 x : DV
 cap : Nat
 d : Nat
def calI (fr : FrX) (own : OwX) (cf : Cf) : Option CiA := match opC fr cf with
 | some ⟨some d, .call ⟨.value fo, ⟨[x1, x2, x3]⟩, _⟩, _, _, _, _⟩ => match evX (lkC fr cf) fo, evX (lkC fr cf) x1 with
   | some (.d (.v (.func (.func f) ⟨[]⟩ ⟨[]⟩))), some (.rw nm) => match evX (lkC fr cf) x2, evX (lkC fr cf) x3 with
     | some (.d (.v (.int .i64 i))), some (.rw nm2) => match bkC fr own cf nm, bkC fr own cf nm2 with
       | some (.c ty s ds cap), some (.b ty2 s2 [x] true) => bif (!Nat.beq nm d && !Nat.beq nm2 d) && (!Nat.beq nm nm2 && (Nat.beq s2 s && Nat.blt 0 cap)) then some ⟨f, nm, nm2, i, ty, ty2, s, ds, x, cap, d⟩ else none
       | _, _ => none
     | _, _ => none
   | _, _ => none
 | _ => none
theorem ok_callI {lk : LK} {bk : BM} {fo x1 x2 x3 : Operand} {tys : Array TypeId} {f : FuncId} {nm nm2 d cap s : Nat} {i : Int} {ty0 ty2 : TypeId} {ty : TypeId} {pos : String} {af : Array Edge} {gd : Option (Nat × Bool)} {ds dso : List DV} {x : DV} (hne : Nat.beq nm d = false) (hne2 : Nat.beq nm2 d = false) (hn2 : Nat.beq nm nm2 = false) (hcp : 0 < cap)
   (h0 : evX lk fo = some (.d (.v (.func (.func f) ⟨[]⟩ ⟨[]⟩)))) (h1 : evX lk x1 = some (.rw nm)) (h2 : evX lk x2 = some (.d (.v (.int .i64 i)))) (h3 : evX lk x3 = some (.rw nm2)) (hb : bk nm = some (.c ty0 s ds cap)) (hb2 : bk nm2 = some (.b ty2 s [x] true)) (hF : PI GB Tryz.prog f i s ty0 ty2 ds x cap dso) :
   OpR Tryz.prog GB C n lk bk ⟨some d, .call ⟨.value fo, ⟨[x1, x2, x3]⟩, tys⟩, ty, pos, af, gd⟩ (.rw d) [(nm, none), (nm2, none), (d, some (.b ty0 s dso true))] [d] := by
 intro hd tl tb K' s1 s2 hf hk
 refine ⟨fun ρ G ov a w r Q => ?_⟩
 have r1 := r.mono s1 s2
 obtain ⟨y, hy, hy'⟩ := r1.ev h0
 rw [(is_v (G := G)).1 hy'] at hy
 obtain ⟨y1, p1, p1'⟩ := r1.ev h1
 cases (show y1 = _ from p1')
 obtain ⟨y2, p2, p2'⟩ := r1.ev h2
 rw [isX_int] at p2'; subst p2'
 obtain ⟨y3, p3, p3'⟩ := r1.ev h3
 cases (show y3 = _ from p3')
 have hnn : nm ≠ d := fun e => by subst e; rw [Nat.beq_refl] at hne; cases hne
 have hnn2 : nm2 ≠ d := fun e => by subst e; rw [Nat.beq_refl] at hne2; cases hne2
 have hnm : nm ≠ nm2 := fun e => by subst e; rw [Nat.beq_refl] at hn2; cases hn2
 obtain ⟨B, g1, g2⟩ := r1.bx _ _ hb
 obtain ⟨B2, k1, k2⟩ := r1.bx _ _ hb2
 obtain ⟨vs, q1, q2, q3, q4, q5⟩ := g1
 have hB : BufIs G ⟨ρ nm, s, ty0, ds, false⟩ B := ⟨vs, q1, q2, q3, fun h => by cases h⟩
 have hB2 : BufIs G ⟨ρ nm2, s, ty2, [x], false⟩ B2 := BufIs.weak (lo := true) k1
 have e1 : ∃ o, B = [o] ∧ (ρ nm).a = some ⟨o.b, 0, none⟩ := by
   rcases q1 with ⟨_, e, _⟩ | ⟨b, rest, lo', e, rfl, _⟩
   · rw [e] at q5; simp at q5; omega
   · exact ⟨_, rfl, by rw [e]⟩
 have e2 : ∃ o, B2 = [o] ∧ (ρ nm2).a = some ⟨o.b, 0, none⟩ := by
   obtain ⟨vs2, c1, c2, _⟩ := k1
   rcases c1 with ⟨e, _, _⟩ | ⟨b, rest, lo', e, rfl, _⟩
   · subst e; have := c2.len; simp at this
   · exact ⟨_, rfl, by rw [e]⟩
 obtain ⟨o1, rfl, a1⟩ := e1
 obtain ⟨o2, rfl, a2⟩ := e2
 have hob : o1.b ≠ o2.b := fun e => r.dj nm nm2 _ _ (s2 _ _ hb) (s2 _ _ hb2) hnm _ a1 (by rw [a2, e])
 have hp : ∃ rest, ov.Perm ([o1] ++ [o2] ++ rest) := by
   obtain ⟨l1, l2, e3⟩ := List.append_of_mem (g2 _ List.mem_cons_self)
   have hm := k2 _ List.mem_cons_self
   rw [e3] at hm ⊢
   have hm2 : o2 ∈ l1 ++ l2 := by
     rcases List.mem_append.1 hm with h | h
     · exact List.mem_append_left _ h
     · rcases List.mem_cons.1 h with h | h
       · exact absurd (by rw [h]) hob
       · exact List.mem_append_right _ h
   obtain ⟨l3, l4, e4⟩ := List.append_of_mem hm2
   refine ⟨l3 ++ l4, List.perm_middle.trans ?_⟩
   rw [e4]
   exact (List.perm_middle (l₁ := l3) (l₂ := l4) (a := o2)).cons o1
 obtain ⟨rest, h5⟩ := hp
 have h6 : ∀ o ∈ ov, o.b ≠ o1.b → o.b ≠ o2.b → o ∈ rest := fun o ho n1 n2 => by
   have := h5.mem_iff.1 ho
   simp only [List.cons_append, List.nil_append, List.mem_cons] at this
   rcases this with rfl | rfl | h
   · exact absurd rfl n1
   · exact absurd rfl n2
   · exact h
 have hlo2 : ∀ o ∈ [o2], o.lo = true := by obtain ⟨_, _, _, _, h⟩ := k1; exact h rfl
 have hall : ∀ o ∈ [o1] ++ [o2], o.lo = true := fun o ho => by
   rcases List.mem_append.1 ho with h | h
   · exact q4 o h
   · exact hlo2 o h
 refine ch_callO (M := [o1] ++ [o2]) (rest := rest) (vs := [.slice (ρ nm).a (ρ nm).n (ρ nm).c, .int .i64 i, .slice (ρ nm2).a (ρ nm2).n (ρ nm2).c]) hy (by simp only [opvs, p1, p2, p3]) h5 (hF G (ρ nm) (ρ nm2) [o1] [o2] r.gb hB q5 hB2) hd (fun v own1 G' hG hK a' w' rl => ?_) a w Q ⟨r.h, r.sz, frA_ok a, r.df⟩
 obtain ⟨z, rfl, vs', k1', k2', k3', k4'⟩ := hK
 have hs1 := k1'.relo (flM ([o1] ++ [o2]))
 have e3 : ∀ o ∈ own1.map (relo (flM ([o1] ++ [o2]))), o.lo = true := fun o ho => by
   obtain ⟨o', _, rfl⟩ := List.mem_map.1 ho
   exact flM_true _ hall
 generalize own1.map (relo (flM ([o1] ++ [o2]))) = B' at rl e3 hs1
 have rl' : Rel C n (Sx.put (frA a) (some d) (.slice z.a z.n z.c)) (B' ++ rest) G' a' w' := rl
 have hdis := (List.pairwise_append.1 rl'.h.nd).2.2
 have rd := (r.dropB nm).dropB nm2
 have hin : ∀ q B0, Sx.upB (Sx.upB tb [(nm, none)]) [(nm2, none)] q = some B0 → q ≠ nm ∧ q ≠ nm2 ∧ tb q = some B0 := fun q B0 e => by
   simp only [Sx.upB] at e
   split at e
   · cases e
   · split at e
     · cases e
     · exact ⟨by assumption, by assumption, e⟩
 have hf2 : FreshX [d] (some d) tl (Sx.upB (Sx.upB tb [(nm, none)]) [(nm2, none)]) := fun q hq => by
   obtain ⟨f1, f2⟩ := hf q hq
   exact ⟨f1, fun k B e1 e => f2 k B e1 (hin k B e).2.2⟩
 have hsep : ∀ q B0, Sx.upB (Sx.upB tb [(nm, none)]) [(nm2, none)] q = some B0 → ∀ o ∈ ov, (ρ q).a = some ⟨o.b, 0, none⟩ → o ∈ rest := fun q B0 e o ho hbq => by
   obtain ⟨n1, n2, n3⟩ := hin q B0 e
   exact h6 o ho (fun e' => r.dj nm q _ _ (s2 _ _ hb) n3 (Ne.symm n1) _ a1 (by rw [hbq, e'])) (fun e' => r.dj nm2 q _ _ (s2 _ _ hb2) n3 (Ne.symm n2) _ a2 (by rw [hbq, e']))
 have r3 := rd.new' (x := z) (B' := .b ty0 s dso true) (os := B') (ov' := B' ++ rest) (f := .rw d) (y := .slice z.a z.n z.c) hf2 hG.le rl'.h ⟨vs', by simpa using hs1, k2', k3', fun _ => e3⟩ (fun o ho => List.mem_append_left _ ho)
   (fun q B0 hq e o ho hbq => ⟨List.mem_append_right _ (hsep q B0 e o ho hbq), fun hc => by
     have hx : ∃ o1 ∈ B', o1.b = o.b := by
       rcases hs1 with ⟨_, h, _⟩ | ⟨b0, rest0, lo0, h, hB, _⟩
       · rw [show z = _ from h] at hc; cases hc
       · rw [show z = _ from h] at hc; cases hc; exact ⟨⟨_, flatL vs' ++ rest0, _, lo0⟩, by rw [hB]; exact List.mem_cons_self, rfl⟩
     obtain ⟨o3, ho3, he3⟩ := hx
     exact hdis o3 ho3 o (hsep q B0 e o ho hbq) he3⟩) (by show _ = _; simp) (putA_rel rl')
 exact hk.run _ G' _ a' w' r3
theorem ci [fu : Fu] {f : FuncId} {nm nm2 d cap s : Nat} {i : Int} {ty ty2 : TypeId} {ds dso : List DV} {x : DV} (dso' : List DV) (ha : calI fr own cf = some ⟨f, nm, nm2, i, ty, ty2, s, ds, x, cap, d⟩) (hF : PI GB Tryz.prog f i s ty ty2 ds x cap dso) (he : dso = dso')
  (hgo : goA tt n fu.n fr own cf (.rw d) [(nm, none), (nm2, none), (d, some (.b ty s dso' true))] [d] = ⟨vc, fr', own', cf'⟩) (k : CfS Tryz.prog GB C n Q0 fr' own' cf')
  (hv : allP vc := by first | exact trivial | (simp only [allP]; kernel_rfl) | (simp only [allP]; omega)) : CfS Tryz.prog GB C n Q0 fr own cf := by
 subst he
 unfold calI at ha
 split at ha <;> try (cases ha; done)
 rename_i hh
 split at ha <;> try (cases ha; done)
 rename_i h0 h1
 split at ha <;> try (cases ha; done)
 rename_i h2 h3
 split at ha <;> try (cases ha; done)
 rename_i hb hb2
 rw [cond_eq_ite] at ha
 split at ha <;> cases ha
 rename_i hc
 simp only [Bool.and_eq_true, Bool.not_eq_true', Nat.blt_eq] at hc
 obtain ⟨⟨c1, c2⟩, c3, c4, c5⟩ := hc
 cases Nat.eq_of_beq_eq_true c4
 exact us hh (ok_callI c1 c2 c3 c5 h0 h1 h2 h3 hb hb2 hF) hgo hv k
theorem kbT (d : Nat) {ops : Array Oper} {r : List Oper} {K : List Kt} (hl : lookX fr d = some (.d (.v (.bool true)))) (k : CfS Tryz.prog GB C n Q0 ((d, .tt) :: fr) own (.ops ops r K)) : CfS Tryz.prog GB C n Q0 fr own (.ops ops r K) := lookX_same (g := .tt) hl (fun _ G _ e => (is_v (G := G)).1 e) k
theorem kbF (d : Nat) {ops : Array Oper} {r : List Oper} {K : List Kt} (hl : lookX fr d = some (.d (.v (.bool false)))) (k : CfS Tryz.prog GB C n Q0 ((d, .ff) :: fr) own (.ops ops r K)) : CfS Tryz.prog GB C n Q0 fr own (.ops ops r K) := lookX_same (g := .ff) hl (fun _ G _ e => (is_v (G := G)).1 e) k
end
end Go.Sx
end

section
set_option maxRecDepth 100000
namespace Go.Sx
open Go Go.Proofs
section
variable {GB : Gh} {C : Ctx} {n : Nat} {Q0 : Exit → Act → World → Prop} {fr fr' : FrX} {own own' : OwX} {cf cf' : Cf} {vc : List Prop}
def xrA (fr : FrX) (cf : Cf) : Option (Int × Int) := match opC fr cf with
 | some ⟨_, .binOp .xor _ x y _, _, _, _, _⟩ => match evX (lkC fr cf) x, evX (lkC fr cf) y with
   | some (.d (.v (.int .u32 p))), some (.d (.v (.int .u32 q))) => some (p, q)
   | _, _ => none
 | _ => none
theorem xr [fu : Fu] {p q : Int} (u : Int) (h : xrA fr cf = some (p, q)) (e : (((BitVec.ofInt 32 p ^^^ BitVec.ofInt 32 q).toNat : Nat) : Int) = u) (hgo : goA tt n fu.n fr own cf (.d (.v (.int .u32 u))) [] [] = ⟨vc, fr', own', cf'⟩) (k : CfS Tryz.prog GB C n Q0 fr' own' cf')
  (hv : allP vc := by first | exact trivial | (simp only [allP]; kernel_rfl) | (simp only [allP]; omega)) : CfS Tryz.prog GB C n Q0 fr own cf := by
 unfold xrA at h
 split at h <;> try (cases h; done)
 rename_i hh
 split at h <;> cases h
 rename_i h1 h2
 subst e
 exact us hh (.yd fun ρ G ov a w r => by
  obtain ⟨y1, h3, h4⟩ := r.ev h1
  obtain ⟨y2, h5, h6⟩ := r.ev h2
  rw [isX_int] at h4 h6; subst h4 h6
  exact ⟨_, isX_int.2 rfl, yd_int h3 h5 fun w => by
   show (pure (Value.int .u32 (IntKind.u32.wrap ((BitVec.ofInt 32 p ^^^ BitVec.ofInt 32 q).toNat : Int))) : Sem Value).run Tryz.prog w = _
   rw [wrapB32]; rfl⟩) hgo hv k
def swA (fr : FrX) (cf : Cf) : Option (Int × Int) := match opC fr cf with
 | some ⟨_, .binOp .sub _ x y _, _, _, _, _⟩ => match evX (lkC fr cf) x, evX (lkC fr cf) y with
   | some (.d (.v (.int .u32 p))), some (.d (.v (.int .u32 q))) => some (p, q)
   | _, _ => none
 | _ => none
theorem sw [fu : Fu] {p q : Int} (u : Int) (h : swA fr cf = some (p, q)) (e : (p - q) % 4294967296 = u) (hgo : goA tt n fu.n fr own cf (.d (.v (.int .u32 u))) [] [] = ⟨vc, fr', own', cf'⟩) (k : CfS Tryz.prog GB C n Q0 fr' own' cf')
  (hv : allP vc := by first | exact trivial | (simp only [allP]; kernel_rfl) | (simp only [allP]; omega)) : CfS Tryz.prog GB C n Q0 fr own cf := by
 unfold swA at h
 split at h <;> try (cases h; done)
 rename_i hh
 split at h <;> cases h
 rename_i h1 h2
 subst e
 exact us hh (.yd fun ρ G ov a w r => by
  obtain ⟨y1, h3, h4⟩ := r.ev h1
  obtain ⟨y2, h5, h6⟩ := r.ev h2
  rw [isX_int] at h4 h6; subst h4 h6
  exact ⟨_, isX_int.2 rfl, by rw [← wrap_u32]; exact yd_subw h3 h5⟩) hgo hv k
def ntA (fr : FrX) (cf : Cf) : Option Int := match opC fr cf with
 | some ⟨_, .unOp .xor _ x, _, _, _, _⟩ => match evX (lkC fr cf) x with
   | some (.d (.v (.int .u32 p))) => some p
   | _ => none
 | _ => none
theorem nt [fu : Fu] {p : Int} (u : Int) (h : ntA fr cf = some p) (e : (((BitVec.ofInt 32 IntKind.u32.max ^^^ BitVec.ofInt 32 p).toNat : Nat) : Int) = u) (hgo : goA tt n fu.n fr own cf (.d (.v (.int .u32 u))) [] [] = ⟨vc, fr', own', cf'⟩) (k : CfS Tryz.prog GB C n Q0 fr' own' cf')
  (hv : allP vc := by first | exact trivial | (simp only [allP]; kernel_rfl) | (simp only [allP]; omega)) : CfS Tryz.prog GB C n Q0 fr own cf := by
 unfold ntA at h
 split at h <;> try (cases h; done)
 rename_i hh
 split at h <;> cases h
 rename_i hx
 subst e
 refine us hh (.x1 hx fun ρ G ov a w y _ r h1 h2 => ?_) hgo hv k
 rw [isX_int] at h2; subst h2
 refine ⟨_, isX_int.2 rfl, fun a w hf hh => ?_⟩
 simp only [execOp, opv_eval hf h1]
 refine value_of (w' := w) ?_
 show (pure (Value.int .u32 (IntKind.u32.wrap ((BitVec.ofInt 32 IntKind.u32.max ^^^ BitVec.ofInt 32 p).toNat : Int))) : Sem Value).run Tryz.prog w = _
 rw [wrapB32]; rfl
end
end Go.Sx
end

section
set_option maxRecDepth 100000
namespace Go.Sx
open Go Go.Proofs
theorem isNilS (G : Gh) : Is G (.sl []) (.slice none 0 0) := is_sl.2 ⟨0, ⟨none, 0, 0⟩, [], rfl, IsSl.nil G 0, .nil⟩
instance : TyZD Tryz.prog 36 (.agg ⟨[.int .i64 0, .slice none 0 0]⟩) [.v (.int .i64 0), .sl []] := ⟨inferInstance, (.cons ((is_v.2 rfl)) (.cons (isNilS _) .nil))⟩
instance : TyZD Tryz.prog 60 (.agg ⟨[.bool false, .slice none 0 0, .bool false, .slice none 0 0, .bool false, .slice none 0 0, .int .i64 0, .int .i64 0]⟩) [.v (.bool false), .sl [], .v (.bool false), .sl [], .v (.bool false), .sl [], .v (.int .i64 0), .v (.int .i64 0)] := ⟨inferInstance, (.cons ((is_v.2 rfl)) (.cons (isNilS _) (.cons ((is_v.2 rfl)) (.cons (isNilS _) (.cons ((is_v.2 rfl)) (.cons (isNilS _) (.cons ((is_v.2 rfl)) (.cons ((is_v.2 rfl)) .nil))))))))⟩
instance : TyZE Tryz.prog 60 (.ag [.v (.bool false), .sl [], .v (.bool false), .sl [], .v (.bool false), .sl [], .v (.int .i64 0), .v (.int .i64 0)]) := ⟨⟨_, inferInstance, is_ag.2 ⟨_, rfl, (.cons ((is_v.2 rfl)) (.cons (isNilS _) (.cons ((is_v.2 rfl)) (.cons (isNilS _) (.cons ((is_v.2 rfl)) (.cons (isNilS _) (.cons ((is_v.2 rfl)) (.cons ((is_v.2 rfl)) .nil))))))))⟩, rfl⟩⟩
end Go.Sx
end

section
set_option maxRecDepth 100000
namespace Go.Sx
open Go Go.Proofs
theorem trimD_step {ds : List Nat} {k : Nat} (hk : k < ds.length) (h : trimD ds = trimD (ds.take (k + 1))) (h0 : ds.getD k 0 = 0) : trimD ds = trimD (ds.take k) := by
 rw [h, List.take_succ_eq_append_getElem hk]
 have : ds[k] = 0 := by rw [List.getD_eq_getElem?_getD, List.getElem?_eq_getElem hk] at h0; simpa using h0
 rw [this, trimD_snoc0]
theorem trimD_stop {ds : List Nat} {k : Nat} (hk : k < ds.length) (h : trimD ds = trimD (ds.take (k + 1))) (h0 : ds.getD k 0 ≠ 0) : trimD ds = ds.take (k + 1) := by
 rw [h, List.take_succ_eq_append_getElem hk]
 have : ds[k] ≠ 0 := by rw [List.getD_eq_getElem?_getD, List.getElem?_eq_getElem hk] at h0; simpa using h0
 exact trimD_snoc this
theorem nat_trim {A G : Gh} {x : SV} {ds : List Nat} (hx : IsD A x ds) [GL A G] (hb : ds.length ≤ 1125899906842624) : Fn Tryz.prog 181 [x.v] G (fun v _ => v = .slice x.a (trimD ds).length x.c) := by
 have hlen := hx.len
 have hcap := hx.sl.cap
 refine Fn.intro Tryz.func181 rfl rfl Tryz.ntmps181 rfl ?_
 intro C _ _
 refine sR <| sa rfl rfl <| zE <| st_seq <| st_block <| ?_
 refine st_loop (X := Nat) (fun k => [(0, .slice x.a k x.c)]) (fun _ => []) (fun k _ => k ≤ ds.length ∧ trimD ds = trimD (ds.take k)) (fun k => k) ds.length ⟨Nat.le_refl _, by simp⟩ (hlen ▸ .cons rfl .nil) rfl ?_
 rintro k Gx _ ⟨hk, ht⟩
 refine st_seq <| sR <| sm rfl rfl <| slen rfl rfl <| sy (yd_gtr rfl rfl) rfl <| sm rfl rfl <| ?_
 refine st_caseP 6 rfl (fun hg => ?_) (fun hg => ?_)
 · have hk1 : k - 1 < ds.length := by omega
   have hkt : ((k : Int) - 1).toNat = k - 1 := by omega
   have hk2 : k = k - 1 + 1 := by omega
   refine syg rfl rfl (yd_move rfl) rfl <| syg rfl rfl (yd_move rfl) rfl <| syg rfl rfl (yd_len rfl) rfl <| syg rfl rfl (yd_sub64 rfl rfl) rfl <| ?_
   refine syg rfl rfl (yd_ixD (z := ⟨x.a, k, x.c⟩) (hx.take k hk) rfl rfl (by omega) (by show _ < (k : Int); omega)) rfl <| syg rfl rfl (yd_ldD hx rfl (by omega)) rfl <| syg rfl rfl (yd_eql rfl rfl) rfl <| sy (yd_pickT rfl rfl) rfl <| zE <| ?_
   rw [hkt]
   refine st_condE rfl (fun hc => ?_) (fun hc => ?_) -- slot 14
   · refine st_exit <| st_te <| st_te <| st_inBlock_eq <| sR <| sm rfl rfl <| sa rfl rfl <| zE <| st_ret <| ?_
     have hs := trimD_stop hk1 (hk2 ▸ ht) (fun e => hc (by rw [e]; rfl))
     refine zD (.tmp rfl .nil) ?_
     rw [hs, ← hk2]
     simp [tupled, hk]
   refine zK <| st_block <| st_region <| sm rfl rfl <| sm rfl rfl <| slen rfl rfl <| sy (yd_sub64 rfl rfl) rfl <| sy (yd_slice_hi rfl rfl (by omega) (by omega)) rfl <| ?_
   refine sa rfl rfl <| zE <| ?_
   exact st_again (k - 1) ⟨by omega, trimD_step hk1 (hk2 ▸ ht) (by omega)⟩ (by omega) (.cons (by rw [← hkt]; rfl) .nil) rfl
 refine ss rfl rfl rfl rfl <| ss rfl rfl rfl rfl <| ss rfl rfl rfl rfl <| ss rfl rfl rfl rfl <| ss rfl rfl rfl rfl <| ss rfl rfl rfl rfl <| ?_
 refine ss rfl rfl rfl rfl <| sy (yd_pickF rfl rfl) rfl <| zE <| st_condF rfl <| st_exit <| st_te <| st_te <| st_inBlock_eq <| sR <| sm rfl rfl <| sa rfl rfl <| zE <| st_ret <| ?_
 have hk0 : k = 0 := by omega
 subst hk0
 refine zD (.tmp rfl .nil) ?_
 rw [ht]
 rfl
/-! ### Normal, Clone, Norm -/
theorem nat_Normal {A G : Gh} {x : SV} {ds : List Nat} (hx : IsD A x ds) [GL A G] (hb : ds.length ≤ 1125899906842624) : Fn Tryz.prog 139 [x.v] G (fun v _ => v = .bool (decide (Nrm ds))) := by
 have hlen := hx.len
 refine Fn.intro Tryz.func139 rfl rfl Tryz.ntmps139 rfl ?_
 intro C _ _
 refine sR <| sa rfl rfl <| zE <| sR <| sm rfl rfl <| slen rfl rfl <| sy (yd_eql rfl rfl) rfl <| sm rfl rfl <| ?_
 refine st_caseP 6 rfl (fun hg => ?_) (fun hg => ?_)
 · refine ss rfl rfl rfl rfl <| ss rfl rfl rfl rfl <| ss rfl rfl rfl rfl <| ss rfl rfl rfl rfl <| ss rfl rfl rfl rfl <| ss rfl rfl rfl rfl <| ss rfl rfl rfl rfl <| sy (yd_pickT rfl rfl) rfl <| sa rfl rfl <| ?_
   refine zE <| st_ret <| ?_
   refine zD (.tmp rfl .nil) ?_
   have : ds = [] := List.eq_nil_of_length_eq_zero (by omega)
   subst this
   simp [tupled, Nrm]
 have hne : 0 < ds.length := by omega
 have hkt : ((x.n : Int) - 1).toNat = ds.length - 1 := by omega
 refine syg rfl rfl (yd_move rfl) rfl <| syg rfl rfl (yd_move rfl) rfl <| syg rfl rfl (yd_len rfl) rfl <| syg rfl rfl (yd_sub64 rfl rfl) rfl <| syg rfl rfl (yd_ixD hx rfl rfl (by omega) (by omega)) rfl <| ?_
 refine syg rfl rfl (yd_ldD hx rfl (by omega)) rfl <| syg rfl rfl (yd_neq rfl rfl) rfl <| sy (yd_pickF rfl rfl) rfl <| sa rfl rfl <| zE <| st_ret <| ?_
 refine zD (.tmp rfl .nil) ?_
 rw [hkt]
 simp only [tupled, Value.bool.injEq, decide_eq_decide, Nrm, List.getLast?_eq_getElem?, List.getD_eq_getElem?_getD, List.getElem?_eq_getElem (show ds.length - 1 < ds.length by omega), Option.getD_some, ne_eq, Option.some.injEq]
 exact not_congr (by omega)
theorem dI_flat (ds : List Nat) : ∀ v ∈ ds.map dI, flat v = true := fun v hv => by
 obtain ⟨d, _, rfl⟩ := List.mem_map.1 hv; rfl
theorem nat_Clone {A G : Gh} {x : SV} {ds : List Nat} (hx : IsD A x ds) [GL A G] (hb : ds.length ≤ 1125899906842) : Fn Tryz.prog 212 [x.v] G (fun v G' => ∃ z : SV, v = z.v ∧ IsD G' z ds) := by
 have hlen := hx.len
 refine Fn.intro Tryz.func212 rfl rfl Tryz.ntmps212 rfl ?_
 intro C _ _
 refine sR <| sa rfl rfl <| zE <| st_seq <| sR <| sm rfl rfl <| sy (yd_eqS rfl rfl) rfl <| zE <| ?_
 refine st_condB rfl (fun hc => ?_) (fun hc => ?_)
 · refine sR <| sa rfl rfl <| zE <| st_ret <| ?_
   refine zD (.tmp rfl .nil) ⟨⟨none, 0, 0⟩, rfl, ?_⟩
   rcases hx.sl.mem with h | ⟨b, off, cs, ha, _⟩
   · have : ds = [] := by simpa using h
     subst this; exact .nil _
   · rw [ha] at hc; cases hc
 refine zK <| sR <| ?_
 refine sc (ch_slice0 rfl ?_)
 intro b1
 refine sm rfl rfl <| ?_
 refine sc (ch_append_own (xs := []) (rest := []) (ys := ds.map dI) rfl rfl (.hd ..) rfl rfl (Nat.le_refl _) (src_D hx) (by simp [hlen]) (dI_flat ds) (by decide) (by omega) rfl rfl ?_)
 intro b cap rest h1 h2
 refine sa rfl rfl <| zE <| st_freeze b (.hd ..) (fun G' _ hgb => ?_)
 refine st_ret <| ?_
 refine zD (.tmp rfl .nil) ⟨⟨some ⟨b, 0, none⟩, x.n, cap⟩, by simp [tupled, SV.v], ?_⟩
 exact .of_block hx.ok hgb.h hlen (by omega) (by simp)
theorem nat_Norm {A G : Gh} {x : SV} {ds : List Nat} {k : Nat} (hx : IsD A x ds) [GL A G] (hk : dv ds < 2 ^ k) (hb : ds.length ≤ 1125899906842) : Fn Tryz.prog 180 [x.v] G (fun v G' => ∃ z : SV, v = z.v ∧ IsN k G' z (dv ds)) := by
 have htl := trimD_len ds
 refine Fn.intro Tryz.func180 rfl rfl Tryz.ntmps180 rfl ?_
 intro C _ _
 refine sR <| sa rfl rfl <| zE <| sR <| sm rfl rfl <| ?_
 refine sc (zC rfl rfl (nat_trim hx (by omega)) rfl ?_)
 rintro _ G1 _ rfl
 refine sc (zC rfl rfl (nat_Clone hx.trim (by omega)) rfl ?_)
 rintro _ G2 _ ⟨z, rfl, hz⟩
 refine sa rfl rfl <| zE <| st_ret <| ?_
 refine zD (.tmp rfl .nil) ⟨z, rfl, ?_⟩
 exact ⟨by rw [dg_trim hx.ok]; exact hz, hk⟩
end Go.Sx
end

section
namespace Go.Proofs
open Go.Shelf
def Tryz.lays128_ren : Go.Shelf.Ren := ⟨fun | 128 => 225 | n => n, fun | 51 => 224 | 3 => 3 | 4 => 4 | 46 => 235 | 5 => 5 | 9 => 9 | n => n, fun | n => n⟩
def Tryz.lays133_ren : Go.Shelf.Ren := ⟨fun | 133 => 202 | 128 => 225 | n => n, fun | 51 => 224 | 3 => 3 | 4 => 4 | 46 => 235 | 5 => 5 | 9 => 9 | n => n, fun | n => n⟩
theorem Tryz.lays133 : Go.Proofs.Lays.n133 Tryz.prog Tryz.lays133_ren := {
 mixed := by kernel_rfl
 f128 := Tryz.func225.trans (congrArg some (by kernel_rfl))
 f133 := Tryz.func202.trans (congrArg some (by kernel_rfl))
 t3 := Tryz.underlying3
 a3 := Tryz.isAgg3
 z3 := Tryz.sizeOf3
 v3 := Tryz.zeroValue3
 t4 := Tryz.underlying4
 a4 := Tryz.isAgg4
 z4 := Tryz.sizeOf4
 v4 := Tryz.zeroValue4
 t5 := Tryz.underlying5
 a5 := Tryz.isAgg5
 z5 := Tryz.sizeOf5
 v5 := Tryz.zeroValue5
 t9 := Tryz.underlying9
 a9 := Tryz.isAgg9
 z9 := Tryz.sizeOf9
 v9 := Tryz.zeroValue9
 t46 := Tryz.underlying235
 a46 := Tryz.isAgg235
 z46 := Tryz.sizeOf235
 v46 := Tryz.zeroValue235
 t51 := Tryz.underlying224
 a51 := Tryz.isAgg224
 z51 := Tryz.sizeOf224
 v51 := Tryz.zeroValue224 }
theorem Tryz.bits_LeadingZeros32 (x : Int) (w : World) (h0 : 0 ≤ x) (h1 : x ≤ 4294967295) :
  Calls Tryz.prog 202 #[.int .u32 x] w fun e w' => e = .returned (.int .i64 (32 - (Lib.bitLen x.toNat : Int))) ∧ w' = w := Any.bits_LeadingZeros32 Tryz.lays133 x w h0 h1
def Tryz.lays264_ren : Go.Shelf.Ren := ⟨fun | 264 => 233 | n => n, fun | 53 => 199 | 46 => 235 | n => n, fun | n => n⟩
theorem Tryz.lays264 : Go.Proofs.Lays.n264 Tryz.prog Tryz.lays264_ren := {
 mixed := by kernel_rfl
 f264 := Tryz.func233.trans (congrArg some (by kernel_rfl))
 t46 := Tryz.underlying235
 a46 := Tryz.isAgg235
 z46 := Tryz.sizeOf235
 v46 := Tryz.zeroValue235
 t53 := Tryz.underlying199
 a53 := Tryz.isAgg199
 z53 := Tryz.sizeOf199
 v53 := Tryz.zeroValue199 }
open Go.RowKit Go.Lib in
theorem Tryz.bits_Mul64 (x y : Nat) (hx : x < 18446744073709551616) (hy : y < 18446744073709551616) (w : World) :
  Calls Tryz.prog 233 #[.int .u64 x, .int .u64 y] w fun e w' => e = .returned (.tuple #[.int .u64 ((x * y / 18446744073709551616 : Nat) : Int), .int .u64 ((x * y % 18446744073709551616 : Nat) : Int)]) ∧ w' = w := Any.bits_Mul64 Tryz.lays264 x y hx hy w
end Go.Proofs
end

section
set_option maxRecDepth 100000
namespace Go.Sx
open Go Go.Proofs
/-! ### the number of binary digits -/
def bl (x : Nat) : Nat := if x = 0 then 0 else Nat.log2 x + 1
theorem lt_bl (x : Nat) : x < 2 ^ bl x := by
 unfold bl
 split
 · rename_i h; subst h; decide
 · exact Nat.lt_log2_self
theorem bl_le {x k : Nat} : bl x ≤ k ↔ x < 2 ^ k := by
 constructor
 · intro h; exact Nat.lt_of_lt_of_le (lt_bl x) (Nat.pow_le_pow_right (by omega) h)
 · intro h
   unfold bl
   split
   · omega
   · rename_i h0
     have := (Nat.log2_lt h0).2 h
     omega
theorem bl_half {x : Nat} (h : x ≠ 0) : bl x = 1 + bl (x / 2) := by
 have h1 : ∀ k, bl x ≤ k + 1 ↔ bl (x / 2) ≤ k := fun k => by
  rw [bl_le, bl_le, Nat.pow_succ]; omega
 have h2 : bl x ≠ 0 := fun e => by
  have := lt_bl x; rw [e] at this; simp at this; exact h this
 have h3 := (h1 (bl (x / 2))).2 (Nat.le_refl _)
 have h4 := (h1 (bl x - 1)).1 (by omega)
 omega
theorem bitLenAux_eq : ∀ (f x : Nat), x < 2 ^ f → Lib.bitLenAux f x = bl x
 | 0, x, h => by
   have : x = 0 := by simpa using h
   subst this; rfl
 | f + 1, x, h => by
   unfold Lib.bitLenAux
   split
   · rename_i h0; subst h0; rfl
   · rename_i h0
     rw [bitLenAux_eq f (x / 2) (by rw [Nat.pow_succ] at h; omega), bl_half h0]
theorem bitLen_eq {x : Nat} (h : x < 2 ^ 64) : Lib.bitLen x = bl x := bitLenAux_eq 64 x h
theorem bl_shift {x k : Nat} (d : Nat) (h : x < 2 ^ k) (hd : d ≠ 0) : bl (x + 2 ^ k * d) = k + bl d := by
 have h1 : ∀ j, bl (x + 2 ^ k * d) ≤ k + j ↔ bl d ≤ j := fun j => by
   rw [bl_le, bl_le, Nat.pow_add]
   constructor
   · intro h'
     exact Nat.lt_of_mul_lt_mul_left (a := 2 ^ k) (by omega)
   · intro h'
     have : 2 ^ k * (d + 1) ≤ 2 ^ k * 2 ^ j := Nat.mul_le_mul_left _ h'
     rw [Nat.mul_add] at this
     omega
 have h2 : k < bl (x + 2 ^ k * d) := by
   rcases Nat.lt_or_ge k (bl (x + 2 ^ k * d)) with h' | h'
   · exact h'
   · have := bl_le.1 h'
     have h3 : 2 ^ k * 1 ≤ 2 ^ k * d := Nat.mul_le_mul_left _ (by omega)
     omega
 have h3 := (h1 (bl d)).2 (Nat.le_refl _)
 have h4 := (h1 (bl (x + 2 ^ k * d) - k)).1 (by omega)
 omega
theorem bl_dv {ds : List Nat} (h : DOk ds) (hn : Nrm ds) (hne : ds ≠ []) : bl (dv ds) = 32 * (ds.length - 1) + bl (ds.getD (ds.length - 1) 0) := by
 rcases List.eq_nil_or_concat ds with rfl | ⟨l, d, rfl⟩
 · exact absurd rfl hne
 · rw [List.concat_eq_append] at *
   have hd : d ≠ 0 := fun e => by subst e; simp [Nrm] at hn
   have hl : DOk l := fun x hx => h x (List.mem_append_left _ hx)
   have h1 := dv_lt hl
   rw [dv_append]
   have h2 : (4294967296 : Nat) ^ l.length = 2 ^ (32 * l.length) := by rw [Nat.pow_mul]
   rw [h2] at h1 ⊢
   have h3 : dv [d] = d := by simp [dv]
   rw [h3, bl_shift d h1 hd]
   have h4 : (l ++ [d]).length - 1 = l.length := by simp
   rw [h4, List.getD_eq_getElem?_getD, List.getElem?_append_right (Nat.le_refl _)]
   simp
theorem callable_of {P : Program} {f : FuncId} {fn : Func} {c : Code} (h : P.funcs[f]? = some fn) (hb : fn.body = some c) (hn : (fn.name == "runtime.NumGoroutine") = false) : Callable P f := ⟨fn, h, hn, by rw [hb]; rfl⟩
theorem bits_lz32 {G : Gh} {x : Nat} (hx : x < 4294967296) : Fn Tryz.prog 202 [.int .u32 (x : Int)] G (fun v _ => v = .int .i64 (32 - (bl x : Int))) := by
 have h := Fn.of_calls (G := G) (callable_of Tryz.func202 rfl rfl) (fun w => Tryz.bits_LeadingZeros32 (x : Int) w (by omega) (by omega))
 rw [Int.toNat_natCast, bitLen_eq (Nat.lt_trans hx (by decide))] at h
 exact h
/-! ### FromUint, Uint, Bits -/
theorem nat_FromUint {G : Gh} {u : Nat} (hu : u < 18446744073709551616) : Fn Tryz.prog 182 [.int .u64 (u : Int)] G (fun v G' => ∃ z : SV, v = z.v ∧ IsN 64 G' z u) := by
 refine Fn.intro Tryz.func182 rfl rfl Tryz.ntmps182 rfl ?_
 intro C _ _
 refine sR <| sa rfl rfl <| zE <| sR <| sm rfl rfl <| sy (yd_toU32 rfl) rfl <| sm rfl rfl <| ?_
 refine sy (yd_shr rfl rfl (by decide)) rfl <| sy (yd_toU32 rfl) rfl <| ?_
 refine sc (ch_slice (by rfl) (by rfl) (by rfl) (by rfl) rfl ?_)
 intro b1
 refine st_freeze b1 (.hd ..) (fun G1 _ hgb => ?_)
 have h1 : ((u : Int) % 4294967296) = ((u % 4294967296 : Nat) : Int) := by omega
 have h2 : ((u : Int).fdiv (2 ^ min (32 : Int).toNat IntKind.u64.bits) % 4294967296) = ((u / 4294967296 : Nat) : Int) := by
  have : (2 ^ min (32 : Int).toNat IntKind.u64.bits : Int) = 4294967296 := by decide
  rw [this, Int.fdiv_eq_ediv_of_nonneg _ (by omega)]
  omega
 have hok : DOk [u % 4294967296, u / 4294967296] := .cons (by omega) (.cons (by omega) .nil)
 have hd : IsD G1 ⟨some ⟨b1, 0, none⟩, 2, 2⟩ [u % 4294967296, u / 4294967296] := .of_block hok hgb.h rfl (Nat.le_refl _) (by rw [h1, h2]; rfl)
 have hv : dv [u % 4294967296, u / 4294967296] = u := by simp only [dv]; omega
 refine sc (zC rfl rfl (nat_trim hd (by simp)) rfl ?_)
 rintro _ G2 _ rfl
 refine sa rfl rfl <| zE <| st_ret <| ?_
 refine zD (.tmp rfl .nil) ⟨⟨some ⟨b1, 0, none⟩, (trimD [u % 4294967296, u / 4294967296]).length, 2⟩, rfl, ?_⟩
 have := hd.trim.up (G := G2)
 rw [← dg_trim hok, hv] at this
 exact ⟨by rw [← dg_trim hok, hv]; exact this, Nat.lt_of_lt_of_le hu (by decide)⟩
theorem or_add {P : Program} {t : TypeId} (a b k : Nat) (ha : a < 2 ^ k) (h : a + b * 2 ^ k < 18446744073709551616) (w : World) : (binOp .or t (.int .u64 (a : Int)) (.int .u64 ((b * 2 ^ k : Nat) : Int))).run P w = .ok (.int .u64 ((a + b * 2 ^ k : Nat) : Int)) w := by
 have h1 : (BitVec.ofInt 64 (a : Int) ||| BitVec.ofInt 64 ((b * 2 ^ k : Nat) : Int)).toNat = a + b * 2 ^ k := by
  rw [BitVec.toNat_or, BitVec.ofInt_natCast, BitVec.ofInt_natCast, BitVec.toNat_ofNat, BitVec.toNat_ofNat, Nat.mod_eq_of_lt (by omega), Nat.mod_eq_of_lt (by omega)]
  rw [← Nat.shiftLeft_eq, Nat.or_comm, ← Nat.shiftLeft_add_eq_or_of_lt ha, Nat.shiftLeft_eq]
  omega
 have h2 : IntKind.u64.wrap ((a + b * 2 ^ k : Nat) : Int) = ((a + b * 2 ^ k : Nat) : Int) := by rw [wrap_u64]; omega
 simp only [binOp]
 show (Op.intBits .or .u64 (a : Int) ((b * 2 ^ k : Nat) : Int)).run P w = _
 unfold Op.intBits
 show (pure (Value.int .u64 (IntKind.u64.wrap ((BitVec.ofInt 64 (a : Int) ||| BitVec.ofInt 64 ((b * 2 ^ k : Nat) : Int)).toNat : Int))) : Sem Value).run P w = _
 rw [h1, h2, run_pure]
theorem nat_Uint {A G : Gh} {x : SV} {ds : List Nat} (hx : IsD A x ds) [GL A G] (hb : ds.length ≤ 1125899906842624) : Fn Tryz.prog 178 [x.v] G (fun v _ => v = .tuple #[.int .u64 ((if dv ds < 18446744073709551616 then dv ds else 0 : Nat) : Int), .bool (decide (dv ds < 18446744073709551616))]) := by
 have htl := trimD_len ds
 have hdv := dv_trimD ds
 have hok := hx.ok.trimD
 have hnr := Nrm.trimD ds
 have hxt := hx.trim
 have hcall := fun G1 (_ : GL A G1) => nat_trim (G := G1) hx (by omega)
 generalize trimD ds = es at *
 have hlen := hxt.len
 rw [← hdv]
 have hbig : (if dv es < 18446744073709551616 then dv es else 0) = if es.length ≤ 2 then dv es else 0 := by
   by_cases h2 : es.length ≤ 2
   · have h3 := dv_lt hok
     have h4 : (4294967296 : Nat) ^ es.length ≤ 4294967296 ^ 2 := Nat.pow_le_pow_right (by omega) h2
     rw [if_pos h2, if_pos (by omega)]
   · have h3 := nrm_ge hnr (fun e => by subst e; simp at h2)
     have h4 : (4294967296 : Nat) ^ 2 ≤ 4294967296 ^ (es.length - 1) := Nat.pow_le_pow_right (by omega) (by omega)
     rw [if_neg h2, if_neg (by omega)]
 have hbig2 : decide (dv es < 18446744073709551616) = decide (es.length ≤ 2) := by
   rw [decide_eq_decide]
   by_cases h2 : es.length ≤ 2
   · have h3 := dv_lt hok
     have h4 : (4294967296 : Nat) ^ es.length ≤ 4294967296 ^ 2 := Nat.pow_le_pow_right (by omega) h2
     exact ⟨fun _ => h2, fun _ => by omega⟩
   · have h3 := nrm_ge hnr (fun e => by subst e; simp at h2)
     have h4 : (4294967296 : Nat) ^ 2 ≤ 4294967296 ^ (es.length - 1) := Nat.pow_le_pow_right (by omega) (by omega)
     exact ⟨fun _ => by omega, fun h => absurd h h2⟩
 rw [hbig, hbig2]
 refine Fn.intro Tryz.func178 rfl rfl Tryz.ntmps178 rfl ?_
 intro C _ _
 refine sR <| sa rfl rfl <| sa rfl rfl <| zE <| sR <| sm rfl rfl <| ?_
 refine sc (zC rfl rfl (hcall _ inferInstance) rfl ?_)
 rintro _ G1 _ rfl
 refine sa rfl rfl <| zE <| st_seq <| sR <| sm rfl rfl <| slen rfl rfl <| sy (yd_gtr rfl rfl) rfl <| zE <| ?_
 refine st_condP rfl (fun hc => ?_) (fun hc => ?_) -- slot 11
 · refine sR <| sa rfl rfl <| sa rfl rfl <| zE <| st_ret <| ?_
   refine zD (.tmp rfl (.tmp rfl .nil)) ?_
   have : ¬ es.length ≤ 2 := by omega
   simp [tupled, this]
 have h2 : es.length ≤ 2 := by omega
 refine zK <| sR <| sa rfl rfl <| zE <| st_seq <| sR <| sm rfl rfl <| slen rfl rfl <| sm rfl rfl <| zE <| st_block <| ?_
 refine st_loop (X := Nat) (fun k => [(14, .int .i64 k), (13, .int .i64 es.length), (12, .slice x.a es.length x.c), (4, .int .u64 ((dv (es.take k) : Nat) : Int))]) (fun _ => []) (fun k _ => k ≤ es.length) (fun k => es.length - k) 0 (Nat.zero_le _) (.cons rfl (.cons rfl (.cons rfl (.cons rfl .nil)))) rfl ?_
 rintro k Gx _ hk
 refine sR <| sy (yd_lss rfl rfl) rfl <| zE <| st_seq <| ?_
 refine st_condE rfl (fun hc => ?_) (fun hc => ?_) -- slot 15
 · refine st_exit <| st_te <| st_te <| st_inBlock_eq <| sR <| sm rfl rfl <| sa rfl rfl <| sa rfl rfl <| zE <| st_ret <| ?_
   refine zD (.tmp rfl (.tmp rfl .nil)) ?_
   have hk' : k = es.length := by omega
   subst hk'
   simp [tupled, h2]
 have hk' : k < es.length := by omega
 have hdk := hok.get k
 have hdt := dv_lt (hok.take k)
 rw [List.length_take, Nat.min_eq_left (by omega)] at hdt
 have hds := dv_take_succ es k
 have hd2 := dv_lt (hok.take (k + 1))
 rw [List.length_take, Nat.min_eq_left (by omega)] at hd2
 have hp2 : (4294967296 : Nat) ^ (k + 1) ≤ 4294967296 ^ 2 := Nat.pow_le_pow_right (by omega) (by omega)
 have hpk : (4294967296 : Nat) ^ k = 2 ^ (32 * k) := by rw [Nat.pow_mul]
 refine zK <| st_seq <| st_block <| sR <| sm rfl rfl <| sy (yd_ixD (z := ⟨x.a, es.length, x.c⟩) hxt rfl rfl (by omega) (by show (k : Int) < (es.length : Nat); omega)) rfl <| sy (yd_ldD hxt rfl (by omega)) rfl <| sa rfl rfl <| sa rfl rfl <| zE <| st_region <| ?_
 refine sm rfl rfl <| sm rfl rfl <| sy (yd_toU64 rfl (by omega) (by rw [Int.toNat_natCast]; omega)) rfl <| sm rfl rfl <| sy (yd_mul64 rfl rfl (by omega) (by omega)) rfl <| ?_
 have hsh : IntKind.u64.wrap (((es.getD (k : Int).toNat 0 : Nat) : Int) * 2 ^ min ((32 : Int) * (k : Int)).toNat IntKind.u64.bits) = ((es.getD k 0 * 2 ^ (32 * k) : Nat) : Int) := by
   have e1 : ((32 : Int) * (k : Int)).toNat = 32 * k := by omega
   rw [e1, Int.toNat_natCast, Nat.min_eq_left (by show 32 * k ≤ 64; omega), wrap_u64]
   have e2 : ((es.getD k 0 : Nat) : Int) * 2 ^ (32 * k) = ((es.getD k 0 * 2 ^ (32 * k) : Nat) : Int) := by push_cast; rfl
   rw [e2]
   have e3 : es.getD k 0 * 2 ^ (32 * k) < 18446744073709551616 := by rw [← hpk, Nat.mul_comm]; omega
   omega
 refine sy (yd_shl rfl rfl (by omega)) rfl <| ?_
 rw [hsh]
 refine sy (yd_int rfl rfl (or_add (dv (es.take k)) (es.getD k 0) (32 * k) (by rw [← hpk]; exact hdt) (by rw [← hpk, Nat.mul_comm]; omega))) rfl <| sa rfl rfl <| zE <| st_region <| sy (yd_add64 rfl rfl) rfl <| sm rfl rfl <| zE <| ?_
 refine st_again (k + 1) (by omega) (by omega) (.cons rfl (.cons rfl (.cons rfl (.cons ?_ .nil)))) rfl
 rw [hds, hpk, Nat.mul_comm (2 ^ (32 * k))]
 rfl
theorem nat_Bits {A G : Gh} {x : SV} {ds : List Nat} (hx : IsD A x ds) [GL A G] (hb : ds.length ≤ 1125899906842624) : Fn Tryz.prog 174 [x.v] G (fun v _ => v = .int .i64 ((bl (dv ds) : Nat) : Int)) := by
 have htl := trimD_len ds
 have hdv := dv_trimD ds
 have hok := hx.ok.trimD
 have hnr := Nrm.trimD ds
 have hxt := hx.trim
 have hcall := fun G1 (_ : GL A G1) => nat_trim (G := G1) hx (by omega)
 generalize trimD ds = es at *
 have hlen := hxt.len
 rw [← hdv]
 refine Fn.intro Tryz.func174 rfl rfl Tryz.ntmps174 rfl ?_
 intro C _ _
 refine sR <| sa rfl rfl <| zE <| sR <| sm rfl rfl <| ?_
 refine sc (zC rfl rfl (hcall _ inferInstance) rfl ?_)
 rintro _ G1 _ rfl
 refine sa rfl rfl <| zE <| st_seq <| sR <| sm rfl rfl <| slen rfl rfl <| sy (yd_eql rfl rfl) rfl <| zE <| ?_
 refine st_condP rfl (fun hc => ?_) (fun hc => ?_) -- slot 7
 · refine sR <| sa rfl rfl <| zE <| st_ret <| ?_
   refine zD (.tmp rfl .nil) ?_
   have : es = [] := List.eq_nil_of_length_eq_zero (by omega)
   subst this
   rfl
 have hne : 0 < es.length := by omega
 have hkt : ((es.length : Int) - 1).toNat = es.length - 1 := by omega
 have hg := hok.get (es.length - 1)
 have hbl : bl (es.getD (es.length - 1) 0) ≤ 32 := bl_le.2 (by omega)
 refine zK <| sR <| sm rfl rfl <| slen rfl rfl <| sy (yd_mul64 rfl rfl (by omega) (by omega)) rfl <| sm rfl rfl <| sm rfl rfl <| slen rfl rfl <| sy (yd_sub64 rfl rfl) rfl <| ?_
 refine sy (yd_ixD (z := ⟨x.a, es.length, x.c⟩) hxt rfl rfl (by omega) (by show _ < ((es.length : Nat) : Int); omega)) rfl <| sy (yd_ldD hxt rfl (by omega)) rfl <| ?_
 rw [hkt]
 refine sc (zC rfl rfl (bits_lz32 hg) rfl ?_)
 rintro _ G2 _ rfl
 refine sy (yd_sub64 rfl rfl) rfl <| sa rfl rfl <| zE <| st_ret <| ?_
 refine zD (.tmp rfl .nil) ?_
 rw [bl_dv hok hnr (fun e => by subst e; simp at hne)]
 simp only [tupled, Value.int.injEq, true_and]
 omega
def cmpN (a b : Nat) : Int := if a < b then -1 else if a = b then 0 else 1
theorem nat_Cmp {A B G : Gh} {x y : SV} {ds es : List Nat} (hx : IsD A x ds) (hy : IsD B y es) [GL A G] [GL B G] (hb : ds.length ≤ 1125899906842624) (hb2 : es.length ≤ 1125899906842624) :
   Fn Tryz.prog 211 [x.v, y.v] G (fun v _ => v = .int .i64 (cmpN (dv ds) (dv es))) := by
 have htl := trimD_len ds
 have htl2 := trimD_len es
 have hcall := fun G1 (_ : GL A G1) => nat_trim (G := G1) hx (by omega)
 have hcall2 := fun G1 (_ : GL B G1) => nat_trim (G := G1) hy (by omega)
 have hxt := hx.trim
 have hyt := hy.trim
 have hok := hx.ok.trimD
 have hok2 := hy.ok.trimD
 have hnr := Nrm.trimD ds
 have hnr2 := Nrm.trimD es
 rw [← dv_trimD ds, ← dv_trimD es]
 generalize trimD ds = a at *
 generalize trimD es = b at *
 refine Fn.intro Tryz.func211 rfl rfl Tryz.ntmps211 rfl ?_
 intro C _ _
 refine sR <| sa rfl rfl <| zE <| sR <| sm rfl rfl <| ?_
 refine sc (zC rfl rfl (hcall _ inferInstance) rfl ?_)
 rintro _ G1 _ rfl
 refine sm rfl rfl <| ?_
 refine sc (zC rfl rfl (hcall2 _ inferInstance) rfl ?_)
 rintro _ G2 _ rfl
 refine sa rfl rfl <| sa rfl rfl <| zE <| st_seq <| sR <| sm rfl rfl <| slen rfl rfl <| sm rfl rfl <| slen rfl rfl <| sy (yd_neq rfl rfl) rfl <| zE <| ?_
 refine st_condP rfl (fun hc => ?_) (fun hc => ?_) -- slot 14
 · refine st_seq <| sR <| sm rfl rfl <| slen rfl rfl <| sm rfl rfl <| slen rfl rfl <| sy (yd_lss rfl rfl) rfl <| zE <| ?_
   refine st_condP rfl (fun hc2 => ?_) (fun hc2 => ?_) -- slot 19
   · refine sR <| sa rfl rfl <| zE <| st_ret <| ?_
     refine zD (.tmp rfl .nil) ?_
     have := dv_len_lt hok hnr2 (by omega)
     simp [tupled, cmpN, this]
   refine zK <| sR <| sa rfl rfl <| zE <| st_ret <| ?_
   refine zD (.tmp rfl .nil) ?_
   have := dv_len_lt hok2 hnr (by omega)
   have h1 : ¬ dv a < dv b := by omega
   have h2 : ¬ dv a = dv b := by omega
   simp [tupled, cmpN, h1, h2]
 have hl : a.length = b.length := by omega
 refine zK <| st_seq <| sR <| sm rfl rfl <| slen rfl rfl <| sy (yd_sub64 rfl rfl) rfl <| sa rfl rfl <| zE <| st_block <| ?_
 refine st_loop (X := Nat) (fun k => [(5, .int .i64 (k - 1)), (0, .slice x.a a.length x.c), (1, .slice y.a b.length y.c)]) (fun _ => []) (fun k _ => k ≤ a.length ∧ a.drop k = b.drop k) (fun k => k) a.length ⟨Nat.le_refl _, by rw [List.drop_length, hl, List.drop_length]⟩ (.cons rfl (.cons rfl (.cons rfl .nil))) rfl ?_
 rintro k Gx _ ⟨hk, hd⟩
 refine st_seq <| sR <| sm rfl rfl <| sy (yd_geq rfl rfl) rfl <| zE <| ?_
 refine st_condE rfl (fun hc => ?_) (fun hc => ?_) -- slot 24
 · refine st_exit <| st_te <| st_te <| st_inBlock_eq <| sR <| sa rfl rfl <| zE <| st_ret <| ?_
   refine zD (.tmp rfl .nil) ?_
   have : k = 0 := by omega
   subst this
   have hab : a = b := by simpa using hd
   subst hab
   simp [tupled, cmpN]
 have hk1 : 0 < k := by omega
 have hkt : ((k : Int) - 1).toNat = k - 1 := by omega
 have hga := hok.get (k - 1)
 have hgb := hok2.get (k - 1)
 have hk2 : k - 1 + 1 = k := by omega
 refine zK <| st_seq <| st_block <| st_block <| st_seq <| dr (fun _ => false) [(0, true), (1, true), (2, true), (3, true), (4, true), (5, true), (6, true), (7, true), (8, true), (9, true)] follows (by kernel_rfl) <| ?_
 refine dM rfl rfl rfl <| dM rfl rfl rfl <| dy rfl (fun _ => yd_ixD (z := ⟨x.a, a.length, x.c⟩) hxt rfl rfl (by omega) (by show _ < ((a.length : Nat) : Int); omega)) rfl rfl <| dy rfl (fun _ => yd_ldD hxt rfl (by omega)) rfl rfl <| ?_
 refine dM rfl rfl rfl <| dM rfl rfl rfl <| dy rfl (fun _ => yd_ixD (z := ⟨y.a, b.length, y.c⟩) hyt rfl rfl (by omega) (by show _ < ((b.length : Nat) : Int); omega)) rfl rfl <| dy rfl (fun _ => yd_ldD hyt rfl (by omega)) rfl rfl <| ?_
 refine dy rfl (fun _ => yd_lss rfl rfl) rfl rfl <| dA rfl rfl rfl <| dn <| ?_
 refine st_condP rfl (fun hc2 => ?_) (fun hc2 => ?_) -- slot 27
 · refine sR <| sa rfl rfl <| zE <| st_ret <| ?_
   refine zD (.tmp rfl .nil) ?_
   rw [hkt] at hc2
   have := dv_cmp hok hok2 (k - 1) (by omega) (by omega) hl (by rw [hk2]; exact hd) (by omega)
   simp [tupled, cmpN, this]
 refine st_seq <| dr (fun _ => false) [(0, true), (1, true), (2, true), (3, true), (4, true), (5, true), (6, true), (7, true), (8, true), (9, true)] follows (by kernel_rfl) <| dM rfl rfl rfl <| ?_
 refine dM rfl rfl rfl <| dy rfl (fun _ => yd_ixD (z := ⟨x.a, a.length, x.c⟩) hxt rfl rfl (by omega) (by show _ < ((a.length : Nat) : Int); omega)) rfl rfl <| dy rfl (fun _ => yd_ldD hxt rfl (by omega)) rfl rfl <| dM rfl rfl rfl <| ?_
 refine dM rfl rfl rfl <| dy rfl (fun _ => yd_ixD (z := ⟨y.a, b.length, y.c⟩) hyt rfl rfl (by omega) (by show _ < ((b.length : Nat) : Int); omega)) rfl rfl <| dy rfl (fun _ => yd_ldD hyt rfl (by omega)) rfl rfl <| dy rfl (fun _ => yd_gtr rfl rfl) rfl rfl <| ?_
 refine dA rfl rfl rfl <| dn <| ?_
 rw [hkt] at *
 refine st_condP rfl (fun hc3 => ?_) (fun hc3 => ?_) -- slot 37
 · refine sR <| sa rfl rfl <| zE <| st_ret <| ?_
   refine zD (.tmp rfl .nil) ?_
   have := dv_cmp hok2 hok (k - 1) (by omega) (by omega) hl.symm (by rw [hk2]; exact hd.symm) (by omega)
   have h1 : ¬ dv a < dv b := by omega
   have h2 : ¬ dv a = dv b := by omega
   simp [tupled, cmpN, h1, h2]
 refine zK <| st_region <| sm rfl rfl <| sy (yd_sub64 rfl rfl) rfl <| sa rfl rfl <| zE <| ?_
 refine st_again (k - 1) ⟨by omega, ?_⟩ (by omega) (.cons (by rw [show ((k - 1 : Nat) : Int) = (k : Int) - 1 by omega]; rfl) (.cons rfl (.cons rfl .nil))) rfl
 have heq : a.getD (k - 1) 0 = b.getD (k - 1) 0 := by omega
 rw [List.getD_eq_getElem?_getD, List.getD_eq_getElem?_getD, List.getElem?_eq_getElem (by omega), List.getElem?_eq_getElem (by omega)] at heq
 rw [List.drop_eq_getElem_cons (by omega : k - 1 < a.length), List.drop_eq_getElem_cons (by omega : k - 1 < b.length), hk2, hd]
 congr 1
end Go.Sx
end

section
set_option maxRecDepth 100000
namespace Go.Sx
open Go Go.Proofs
theorem getD_ge {ds : List Nat} {k : Nat} (h : ds.length ≤ k) : ds.getD k 0 = 0 := by
 rw [List.getD_eq_getElem?_getD, List.getElem?_eq_none h]; rfl
theorem getD_rep (n k : Nat) : (List.replicate n 0).getD k 0 = 0 := by
 rw [List.getD_eq_getElem?_getD]
 by_cases h : k < n
 · simp [h]
 · rw [List.getElem?_eq_none (by simpa using h)]; rfl
theorem add_lt {a b c : Nat} (ha : a < 4294967296) (hb : b < 4294967296) (hc : c ≤ 1) : (c + a + b) / 4294967296 ≤ 1 := by omega
structure NatAdd where
 ws : List Nat
 k : Nat
 c : Nat
set_option maxHeartbeats 1000000 in
theorem nat_Add {A B G : Gh} {x y : SV} {ds es : List Nat} {kk : Nat} (hx : IsD A x ds) (hy : IsD B y es) [GL A G] [GL B G] (hk : dv ds + dv es < 2 ^ kk) (hb : ds.length ≤ 1125899906842) (hb2 : es.length ≤ 1125899906842) :
   Fn Tryz.prog 235 [x.v, y.v] G (fun v G' => ∃ z : SV, v = z.v ∧ IsN kk G' z (dv ds + dv es)) := by
 have hlen := hx.len
 have hlen2 := hy.len
 refine Fn.intro Tryz.func235 rfl rfl Tryz.ntmps235 rfl ?_
 intro C _ _
 refine sR <| sa rfl rfl <| zE <| ?_
 refine st_cut ((SV × List Nat) × (SV × List Nat)) (fun q => [(0, .slice q.1.1.a q.1.1.n q.1.1.c), (1, .slice q.2.1.a q.2.1.n q.2.1.c)]) (fun _ => [])
   (fun q G => IsD G q.1.1 q.1.2 ∧ IsD G q.2.1 q.2.2 ∧ dv q.1.2 + dv q.2.2 = dv ds + dv es ∧ q.2.2.length ≤ q.1.2.length ∧ q.1.2.length ≤ 1125899906842) ?_ ?_
 · refine sR <| sm rfl rfl <| slen rfl rfl <| sm rfl rfl <| slen rfl rfl <| sy (yd_lss rfl rfl) rfl <| zE <| ?_
   refine st_condP rfl (fun hc => ?_) (fun hc => ?_) -- slot 13
   · refine st_region <| sm rfl rfl <| sm rfl rfl <| sa rfl rfl <| sa rfl rfl <| zE <| ?_
     exact st_at ((y, es), (x, ds)) ⟨hy.up, hx.up, by simp; omega, by simp; omega, by simp; omega⟩ (.cons rfl (.cons rfl .nil)) rfl
   refine zK <| ?_
   exact st_at ((x, ds), (y, es)) ⟨hx.up, hy.up, rfl, by simp; omega, by simp; omega⟩ (.cons rfl (.cons rfl .nil)) rfl
 rintro ⟨⟨x, a⟩, ⟨y, b⟩⟩ Gx _ ⟨hx, hy, hsum, hle, hba⟩
 rw [← hsum] at hk ⊢
 clear hlen hlen2 hsum
 have hlen := hx.len
 have hlen2 := hy.len
 simp only [] at hx hy hle hba hlen hlen2 hk ⊢
 refine sR <| sm rfl rfl <| slen rfl rfl <| sy (yd_add64 rfl rfl) rfl <| ?_
 refine sc (ch_make rfl rfl (by omega) (by omega) (by omega) (by rfl) rfl ?_)
 intro b1
 rw [zeros_dI, show ((x.n : Int) + 1).toNat = a.length + 1 by omega]
 refine sa rfl rfl <| zE <| sR <| sa rfl rfl <| zE <| st_seq <| sR <| sm rfl rfl <| slen rfl rfl <| sm rfl rfl <| zE <| st_block <| ?_
 refine st_loop (X := NatAdd) (fun q => [(22, .int .i64 q.k), (21, .int .i64 x.n), (20, .slice x.a x.n x.c), (6, .int .u64 q.c), (0, .slice x.a x.n x.c), (1, .slice y.a y.n y.c), (5, .slice (some ⟨b1, 0, none⟩) (a.length + 1) (a.length + 1))])
   (fun q => [⟨b1, q.ws.map dI, 224, true⟩])
   (fun q _ => q.k ≤ a.length ∧ q.ws.length = a.length + 1 ∧ DOk q.ws ∧ q.c ≤ 1 ∧ dv (q.ws.take q.k) + 4294967296 ^ q.k * q.c = dv (a.take q.k) + dv (b.take q.k)) (fun q => a.length - q.k) ⟨List.replicate (a.length + 1) 0, 0, 0⟩
   ⟨Nat.zero_le _, by simp, .replicate _, Nat.zero_le _, by simp [dv]⟩ (.cons rfl (.cons rfl (.cons rfl (.cons rfl (.cons rfl (.cons rfl (.cons rfl .nil))))))) rfl ?_
 rintro ⟨ws, k, c⟩ Gy _ ⟨hka, hwl, hwo, hc1, hinv⟩
 simp only [] at hka hwl hwo hc1 hinv ⊢
 refine sR <| sy (yd_lss rfl rfl) rfl <| zE <| st_seq <| ?_
 refine st_condE rfl (fun hc => ?_) (fun hc => ?_) -- slot 23
 · have hkn : k = a.length := by omega
   refine st_exit <| st_te <| st_te <| st_inBlock_eq <| sR <| sm rfl rfl <| sm rfl rfl <| slen rfl rfl <| sm rfl rfl <| sy (yd_toU32 rfl) rfl <| ?_
   refine sy (yd_ixO rfl rfl (by omega) (by omega)) rfl <| ?_
   refine sc (ch_storeD (d := c) rfl rfl (by omega) (.hd ..) (by omega) rfl ?_)
   rw [show (x.n : Int).toNat = a.length by omega]
   refine zE <| sR <| sm rfl rfl <| ?_
   refine st_freeze b1 (.hd ..) (fun G1 _ hgb => ?_)
   have hwo2 : DOk (ws.set a.length c) := hwo.set _ (by omega)
   have hD : IsD G1 ⟨some ⟨b1, 0, none⟩, a.length + 1, a.length + 1⟩ (ws.set a.length c) := .of_block hwo2 hgb.h (by simp [hwl]) (Nat.le_refl _) (by rw [List.take_of_length_le (by simp)])
   have hdv : dv (ws.set a.length c) = dv a + dv b := by
     have h1 := dv_set_take (ws := ws) (k := a.length) (d := c) (by omega)
     rw [List.take_of_length_le (by simp; omega)] at h1
     rw [h1, ← hkn, hinv, hkn, List.take_of_length_le (Nat.le_refl _), List.take_of_length_le hle]
   refine sc (zC rfl rfl (nat_trim hD (by simp; omega)) rfl ?_)
   rintro _ G2 _ rfl
   refine sa rfl rfl <| zE <| st_ret <| ?_
   refine zD (.tmp rfl .nil) ⟨⟨some ⟨b1, 0, none⟩, (trimD (ws.set a.length c)).length, a.length + 1⟩, rfl, ?_⟩
   have h3 := hD.trim.up (G := G2)
   rw [← hdv] at hk ⊢
   exact ⟨by rw [dg_trim hwo2]; exact h3, hk⟩
 have hka' : k < a.length := by omega
 have hga := hx.ok.get k
 have hgb := hy.ok.get k
 refine zK <| st_seq <| st_block <| sR <| sm rfl rfl <| sy (yd_ixD hx rfl rfl (by omega) (by omega)) rfl <| sy (yd_ldD hx rfl (by omega)) rfl <| sa rfl rfl <| sa rfl rfl <| zE <| st_seq <| ?_
 refine st_region <| sm rfl rfl <| sm rfl rfl <| sy (yd_toU64 rfl (by omega) (by rw [Int.toNat_natCast]; omega)) rfl <| sy (yd_addU rfl rfl (by omega) (by rw [Int.toNat_natCast]; omega)) rfl <| sa rfl rfl <| zE <| ?_
 rw [Int.toNat_natCast]
 refine st_cut Unit (fun _ => [(22, .int .i64 k), (7, .int .i64 k), (21, .int .i64 x.n), (20, .slice x.a x.n x.c), (6, .int .u64 ((c + a.getD k 0 + b.getD k 0 : Nat) : Int)), (0, .slice x.a x.n x.c), (1, .slice y.a y.n y.c), (5, .slice (some ⟨b1, 0, none⟩) (a.length + 1) (a.length + 1))]) (fun _ => [⟨b1, ws.map dI, 224, true⟩]) (fun _ _ => True) ?_ ?_
 · refine sR <| sm rfl rfl <| sm rfl rfl <| slen rfl rfl <| sy (yd_lss rfl rfl) rfl <| zE <| ?_
   refine st_condP rfl (fun hc2 => ?_) (fun hc2 => ?_) -- slot 34
   · refine st_region <| sm rfl rfl <| sm rfl rfl <| sm rfl rfl <| sy (yd_ixD hy rfl rfl (by omega) (by omega)) rfl <| sy (yd_ldD hy rfl (by omega)) rfl <| sy (yd_toU64 rfl (by omega) (by rw [Int.toNat_natCast]; omega)) rfl <| ?_
     rw [Int.toNat_natCast]
     refine sy (yd_addU rfl rfl) rfl <| sa rfl rfl <| zE <| ?_
     exact st_at () trivial (.cons rfl (.cons rfl (.cons rfl (.cons rfl (.cons (by rw [Int.natCast_add, Int.natCast_add]; rfl) (.cons rfl (.cons rfl (.cons rfl .nil)))))))) rfl
   refine zK <| ?_
   have h0 : b.getD k 0 = 0 := getD_ge (by omega)
   exact st_at () trivial (.cons rfl (.cons rfl (.cons rfl (.cons rfl (.cons (by rw [h0, Nat.add_zero, Int.natCast_add]; rfl) (.cons rfl (.cons rfl (.cons rfl .nil)))))))) rfl
 rintro _ Gz _ _
 generalize hcc : c + a.getD k 0 + b.getD k 0 = cc
 have hcb : cc / 4294967296 ≤ 1 := by rw [← hcc]; exact add_lt hga hgb hc1
 refine sR <| sm rfl rfl <| sm rfl rfl <| sm rfl rfl <| sy (yd_toU32 rfl) rfl <| sy (yd_ixO rfl rfl (by omega) (by omega)) rfl <| ?_
 rw [Int.toNat_natCast]
 refine sc (ch_storeD (d := cc % 4294967296) rfl rfl (by omega) (.hd ..) (by omega) rfl ?_)
 refine zE <| st_region <| sm rfl rfl <| sy (yd_shr rfl rfl (by decide)) rfl <| sa rfl rfl <| zE <| st_region <| sy (yd_add64 rfl rfl) rfl <| sm rfl rfl <| zE <| ?_
 have hsh : ((cc : Int).fdiv (2 ^ min (32 : Int).toNat IntKind.u64.bits)) = ((cc / 4294967296 : Nat) : Int) := by
   have : (2 ^ min (32 : Int).toNat IntKind.u64.bits : Int) = 4294967296 := by decide
   rw [this, Int.fdiv_eq_ediv_of_nonneg _ (by omega)]; rfl
 rw [hsh]
 refine st_again ⟨ws.set k (cc % 4294967296), k + 1, cc / 4294967296⟩ ⟨by show k + 1 ≤ _; omega, by simp [hwl], hwo.set _ (by omega), hcb, ?_⟩ (by show a.length - (k + 1) < a.length - k; omega) (.cons rfl (.cons rfl (.cons rfl (.cons rfl (.cons rfl (.cons rfl (.cons rfl .nil))))))) rfl
 show dv ((ws.set k (cc % 4294967296)).take (k + 1)) + 4294967296 ^ (k + 1) * (cc / 4294967296) = dv (a.take (k + 1)) + dv (b.take (k + 1))
 rw [dv_set_take (by omega), dv_take_succ a, dv_take_succ b, ← hcc, Nat.pow_succ]
 exact add_step hinv
structure NatSub where
 ws : List Nat
 k : Nat
 c : Nat
theorem shr63 (p : Int) (h0 : 0 ≤ p) : p.fdiv (2 ^ min (63 : Int).toNat IntKind.u64.bits) = p / 9223372036854775808 := by
 have : (2 ^ min (63 : Int).toNat IntKind.u64.bits : Int) = 9223372036854775808 := by decide
 rw [this, Int.fdiv_eq_ediv_of_nonneg _ (by omega)]
theorem shr32 (p : Nat) : ((p : Int).fdiv (2 ^ min (32 : Int).toNat IntKind.u64.bits)) = ((p / 4294967296 : Nat) : Int) := by
 have : (2 ^ min (32 : Int).toNat IntKind.u64.bits : Int) = 4294967296 := by decide
 rw [this, Int.fdiv_eq_ediv_of_nonneg _ (by omega)]; rfl
set_option maxHeartbeats 1000000 in
theorem nat_less {A B G : Gh} {x y : SV} {a b : List Nat} {kk : Nat} (hx : IsD A x a) (hy : IsD B y b) [GL A G] [GL B G] (hle : b.length ≤ a.length) (hge : dv b ≤ dv a) (hk : dv a < 2 ^ kk) (hba : a.length ≤ 1125899906842) :
   Fn Tryz.prog 237 [x.v, y.v] G (fun v G' => ∃ z : SV, v = z.v ∧ IsN kk G' z (dv a - dv b)) := by
 have hlen := hx.len
 have hlen2 := hy.len
 refine Fn.intro Tryz.func237 rfl rfl Tryz.ntmps237 rfl ?_
 intro C _ _
 refine sR <| sa rfl rfl <| zE <| sR <| sm rfl rfl <| slen rfl rfl <| ?_
 refine sc (ch_make rfl rfl (by omega) (by omega) (by omega) (by rfl) rfl ?_)
 intro b1
 rw [zeros_dI, show (x.n : Int).toNat = a.length by omega]
 refine sa rfl rfl <| zE <| sR <| sa rfl rfl <| zE <| st_seq <| sR <| sm rfl rfl <| slen rfl rfl <| sm rfl rfl <| zE <| st_block <| ?_
 refine st_loop (X := NatSub) (fun q => [(16, .int .i64 q.k), (15, .int .i64 x.n), (14, .slice x.a x.n x.c), (6, .int .u64 q.c), (1, .slice y.a y.n y.c), (5, .slice (some ⟨b1, 0, none⟩) a.length a.length)])
   (fun q => [⟨b1, q.ws.map dI, 224, true⟩])
   (fun q _ => q.k ≤ a.length ∧ q.ws.length = a.length ∧ DOk q.ws ∧ q.c ≤ 1 ∧ dv (q.ws.take q.k) + dv (b.take q.k) = dv (a.take q.k) + 4294967296 ^ q.k * q.c) (fun q => a.length - q.k) ⟨List.replicate a.length 0, 0, 0⟩
   ⟨Nat.zero_le _, by simp, .replicate _, Nat.zero_le _, by simp [dv]⟩ (.cons rfl (.cons rfl (.cons rfl (.cons rfl (.cons rfl (.cons rfl .nil)))))) rfl ?_
 rintro ⟨ws, k, c⟩ Gy _ ⟨hka, hwl, hwo, hc1, hinv⟩
 simp only [] at hka hwl hwo hc1 hinv ⊢
 refine sR <| sy (yd_lss rfl rfl) rfl <| zE <| st_seq <| ?_
 refine st_condE rfl (fun hc => ?_) (fun hc => ?_) -- slot 17
 · have hkn : k = a.length := by omega
   refine st_exit <| st_te <| st_te <| st_inBlock_eq <| sR <| sm rfl rfl <| ?_
   refine st_freeze b1 (.hd ..) (fun G1 _ hgb => ?_)
   have hD : IsD G1 ⟨some ⟨b1, 0, none⟩, a.length, a.length⟩ ws := .of_block hwo hgb.h hwl.symm (Nat.le_refl _) (by rw [List.take_of_length_le (by simp)])
   have hdv : dv ws = dv a - dv b := by
     rw [hkn, List.take_of_length_le (by omega), List.take_of_length_le hle, List.take_of_length_le (Nat.le_refl _)] at hinv
     have h2 := dv_lt hwo
     rw [hwl] at h2
     rcases Nat.eq_zero_or_pos c with h0 | h0
     · subst h0; omega
     · have : c = 1 := by omega
       subst this; omega
   refine sc (zC rfl rfl (nat_trim hD (by omega)) rfl ?_)
   rintro _ G2 _ rfl
   refine sa rfl rfl <| zE <| st_ret <| ?_
   refine zD (.tmp rfl .nil) ⟨⟨some ⟨b1, 0, none⟩, (trimD ws).length, a.length⟩, rfl, ?_⟩
   have h3 := hD.trim.up (G := G2)
   rw [← hdv]
   exact ⟨by rw [dg_trim hwo]; exact h3, by omega⟩
 have hka' : k < a.length := by omega
 have hga := hx.ok.get k
 have hgb := hy.ok.get k
 refine zK <| st_seq <| st_block <| sR <| sm rfl rfl <| sy (yd_ixD hx rfl rfl (by omega) (by omega)) rfl <| sy (yd_ldD hx rfl (by omega)) rfl <| sa rfl rfl <| sa rfl rfl <| zE <| st_seq <| ?_
 rw [Int.toNat_natCast]
 refine st_region <| sm rfl rfl <| sa rfl rfl <| zE <| ?_
 refine st_cut Unit (fun _ => [(16, .int .i64 k), (7, .int .i64 k), (15, .int .i64 x.n), (14, .slice x.a x.n x.c), (8, .int .u32 ((a.getD k 0 : Nat) : Int)), (9, .int .u64 ((c + b.getD k 0 : Nat) : Int)), (1, .slice y.a y.n y.c), (5, .slice (some ⟨b1, 0, none⟩) a.length a.length)]) (fun _ => [⟨b1, ws.map dI, 224, true⟩]) (fun _ _ => True) ?_ ?_
 · refine sR <| sm rfl rfl <| sm rfl rfl <| slen rfl rfl <| sy (yd_lss rfl rfl) rfl <| zE <| ?_
   refine st_condP rfl (fun hc2 => ?_) (fun hc2 => ?_) -- slot 25
   · refine st_region <| sm rfl rfl <| sm rfl rfl <| sm rfl rfl <| sy (yd_ixD hy rfl rfl (by omega) (by omega)) rfl <| sy (yd_ldD hy rfl (by omega)) rfl <| sy (yd_toU64 rfl (by omega) (by rw [Int.toNat_natCast]; omega)) rfl <| ?_
     rw [Int.toNat_natCast]
     refine sy (yd_addU rfl rfl) rfl <| sa rfl rfl <| zE <| ?_
     exact st_at () trivial (.cons rfl (.cons rfl (.cons rfl (.cons rfl (.cons rfl (.cons (by rw [Int.natCast_add]; rfl) (.cons rfl (.cons rfl .nil)))))))) rfl
   refine zK <| ?_
   have h0 : b.getD k 0 = 0 := getD_ge (by omega)
   exact st_at () trivial (.cons rfl (.cons rfl (.cons rfl (.cons rfl (.cons rfl (.cons (by rw [h0, Nat.add_zero]; rfl) (.cons rfl (.cons rfl .nil)))))))) rfl
 rintro _ Gz _ _
 generalize htt : c + b.getD k 0 = tt
 have htb : tt ≤ 4294967296 := by omega
 refine sR <| sm rfl rfl <| sy (yd_toU64 rfl) rfl <| sm rfl rfl <| sy (yd_subw rfl rfl) rfl <| sa rfl rfl <| zE <| sR <| sm rfl rfl <| sm rfl rfl <| sm rfl rfl <| ?_
 rw [wrap_u64]
 refine sy (yd_toU32 rfl) rfl <| sy (yd_ixO rfl rfl (by omega) (by omega)) rfl <| ?_
 rw [Int.toNat_natCast]
 by_cases hno : tt ≤ a.getD k 0
 · refine sc (ch_storeD (d := a.getD k 0 - tt) rfl rfl (by omega) (.hd ..) (by omega) rfl ?_)
   refine zE <| st_region <| sm rfl rfl <| sy (yd_shr rfl rfl (by decide)) rfl <| sa rfl rfl <| zE <| st_region <| sy (yd_add64 rfl rfl) rfl <| sm rfl rfl <| zE <| ?_
   rw [shr63 _ (by omega), show (((a.getD k 0 : Nat) : Int) - (tt : Int)) % 18446744073709551616 / 9223372036854775808 = ((0 : Nat) : Int) by omega]
   refine st_again ⟨ws.set k (a.getD k 0 - tt), k + 1, 0⟩ ⟨by show k + 1 ≤ _; omega, by simp [hwl], hwo.set _ (by omega), Nat.zero_le _, ?_⟩ (by show a.length - (k + 1) < a.length - k; omega) (.cons rfl (.cons rfl (.cons rfl (.cons rfl (.cons rfl (.cons rfl .nil)))))) rfl
   show dv ((ws.set k (a.getD k 0 - tt)).take (k + 1)) + dv (b.take (k + 1)) = dv (a.take (k + 1)) + 4294967296 ^ (k + 1) * 0
   rw [dv_set_take (by omega), dv_take_succ a, dv_take_succ b, ← htt, Nat.pow_succ]
   exact sub_no hinv (by omega)
 · refine sc (ch_storeD (d := a.getD k 0 + 4294967296 - tt) rfl rfl (by omega) (.hd ..) (by omega) rfl ?_)
   refine zE <| st_region <| sm rfl rfl <| sy (yd_shr rfl rfl (by decide)) rfl <| sa rfl rfl <| zE <| st_region <| sy (yd_add64 rfl rfl) rfl <| sm rfl rfl <| zE <| ?_
   rw [shr63 _ (by omega), show (((a.getD k 0 : Nat) : Int) - (tt : Int)) % 18446744073709551616 / 9223372036854775808 = ((1 : Nat) : Int) by omega]
   refine st_again ⟨ws.set k (a.getD k 0 + 4294967296 - tt), k + 1, 1⟩ ⟨by show k + 1 ≤ _; omega, by simp [hwl], hwo.set _ (by omega), Nat.le_refl _, ?_⟩ (by show a.length - (k + 1) < a.length - k; omega) (.cons rfl (.cons rfl (.cons rfl (.cons rfl (.cons rfl (.cons rfl .nil)))))) rfl
   show dv ((ws.set k (a.getD k 0 + 4294967296 - tt)).take (k + 1)) + dv (b.take (k + 1)) = dv (a.take (k + 1)) + 4294967296 ^ (k + 1) * 1
   rw [dv_set_take (by omega), dv_take_succ a, dv_take_succ b, ← htt, Nat.pow_succ]
   exact sub_yes hinv (by omega) (by omega)
theorem nat_Sub {A B G : Gh} {x y : SV} {ds es : List Nat} {kk : Nat} (hx : IsD A x ds) (hy : IsD B y es) [GL A G] [GL B G] (hk : dv ds < 2 ^ kk) (hb : ds.length ≤ 1125899906842) (hb2 : es.length ≤ 1125899906842) :
   Fn Tryz.prog 236 [x.v, y.v] G (fun v G' => ∃ z : SV, v = .tuple #[z.v, .bool (decide (dv es ≤ dv ds))] ∧ IsN kk G' z (dv ds - dv es)) := by
 refine Fn.intro Tryz.func236 rfl rfl Tryz.ntmps236 rfl ?_
 intro C _ _
 refine sR <| sa rfl rfl <| sa rfl rfl <| zE <| st_seq <| sR <| sm rfl rfl <| sm rfl rfl <| ?_
 refine sc (zC rfl rfl (nat_Cmp hx hy (by omega) (by omega)) rfl ?_)
 rintro _ G1 _ rfl
 refine sy (yd_lss rfl rfl) rfl <| zE <| ?_
 refine st_condP rfl (fun hc => ?_) (fun hc => ?_) -- slot 9
 · have hlt : dv ds < dv es := by
     unfold cmpN at hc
     split at hc
     · assumption
     · split at hc <;> omega
   refine sR <| sa rfl rfl <| sa rfl rfl <| zE <| st_ret <| ?_
   refine zD (.tmp rfl (.tmp rfl .nil)) ⟨⟨none, 0, 0⟩, ?_, ?_⟩
   · have : ¬ dv es ≤ dv ds := by omega
     simp [tupled, SV.v, this]
   · rw [Nat.sub_eq_zero_of_le (by omega)]
     exact ⟨by unfold dg; exact .nil _, Nat.pow_pos (by omega)⟩
 have hge : dv es ≤ dv ds := by
   unfold cmpN at hc
   split at hc
   · omega
   · omega
 have htl := trimD_len ds
 have htl2 := trimD_len es
 refine zK <| sR <| sm rfl rfl <| ?_
 refine sc (zC rfl rfl (nat_trim hx (by omega)) rfl ?_)
 rintro _ G2 _ rfl
 refine sm rfl rfl <| ?_
 refine sc (zC rfl rfl (nat_trim hy (by omega)) rfl ?_)
 rintro _ G3 _ rfl
 have hl : (trimD es).length ≤ (trimD ds).length := by
   rcases Nat.lt_or_ge (trimD ds).length (trimD es).length with h | h
   · have := dv_len_lt hx.ok.trimD (Nrm.trimD es) h
     rw [dv_trimD, dv_trimD] at this; omega
   · exact h
 refine sc (zC rfl rfl (nat_less (kk := kk) hx.trim hy.trim hl (by rw [dv_trimD, dv_trimD]; exact hge) (by rw [dv_trimD]; exact hk) (by omega)) rfl ?_)
 rintro _ G4 _ ⟨z, rfl, hz⟩
 refine sa rfl rfl <| sa rfl rfl <| zE <| st_ret <| ?_
 refine zD (.tmp rfl (.tmp rfl .nil)) ⟨z, by simp [tupled, hge], ?_⟩
 rw [dv_trimD, dv_trimD] at hz
 exact hz
end Go.Sx
end
