/-
  Blocks frozen at once; calls that tell of a family of results; new blocks handed back. Instances about the program's types. Zero values of the program's types as deep values. Package nat: the functions without a loop over two numbers. DERIVED: THE SHELF's CONTRACTS AT THIS DUMP, IN PLAIN WORDS (tools/lay-plain.mjs out of 'TryzShelf.lean', which tools/lay-shelf.mjs wrote): THE SAME DECLARATIONS UNDER THE SAME NAMES: 'import', 'namespace', 'open', 'def', 'theorem' AND NOTHING ELSE: no command of the shelf's: FOR A HAND-IN. Each laying: the table of numbers ('.._ren') and one theorem, a field a fact of the dump's own or the kernel's comparison; each contract: ONE APPLICATION. Package nat: words, the number of digits, comparison. Package nat: sum, difference, product. Package nat: the product, division by one digit, shifts.
-/
import Derived.Test.YtkijgpopaaknfaaGreatDoorMc5
import Derived.Test.YtkijgpopaaknfaaGreatDoorProg
import Derived.Shelf.Small.Bits
import Derived.Shelf.Bits.Mul64
set_option linter.unusedSimpArgs false
set_option linter.unusedVariables false
section
set_option maxRecDepth 100000
namespace Go.Sx
open Go
section
variable {P : Program} {GB : Gh} {C : Ctx} {n : Nat} {E : Ext} {fr fr' : FrF} {own own' : List OwnD} {bs bs' bs1 : List BufD} {ops : Array Oper} {Q : Exit → Act → World → Prop} {r : List Oper} {Φ : Act → World → Prop}
variable {dst : Option Nat} {t t' ty' : TypeId} {pos : String} {af : Array Edge} {gd : Option (Nat × Bool)} {x y z : Operand} {e s by_ : Nat}
theorem td_boxF {d : DV} (hx : opD fr x = some d) (hc : d.okc = true) (hd : dstOk n dst = true) : TD P GB C n fr own bs ⟨dst, .box t x, ty', pos, af, gd⟩ (putF fr dst (.d (.pt d.cells))) own bs := by
 intro GB' E Φ hgb h G frv ov s
 obtain ⟨u, h1, h2⟩ := s.fr.opD hx
 refine ch_box (opv_app h1) hd fun b => ?_
 rw [put_app]
 refine st_freeze b (.hd ..) ?_
 intro G' hG hg
 exact h G' _ ov ⟨s.gb.trans hG.le, (s.fr.up hG.le).put (f := .d (.pt d.cells)) (is_pt.2 ⟨b, _, rfl, hg.h, (h2.cells hc).1.up hG.le⟩) _, s.ob.up hG.le⟩
theorem TD.froze {o : Oper} {ι : Type} {fr2 : ι → FrF} {own2 : ι → List OwnD} {bs2 : ι → List BufD} (h : TF P GB C n fr own bs o ι fr2 own2 bs2)
  (k : ∀ (GB' : Gh) (E : Ext) (Φ : Act → World → Prop) x, GLe GB GB' → SD GB' C n E fr' own' bs' Φ → SD GB' C n E (fr2 x) (own2 x) (bs2 x) Φ) : TD P GB C n fr own bs o fr' own' bs' :=
 fun GB' E Φ hgb hs => h GB' E Φ hgb fun x => k GB' E Φ x hgb hs
theorem sd_freezeE {d : Nat} {w : SV} {s : Nat} {ty : TypeId} {ds : List DV} (h : SD GB C n E ((d, .d (.sl ds)) :: fr) own bs Φ) : SD GB C n E ((d, w.f) :: fr) own (⟨w, s, ty, ds, true⟩ :: bs) Φ := by
 refine ⟨fun G frv ov st => ?_⟩
 obtain ⟨p, q, rfl, hp, B, q1, rfl, ⟨vs, hB, hv, hvs, hlo⟩, hq1⟩ := st.ob
 simp only [] at hB hv hvs
 obtain ⟨y, m, rfl, hy, hfr⟩ := st.fr
 have hy' := isF_v.1 hy
 subst hy'
 have fin : ∀ G', GLe G G' → IsSl G' s w vs → St C n (((d, .slice w.a w.n w.c) :: m) ++ E.fr) ((p ++ q1) ++ E.own) G' Φ := by
   intro G' hg hsl
   exact h G' ((d, _) :: m) (p ++ q1) ⟨st.gb.trans hg, ⟨_, m, rfl, (show IsF G' (.d (.sl ds)) (.slice w.a w.n w.c) from is_sl.2 ⟨s, w, vs, rfl, hsl, hv.up hg⟩), FrIs.up hg hfr⟩, p, q1, rfl, hp.up hg, hq1.up hg⟩
 rcases hB with ⟨e1, e2, e3⟩ | ⟨b, rest, lo', h3, h4, h5, h6, h7⟩
 · subst e1 e2 e3
   exact fin G (GLe.refl _) (IsSl.nil _ _)
 · subst h4
   have hl : lo' = true := hlo rfl _ List.mem_cons_self
   subst hl
   refine st_freeze b (cs := flatL vs ++ rest) (ty := ty) (own' := (p ++ q1) ++ E.own) ?_ ?_
   · have := (ORem.mid (o := (⟨b, flatL vs ++ rest, ty, true⟩ : Own)) (r := q1 ++ E.own) p)
     simpa [List.append_assoc] using this
   · intro G' hG hg
     refine fin G' hG.le ?_
     rw [h3]
     exact IsSl.of_flat hvs hg.h h7
theorem td_rowF {d : Nat} [hT : TySl P t e s by_] {d0 : DV} [hz : TyZE P e d0] {len : Nat} {parts : Array (Nat × Operand)} {ds : List DV} (hs : Nat.beq d0.cells.length s = true) (hb : rowD fr 0 parts.toList = some ds) (hok : okRow s ds = true) (hlen : Nat.beq parts.toList.length len = true) (hsm : Nat.ble (len * s) 1000 = true) (hs0 : Nat.blt 0 (len * s) = true) (hd : dstOk n (some d) = true) :
  TD P GB C n fr own bs ⟨some d, .buildSlice t len parts, ty', pos, af, gd⟩ ((d, .d (.sl ds)) :: fr) own bs :=
 TD.froze (tf_row hs hb hok hlen hsm hs0 hd) fun _ _ _ _ _ h => sd_freezeE h
theorem td_appendZ {d : Nat} [hT : TySl P t e s by_] [hN : TyN P t'] {d0 : DV} [hz : TyZE P e d0] {w : SV} {ds ds2 : List DV} (hx : opF fr x = some w.f) (hb : BRemD bs ⟨w, s, e, ds, true⟩ bs1) (hy : SrcD fr bs1 s y ds2)
  (hby : Nat.blt 0 by_ = true) (hbd : (ds.length + ds2.length) * by_ ≤ 140737488355328) (hzs : Nat.beq d0.cells.length s = true) (hd : dstOk n (some d) = true) :
  TD P GB C n fr own bs ⟨some d, .call ⟨.builtin .append, #[x, y], #[t, t']⟩, ty', pos, af, gd⟩ ((d, .d (.sl (ds ++ ds2))) :: fr) own bs1 :=
 TD.froze (tf_append hx hb hy hby hbd hzs hd) fun _ _ _ _ _ h => sd_freezeE h
/-! ### families of results -/
def PX (GB : Gh) (P : Program) (f : FuncId) (ds : List DV) (ι : Type) (r : ι → DV) : Prop :=
 ∀ G vs, GLe GB G → IsLs G ds vs → Fn P f vs G (fun v G' => ∃ x, Is G' (r x) v)
def PMX (GB : Gh) (P : Program) (f : FuncId) (ds : List DV) (b : Nat) (ty : TypeId) (cs : List DV) (ι : Type) (r : ι → DV) (cs' : ι → List DV) : Prop :=
 ∀ G vs m lo, GLe GB G → IsLs G ds vs → IsLs G cs m → FnM P f vs [⟨b, m, ty, lo⟩] G (fun v css G' => ∃ x, Is G' (r x) v ∧ ∃ m', css = [m'] ∧ IsLs G' (cs' x) m')
def PN (GB : Gh) (P : Program) (f : FuncId) (ds : List DV) (ty : TypeId) (ι : Type) (cs : ι → List DV) : Prop :=
 ∀ G vs, GLe GB G → IsLs G ds vs → FnO P f vs [] G (fun v own' G' => ∃ x b m, v = .pointer (some ⟨b, 0, none⟩) ∧ own' = [⟨b, m, ty, true⟩] ∧ IsLs G' (cs x) m)
theorem tf_callX {f : FuncId} {fo : Operand} {args : Array Operand} {tys : Array TypeId} {ds : List DV} {ι : Type} {r : ι → DV} (ho : opF fr fo = some (.d (.v (.func (.func f) #[] #[])))) (hv : opFs fr args.toList = some ds) (hF : PX GB P f ds ι r) (hd : dstOk n dst = true) :
  TF P GB C n fr own bs ⟨dst, .call ⟨.value fo, args, tys⟩, ty', pos, af, gd⟩ ι (fun x => putF fr dst (.d (r x))) (fun _ => own) (fun _ => bs) := by
 intro GB' E Φ hgb h G frv ov s
 obtain ⟨vs, h1, h2⟩ := s.fr.ops hv
 refine ch_call (opv_app (s.fr.opv ho)) (opvs_app h1) (hF G vs (hgb.trans s.gb) h2) hd ?_
 rintro v G' hG ⟨x, hK⟩
 rw [put_app]
 exact h x G' _ ov ⟨s.gb.trans hG.le, (s.fr.up hG.le).put (f := .d (r x)) hK _, s.ob.up hG.le⟩
inductive OSp : List OwnD → Nat → List DV → TypeId → Bool → List OwnD → List OwnD → Prop
 | hd (b : Nat) (cs : List DV) (ty : TypeId) (lo : Bool) (t : List OwnD) : OSp (⟨b, cs, ty, lo⟩ :: t) b cs ty lo [] t
 | tl (o : OwnD) (t : List OwnD) (b : Nat) (cs : List DV) (ty : TypeId) (lo : Bool) (L R : List OwnD) (h : OSp t b cs ty lo L R) : OSp (o :: t) b cs ty lo (o :: L) R
theorem OSp.eq {own : List OwnD} {b : Nat} {cs : List DV} {ty : TypeId} {lo : Bool} {L R : List OwnD} (h : OSp own b cs ty lo L R) : own = L ++ ⟨b, cs, ty, lo⟩ :: R := by
 induction h with
 | hd => rfl
 | tl o t b cs ty lo L R h ih => rw [ih]; rfl
theorem tf_callMX {f : FuncId} {fo : Operand} {args : Array Operand} {tys : Array TypeId} {ds : List DV} {ι : Type} {r : ι → DV} {b : Nat} {ty : TypeId} {lo : Bool} {cs : List DV} {cs' : ι → List DV} {L R : List OwnD} (ho : opF fr fo = some (.d (.v (.func (.func f) #[] #[])))) (hv : opFs fr args.toList = some ds) (hF : PMX GB P f ds b ty cs ι r cs') (hu : OSp own b cs ty lo L R) (hd : dstOk n dst = true) :
   TF P GB C n fr own bs ⟨dst, .call ⟨.value fo, args, tys⟩, ty', pos, af, gd⟩ ι (fun x => putF fr dst (.d (r x))) (fun x => L ++ ⟨b, cs' x, ty, lo⟩ :: R) (fun _ => bs) := by
 intro GB' E Φ hgb h G frv ov s
 obtain ⟨vs, h1, h2⟩ := s.fr.ops hv
 obtain ⟨p, q, rfl, hp, hq⟩ := s.ob
 have hlens : ∃ m a1 a2, p = a1 ++ ⟨b, m, ty, lo⟩ :: a2 ∧ IsLs G cs m ∧ ∀ x G' m', GLe G G' → IsLs G' (cs' x) m' → OwnsIs G' (L ++ ⟨b, cs' x, ty, lo⟩ :: R) (a1 ++ ⟨b, m', ty, lo⟩ :: a2) := by
   rw [hu.eq] at hp
   obtain ⟨a1, a2', rfl, h3, m, a2, rfl, h4, h5⟩ := hp.unapp
   exact ⟨m, a1, a2, rfl, h4, fun x G' m' hg hm' => (OwnsIs.up hg h3).app ⟨m', a2, rfl, hm', OwnsIs.up hg h5⟩⟩
 obtain ⟨m, a1, a2, rfl, hm, hk⟩ := hlens
 refine ch_callM (M := [⟨b, m, ty, lo⟩]) (rest := a1 ++ (a2 ++ (q ++ E.own))) (opv_app (s.fr.opv ho)) (opvs_app h1) ?_ (hF G vs m lo (hgb.trans s.gb) h2 hm) hd ?_
 · simp only [List.append_assoc, List.cons_append, List.nil_append]
   exact List.perm_middle
 · rintro v css G' hG _ ⟨x, hr, m', rfl, hm'⟩
   rw [put_app]
   refine st_perm (((a1 ++ ⟨b, m', ty, lo⟩ :: a2) ++ q) ++ E.own) ?_ (h x G' _ _ ⟨s.gb.trans hG.le, (s.fr.up hG.le).put (f := .d (r x)) hr _, _, _, rfl, hk x G' m' hG.le hm', hq.up hG.le⟩)
   simp only [reown, List.zip_cons_cons, List.zip_nil_right, List.map_cons, List.map_nil, List.append_assoc, List.cons_append, List.nil_append]
   exact List.perm_middle.symm
theorem tf_callN {f : FuncId} {fo : Operand} {args : Array Operand} {tys : Array TypeId} {ds : List DV} {ι : Type} {ty : TypeId} {cs : ι → List DV} (ho : opF fr fo = some (.d (.v (.func (.func f) #[] #[])))) (hv : opFs fr args.toList = some ds) (hF : PN GB P f ds ty ι cs) (hd : dstOk n dst = true) :
  TF P GB C n fr own bs ⟨dst, .call ⟨.value fo, args, tys⟩, ty', pos, af, gd⟩ (ι × Nat) (fun x => putF fr dst (.d (.v (.pointer (some ⟨x.2, 0, none⟩))))) (fun x => ⟨x.2, cs x.1, ty, true⟩ :: own) (fun _ => bs) := by
 intro GB' E Φ hgb h G frv ov s
 obtain ⟨vs, h1, h2⟩ := s.fr.ops hv
 obtain ⟨p, q, rfl, hp, hq⟩ := s.ob
 refine ch_callcO (c1 := []) (c2 := []) (M := []) (rest := (p ++ q) ++ E.own) (opv_app (s.fr.opv ho)) (opvs_app h1) (List.Perm.refl _) (by rw [List.nil_append, List.append_nil]; exact hF G vs (hgb.trans s.gb) h2) hd ?_
 rintro _ _ G' hG ⟨x, b, m, rfl, rfl, hm⟩
 rw [put_app]
 exact h (x, b) G' _ (⟨b, m, ty, true⟩ :: (p ++ q)) ⟨s.gb.trans hG.le, (s.fr.up hG.le).put (isF_v.2 rfl) _, ⟨b, m, ty, true⟩ :: p, q, rfl, ⟨m, p, rfl, hm, hp.up hG.le⟩, hq.up hG.le⟩
end
end Go.Sx
end

section
set_option maxRecDepth 100000
namespace Go.Sx
open Go Go.Proofs
instance : TyS Tryz.prog 2 := ⟨fun _ => by kernel_rfl, fun _ => by kernel_rfl⟩
instance : TyI Tryz.prog 2 .i64 := ⟨fun _ => by kernel_rfl⟩
instance : TyS Tryz.prog 3 := ⟨fun _ => by kernel_rfl, fun _ => by kernel_rfl⟩
instance : TyZ Tryz.prog 3 (.int .i64 0) := ⟨by kernel_rfl⟩
instance : TyI Tryz.prog 3 .i64 := ⟨fun _ => by kernel_rfl⟩
instance : TyS Tryz.prog 4 := ⟨fun _ => by kernel_rfl, fun _ => by kernel_rfl⟩
instance : TyZ Tryz.prog 4 (.bool false) := ⟨by kernel_rfl⟩
instance : TyB Tryz.prog 4 := ⟨fun _ => by kernel_rfl⟩
instance : TyS Tryz.prog 22 := ⟨fun _ => by kernel_rfl, fun _ => by kernel_rfl⟩
instance : TySl Tryz.prog 22 3 1 8 := ⟨by kernel_rfl, by kernel_rfl⟩
instance : TyS Tryz.prog 25 := ⟨fun _ => by kernel_rfl, fun _ => by kernel_rfl⟩
instance : TySl Tryz.prog 27 224 1 4 := ⟨by kernel_rfl, by kernel_rfl⟩
instance : TyS Tryz.prog 28 := ⟨fun _ => by kernel_rfl, fun _ => by kernel_rfl⟩
instance : TySl Tryz.prog 28 224 1 4 := ⟨by kernel_rfl, by kernel_rfl⟩
instance : TyN Tryz.prog 28 := ⟨224, by kernel_rfl⟩
instance : TyA Tryz.prog 30 2 := ⟨fun _ => by kernel_rfl, fun _ => by kernel_rfl⟩
instance : TyZ Tryz.prog 30 (.agg ⟨[.bool false, .slice none 0 0]⟩) := ⟨by kernel_rfl⟩
instance : TyF Tryz.prog 30 0 0 := ⟨fun _ _ _ => by kernel_rfl⟩
instance : TyF Tryz.prog 30 1 1 := ⟨fun _ _ _ => by kernel_rfl⟩
instance : TySt Tryz.prog 30 [(0, 1), (1, 1)] := ⟨_, fun _ => tyst_u Tryz.underlying30 _, fun _ => by kernel_rfl⟩
instance : TyA Tryz.prog 32 6 := ⟨fun _ => by kernel_rfl, fun _ => by kernel_rfl⟩
instance : TyZ Tryz.prog 32 (.agg ⟨[.bool false, .slice none 0 0, .bool false, .slice none 0 0, .bool false, .slice none 0 0]⟩) := ⟨by kernel_rfl⟩
instance : TyF Tryz.prog 32 0 0 := ⟨fun _ _ _ => by kernel_rfl⟩
instance : TyF Tryz.prog 32 1 2 := ⟨fun _ _ _ => by kernel_rfl⟩
instance : TyF Tryz.prog 32 2 4 := ⟨fun _ _ _ => by kernel_rfl⟩
instance : TySt Tryz.prog 32 [(0, 2), (2, 2), (4, 2)] := ⟨_, fun _ => tyst_u Tryz.underlying32 _, fun _ => by kernel_rfl⟩
instance : TyS Tryz.prog 34 := ⟨fun _ => by kernel_rfl, fun _ => by kernel_rfl⟩
instance : TySl Tryz.prog 34 60 8 112 := ⟨by kernel_rfl, by kernel_rfl⟩
instance : TyN Tryz.prog 34 := ⟨60, by kernel_rfl⟩
instance : TyA Tryz.prog 36 2 := ⟨fun _ => by kernel_rfl, fun _ => by kernel_rfl⟩
instance : TyZ Tryz.prog 36 (.agg ⟨[.int .i64 0, .slice none 0 0]⟩) := ⟨by kernel_rfl⟩
instance : TyF Tryz.prog 36 0 0 := ⟨fun _ _ _ => by kernel_rfl⟩
instance : TyF Tryz.prog 36 1 1 := ⟨fun _ _ _ => by kernel_rfl⟩
instance : TyIf Tryz.prog 38 := ⟨_, fun _ => tyst_u Tryz.underlying38 _⟩
instance : TyS Tryz.prog 42 := ⟨fun _ => by kernel_rfl, fun _ => by kernel_rfl⟩
instance : TySl Tryz.prog 42 224 1 4 := ⟨by kernel_rfl, by kernel_rfl⟩
instance : TyN Tryz.prog 42 := ⟨224, by kernel_rfl⟩
instance : TyA Tryz.prog 44 2 := ⟨fun _ => by kernel_rfl, fun _ => by kernel_rfl⟩
instance : TyZ Tryz.prog 44 (.agg ⟨[.bool false, .slice none 0 0]⟩) := ⟨by kernel_rfl⟩
instance : TyF Tryz.prog 44 0 0 := ⟨fun _ _ _ => by kernel_rfl⟩
instance : TyF Tryz.prog 44 1 1 := ⟨fun _ _ _ => by kernel_rfl⟩
instance : TyFd Tryz.prog 44 1 1 42 := ⟨_, _, fun _ => tyst_u Tryz.underlying44 _, rfl, rfl, rfl⟩
instance : TySt Tryz.prog 44 [(0, 1), (1, 1)] := ⟨_, fun _ => tyst_u Tryz.underlying44 _, fun _ => by kernel_rfl⟩
instance : TyA Tryz.prog 46 6 := ⟨fun _ => by kernel_rfl, fun _ => by kernel_rfl⟩
instance : TyZ Tryz.prog 46 (.agg ⟨[.bool false, .slice none 0 0, .bool false, .slice none 0 0, .bool false, .slice none 0 0]⟩) := ⟨by kernel_rfl⟩
instance : TyF Tryz.prog 46 0 0 := ⟨fun _ _ _ => by kernel_rfl⟩
instance : TyF Tryz.prog 46 1 2 := ⟨fun _ _ _ => by kernel_rfl⟩
instance : TyF Tryz.prog 46 2 4 := ⟨fun _ _ _ => by kernel_rfl⟩
instance : TySt Tryz.prog 46 [(0, 2), (2, 2), (4, 2)] := ⟨_, fun _ => tyst_u Tryz.underlying46 _, fun _ => by kernel_rfl⟩
instance : TySl Tryz.prog 51 32 6 96 := ⟨by kernel_rfl, by kernel_rfl⟩
instance : TyN Tryz.prog 51 := ⟨32, by kernel_rfl⟩
instance : TyA Tryz.prog 60 8 := ⟨fun _ => by kernel_rfl, fun _ => by kernel_rfl⟩
instance : TyZ Tryz.prog 60 (.agg ⟨[.bool false, .slice none 0 0, .bool false, .slice none 0 0, .bool false, .slice none 0 0, .int .i64 0, .int .i64 0]⟩) := ⟨by kernel_rfl⟩
instance : TyF Tryz.prog 60 0 0 := ⟨fun _ _ _ => by kernel_rfl⟩
instance : TyF Tryz.prog 60 1 6 := ⟨fun _ _ _ => by kernel_rfl⟩
instance : TyF Tryz.prog 60 2 7 := ⟨fun _ _ _ => by kernel_rfl⟩
instance : TySt Tryz.prog 60 [(0, 6), (6, 1), (7, 1)] := ⟨_, fun _ => tyst_u Tryz.underlying60 _, fun _ => by kernel_rfl⟩
instance : TyA Tryz.prog 87 3 := ⟨fun _ => by kernel_rfl, fun _ => by kernel_rfl⟩
instance : TyZ Tryz.prog 87 (.agg ⟨[.bool false, .slice none 0 0, .slice none 0 0]⟩) := ⟨by kernel_rfl⟩
instance : TyF Tryz.prog 87 0 0 := ⟨fun _ _ _ => by kernel_rfl⟩
instance : TyFd Tryz.prog 87 0 0 30 := ⟨_, _, fun _ => tyst_u Tryz.underlying87 _, rfl, rfl, rfl⟩
instance : TyF Tryz.prog 87 1 2 := ⟨fun _ _ _ => by kernel_rfl⟩
instance : TySt Tryz.prog 87 [(0, 2), (2, 1)] := ⟨_, fun _ => tyst_u Tryz.underlying87 _, fun _ => by kernel_rfl⟩
instance : TyA Tryz.prog 89 6 := ⟨fun _ => by kernel_rfl, fun _ => by kernel_rfl⟩
instance : TyZ Tryz.prog 89 (.agg ⟨[.bool false, .slice none 0 0, .slice none 0 0, .bool false, .slice none 0 0, .slice none 0 0]⟩) := ⟨by kernel_rfl⟩
instance : TyF Tryz.prog 89 0 0 := ⟨fun _ _ _ => by kernel_rfl⟩
instance : TyF Tryz.prog 89 1 3 := ⟨fun _ _ _ => by kernel_rfl⟩
instance : TySt Tryz.prog 89 [(0, 3), (3, 3)] := ⟨_, fun _ => tyst_u Tryz.underlying89 _, fun _ => by kernel_rfl⟩
instance : TyZ Tryz.prog 93 (.agg ⟨[.slice none 0 0, .int .i64 0]⟩) := ⟨by kernel_rfl⟩
instance : TyF Tryz.prog 93 0 0 := ⟨fun _ _ _ => by kernel_rfl⟩
instance : TyF Tryz.prog 93 1 1 := ⟨fun _ _ _ => by kernel_rfl⟩
instance : TySt Tryz.prog 93 [(0, 1), (1, 1)] := ⟨_, fun _ => tyst_u Tryz.underlying93 _, fun _ => by kernel_rfl⟩
instance : TyZ Tryz.prog 97 (.agg ⟨[.bool false, .bool false, .bool false, .slice none 0 0, .bool false, .slice none 0 0, .bool false, .slice none 0 0, .pointer none, .pointer none]⟩) := ⟨by kernel_rfl⟩
instance : TyF Tryz.prog 97 0 0 := ⟨fun _ _ _ => by kernel_rfl⟩
instance : TyF Tryz.prog 97 1 1 := ⟨fun _ _ _ => by kernel_rfl⟩
instance : TyF Tryz.prog 97 2 2 := ⟨fun _ _ _ => by kernel_rfl⟩
instance : TyF Tryz.prog 97 3 8 := ⟨fun _ _ _ => by kernel_rfl⟩
instance : TyF Tryz.prog 97 4 9 := ⟨fun _ _ _ => by kernel_rfl⟩
instance : TySt Tryz.prog 97 [(0, 1), (1, 1), (2, 6), (8, 1), (9, 1)] := ⟨_, fun _ => tyst_u Tryz.underlying97 _, fun _ => by kernel_rfl⟩
instance : TyS Tryz.prog 101 := ⟨fun _ => by kernel_rfl, fun _ => by kernel_rfl⟩
instance : TyP Tryz.prog 101 := ⟨277, fun _ => by kernel_rfl⟩
instance : TyA Tryz.prog 103 3 := ⟨fun _ => by kernel_rfl, fun _ => by kernel_rfl⟩
instance : TyZ Tryz.prog 103 (.agg ⟨[.int .i64 0, .int .i64 0, .pointer none]⟩) := ⟨by kernel_rfl⟩
instance : TyF Tryz.prog 103 0 0 := ⟨fun _ _ _ => by kernel_rfl⟩
instance : TyF Tryz.prog 103 1 1 := ⟨fun _ _ _ => by kernel_rfl⟩
instance : TyF Tryz.prog 103 2 2 := ⟨fun _ _ _ => by kernel_rfl⟩
instance : TySt Tryz.prog 103 [(0, 1), (1, 1), (2, 1)] := ⟨_, fun _ => tyst_u Tryz.underlying103 _, fun _ => by kernel_rfl⟩
instance : TyA Tryz.prog 105 9 := ⟨fun _ => by kernel_rfl, fun _ => by kernel_rfl⟩
instance : TyZ Tryz.prog 105 (.agg ⟨[.int .i64 0, .int .i64 0, .pointer none, .int .i64 0, .int .i64 0, .pointer none, .int .i64 0, .int .i64 0, .pointer none]⟩) := ⟨by kernel_rfl⟩
instance : TyF Tryz.prog 105 0 0 := ⟨fun _ _ _ => by kernel_rfl⟩
instance : TyF Tryz.prog 105 1 3 := ⟨fun _ _ _ => by kernel_rfl⟩
instance : TyF Tryz.prog 105 2 6 := ⟨fun _ _ _ => by kernel_rfl⟩
instance : TySt Tryz.prog 105 [(0, 3), (3, 3), (6, 3)] := ⟨_, fun _ => tyst_u Tryz.underlying105 _, fun _ => by kernel_rfl⟩
instance : TyS Tryz.prog 108 := ⟨fun _ => by kernel_rfl, fun _ => by kernel_rfl⟩
instance : TyP Tryz.prog 108 := ⟨132, fun _ => by kernel_rfl⟩
instance : TySl Tryz.prog 111 196 17 128 := ⟨by kernel_rfl, by kernel_rfl⟩
instance : TyN Tryz.prog 111 := ⟨196, by kernel_rfl⟩
instance : TySl Tryz.prog 112 196 17 128 := ⟨by kernel_rfl, by kernel_rfl⟩
instance : TyN Tryz.prog 112 := ⟨196, by kernel_rfl⟩
instance : TyZ Tryz.prog 132 (.agg ⟨[.int .i64 0, .int .i64 0, .pointer none, .int .i64 0, .int .i64 0, .pointer none, .int .i64 0, .int .i64 0, .pointer none, .pointer none, .pointer none, .bool false]⟩) := ⟨by kernel_rfl⟩
instance : TyF Tryz.prog 132 0 0 := ⟨fun _ _ _ => by kernel_rfl⟩
instance : TyF Tryz.prog 132 1 9 := ⟨fun _ _ _ => by kernel_rfl⟩
instance : TyF Tryz.prog 132 2 10 := ⟨fun _ _ _ => by kernel_rfl⟩
instance : TyF Tryz.prog 132 3 11 := ⟨fun _ _ _ => by kernel_rfl⟩
instance : TySt Tryz.prog 132 [(0, 9), (9, 1), (10, 1), (11, 1)] := ⟨_, fun _ => tyst_u Tryz.underlying132 _, fun _ => by kernel_rfl⟩
instance : TyA Tryz.prog 157 8 := ⟨fun _ => by kernel_rfl, fun _ => by kernel_rfl⟩
instance : TyZ Tryz.prog 157 (.agg ⟨[.bool false, .slice none 0 0, .slice none 0 0, .bool false, .slice none 0 0, .slice none 0 0, .bool false, .bool false]⟩) := ⟨by kernel_rfl⟩
instance : TyF Tryz.prog 157 0 0 := ⟨fun _ _ _ => by kernel_rfl⟩
instance : TyF Tryz.prog 157 1 3 := ⟨fun _ _ _ => by kernel_rfl⟩
instance : TyF Tryz.prog 157 2 6 := ⟨fun _ _ _ => by kernel_rfl⟩
instance : TyF Tryz.prog 157 3 7 := ⟨fun _ _ _ => by kernel_rfl⟩
instance : TySt Tryz.prog 157 [(0, 3), (3, 3), (6, 1), (7, 1)] := ⟨_, fun _ => tyst_u Tryz.underlying157 _, fun _ => by kernel_rfl⟩
instance : TyS Tryz.prog 165 := ⟨fun _ => by kernel_rfl, fun _ => by kernel_rfl⟩
instance : TySl Tryz.prog 165 4 1 1 := ⟨by kernel_rfl, by kernel_rfl⟩
instance : TyS Tryz.prog 186 := ⟨fun _ => by kernel_rfl, fun _ => by kernel_rfl⟩
instance : TyZ Tryz.prog 186 (.nilFunc) := ⟨by kernel_rfl⟩
instance : TyA Tryz.prog 194 8 := ⟨fun _ => by kernel_rfl, fun _ => by kernel_rfl⟩
instance : TyZ Tryz.prog 194 (.agg ⟨[.int .i64 0, .int .i64 0, .pointer none, .int .i64 0, .int .i64 0, .pointer none, .bool false, .bool false]⟩) := ⟨by kernel_rfl⟩
instance : TyF Tryz.prog 194 0 0 := ⟨fun _ _ _ => by kernel_rfl⟩
instance : TyF Tryz.prog 194 1 3 := ⟨fun _ _ _ => by kernel_rfl⟩
instance : TyF Tryz.prog 194 2 6 := ⟨fun _ _ _ => by kernel_rfl⟩
instance : TyF Tryz.prog 194 3 7 := ⟨fun _ _ _ => by kernel_rfl⟩
instance : TySt Tryz.prog 194 [(0, 3), (3, 3), (6, 1), (7, 1)] := ⟨_, fun _ => tyst_u Tryz.underlying194 _, fun _ => by kernel_rfl⟩
instance : TyA Tryz.prog 196 17 := ⟨fun _ => by kernel_rfl, fun _ => by kernel_rfl⟩
instance : TyZ Tryz.prog 196 (.agg ⟨[.int .i64 0, .int .i64 0, .pointer none, .int .i64 0, .int .i64 0, .pointer none, .int .i64 0, .int .i64 0, .pointer none, .int .i64 0, .int .i64 0, .pointer none, .int .i64 0, .int .i64 0, .pointer none, .bool false, .bool false]⟩) := ⟨by kernel_rfl⟩
instance : TyF Tryz.prog 196 0 0 := ⟨fun _ _ _ => by kernel_rfl⟩
instance : TyF Tryz.prog 196 1 9 := ⟨fun _ _ _ => by kernel_rfl⟩
instance : TySt Tryz.prog 196 [(0, 9), (9, 8)] := ⟨_, fun _ => tyst_u Tryz.underlying196 _, fun _ => by kernel_rfl⟩
instance : TyI Tryz.prog 199 .u64 := ⟨fun _ => by kernel_rfl⟩
instance : TyZ Tryz.prog 204 (.agg ⟨[.slice none 0 0, .slice none 0 0, .int .i64 0, .bool false]⟩) := ⟨by kernel_rfl⟩
instance : TyF Tryz.prog 204 0 0 := ⟨fun _ _ _ => by kernel_rfl⟩
instance : TyF Tryz.prog 204 1 1 := ⟨fun _ _ _ => by kernel_rfl⟩
instance : TyF Tryz.prog 204 2 2 := ⟨fun _ _ _ => by kernel_rfl⟩
instance : TyF Tryz.prog 204 3 3 := ⟨fun _ _ _ => by kernel_rfl⟩
instance : TySt Tryz.prog 204 [(0, 1), (1, 1), (2, 1), (3, 1)] := ⟨_, fun _ => tyst_u Tryz.underlying204 _, fun _ => by kernel_rfl⟩
instance : TyS Tryz.prog 224 := ⟨fun _ => by kernel_rfl, fun _ => by kernel_rfl⟩
instance : TyZ Tryz.prog 224 (.int .u32 0) := ⟨by kernel_rfl⟩
instance : TyI Tryz.prog 224 .u32 := ⟨fun _ => by kernel_rfl⟩
instance : TyI Tryz.prog 235 .u64 := ⟨fun _ => by kernel_rfl⟩
instance : TyA Tryz.prog 253 6 := ⟨fun _ => by kernel_rfl, fun _ => by kernel_rfl⟩
instance : TyZ Tryz.prog 253 (.agg ⟨[.int .i64 0, .int .i64 0, .pointer none, .int .i64 0, .int .i64 0, .pointer none]⟩) := ⟨by kernel_rfl⟩
instance : TyF Tryz.prog 253 0 0 := ⟨fun _ _ _ => by kernel_rfl⟩
instance : TyF Tryz.prog 253 1 3 := ⟨fun _ _ _ => by kernel_rfl⟩
instance : TySt Tryz.prog 253 [(0, 3), (3, 3)] := ⟨_, fun _ => tyst_u Tryz.underlying253 _, fun _ => by kernel_rfl⟩
instance : TyZ Tryz.prog 277 (.agg ⟨[.bool false, .slice none 0 0, .slice none 0 0]⟩) := ⟨by kernel_rfl⟩
instance : TyF Tryz.prog 277 0 0 := ⟨fun _ _ _ => by kernel_rfl⟩
instance : TyF Tryz.prog 277 1 2 := ⟨fun _ _ _ => by kernel_rfl⟩
instance : TySt Tryz.prog 277 [(0, 2), (2, 1)] := ⟨_, fun _ => tyst_u Tryz.underlying277 _, fun _ => by kernel_rfl⟩
theorem follows : Tryz.prog.follows .mixedOrders = true := by kernel_rfl
end Go.Sx
end

section
set_option maxRecDepth 100000
namespace Go.Sx
open Go Go.Proofs
theorem isNilS (G : Gh) : Is G (.sl []) (.slice none 0 0) := is_sl.2 ⟨0, ⟨none, 0, 0⟩, [], rfl, IsSl.nil G 0, .nil⟩
instance : TyZD Tryz.prog 30 (.agg ⟨[.bool false, .slice none 0 0]⟩) [.v (.bool false), .sl []] := ⟨inferInstance, (.cons ((is_v.2 rfl)) (.cons (isNilS _) .nil))⟩
instance : TyZD Tryz.prog 32 (.agg ⟨[.bool false, .slice none 0 0, .bool false, .slice none 0 0, .bool false, .slice none 0 0]⟩) [.v (.bool false), .sl [], .v (.bool false), .sl [], .v (.bool false), .sl []] := ⟨inferInstance, (.cons ((is_v.2 rfl)) (.cons (isNilS _) (.cons ((is_v.2 rfl)) (.cons (isNilS _) (.cons ((is_v.2 rfl)) (.cons (isNilS _) .nil))))))⟩
instance : TyZE Tryz.prog 32 (.ag [.v (.bool false), .sl [], .v (.bool false), .sl [], .v (.bool false), .sl []]) := ⟨⟨_, inferInstance, is_ag.2 ⟨_, rfl, (.cons ((is_v.2 rfl)) (.cons (isNilS _) (.cons ((is_v.2 rfl)) (.cons (isNilS _) (.cons ((is_v.2 rfl)) (.cons (isNilS _) .nil))))))⟩, rfl⟩⟩
instance : TyZD Tryz.prog 36 (.agg ⟨[.int .i64 0, .slice none 0 0]⟩) [.v (.int .i64 0), .sl []] := ⟨inferInstance, (.cons ((is_v.2 rfl)) (.cons (isNilS _) .nil))⟩
instance : TyZD Tryz.prog 60 (.agg ⟨[.bool false, .slice none 0 0, .bool false, .slice none 0 0, .bool false, .slice none 0 0, .int .i64 0, .int .i64 0]⟩) [.v (.bool false), .sl [], .v (.bool false), .sl [], .v (.bool false), .sl [], .v (.int .i64 0), .v (.int .i64 0)] := ⟨inferInstance, (.cons ((is_v.2 rfl)) (.cons (isNilS _) (.cons ((is_v.2 rfl)) (.cons (isNilS _) (.cons ((is_v.2 rfl)) (.cons (isNilS _) (.cons ((is_v.2 rfl)) (.cons ((is_v.2 rfl)) .nil))))))))⟩
instance : TyZE Tryz.prog 60 (.ag [.v (.bool false), .sl [], .v (.bool false), .sl [], .v (.bool false), .sl [], .v (.int .i64 0), .v (.int .i64 0)]) := ⟨⟨_, inferInstance, is_ag.2 ⟨_, rfl, (.cons ((is_v.2 rfl)) (.cons (isNilS _) (.cons ((is_v.2 rfl)) (.cons (isNilS _) (.cons ((is_v.2 rfl)) (.cons (isNilS _) (.cons ((is_v.2 rfl)) (.cons ((is_v.2 rfl)) .nil))))))))⟩, rfl⟩⟩
instance : TyZD Tryz.prog 87 (.agg ⟨[.bool false, .slice none 0 0, .slice none 0 0]⟩) [.v (.bool false), .sl [], .sl []] := ⟨inferInstance, (.cons ((is_v.2 rfl)) (.cons (isNilS _) (.cons (isNilS _) .nil)))⟩
instance : TyZD Tryz.prog 89 (.agg ⟨[.bool false, .slice none 0 0, .slice none 0 0, .bool false, .slice none 0 0, .slice none 0 0]⟩) [.v (.bool false), .sl [], .sl [], .v (.bool false), .sl [], .sl []] := ⟨inferInstance, (.cons ((is_v.2 rfl)) (.cons (isNilS _) (.cons (isNilS _) (.cons ((is_v.2 rfl)) (.cons (isNilS _) (.cons (isNilS _) .nil))))))⟩
instance : TyZD Tryz.prog 97 (.agg ⟨[.bool false, .bool false, .bool false, .slice none 0 0, .bool false, .slice none 0 0, .bool false, .slice none 0 0, .pointer none, .pointer none]⟩) [.v (.bool false), .v (.bool false), .v (.bool false), .sl [], .v (.bool false), .sl [], .v (.bool false), .sl [], .v (.pointer none), .v (.pointer none)] := ⟨inferInstance, (.cons ((is_v.2 rfl)) (.cons ((is_v.2 rfl)) (.cons ((is_v.2 rfl)) (.cons (isNilS _) (.cons ((is_v.2 rfl)) (.cons (isNilS _) (.cons ((is_v.2 rfl)) (.cons (isNilS _) (.cons ((is_v.2 rfl)) (.cons ((is_v.2 rfl)) .nil))))))))))⟩
instance : TyZD Tryz.prog 157 (.agg ⟨[.bool false, .slice none 0 0, .slice none 0 0, .bool false, .slice none 0 0, .slice none 0 0, .bool false, .bool false]⟩) [.v (.bool false), .sl [], .sl [], .v (.bool false), .sl [], .sl [], .v (.bool false), .v (.bool false)] := ⟨inferInstance, (.cons ((is_v.2 rfl)) (.cons (isNilS _) (.cons (isNilS _) (.cons ((is_v.2 rfl)) (.cons (isNilS _) (.cons (isNilS _) (.cons ((is_v.2 rfl)) (.cons ((is_v.2 rfl)) .nil))))))))⟩
instance : TyZE Tryz.prog 224 (.v (.int .u32 0)) := ⟨⟨_, inferInstance, (is_v.2 rfl), rfl⟩⟩
end Go.Sx
end

section
set_option maxRecDepth 100000
namespace Go.Sx
open Go Go.Proofs
theorem trimD_step {ds : List Nat} {k : Nat} (hk : k < ds.length) (h : trimD ds = trimD (ds.take (k + 1))) (h0 : ds.getD k 0 = 0) : trimD ds = trimD (ds.take k) := by
 rw [h, List.take_succ_eq_append_getElem hk]
 have : ds[k] = 0 := by rw [List.getD_eq_getElem?_getD, List.getElem?_eq_getElem hk] at h0; simpa using h0
 rw [this, trimD_snoc0]
theorem trimD_stop {ds : List Nat} {k : Nat} (hk : k < ds.length) (h : trimD ds = trimD (ds.take (k + 1))) (h0 : ds.getD k 0 ≠ 0) : trimD ds = ds.take (k + 1) := by
 rw [h, List.take_succ_eq_append_getElem hk]
 have : ds[k] ≠ 0 := by rw [List.getD_eq_getElem?_getD, List.getElem?_eq_getElem hk] at h0; simpa using h0
 exact trimD_snoc this
theorem nat_trim {A G : Gh} {x : SV} {ds : List Nat} (hx : IsD A x ds) [GL A G] (hb : ds.length ≤ 1125899906842624) : Fn Tryz.prog 181 [x.v] G (fun v _ => v = .slice x.a (trimD ds).length x.c) := by
 have hlen := hx.len
 have hcap := hx.sl.cap
 refine Fn.intro Tryz.func181 rfl rfl Tryz.ntmps181 rfl ?_
 intro C _ _
 refine sR <| sa rfl rfl <| st_end <| st_seq <| st_block <| ?_
 refine st_loop (X := Nat) (fun k => [(0, .slice x.a k x.c)]) (fun _ => []) (fun k _ => k ≤ ds.length ∧ trimD ds = trimD (ds.take k)) (fun k => k) ds.length ⟨Nat.le_refl _, by simp⟩ (hlen ▸ .cons rfl .nil) rfl ?_
 rintro k Gx _ ⟨hk, ht⟩
 refine st_seq <| sR <| sm rfl rfl <| slen rfl rfl <| sy (yd_gtr rfl rfl) rfl <| sm rfl rfl <| ?_
 refine st_caseP 6 rfl (fun hg => ?_) (fun hg => ?_)
 · have hk1 : k - 1 < ds.length := by omega
   have hkt : ((k : Int) - 1).toNat = k - 1 := by omega
   have hk2 : k = k - 1 + 1 := by omega
   refine syg rfl rfl (yd_move rfl) rfl <| syg rfl rfl (yd_move rfl) rfl <| syg rfl rfl (yd_len rfl) rfl <| syg rfl rfl (yd_sub64 rfl rfl) rfl <| ?_
   refine syg rfl rfl (yd_ixD (z := ⟨x.a, k, x.c⟩) (hx.take k hk) rfl rfl (by omega) (by show _ < (k : Int); omega)) rfl <| syg rfl rfl (yd_ldD hx rfl (by omega)) rfl <| syg rfl rfl (yd_eql rfl rfl) rfl <| sy (yd_pickT rfl rfl) rfl <| st_end <| ?_
   rw [hkt]
   refine st_condE rfl (fun hc => ?_) (fun hc => ?_) -- slot 14
   · refine st_exit <| st_te <| st_te <| st_inBlock_eq <| sR <| sm rfl rfl <| sa rfl rfl <| st_end <| st_ret <| ?_
     have hs := trimD_stop hk1 (hk2 ▸ ht) (fun e => hc (by rw [e]; rfl))
     refine st_done (.tmp rfl .nil) ?_
     rw [hs, ← hk2]
     simp [tupled, hk]
   refine st_skipc <| st_block <| st_region <| sm rfl rfl <| sm rfl rfl <| slen rfl rfl <| sy (yd_sub64 rfl rfl) rfl <| sy (yd_slice_hi rfl rfl (by omega) (by omega)) rfl <| ?_
   refine sa rfl rfl <| st_end <| ?_
   exact st_again (k - 1) ⟨by omega, trimD_step hk1 (hk2 ▸ ht) (by omega)⟩ (by omega) (.cons (by rw [← hkt]; rfl) .nil) rfl
 refine ss rfl rfl rfl rfl <| ss rfl rfl rfl rfl <| ss rfl rfl rfl rfl <| ss rfl rfl rfl rfl <| ss rfl rfl rfl rfl <| ss rfl rfl rfl rfl <| ?_
 refine ss rfl rfl rfl rfl <| sy (yd_pickF rfl rfl) rfl <| st_end <| st_condF rfl <| st_exit <| st_te <| st_te <| st_inBlock_eq <| sR <| sm rfl rfl <| sa rfl rfl <| st_end <| st_ret <| ?_
 have hk0 : k = 0 := by omega
 subst hk0
 refine st_done (.tmp rfl .nil) ?_
 rw [ht]
 rfl
/-! ### Normal, Clone, Norm -/
theorem nat_Normal {A G : Gh} {x : SV} {ds : List Nat} (hx : IsD A x ds) [GL A G] (hb : ds.length ≤ 1125899906842624) : Fn Tryz.prog 139 [x.v] G (fun v _ => v = .bool (decide (Nrm ds))) := by
 have hlen := hx.len
 refine Fn.intro Tryz.func139 rfl rfl Tryz.ntmps139 rfl ?_
 intro C _ _
 refine sR <| sa rfl rfl <| st_end <| sR <| sm rfl rfl <| slen rfl rfl <| sy (yd_eql rfl rfl) rfl <| sm rfl rfl <| ?_
 refine st_caseP 6 rfl (fun hg => ?_) (fun hg => ?_)
 · refine ss rfl rfl rfl rfl <| ss rfl rfl rfl rfl <| ss rfl rfl rfl rfl <| ss rfl rfl rfl rfl <| ss rfl rfl rfl rfl <| ss rfl rfl rfl rfl <| ss rfl rfl rfl rfl <| sy (yd_pickT rfl rfl) rfl <| sa rfl rfl <| ?_
   refine st_end <| st_ret <| ?_
   refine st_done (.tmp rfl .nil) ?_
   have : ds = [] := List.eq_nil_of_length_eq_zero (by omega)
   subst this
   simp [tupled, Nrm]
 have hne : 0 < ds.length := by omega
 have hkt : ((x.n : Int) - 1).toNat = ds.length - 1 := by omega
 refine syg rfl rfl (yd_move rfl) rfl <| syg rfl rfl (yd_move rfl) rfl <| syg rfl rfl (yd_len rfl) rfl <| syg rfl rfl (yd_sub64 rfl rfl) rfl <| syg rfl rfl (yd_ixD hx rfl rfl (by omega) (by omega)) rfl <| ?_
 refine syg rfl rfl (yd_ldD hx rfl (by omega)) rfl <| syg rfl rfl (yd_neq rfl rfl) rfl <| sy (yd_pickF rfl rfl) rfl <| sa rfl rfl <| st_end <| st_ret <| ?_
 refine st_done (.tmp rfl .nil) ?_
 rw [hkt]
 simp only [tupled, Value.bool.injEq, decide_eq_decide, Nrm, List.getLast?_eq_getElem?, List.getD_eq_getElem?_getD, List.getElem?_eq_getElem (show ds.length - 1 < ds.length by omega), Option.getD_some, ne_eq, Option.some.injEq]
 exact not_congr (by omega)
theorem dI_flat (ds : List Nat) : ∀ v ∈ ds.map dI, flat v = true := fun v hv => by
 obtain ⟨d, _, rfl⟩ := List.mem_map.1 hv; rfl
theorem nat_Clone {A G : Gh} {x : SV} {ds : List Nat} (hx : IsD A x ds) [GL A G] (hb : ds.length ≤ 1125899906842) : Fn Tryz.prog 212 [x.v] G (fun v G' => ∃ z : SV, v = z.v ∧ IsD G' z ds) := by
 have hlen := hx.len
 refine Fn.intro Tryz.func212 rfl rfl Tryz.ntmps212 rfl ?_
 intro C _ _
 refine sR <| sa rfl rfl <| st_end <| st_seq <| sR <| sm rfl rfl <| sy (yd_eqS rfl rfl) rfl <| st_end <| ?_
 refine st_condB rfl (fun hc => ?_) (fun hc => ?_)
 · refine sR <| sa rfl rfl <| st_end <| st_ret <| ?_
   refine st_done (.tmp rfl .nil) ⟨⟨none, 0, 0⟩, rfl, ?_⟩
   rcases hx.sl.mem with h | ⟨b, off, cs, ha, _⟩
   · have : ds = [] := by simpa using h
     subst this; exact .nil _
   · rw [ha] at hc; cases hc
 refine st_skipc <| sR <| ?_
 refine sc (ch_slice0 rfl ?_)
 intro b1
 refine sm rfl rfl <| ?_
 refine sc (ch_append_own (xs := []) (rest := []) (ys := ds.map dI) rfl rfl (.hd ..) rfl rfl (Nat.le_refl _) (src_D hx) (by simp [hlen]) (dI_flat ds) (by decide) (by omega) rfl rfl ?_)
 intro b cap rest h1 h2
 refine sa rfl rfl <| st_end <| st_freeze b (.hd ..) (fun G' _ hgb => ?_)
 refine st_ret <| ?_
 refine st_done (.tmp rfl .nil) ⟨⟨some ⟨b, 0, none⟩, x.n, cap⟩, by simp [tupled, SV.v], ?_⟩
 exact .of_block hx.ok hgb.h hlen (by omega) (by simp)
theorem nat_Norm {A G : Gh} {x : SV} {ds : List Nat} {k : Nat} (hx : IsD A x ds) [GL A G] (hk : dv ds < 2 ^ k) (hb : ds.length ≤ 1125899906842) : Fn Tryz.prog 180 [x.v] G (fun v G' => ∃ z : SV, v = z.v ∧ IsN k G' z (dv ds)) := by
 have htl := trimD_len ds
 refine Fn.intro Tryz.func180 rfl rfl Tryz.ntmps180 rfl ?_
 intro C _ _
 refine sR <| sa rfl rfl <| st_end <| sR <| sm rfl rfl <| ?_
 refine sc (ch_call rfl rfl (nat_trim hx (by omega)) rfl ?_)
 rintro _ G1 _ rfl
 refine sc (ch_call rfl rfl (nat_Clone hx.trim (by omega)) rfl ?_)
 rintro _ G2 _ ⟨z, rfl, hz⟩
 refine sa rfl rfl <| st_end <| st_ret <| ?_
 refine st_done (.tmp rfl .nil) ⟨z, rfl, ?_⟩
 exact ⟨by rw [dg_trim hx.ok]; exact hz, hk⟩
end Go.Sx
end

section
namespace Go.Proofs
open Go.Shelf
def Tryz.lays128_ren : Go.Shelf.Ren := ⟨fun | 128 => 225 | n => n, fun | 51 => 224 | 3 => 3 | 4 => 4 | 46 => 235 | 5 => 5 | 9 => 9 | n => n, fun | n => n⟩
def Tryz.lays133_ren : Go.Shelf.Ren := ⟨fun | 133 => 202 | 128 => 225 | n => n, fun | 51 => 224 | 3 => 3 | 4 => 4 | 46 => 235 | 5 => 5 | 9 => 9 | n => n, fun | n => n⟩
theorem Tryz.lays133 : Go.Proofs.Lays.n133 Tryz.prog Tryz.lays133_ren := {
  mixed := by kernel_rfl
  f128 := Tryz.func225.trans (congrArg some (by kernel_rfl))
  f133 := Tryz.func202.trans (congrArg some (by kernel_rfl))
  t3 := Tryz.underlying3
  a3 := Tryz.isAgg3
  z3 := Tryz.sizeOf3
  v3 := Tryz.zeroValue3
  t4 := Tryz.underlying4
  a4 := Tryz.isAgg4
  z4 := Tryz.sizeOf4
  v4 := Tryz.zeroValue4
  t5 := Tryz.underlying5
  a5 := Tryz.isAgg5
  z5 := Tryz.sizeOf5
  v5 := Tryz.zeroValue5
  t9 := Tryz.underlying9
  a9 := Tryz.isAgg9
  z9 := Tryz.sizeOf9
  v9 := Tryz.zeroValue9
  t46 := Tryz.underlying235
  a46 := Tryz.isAgg235
  z46 := Tryz.sizeOf235
  v46 := Tryz.zeroValue235
  t51 := Tryz.underlying224
  a51 := Tryz.isAgg224
  z51 := Tryz.sizeOf224
  v51 := Tryz.zeroValue224 }
/-- bits.LeadingZeros32: "LeadingZeros32 returns the number of leading zero bits in x; the result is 32 for x == 0.": IT RETURNS '32 - Lib.bitLen x'; the world is as it was. ITS CALLEE bits.Len32 IS MET BY ITS OWN CONTRACT OFF THE SHELF (lay that first): entered in place it sends the kernel out of memory. (LAID: no walk: one application.) -/
theorem Tryz.bits_LeadingZeros32 (x : Int) (w : World) (h0 : 0 ≤ x) (h1 : x ≤ 4294967295) :
    Calls Tryz.prog 202 #[.int .u32 x] w fun e w' => e = .returned (.int .i64 (32 - (Lib.bitLen x.toNat : Int))) ∧ w' = w := Any.bits_LeadingZeros32 Tryz.lays133 x w h0 h1
def Tryz.lays264_ren : Go.Shelf.Ren := ⟨fun | 264 => 233 | n => n, fun | 53 => 199 | 46 => 235 | n => n, fun | n => n⟩
theorem Tryz.lays264 : Go.Proofs.Lays.n264 Tryz.prog Tryz.lays264_ren := {
  mixed := by kernel_rfl
  f264 := Tryz.func233.trans (congrArg some (by kernel_rfl))
  t46 := Tryz.underlying235
  a46 := Tryz.isAgg235
  z46 := Tryz.sizeOf235
  v46 := Tryz.zeroValue235
  t53 := Tryz.underlying199
  a53 := Tryz.isAgg199
  z53 := Tryz.sizeOf199
  v53 := Tryz.zeroValue199 }
open Go.RowKit Go.Lib in
theorem Tryz.bits_Mul64 (x y : Nat) (hx : x < 18446744073709551616) (hy : y < 18446744073709551616) (w : World) :
    Calls Tryz.prog 233 #[.int .u64 x, .int .u64 y] w fun e w' => e = .returned (.tuple #[.int .u64 ((x * y / 18446744073709551616 : Nat) : Int), .int .u64 ((x * y % 18446744073709551616 : Nat) : Int)]) ∧ w' = w := Any.bits_Mul64 Tryz.lays264 x y hx hy w
end Go.Proofs
end

section
set_option maxRecDepth 100000
namespace Go.Sx
open Go Go.Proofs
/-! ### the number of binary digits -/
def bl (x : Nat) : Nat := if x = 0 then 0 else Nat.log2 x + 1
theorem bl_zero : bl 0 = 0 := rfl
theorem lt_bl (x : Nat) : x < 2 ^ bl x := by
 unfold bl
 split
 · rename_i h; subst h; decide
 · exact Nat.lt_log2_self
theorem bl_le {x k : Nat} : bl x ≤ k ↔ x < 2 ^ k := by
 constructor
 · intro h; exact Nat.lt_of_lt_of_le (lt_bl x) (Nat.pow_le_pow_right (by omega) h)
 · intro h
   unfold bl
   split
   · omega
   · rename_i h0
     have := (Nat.log2_lt h0).2 h
     omega
theorem bl_half {x : Nat} (h : x ≠ 0) : bl x = 1 + bl (x / 2) := by
 have h1 : ∀ k, bl x ≤ k + 1 ↔ bl (x / 2) ≤ k := fun k => by
  rw [bl_le, bl_le, Nat.pow_succ]; omega
 have h2 : bl x ≠ 0 := fun e => by
  have := lt_bl x; rw [e] at this; simp at this; exact h this
 have h3 := (h1 (bl (x / 2))).2 (Nat.le_refl _)
 have h4 := (h1 (bl x - 1)).1 (by omega)
 omega
theorem bitLenAux_eq : ∀ (f x : Nat), x < 2 ^ f → Lib.bitLenAux f x = bl x
 | 0, x, h => by
   have : x = 0 := by simpa using h
   subst this; rfl
 | f + 1, x, h => by
   unfold Lib.bitLenAux
   split
   · rename_i h0; subst h0; rfl
   · rename_i h0
     rw [bitLenAux_eq f (x / 2) (by rw [Nat.pow_succ] at h; omega), bl_half h0]
theorem bitLen_eq {x : Nat} (h : x < 2 ^ 64) : Lib.bitLen x = bl x := bitLenAux_eq 64 x h
theorem bl_shift {x k : Nat} (d : Nat) (h : x < 2 ^ k) (hd : d ≠ 0) : bl (x + 2 ^ k * d) = k + bl d := by
 have h1 : ∀ j, bl (x + 2 ^ k * d) ≤ k + j ↔ bl d ≤ j := fun j => by
   rw [bl_le, bl_le, Nat.pow_add]
   constructor
   · intro h'
     exact Nat.lt_of_mul_lt_mul_left (a := 2 ^ k) (by omega)
   · intro h'
     have : 2 ^ k * (d + 1) ≤ 2 ^ k * 2 ^ j := Nat.mul_le_mul_left _ h'
     rw [Nat.mul_add] at this
     omega
 have h2 : k < bl (x + 2 ^ k * d) := by
   rcases Nat.lt_or_ge k (bl (x + 2 ^ k * d)) with h' | h'
   · exact h'
   · have := bl_le.1 h'
     have h3 : 2 ^ k * 1 ≤ 2 ^ k * d := Nat.mul_le_mul_left _ (by omega)
     omega
 have h3 := (h1 (bl d)).2 (Nat.le_refl _)
 have h4 := (h1 (bl (x + 2 ^ k * d) - k)).1 (by omega)
 omega
theorem bl_dv {ds : List Nat} (h : DOk ds) (hn : Nrm ds) (hne : ds ≠ []) : bl (dv ds) = 32 * (ds.length - 1) + bl (ds.getD (ds.length - 1) 0) := by
 rcases List.eq_nil_or_concat ds with rfl | ⟨l, d, rfl⟩
 · exact absurd rfl hne
 · rw [List.concat_eq_append] at *
   have hd : d ≠ 0 := fun e => by subst e; simp [Nrm] at hn
   have hl : DOk l := fun x hx => h x (List.mem_append_left _ hx)
   have h1 := dv_lt hl
   rw [dv_append]
   have h2 : (4294967296 : Nat) ^ l.length = 2 ^ (32 * l.length) := by rw [Nat.pow_mul]
   rw [h2] at h1 ⊢
   have h3 : dv [d] = d := by simp [dv]
   rw [h3, bl_shift d h1 hd]
   have h4 : (l ++ [d]).length - 1 = l.length := by simp
   rw [h4, List.getD_eq_getElem?_getD, List.getElem?_append_right (Nat.le_refl _)]
   simp
theorem callable_of {P : Program} {f : FuncId} {fn : Func} {c : Code} (h : P.funcs[f]? = some fn) (hb : fn.body = some c) (hn : (fn.name == "runtime.NumGoroutine") = false) : Callable P f := ⟨fn, h, hn, by rw [hb]; rfl⟩
theorem bits_lz32 {G : Gh} {x : Nat} (hx : x < 4294967296) : Fn Tryz.prog 202 [.int .u32 (x : Int)] G (fun v _ => v = .int .i64 (32 - (bl x : Int))) := by
 have h := Fn.of_calls (G := G) (callable_of Tryz.func202 rfl rfl) (fun w => Tryz.bits_LeadingZeros32 (x : Int) w (by omega) (by omega))
 rw [Int.toNat_natCast, bitLen_eq (Nat.lt_trans hx (by decide))] at h
 exact h
/-! ### FromUint, Uint, Bits -/
theorem nat_FromUint {G : Gh} {u : Nat} (hu : u < 18446744073709551616) : Fn Tryz.prog 182 [.int .u64 (u : Int)] G (fun v G' => ∃ z : SV, v = z.v ∧ IsN 64 G' z u) := by
 refine Fn.intro Tryz.func182 rfl rfl Tryz.ntmps182 rfl ?_
 intro C _ _
 refine sR <| sa rfl rfl <| st_end <| sR <| sm rfl rfl <| sy (yd_toU32 rfl) rfl <| sm rfl rfl <| ?_
 refine sy (yd_shr rfl rfl (by decide)) rfl <| sy (yd_toU32 rfl) rfl <| ?_
 refine sc (ch_slice (by rfl) (by rfl) (by rfl) (by rfl) rfl ?_)
 intro b1
 refine st_freeze b1 (.hd ..) (fun G1 _ hgb => ?_)
 have h1 : ((u : Int) % 4294967296) = ((u % 4294967296 : Nat) : Int) := by omega
 have h2 : ((u : Int).fdiv (2 ^ min (32 : Int).toNat IntKind.u64.bits) % 4294967296) = ((u / 4294967296 : Nat) : Int) := by
  have : (2 ^ min (32 : Int).toNat IntKind.u64.bits : Int) = 4294967296 := by decide
  rw [this, Int.fdiv_eq_ediv_of_nonneg _ (by omega)]
  omega
 have hok : DOk [u % 4294967296, u / 4294967296] := .cons (by omega) (.cons (by omega) .nil)
 have hd : IsD G1 ⟨some ⟨b1, 0, none⟩, 2, 2⟩ [u % 4294967296, u / 4294967296] := .of_block hok hgb.h rfl (Nat.le_refl _) (by rw [h1, h2]; rfl)
 have hv : dv [u % 4294967296, u / 4294967296] = u := by simp only [dv]; omega
 refine sc (ch_call rfl rfl (nat_trim hd (by simp)) rfl ?_)
 rintro _ G2 _ rfl
 refine sa rfl rfl <| st_end <| st_ret <| ?_
 refine st_done (.tmp rfl .nil) ⟨⟨some ⟨b1, 0, none⟩, (trimD [u % 4294967296, u / 4294967296]).length, 2⟩, rfl, ?_⟩
 have := hd.trim.up (G := G2)
 rw [← dg_trim hok, hv] at this
 exact ⟨by rw [← dg_trim hok, hv]; exact this, Nat.lt_of_lt_of_le hu (by decide)⟩
theorem or_add {P : Program} {t : TypeId} (a b k : Nat) (ha : a < 2 ^ k) (h : a + b * 2 ^ k < 18446744073709551616) (w : World) : (binOp .or t (.int .u64 (a : Int)) (.int .u64 ((b * 2 ^ k : Nat) : Int))).run P w = .ok (.int .u64 ((a + b * 2 ^ k : Nat) : Int)) w := by
 have h1 : (BitVec.ofInt 64 (a : Int) ||| BitVec.ofInt 64 ((b * 2 ^ k : Nat) : Int)).toNat = a + b * 2 ^ k := by
  rw [BitVec.toNat_or, BitVec.ofInt_natCast, BitVec.ofInt_natCast, BitVec.toNat_ofNat, BitVec.toNat_ofNat, Nat.mod_eq_of_lt (by omega), Nat.mod_eq_of_lt (by omega)]
  rw [← Nat.shiftLeft_eq, Nat.or_comm, ← Nat.shiftLeft_add_eq_or_of_lt ha, Nat.shiftLeft_eq]
  omega
 have h2 : IntKind.u64.wrap ((a + b * 2 ^ k : Nat) : Int) = ((a + b * 2 ^ k : Nat) : Int) := by rw [wrap_u64]; omega
 simp only [binOp]
 show (Op.intBits .or .u64 (a : Int) ((b * 2 ^ k : Nat) : Int)).run P w = _
 unfold Op.intBits
 show (pure (Value.int .u64 (IntKind.u64.wrap ((BitVec.ofInt 64 (a : Int) ||| BitVec.ofInt 64 ((b * 2 ^ k : Nat) : Int)).toNat : Int))) : Sem Value).run P w = _
 rw [h1, h2, run_pure]
theorem nat_Uint {A G : Gh} {x : SV} {ds : List Nat} (hx : IsD A x ds) [GL A G] (hb : ds.length ≤ 1125899906842624) : Fn Tryz.prog 178 [x.v] G (fun v _ => v = .tuple #[.int .u64 ((if dv ds < 18446744073709551616 then dv ds else 0 : Nat) : Int), .bool (decide (dv ds < 18446744073709551616))]) := by
 have htl := trimD_len ds
 have hdv := dv_trimD ds
 have hok := hx.ok.trimD
 have hnr := Nrm.trimD ds
 have hxt := hx.trim
 have hcall := fun G1 (_ : GL A G1) => nat_trim (G := G1) hx (by omega)
 generalize trimD ds = es at *
 have hlen := hxt.len
 rw [← hdv]
 have hbig : (if dv es < 18446744073709551616 then dv es else 0) = if es.length ≤ 2 then dv es else 0 := by
   by_cases h2 : es.length ≤ 2
   · have h3 := dv_lt hok
     have h4 : (4294967296 : Nat) ^ es.length ≤ 4294967296 ^ 2 := Nat.pow_le_pow_right (by omega) h2
     rw [if_pos h2, if_pos (by omega)]
   · have h3 := nrm_ge hnr (fun e => by subst e; simp at h2)
     have h4 : (4294967296 : Nat) ^ 2 ≤ 4294967296 ^ (es.length - 1) := Nat.pow_le_pow_right (by omega) (by omega)
     rw [if_neg h2, if_neg (by omega)]
 have hbig2 : decide (dv es < 18446744073709551616) = decide (es.length ≤ 2) := by
   rw [decide_eq_decide]
   by_cases h2 : es.length ≤ 2
   · have h3 := dv_lt hok
     have h4 : (4294967296 : Nat) ^ es.length ≤ 4294967296 ^ 2 := Nat.pow_le_pow_right (by omega) h2
     exact ⟨fun _ => h2, fun _ => by omega⟩
   · have h3 := nrm_ge hnr (fun e => by subst e; simp at h2)
     have h4 : (4294967296 : Nat) ^ 2 ≤ 4294967296 ^ (es.length - 1) := Nat.pow_le_pow_right (by omega) (by omega)
     exact ⟨fun _ => by omega, fun h => absurd h h2⟩
 rw [hbig, hbig2]
 refine Fn.intro Tryz.func178 rfl rfl Tryz.ntmps178 rfl ?_
 intro C _ _
 refine sR <| sa rfl rfl <| sa rfl rfl <| st_end <| sR <| sm rfl rfl <| ?_
 refine sc (ch_call rfl rfl (hcall _ inferInstance) rfl ?_)
 rintro _ G1 _ rfl
 refine sa rfl rfl <| st_end <| st_seq <| sR <| sm rfl rfl <| slen rfl rfl <| sy (yd_gtr rfl rfl) rfl <| st_end <| ?_
 refine st_condP rfl (fun hc => ?_) (fun hc => ?_) -- slot 11
 · refine sR <| sa rfl rfl <| sa rfl rfl <| st_end <| st_ret <| ?_
   refine st_done (.tmp rfl (.tmp rfl .nil)) ?_
   have : ¬ es.length ≤ 2 := by omega
   simp [tupled, this]
 have h2 : es.length ≤ 2 := by omega
 refine st_skipc <| sR <| sa rfl rfl <| st_end <| st_seq <| sR <| sm rfl rfl <| slen rfl rfl <| sm rfl rfl <| st_end <| st_block <| ?_
 refine st_loop (X := Nat) (fun k => [(14, .int .i64 k), (13, .int .i64 es.length), (12, .slice x.a es.length x.c), (4, .int .u64 ((dv (es.take k) : Nat) : Int))]) (fun _ => []) (fun k _ => k ≤ es.length) (fun k => es.length - k) 0 (Nat.zero_le _) (.cons rfl (.cons rfl (.cons rfl (.cons rfl .nil)))) rfl ?_
 rintro k Gx _ hk
 refine sR <| sy (yd_lss rfl rfl) rfl <| st_end <| st_seq <| ?_
 refine st_condE rfl (fun hc => ?_) (fun hc => ?_) -- slot 15
 · refine st_exit <| st_te <| st_te <| st_inBlock_eq <| sR <| sm rfl rfl <| sa rfl rfl <| sa rfl rfl <| st_end <| st_ret <| ?_
   refine st_done (.tmp rfl (.tmp rfl .nil)) ?_
   have hk' : k = es.length := by omega
   subst hk'
   simp [tupled, h2]
 have hk' : k < es.length := by omega
 have hdk := hok.get k
 have hdt := dv_lt (hok.take k)
 rw [List.length_take, Nat.min_eq_left (by omega)] at hdt
 have hds := dv_take_succ es k
 have hd2 := dv_lt (hok.take (k + 1))
 rw [List.length_take, Nat.min_eq_left (by omega)] at hd2
 have hp2 : (4294967296 : Nat) ^ (k + 1) ≤ 4294967296 ^ 2 := Nat.pow_le_pow_right (by omega) (by omega)
 have hpk : (4294967296 : Nat) ^ k = 2 ^ (32 * k) := by rw [Nat.pow_mul]
 refine st_skipc <| st_seq <| st_block <| sR <| sm rfl rfl <| sy (yd_ixD (z := ⟨x.a, es.length, x.c⟩) hxt rfl rfl (by omega) (by show (k : Int) < (es.length : Nat); omega)) rfl <| sy (yd_ldD hxt rfl (by omega)) rfl <| sa rfl rfl <| sa rfl rfl <| st_end <| st_region <| ?_
 refine sm rfl rfl <| sm rfl rfl <| sy (yd_toU64 rfl (by omega) (by rw [Int.toNat_natCast]; omega)) rfl <| sm rfl rfl <| sy (yd_mul64 rfl rfl (by omega) (by omega)) rfl <| ?_
 have hsh : IntKind.u64.wrap (((es.getD (k : Int).toNat 0 : Nat) : Int) * 2 ^ min ((32 : Int) * (k : Int)).toNat IntKind.u64.bits) = ((es.getD k 0 * 2 ^ (32 * k) : Nat) : Int) := by
   have e1 : ((32 : Int) * (k : Int)).toNat = 32 * k := by omega
   rw [e1, Int.toNat_natCast, Nat.min_eq_left (by show 32 * k ≤ 64; omega), wrap_u64]
   have e2 : ((es.getD k 0 : Nat) : Int) * 2 ^ (32 * k) = ((es.getD k 0 * 2 ^ (32 * k) : Nat) : Int) := by push_cast; rfl
   rw [e2]
   have e3 : es.getD k 0 * 2 ^ (32 * k) < 18446744073709551616 := by rw [← hpk, Nat.mul_comm]; omega
   omega
 refine sy (yd_shl rfl rfl (by omega)) rfl <| ?_
 rw [hsh]
 refine sy (yd_int rfl rfl (or_add (dv (es.take k)) (es.getD k 0) (32 * k) (by rw [← hpk]; exact hdt) (by rw [← hpk, Nat.mul_comm]; omega))) rfl <| sa rfl rfl <| st_end <| st_region <| sy (yd_add64 rfl rfl) rfl <| sm rfl rfl <| st_end <| ?_
 refine st_again (k + 1) (by omega) (by omega) (.cons rfl (.cons rfl (.cons rfl (.cons ?_ .nil)))) rfl
 rw [hds, hpk, Nat.mul_comm (2 ^ (32 * k))]
 rfl
theorem nat_Bits {A G : Gh} {x : SV} {ds : List Nat} (hx : IsD A x ds) [GL A G] (hb : ds.length ≤ 1125899906842624) : Fn Tryz.prog 174 [x.v] G (fun v _ => v = .int .i64 ((bl (dv ds) : Nat) : Int)) := by
 have htl := trimD_len ds
 have hdv := dv_trimD ds
 have hok := hx.ok.trimD
 have hnr := Nrm.trimD ds
 have hxt := hx.trim
 have hcall := fun G1 (_ : GL A G1) => nat_trim (G := G1) hx (by omega)
 generalize trimD ds = es at *
 have hlen := hxt.len
 rw [← hdv]
 refine Fn.intro Tryz.func174 rfl rfl Tryz.ntmps174 rfl ?_
 intro C _ _
 refine sR <| sa rfl rfl <| st_end <| sR <| sm rfl rfl <| ?_
 refine sc (ch_call rfl rfl (hcall _ inferInstance) rfl ?_)
 rintro _ G1 _ rfl
 refine sa rfl rfl <| st_end <| st_seq <| sR <| sm rfl rfl <| slen rfl rfl <| sy (yd_eql rfl rfl) rfl <| st_end <| ?_
 refine st_condP rfl (fun hc => ?_) (fun hc => ?_) -- slot 7
 · refine sR <| sa rfl rfl <| st_end <| st_ret <| ?_
   refine st_done (.tmp rfl .nil) ?_
   have : es = [] := List.eq_nil_of_length_eq_zero (by omega)
   subst this
   rfl
 have hne : 0 < es.length := by omega
 have hkt : ((es.length : Int) - 1).toNat = es.length - 1 := by omega
 have hg := hok.get (es.length - 1)
 have hbl : bl (es.getD (es.length - 1) 0) ≤ 32 := bl_le.2 (by omega)
 refine st_skipc <| sR <| sm rfl rfl <| slen rfl rfl <| sy (yd_mul64 rfl rfl (by omega) (by omega)) rfl <| sm rfl rfl <| sm rfl rfl <| slen rfl rfl <| sy (yd_sub64 rfl rfl) rfl <| ?_
 refine sy (yd_ixD (z := ⟨x.a, es.length, x.c⟩) hxt rfl rfl (by omega) (by show _ < ((es.length : Nat) : Int); omega)) rfl <| sy (yd_ldD hxt rfl (by omega)) rfl <| ?_
 rw [hkt]
 refine sc (ch_call rfl rfl (bits_lz32 hg) rfl ?_)
 rintro _ G2 _ rfl
 refine sy (yd_sub64 rfl rfl) rfl <| sa rfl rfl <| st_end <| st_ret <| ?_
 refine st_done (.tmp rfl .nil) ?_
 rw [bl_dv hok hnr (fun e => by subst e; simp at hne)]
 simp only [tupled, Value.int.injEq, true_and]
 omega
def cmpN (a b : Nat) : Int := if a < b then -1 else if a = b then 0 else 1
theorem nat_Cmp {A B G : Gh} {x y : SV} {ds es : List Nat} (hx : IsD A x ds) (hy : IsD B y es) [GL A G] [GL B G] (hb : ds.length ≤ 1125899906842624) (hb2 : es.length ≤ 1125899906842624) :
   Fn Tryz.prog 211 [x.v, y.v] G (fun v _ => v = .int .i64 (cmpN (dv ds) (dv es))) := by
 have htl := trimD_len ds
 have htl2 := trimD_len es
 have hcall := fun G1 (_ : GL A G1) => nat_trim (G := G1) hx (by omega)
 have hcall2 := fun G1 (_ : GL B G1) => nat_trim (G := G1) hy (by omega)
 have hxt := hx.trim
 have hyt := hy.trim
 have hok := hx.ok.trimD
 have hok2 := hy.ok.trimD
 have hnr := Nrm.trimD ds
 have hnr2 := Nrm.trimD es
 rw [← dv_trimD ds, ← dv_trimD es]
 generalize trimD ds = a at *
 generalize trimD es = b at *
 refine Fn.intro Tryz.func211 rfl rfl Tryz.ntmps211 rfl ?_
 intro C _ _
 refine sR <| sa rfl rfl <| st_end <| sR <| sm rfl rfl <| ?_
 refine sc (ch_call rfl rfl (hcall _ inferInstance) rfl ?_)
 rintro _ G1 _ rfl
 refine sm rfl rfl <| ?_
 refine sc (ch_call rfl rfl (hcall2 _ inferInstance) rfl ?_)
 rintro _ G2 _ rfl
 refine sa rfl rfl <| sa rfl rfl <| st_end <| st_seq <| sR <| sm rfl rfl <| slen rfl rfl <| sm rfl rfl <| slen rfl rfl <| sy (yd_neq rfl rfl) rfl <| st_end <| ?_
 refine st_condP rfl (fun hc => ?_) (fun hc => ?_) -- slot 14
 · refine st_seq <| sR <| sm rfl rfl <| slen rfl rfl <| sm rfl rfl <| slen rfl rfl <| sy (yd_lss rfl rfl) rfl <| st_end <| ?_
   refine st_condP rfl (fun hc2 => ?_) (fun hc2 => ?_) -- slot 19
   · refine sR <| sa rfl rfl <| st_end <| st_ret <| ?_
     refine st_done (.tmp rfl .nil) ?_
     have := dv_len_lt hok hnr2 (by omega)
     simp [tupled, cmpN, this]
   refine st_skipc <| sR <| sa rfl rfl <| st_end <| st_ret <| ?_
   refine st_done (.tmp rfl .nil) ?_
   have := dv_len_lt hok2 hnr (by omega)
   have h1 : ¬ dv a < dv b := by omega
   have h2 : ¬ dv a = dv b := by omega
   simp [tupled, cmpN, h1, h2]
 have hl : a.length = b.length := by omega
 refine st_skipc <| st_seq <| sR <| sm rfl rfl <| slen rfl rfl <| sy (yd_sub64 rfl rfl) rfl <| sa rfl rfl <| st_end <| st_block <| ?_
 refine st_loop (X := Nat) (fun k => [(5, .int .i64 (k - 1)), (0, .slice x.a a.length x.c), (1, .slice y.a b.length y.c)]) (fun _ => []) (fun k _ => k ≤ a.length ∧ a.drop k = b.drop k) (fun k => k) a.length ⟨Nat.le_refl _, by rw [List.drop_length, hl, List.drop_length]⟩ (.cons rfl (.cons rfl (.cons rfl .nil))) rfl ?_
 rintro k Gx _ ⟨hk, hd⟩
 refine st_seq <| sR <| sm rfl rfl <| sy (yd_geq rfl rfl) rfl <| st_end <| ?_
 refine st_condE rfl (fun hc => ?_) (fun hc => ?_) -- slot 24
 · refine st_exit <| st_te <| st_te <| st_inBlock_eq <| sR <| sa rfl rfl <| st_end <| st_ret <| ?_
   refine st_done (.tmp rfl .nil) ?_
   have : k = 0 := by omega
   subst this
   have hab : a = b := by simpa using hd
   subst hab
   simp [tupled, cmpN]
 have hk1 : 0 < k := by omega
 have hkt : ((k : Int) - 1).toNat = k - 1 := by omega
 have hga := hok.get (k - 1)
 have hgb := hok2.get (k - 1)
 have hk2 : k - 1 + 1 = k := by omega
 refine st_skipc <| st_seq <| st_block <| st_block <| st_seq <| dr (fun _ => false) [(0, true), (1, true), (2, true), (3, true), (4, true), (5, true), (6, true), (7, true), (8, true), (9, true)] follows (by kernel_rfl) <| ?_
 refine dM rfl rfl rfl <| dM rfl rfl rfl <| dy rfl (fun _ => yd_ixD (z := ⟨x.a, a.length, x.c⟩) hxt rfl rfl (by omega) (by show _ < ((a.length : Nat) : Int); omega)) rfl rfl <| dy rfl (fun _ => yd_ldD hxt rfl (by omega)) rfl rfl <| ?_
 refine dM rfl rfl rfl <| dM rfl rfl rfl <| dy rfl (fun _ => yd_ixD (z := ⟨y.a, b.length, y.c⟩) hyt rfl rfl (by omega) (by show _ < ((b.length : Nat) : Int); omega)) rfl rfl <| dy rfl (fun _ => yd_ldD hyt rfl (by omega)) rfl rfl <| ?_
 refine dy rfl (fun _ => yd_lss rfl rfl) rfl rfl <| dA rfl rfl rfl <| dn <| ?_
 refine st_condP rfl (fun hc2 => ?_) (fun hc2 => ?_) -- slot 27
 · refine sR <| sa rfl rfl <| st_end <| st_ret <| ?_
   refine st_done (.tmp rfl .nil) ?_
   rw [hkt] at hc2
   have := dv_cmp hok hok2 (k - 1) (by omega) (by omega) hl (by rw [hk2]; exact hd) (by omega)
   simp [tupled, cmpN, this]
 refine st_seq <| dr (fun _ => false) [(0, true), (1, true), (2, true), (3, true), (4, true), (5, true), (6, true), (7, true), (8, true), (9, true)] follows (by kernel_rfl) <| dM rfl rfl rfl <| ?_
 refine dM rfl rfl rfl <| dy rfl (fun _ => yd_ixD (z := ⟨x.a, a.length, x.c⟩) hxt rfl rfl (by omega) (by show _ < ((a.length : Nat) : Int); omega)) rfl rfl <| dy rfl (fun _ => yd_ldD hxt rfl (by omega)) rfl rfl <| dM rfl rfl rfl <| ?_
 refine dM rfl rfl rfl <| dy rfl (fun _ => yd_ixD (z := ⟨y.a, b.length, y.c⟩) hyt rfl rfl (by omega) (by show _ < ((b.length : Nat) : Int); omega)) rfl rfl <| dy rfl (fun _ => yd_ldD hyt rfl (by omega)) rfl rfl <| dy rfl (fun _ => yd_gtr rfl rfl) rfl rfl <| ?_
 refine dA rfl rfl rfl <| dn <| ?_
 rw [hkt] at *
 refine st_condP rfl (fun hc3 => ?_) (fun hc3 => ?_) -- slot 37
 · refine sR <| sa rfl rfl <| st_end <| st_ret <| ?_
   refine st_done (.tmp rfl .nil) ?_
   have := dv_cmp hok2 hok (k - 1) (by omega) (by omega) hl.symm (by rw [hk2]; exact hd.symm) (by omega)
   have h1 : ¬ dv a < dv b := by omega
   have h2 : ¬ dv a = dv b := by omega
   simp [tupled, cmpN, h1, h2]
 refine st_skipc <| st_region <| sm rfl rfl <| sy (yd_sub64 rfl rfl) rfl <| sa rfl rfl <| st_end <| ?_
 refine st_again (k - 1) ⟨by omega, ?_⟩ (by omega) (.cons (by rw [show ((k - 1 : Nat) : Int) = (k : Int) - 1 by omega]; rfl) (.cons rfl (.cons rfl .nil))) rfl
 have heq : a.getD (k - 1) 0 = b.getD (k - 1) 0 := by omega
 rw [List.getD_eq_getElem?_getD, List.getD_eq_getElem?_getD, List.getElem?_eq_getElem (by omega), List.getElem?_eq_getElem (by omega)] at heq
 rw [List.drop_eq_getElem_cons (by omega : k - 1 < a.length), List.drop_eq_getElem_cons (by omega : k - 1 < b.length), hk2, hd]
 congr 1
end Go.Sx
end

section
set_option maxRecDepth 100000
namespace Go.Sx
open Go Go.Proofs
theorem getD_ge {ds : List Nat} {k : Nat} (h : ds.length ≤ k) : ds.getD k 0 = 0 := by
 rw [List.getD_eq_getElem?_getD, List.getElem?_eq_none h]; rfl
theorem getD_rep (n k : Nat) : (List.replicate n 0).getD k 0 = 0 := by
 rw [List.getD_eq_getElem?_getD]
 by_cases h : k < n
 · simp [h]
 · rw [List.getElem?_eq_none (by simpa using h)]; rfl
theorem add_lt {a b c : Nat} (ha : a < 4294967296) (hb : b < 4294967296) (hc : c ≤ 1) : (c + a + b) / 4294967296 ≤ 1 := by omega
structure NatAdd where
 ws : List Nat
 k : Nat
 c : Nat
set_option maxHeartbeats 1000000 in
theorem nat_Add {A B G : Gh} {x y : SV} {ds es : List Nat} {kk : Nat} (hx : IsD A x ds) (hy : IsD B y es) [GL A G] [GL B G] (hk : dv ds + dv es < 2 ^ kk) (hb : ds.length ≤ 1125899906842) (hb2 : es.length ≤ 1125899906842) :
   Fn Tryz.prog 235 [x.v, y.v] G (fun v G' => ∃ z : SV, v = z.v ∧ IsN kk G' z (dv ds + dv es)) := by
 have hlen := hx.len
 have hlen2 := hy.len
 refine Fn.intro Tryz.func235 rfl rfl Tryz.ntmps235 rfl ?_
 intro C _ _
 refine sR <| sa rfl rfl <| st_end <| ?_
 refine st_cut ((SV × List Nat) × (SV × List Nat)) (fun q => [(0, .slice q.1.1.a q.1.1.n q.1.1.c), (1, .slice q.2.1.a q.2.1.n q.2.1.c)]) (fun _ => [])
   (fun q G => IsD G q.1.1 q.1.2 ∧ IsD G q.2.1 q.2.2 ∧ dv q.1.2 + dv q.2.2 = dv ds + dv es ∧ q.2.2.length ≤ q.1.2.length ∧ q.1.2.length ≤ 1125899906842) ?_ ?_
 · refine sR <| sm rfl rfl <| slen rfl rfl <| sm rfl rfl <| slen rfl rfl <| sy (yd_lss rfl rfl) rfl <| st_end <| ?_
   refine st_condP rfl (fun hc => ?_) (fun hc => ?_) -- slot 13
   · refine st_region <| sm rfl rfl <| sm rfl rfl <| sa rfl rfl <| sa rfl rfl <| st_end <| ?_
     exact st_at ((y, es), (x, ds)) ⟨hy.up, hx.up, by simp; omega, by simp; omega, by simp; omega⟩ (.cons rfl (.cons rfl .nil)) rfl
   refine st_skipc <| ?_
   exact st_at ((x, ds), (y, es)) ⟨hx.up, hy.up, rfl, by simp; omega, by simp; omega⟩ (.cons rfl (.cons rfl .nil)) rfl
 rintro ⟨⟨x, a⟩, ⟨y, b⟩⟩ Gx _ ⟨hx, hy, hsum, hle, hba⟩
 rw [← hsum] at hk ⊢
 clear hlen hlen2 hsum
 have hlen := hx.len
 have hlen2 := hy.len
 simp only [] at hx hy hle hba hlen hlen2 hk ⊢
 refine sR <| sm rfl rfl <| slen rfl rfl <| sy (yd_add64 rfl rfl) rfl <| ?_
 refine sc (ch_make rfl rfl (by omega) (by omega) (by omega) (by rfl) rfl ?_)
 intro b1
 rw [zeros_dI, show ((x.n : Int) + 1).toNat = a.length + 1 by omega]
 refine sa rfl rfl <| st_end <| sR <| sa rfl rfl <| st_end <| st_seq <| sR <| sm rfl rfl <| slen rfl rfl <| sm rfl rfl <| st_end <| st_block <| ?_
 refine st_loop (X := NatAdd) (fun q => [(22, .int .i64 q.k), (21, .int .i64 x.n), (20, .slice x.a x.n x.c), (6, .int .u64 q.c), (0, .slice x.a x.n x.c), (1, .slice y.a y.n y.c), (5, .slice (some ⟨b1, 0, none⟩) (a.length + 1) (a.length + 1))])
   (fun q => [⟨b1, q.ws.map dI, 224, true⟩])
   (fun q _ => q.k ≤ a.length ∧ q.ws.length = a.length + 1 ∧ DOk q.ws ∧ q.c ≤ 1 ∧ dv (q.ws.take q.k) + 4294967296 ^ q.k * q.c = dv (a.take q.k) + dv (b.take q.k)) (fun q => a.length - q.k) ⟨List.replicate (a.length + 1) 0, 0, 0⟩
   ⟨Nat.zero_le _, by simp, .replicate _, Nat.zero_le _, by simp [dv]⟩ (.cons rfl (.cons rfl (.cons rfl (.cons rfl (.cons rfl (.cons rfl (.cons rfl .nil))))))) rfl ?_
 rintro ⟨ws, k, c⟩ Gy _ ⟨hka, hwl, hwo, hc1, hinv⟩
 simp only [] at hka hwl hwo hc1 hinv ⊢
 refine sR <| sy (yd_lss rfl rfl) rfl <| st_end <| st_seq <| ?_
 refine st_condE rfl (fun hc => ?_) (fun hc => ?_) -- slot 23
 · have hkn : k = a.length := by omega
   refine st_exit <| st_te <| st_te <| st_inBlock_eq <| sR <| sm rfl rfl <| sm rfl rfl <| slen rfl rfl <| sm rfl rfl <| sy (yd_toU32 rfl) rfl <| ?_
   refine sy (yd_ixO rfl rfl (by omega) (by omega)) rfl <| ?_
   refine sc (ch_storeD (d := c) rfl rfl (by omega) (.hd ..) (by omega) rfl ?_)
   rw [show (x.n : Int).toNat = a.length by omega]
   refine st_end <| sR <| sm rfl rfl <| ?_
   refine st_freeze b1 (.hd ..) (fun G1 _ hgb => ?_)
   have hwo2 : DOk (ws.set a.length c) := hwo.set _ (by omega)
   have hD : IsD G1 ⟨some ⟨b1, 0, none⟩, a.length + 1, a.length + 1⟩ (ws.set a.length c) := .of_block hwo2 hgb.h (by simp [hwl]) (Nat.le_refl _) (by rw [List.take_of_length_le (by simp)])
   have hdv : dv (ws.set a.length c) = dv a + dv b := by
     have h1 := dv_set_take (ws := ws) (k := a.length) (d := c) (by omega)
     rw [List.take_of_length_le (by simp; omega)] at h1
     rw [h1, ← hkn, hinv, hkn, List.take_of_length_le (Nat.le_refl _), List.take_of_length_le hle]
   refine sc (ch_call rfl rfl (nat_trim hD (by simp; omega)) rfl ?_)
   rintro _ G2 _ rfl
   refine sa rfl rfl <| st_end <| st_ret <| ?_
   refine st_done (.tmp rfl .nil) ⟨⟨some ⟨b1, 0, none⟩, (trimD (ws.set a.length c)).length, a.length + 1⟩, rfl, ?_⟩
   have h3 := hD.trim.up (G := G2)
   rw [← hdv] at hk ⊢
   exact ⟨by rw [dg_trim hwo2]; exact h3, hk⟩
 have hka' : k < a.length := by omega
 have hga := hx.ok.get k
 have hgb := hy.ok.get k
 refine st_skipc <| st_seq <| st_block <| sR <| sm rfl rfl <| sy (yd_ixD hx rfl rfl (by omega) (by omega)) rfl <| sy (yd_ldD hx rfl (by omega)) rfl <| sa rfl rfl <| sa rfl rfl <| st_end <| st_seq <| ?_
 refine st_region <| sm rfl rfl <| sm rfl rfl <| sy (yd_toU64 rfl (by omega) (by rw [Int.toNat_natCast]; omega)) rfl <| sy (yd_addU rfl rfl (by omega) (by rw [Int.toNat_natCast]; omega)) rfl <| sa rfl rfl <| st_end <| ?_
 rw [Int.toNat_natCast]
 refine st_cut Unit (fun _ => [(22, .int .i64 k), (7, .int .i64 k), (21, .int .i64 x.n), (20, .slice x.a x.n x.c), (6, .int .u64 ((c + a.getD k 0 + b.getD k 0 : Nat) : Int)), (0, .slice x.a x.n x.c), (1, .slice y.a y.n y.c), (5, .slice (some ⟨b1, 0, none⟩) (a.length + 1) (a.length + 1))]) (fun _ => [⟨b1, ws.map dI, 224, true⟩]) (fun _ _ => True) ?_ ?_
 · refine sR <| sm rfl rfl <| sm rfl rfl <| slen rfl rfl <| sy (yd_lss rfl rfl) rfl <| st_end <| ?_
   refine st_condP rfl (fun hc2 => ?_) (fun hc2 => ?_) -- slot 34
   · refine st_region <| sm rfl rfl <| sm rfl rfl <| sm rfl rfl <| sy (yd_ixD hy rfl rfl (by omega) (by omega)) rfl <| sy (yd_ldD hy rfl (by omega)) rfl <| sy (yd_toU64 rfl (by omega) (by rw [Int.toNat_natCast]; omega)) rfl <| ?_
     rw [Int.toNat_natCast]
     refine sy (yd_addU rfl rfl) rfl <| sa rfl rfl <| st_end <| ?_
     exact st_at () trivial (.cons rfl (.cons rfl (.cons rfl (.cons rfl (.cons (by rw [Int.natCast_add, Int.natCast_add]; rfl) (.cons rfl (.cons rfl (.cons rfl .nil)))))))) rfl
   refine st_skipc <| ?_
   have h0 : b.getD k 0 = 0 := getD_ge (by omega)
   exact st_at () trivial (.cons rfl (.cons rfl (.cons rfl (.cons rfl (.cons (by rw [h0, Nat.add_zero, Int.natCast_add]; rfl) (.cons rfl (.cons rfl (.cons rfl .nil)))))))) rfl
 rintro _ Gz _ _
 generalize hcc : c + a.getD k 0 + b.getD k 0 = cc
 have hcb : cc / 4294967296 ≤ 1 := by rw [← hcc]; exact add_lt hga hgb hc1
 refine sR <| sm rfl rfl <| sm rfl rfl <| sm rfl rfl <| sy (yd_toU32 rfl) rfl <| sy (yd_ixO rfl rfl (by omega) (by omega)) rfl <| ?_
 rw [Int.toNat_natCast]
 refine sc (ch_storeD (d := cc % 4294967296) rfl rfl (by omega) (.hd ..) (by omega) rfl ?_)
 refine st_end <| st_region <| sm rfl rfl <| sy (yd_shr rfl rfl (by decide)) rfl <| sa rfl rfl <| st_end <| st_region <| sy (yd_add64 rfl rfl) rfl <| sm rfl rfl <| st_end <| ?_
 have hsh : ((cc : Int).fdiv (2 ^ min (32 : Int).toNat IntKind.u64.bits)) = ((cc / 4294967296 : Nat) : Int) := by
   have : (2 ^ min (32 : Int).toNat IntKind.u64.bits : Int) = 4294967296 := by decide
   rw [this, Int.fdiv_eq_ediv_of_nonneg _ (by omega)]; rfl
 rw [hsh]
 refine st_again ⟨ws.set k (cc % 4294967296), k + 1, cc / 4294967296⟩ ⟨by show k + 1 ≤ _; omega, by simp [hwl], hwo.set _ (by omega), hcb, ?_⟩ (by show a.length - (k + 1) < a.length - k; omega) (.cons rfl (.cons rfl (.cons rfl (.cons rfl (.cons rfl (.cons rfl (.cons rfl .nil))))))) rfl
 show dv ((ws.set k (cc % 4294967296)).take (k + 1)) + 4294967296 ^ (k + 1) * (cc / 4294967296) = dv (a.take (k + 1)) + dv (b.take (k + 1))
 rw [dv_set_take (by omega), dv_take_succ a, dv_take_succ b, ← hcc, Nat.pow_succ]
 exact add_step hinv
structure NatSub where
 ws : List Nat
 k : Nat
 c : Nat
theorem shr63 (p : Int) (h0 : 0 ≤ p) : p.fdiv (2 ^ min (63 : Int).toNat IntKind.u64.bits) = p / 9223372036854775808 := by
 have : (2 ^ min (63 : Int).toNat IntKind.u64.bits : Int) = 9223372036854775808 := by decide
 rw [this, Int.fdiv_eq_ediv_of_nonneg _ (by omega)]
theorem shr32 (p : Nat) : ((p : Int).fdiv (2 ^ min (32 : Int).toNat IntKind.u64.bits)) = ((p / 4294967296 : Nat) : Int) := by
 have : (2 ^ min (32 : Int).toNat IntKind.u64.bits : Int) = 4294967296 := by decide
 rw [this, Int.fdiv_eq_ediv_of_nonneg _ (by omega)]; rfl
set_option maxHeartbeats 1000000 in
theorem nat_less {A B G : Gh} {x y : SV} {a b : List Nat} {kk : Nat} (hx : IsD A x a) (hy : IsD B y b) [GL A G] [GL B G] (hle : b.length ≤ a.length) (hge : dv b ≤ dv a) (hk : dv a < 2 ^ kk) (hba : a.length ≤ 1125899906842) :
   Fn Tryz.prog 237 [x.v, y.v] G (fun v G' => ∃ z : SV, v = z.v ∧ IsN kk G' z (dv a - dv b)) := by
 have hlen := hx.len
 have hlen2 := hy.len
 refine Fn.intro Tryz.func237 rfl rfl Tryz.ntmps237 rfl ?_
 intro C _ _
 refine sR <| sa rfl rfl <| st_end <| sR <| sm rfl rfl <| slen rfl rfl <| ?_
 refine sc (ch_make rfl rfl (by omega) (by omega) (by omega) (by rfl) rfl ?_)
 intro b1
 rw [zeros_dI, show (x.n : Int).toNat = a.length by omega]
 refine sa rfl rfl <| st_end <| sR <| sa rfl rfl <| st_end <| st_seq <| sR <| sm rfl rfl <| slen rfl rfl <| sm rfl rfl <| st_end <| st_block <| ?_
 refine st_loop (X := NatSub) (fun q => [(16, .int .i64 q.k), (15, .int .i64 x.n), (14, .slice x.a x.n x.c), (6, .int .u64 q.c), (1, .slice y.a y.n y.c), (5, .slice (some ⟨b1, 0, none⟩) a.length a.length)])
   (fun q => [⟨b1, q.ws.map dI, 224, true⟩])
   (fun q _ => q.k ≤ a.length ∧ q.ws.length = a.length ∧ DOk q.ws ∧ q.c ≤ 1 ∧ dv (q.ws.take q.k) + dv (b.take q.k) = dv (a.take q.k) + 4294967296 ^ q.k * q.c) (fun q => a.length - q.k) ⟨List.replicate a.length 0, 0, 0⟩
   ⟨Nat.zero_le _, by simp, .replicate _, Nat.zero_le _, by simp [dv]⟩ (.cons rfl (.cons rfl (.cons rfl (.cons rfl (.cons rfl (.cons rfl .nil)))))) rfl ?_
 rintro ⟨ws, k, c⟩ Gy _ ⟨hka, hwl, hwo, hc1, hinv⟩
 simp only [] at hka hwl hwo hc1 hinv ⊢
 refine sR <| sy (yd_lss rfl rfl) rfl <| st_end <| st_seq <| ?_
 refine st_condE rfl (fun hc => ?_) (fun hc => ?_) -- slot 17
 · have hkn : k = a.length := by omega
   refine st_exit <| st_te <| st_te <| st_inBlock_eq <| sR <| sm rfl rfl <| ?_
   refine st_freeze b1 (.hd ..) (fun G1 _ hgb => ?_)
   have hD : IsD G1 ⟨some ⟨b1, 0, none⟩, a.length, a.length⟩ ws := .of_block hwo hgb.h hwl.symm (Nat.le_refl _) (by rw [List.take_of_length_le (by simp)])
   have hdv : dv ws = dv a - dv b := by
     rw [hkn, List.take_of_length_le (by omega), List.take_of_length_le hle, List.take_of_length_le (Nat.le_refl _)] at hinv
     have h2 := dv_lt hwo
     rw [hwl] at h2
     rcases Nat.eq_zero_or_pos c with h0 | h0
     · subst h0; omega
     · have : c = 1 := by omega
       subst this; omega
   refine sc (ch_call rfl rfl (nat_trim hD (by omega)) rfl ?_)
   rintro _ G2 _ rfl
   refine sa rfl rfl <| st_end <| st_ret <| ?_
   refine st_done (.tmp rfl .nil) ⟨⟨some ⟨b1, 0, none⟩, (trimD ws).length, a.length⟩, rfl, ?_⟩
   have h3 := hD.trim.up (G := G2)
   rw [← hdv]
   exact ⟨by rw [dg_trim hwo]; exact h3, by omega⟩
 have hka' : k < a.length := by omega
 have hga := hx.ok.get k
 have hgb := hy.ok.get k
 refine st_skipc <| st_seq <| st_block <| sR <| sm rfl rfl <| sy (yd_ixD hx rfl rfl (by omega) (by omega)) rfl <| sy (yd_ldD hx rfl (by omega)) rfl <| sa rfl rfl <| sa rfl rfl <| st_end <| st_seq <| ?_
 rw [Int.toNat_natCast]
 refine st_region <| sm rfl rfl <| sa rfl rfl <| st_end <| ?_
 refine st_cut Unit (fun _ => [(16, .int .i64 k), (7, .int .i64 k), (15, .int .i64 x.n), (14, .slice x.a x.n x.c), (8, .int .u32 ((a.getD k 0 : Nat) : Int)), (9, .int .u64 ((c + b.getD k 0 : Nat) : Int)), (1, .slice y.a y.n y.c), (5, .slice (some ⟨b1, 0, none⟩) a.length a.length)]) (fun _ => [⟨b1, ws.map dI, 224, true⟩]) (fun _ _ => True) ?_ ?_
 · refine sR <| sm rfl rfl <| sm rfl rfl <| slen rfl rfl <| sy (yd_lss rfl rfl) rfl <| st_end <| ?_
   refine st_condP rfl (fun hc2 => ?_) (fun hc2 => ?_) -- slot 25
   · refine st_region <| sm rfl rfl <| sm rfl rfl <| sm rfl rfl <| sy (yd_ixD hy rfl rfl (by omega) (by omega)) rfl <| sy (yd_ldD hy rfl (by omega)) rfl <| sy (yd_toU64 rfl (by omega) (by rw [Int.toNat_natCast]; omega)) rfl <| ?_
     rw [Int.toNat_natCast]
     refine sy (yd_addU rfl rfl) rfl <| sa rfl rfl <| st_end <| ?_
     exact st_at () trivial (.cons rfl (.cons rfl (.cons rfl (.cons rfl (.cons rfl (.cons (by rw [Int.natCast_add]; rfl) (.cons rfl (.cons rfl .nil)))))))) rfl
   refine st_skipc <| ?_
   have h0 : b.getD k 0 = 0 := getD_ge (by omega)
   exact st_at () trivial (.cons rfl (.cons rfl (.cons rfl (.cons rfl (.cons rfl (.cons (by rw [h0, Nat.add_zero]; rfl) (.cons rfl (.cons rfl .nil)))))))) rfl
 rintro _ Gz _ _
 generalize htt : c + b.getD k 0 = tt
 have htb : tt ≤ 4294967296 := by omega
 refine sR <| sm rfl rfl <| sy (yd_toU64 rfl) rfl <| sm rfl rfl <| sy (yd_subw rfl rfl) rfl <| sa rfl rfl <| st_end <| sR <| sm rfl rfl <| sm rfl rfl <| sm rfl rfl <| ?_
 rw [wrap_u64]
 refine sy (yd_toU32 rfl) rfl <| sy (yd_ixO rfl rfl (by omega) (by omega)) rfl <| ?_
 rw [Int.toNat_natCast]
 by_cases hno : tt ≤ a.getD k 0
 · refine sc (ch_storeD (d := a.getD k 0 - tt) rfl rfl (by omega) (.hd ..) (by omega) rfl ?_)
   refine st_end <| st_region <| sm rfl rfl <| sy (yd_shr rfl rfl (by decide)) rfl <| sa rfl rfl <| st_end <| st_region <| sy (yd_add64 rfl rfl) rfl <| sm rfl rfl <| st_end <| ?_
   rw [shr63 _ (by omega), show (((a.getD k 0 : Nat) : Int) - (tt : Int)) % 18446744073709551616 / 9223372036854775808 = ((0 : Nat) : Int) by omega]
   refine st_again ⟨ws.set k (a.getD k 0 - tt), k + 1, 0⟩ ⟨by show k + 1 ≤ _; omega, by simp [hwl], hwo.set _ (by omega), Nat.zero_le _, ?_⟩ (by show a.length - (k + 1) < a.length - k; omega) (.cons rfl (.cons rfl (.cons rfl (.cons rfl (.cons rfl (.cons rfl .nil)))))) rfl
   show dv ((ws.set k (a.getD k 0 - tt)).take (k + 1)) + dv (b.take (k + 1)) = dv (a.take (k + 1)) + 4294967296 ^ (k + 1) * 0
   rw [dv_set_take (by omega), dv_take_succ a, dv_take_succ b, ← htt, Nat.pow_succ]
   exact sub_no hinv (by omega)
 · refine sc (ch_storeD (d := a.getD k 0 + 4294967296 - tt) rfl rfl (by omega) (.hd ..) (by omega) rfl ?_)
   refine st_end <| st_region <| sm rfl rfl <| sy (yd_shr rfl rfl (by decide)) rfl <| sa rfl rfl <| st_end <| st_region <| sy (yd_add64 rfl rfl) rfl <| sm rfl rfl <| st_end <| ?_
   rw [shr63 _ (by omega), show (((a.getD k 0 : Nat) : Int) - (tt : Int)) % 18446744073709551616 / 9223372036854775808 = ((1 : Nat) : Int) by omega]
   refine st_again ⟨ws.set k (a.getD k 0 + 4294967296 - tt), k + 1, 1⟩ ⟨by show k + 1 ≤ _; omega, by simp [hwl], hwo.set _ (by omega), Nat.le_refl _, ?_⟩ (by show a.length - (k + 1) < a.length - k; omega) (.cons rfl (.cons rfl (.cons rfl (.cons rfl (.cons rfl (.cons rfl .nil)))))) rfl
   show dv ((ws.set k (a.getD k 0 + 4294967296 - tt)).take (k + 1)) + dv (b.take (k + 1)) = dv (a.take (k + 1)) + 4294967296 ^ (k + 1) * 1
   rw [dv_set_take (by omega), dv_take_succ a, dv_take_succ b, ← htt, Nat.pow_succ]
   exact sub_yes hinv (by omega) (by omega)
theorem nat_Sub {A B G : Gh} {x y : SV} {ds es : List Nat} {kk : Nat} (hx : IsD A x ds) (hy : IsD B y es) [GL A G] [GL B G] (hk : dv ds < 2 ^ kk) (hb : ds.length ≤ 1125899906842) (hb2 : es.length ≤ 1125899906842) :
   Fn Tryz.prog 236 [x.v, y.v] G (fun v G' => ∃ z : SV, v = .tuple #[z.v, .bool (decide (dv es ≤ dv ds))] ∧ IsN kk G' z (dv ds - dv es)) := by
 refine Fn.intro Tryz.func236 rfl rfl Tryz.ntmps236 rfl ?_
 intro C _ _
 refine sR <| sa rfl rfl <| sa rfl rfl <| st_end <| st_seq <| sR <| sm rfl rfl <| sm rfl rfl <| ?_
 refine sc (ch_call rfl rfl (nat_Cmp hx hy (by omega) (by omega)) rfl ?_)
 rintro _ G1 _ rfl
 refine sy (yd_lss rfl rfl) rfl <| st_end <| ?_
 refine st_condP rfl (fun hc => ?_) (fun hc => ?_) -- slot 9
 · have hlt : dv ds < dv es := by
     unfold cmpN at hc
     split at hc
     · assumption
     · split at hc <;> omega
   refine sR <| sa rfl rfl <| sa rfl rfl <| st_end <| st_ret <| ?_
   refine st_done (.tmp rfl (.tmp rfl .nil)) ⟨⟨none, 0, 0⟩, ?_, ?_⟩
   · have : ¬ dv es ≤ dv ds := by omega
     simp [tupled, SV.v, this]
   · rw [Nat.sub_eq_zero_of_le (by omega)]
     exact ⟨by unfold dg; exact .nil _, Nat.pow_pos (by omega)⟩
 have hge : dv es ≤ dv ds := by
   unfold cmpN at hc
   split at hc
   · omega
   · omega
 have htl := trimD_len ds
 have htl2 := trimD_len es
 refine st_skipc <| sR <| sm rfl rfl <| ?_
 refine sc (ch_call rfl rfl (nat_trim hx (by omega)) rfl ?_)
 rintro _ G2 _ rfl
 refine sm rfl rfl <| ?_
 refine sc (ch_call rfl rfl (nat_trim hy (by omega)) rfl ?_)
 rintro _ G3 _ rfl
 have hl : (trimD es).length ≤ (trimD ds).length := by
   rcases Nat.lt_or_ge (trimD ds).length (trimD es).length with h | h
   · have := dv_len_lt hx.ok.trimD (Nrm.trimD es) h
     rw [dv_trimD, dv_trimD] at this; omega
   · exact h
 refine sc (ch_call rfl rfl (nat_less (kk := kk) hx.trim hy.trim hl (by rw [dv_trimD, dv_trimD]; exact hge) (by rw [dv_trimD]; exact hk) (by omega)) rfl ?_)
 rintro _ G4 _ ⟨z, rfl, hz⟩
 refine sa rfl rfl <| sa rfl rfl <| st_end <| st_ret <| ?_
 refine st_done (.tmp rfl (.tmp rfl .nil)) ⟨z, by simp [tupled, hge], ?_⟩
 rw [dv_trimD, dv_trimD] at hz
 exact hz
end Go.Sx
end

section
set_option maxRecDepth 100000
namespace Go.Sx
open Go Go.Proofs
structure NatMulO where
 ws : List Nat
 i : Nat
structure NatMulI where
 ws : List Nat
 k : Nat
 c : Nat
theorem mul_c {x y w c : Nat} (hx : x < 4294967296) (hy : y < 4294967296) (hw : w < 4294967296) (hc : c < 4294967296) : c + x * y + w < 18446744073709551616 := by
 have : x * y ≤ 4294967295 * 4294967295 := Nat.mul_le_mul (by omega) (by omega)
 omega
theorem set_getD {ws : List Nat} {i j d : Nat} (h : i ≠ j) : (ws.set i d).getD j 0 = ws.getD j 0 := by
 rw [List.getD_eq_getElem?_getD, List.getD_eq_getElem?_getD, List.getElem?_set_ne h]
set_option maxHeartbeats 1000000 in
theorem nat_Mul {A B G : Gh} {x y : SV} {ds es : List Nat} {kk : Nat} (hx : IsD A x ds) (hy : IsD B y es) [GL A G] [GL B G] (hk : dv ds * dv es < 2 ^ kk) (hb : ds.length ≤ 562949953421) (hb2 : es.length ≤ 562949953421) :
   Fn Tryz.prog 143 [x.v, y.v] G (fun v G' => ∃ z : SV, v = z.v ∧ IsN kk G' z (dv ds * dv es)) := by
 have htl := trimD_len ds
 have htl2 := trimD_len es
 have hcall := fun G1 (_ : GL A G1) => nat_trim (G := G1) hx (by omega)
 have hcall2 := fun G1 (_ : GL B G1) => nat_trim (G := G1) hy (by omega)
 have hxt := hx.trim
 have hyt := hy.trim
 rw [← dv_trimD ds, ← dv_trimD es] at hk ⊢
 generalize trimD ds = a at *
 generalize trimD es = b at *
 have hok := hxt.ok
 have hok2 := hyt.ok
 refine Fn.intro Tryz.func143 rfl rfl Tryz.ntmps143 rfl ?_
 intro C _ _
 refine sR <| sa rfl rfl <| st_end <| sR <| sm rfl rfl <| ?_
 refine sc (ch_call rfl rfl (hcall _ inferInstance) rfl ?_)
 rintro _ G1 _ rfl
 refine sm rfl rfl <| ?_
 refine sc (ch_call rfl rfl (hcall2 _ inferInstance) rfl ?_)
 rintro _ G2 _ rfl
 refine sa rfl rfl <| sa rfl rfl <| st_end <| sR <| sm rfl rfl <| slen rfl rfl <| sm rfl rfl <| slen rfl rfl <| sy (yd_add64 rfl rfl) rfl <| ?_
 refine sc (ch_make rfl rfl (by omega) (by omega) (by omega) (by rfl) rfl ?_)
 intro b3
 rw [zeros_dI, show ((a.length : Int) + (b.length : Int)).toNat = a.length + b.length by omega]
 refine sa rfl rfl <| st_end <| st_seq <| sR <| sm rfl rfl <| slen rfl rfl <| sm rfl rfl <| st_end <| st_block <| ?_
 refine st_loop (X := NatMulO) (fun q => [(23, .int .i64 q.i), (22, .int .i64 a.length), (21, .slice x.a a.length x.c), (1, .slice y.a b.length y.c), (5, .slice (some ⟨b3, 0, none⟩) (a.length + b.length) (a.length + b.length))])
   (fun q => [⟨b3, q.ws.map dI, 224, true⟩])
   (fun q _ => q.i ≤ a.length ∧ q.ws.length = a.length + b.length ∧ DOk q.ws ∧ (∀ j, q.i + b.length ≤ j → q.ws.getD j 0 = 0) ∧ dv q.ws = dv (a.take q.i) * dv b) (fun q => a.length - q.i) ⟨List.replicate (a.length + b.length) 0, 0⟩
   ⟨Nat.zero_le _, by simp, .replicate _, fun j _ => getD_rep _ _, by simp [dv, dv_replicate]⟩ (.cons rfl (.cons rfl (.cons rfl (.cons rfl (.cons rfl .nil))))) rfl ?_
 rintro ⟨ws, i⟩ Gy _ ⟨hia, hwl, hwo, hz, hinv⟩
 simp only [] at hia hwl hwo hz hinv ⊢
 refine sR <| sy (yd_lss rfl rfl) rfl <| st_end <| st_seq <| ?_
 refine st_condE rfl (fun hc => ?_) (fun hc => ?_) -- slot 24
 · have hin : i = a.length := by omega
   refine st_exit <| st_te <| st_te <| st_inBlock_eq <| sR <| sm rfl rfl <| ?_
   refine st_freeze b3 (.hd ..) (fun G3 _ hgb => ?_)
   have hD : IsD G3 ⟨some ⟨b3, 0, none⟩, a.length + b.length, a.length + b.length⟩ ws := .of_block hwo hgb.h hwl.symm (Nat.le_refl _) (by rw [List.take_of_length_le (by simp)])
   have hdv : dv ws = dv a * dv b := by rw [hinv, hin, List.take_of_length_le (Nat.le_refl _)]
   refine sc (ch_call rfl rfl (nat_trim hD (by omega)) rfl ?_)
   rintro _ G4 _ rfl
   refine sa rfl rfl <| st_end <| st_ret <| ?_
   refine st_done (.tmp rfl .nil) ⟨⟨some ⟨b3, 0, none⟩, (trimD ws).length, a.length + b.length⟩, rfl, ?_⟩
   have h3 := hD.trim.up (G := G4)
   rw [← hdv] at hk ⊢
   exact ⟨by rw [dg_trim hwo]; exact h3, hk⟩
 have hia' : i < a.length := by omega
 have hga := hok.get i
 refine st_skipc <| st_seq <| st_block <| sR <| sm rfl rfl <| sy (yd_ixD (z := ⟨x.a, a.length, x.c⟩) hxt rfl rfl (by omega) (by show (i : Int) < (a.length : Nat); omega)) rfl <| sy (yd_ldD hxt rfl (by omega)) rfl <| sa rfl rfl <| sa rfl rfl <| st_end <| st_seq <| ?_
 rw [Int.toNat_natCast]
 refine st_region <| sa rfl rfl <| st_end <| st_seq <| sR <| sm rfl rfl <| slen rfl rfl <| sm rfl rfl <| st_end <| st_block <| ?_
 refine st_loop (X := NatMulI) (fun q => [(30, .int .i64 q.k), (29, .int .i64 b.length), (28, .slice y.a b.length y.c), (8, .int .u64 q.c), (7, .int .u32 ((a.getD i 0 : Nat) : Int)), (5, .slice (some ⟨b3, 0, none⟩) (a.length + b.length) (a.length + b.length)), (6, .int .i64 i), (23, .int .i64 i), (22, .int .i64 a.length), (21, .slice x.a a.length x.c), (1, .slice y.a b.length y.c)])
   (fun q => [⟨b3, q.ws.map dI, 224, true⟩])
   (fun q _ => q.k ≤ b.length ∧ q.ws.length = a.length + b.length ∧ DOk q.ws ∧ q.c < 4294967296 ∧ (∀ j, i + b.length ≤ j → q.ws.getD j 0 = 0) ∧ dv q.ws + 4294967296 ^ (i + q.k) * q.c = dv (a.take i) * dv b + 4294967296 ^ i * (a.getD i 0 * dv (b.take q.k))) (fun q => b.length - q.k) ⟨ws, 0, 0⟩
   ⟨Nat.zero_le _, hwl, hwo, Nat.zero_lt_succ _, hz, by simp [dv, hinv]⟩ (.cons rfl (.cons rfl (.cons rfl (.cons rfl (.cons rfl (.cons rfl (.cons rfl (.cons rfl (.cons rfl (.cons rfl (.cons rfl .nil))))))))))) rfl ?_
 clear hz hwl hwo hinv ws
 rintro ⟨ws, k, c⟩ Gz _ ⟨hkb, hwl, hwo, hcc, hz, hinv⟩
 simp only [] at hkb hwl hwo hcc hz hinv ⊢
 refine sR <| sy (yd_lss rfl rfl) rfl <| st_end <| st_seq <| ?_
 refine st_condE rfl (fun hc2 => ?_) (fun hc2 => ?_) -- slot 31
 · have hkn : k = b.length := by omega
   have e1 : ((i : Int) + (b.length : Int)).toNat = i + b.length := by omega
   refine st_exit <| st_te <| st_te <| st_inBlock_eq <| st_region <| sm rfl rfl <| sm rfl rfl <| sm rfl rfl <| slen rfl rfl <| sy (yd_add64 rfl rfl) rfl <| sm rfl rfl <| sy (yd_toU32 rfl) rfl <| ?_
   refine sy (yd_ixO rfl rfl (by omega) (by omega)) rfl <| ?_
   rw [e1]
   refine sc (ch_storeD (d := c) rfl rfl (by omega) (.hd ..) (by omega) rfl ?_)
   refine st_end <| st_region <| sy (yd_add64 rfl rfl) rfl <| sm rfl rfl <| st_end <| ?_
   refine st_again ⟨ws.set (i + b.length) c, i + 1⟩ ⟨by show i + 1 ≤ _; omega, by simp [hwl], hwo.set _ hcc, fun j hj => ?_, ?_⟩ (by show a.length - (i + 1) < a.length - i; omega) (.cons rfl (.cons rfl (.cons rfl (.cons rfl (.cons rfl .nil))))) rfl
   · have hj' : i + 1 + b.length ≤ j := hj
     show (ws.set (i + b.length) c).getD j 0 = 0
     rw [set_getD (by omega)]; exact hz j (by omega)
   · show dv (ws.set (i + b.length) c) = dv (a.take (i + 1)) * dv b
     have h1 := dv_set ws (i + b.length) c (by omega)
     rw [hz (i + b.length) (Nat.le_refl _), Nat.mul_zero, Nat.add_zero] at h1
     rw [h1, ← hkn, hinv, hkn, List.take_of_length_le (Nat.le_refl _), dv_take_succ, Nat.add_mul, Nat.mul_assoc]
 have hkb' : k < b.length := by omega
 have hgb := hok2.get k
 have hgw := hwo.get (i + k)
 have hm := mul_c hga hgb hgw hcc
 have e1 : ((i : Int) + (k : Int)).toNat = i + k := by omega
 have e2 : ((a.getD i 0 : Nat) : Int) * ((b.getD k 0 : Nat) : Int) = ((a.getD i 0 * b.getD k 0 : Nat) : Int) := by rw [Int.natCast_mul]
 refine st_skipc <| st_seq <| st_block <| sR <| sm rfl rfl <| sy (yd_ixD (z := ⟨y.a, b.length, y.c⟩) hyt rfl rfl (by omega) (by show (k : Int) < (b.length : Nat); omega)) rfl <| sy (yd_ldD hyt rfl (by omega)) rfl <| sa rfl rfl <| sa rfl rfl <| st_end <| st_seq <| ?_
 rw [Int.toNat_natCast]
 refine st_region <| sm rfl rfl <| sm rfl rfl <| sy (yd_toU64 rfl) rfl <| sm rfl rfl <| sy (yd_toU64 rfl) rfl <| sy (yd_mulU rfl rfl (by rw [e2]; omega) (by rw [e2]; omega)) rfl <| ?_
 rw [e2]
 refine sm rfl rfl <| sm rfl rfl <| sm rfl rfl <| sy (yd_add64 rfl rfl) rfl <| sy (yd_ixO rfl rfl (by omega) (by omega)) rfl <| ?_
 rw [e1]
 refine sy (yd_ldO rfl (by omega)) rfl <| sy (yd_toU64 rfl) rfl <| ?_
 refine sy (yd_addU rfl rfl) rfl <| sy (yd_addU rfl rfl) rfl <| sa rfl rfl <| st_end <| sR <| sm rfl rfl <| sm rfl rfl <| sm rfl rfl <| ?_
 rw [show (c : Int) + (((a.getD i 0 * b.getD k 0 : Nat) : Int) + ((ws.getD (i + k) 0 : Nat) : Int)) = ((c + a.getD i 0 * b.getD k 0 + ws.getD (i + k) 0 : Nat) : Int) by omega]
 generalize hcc2 : c + a.getD i 0 * b.getD k 0 + ws.getD (i + k) 0 = cc
 rw [hcc2] at hm
 refine sy (yd_add64 rfl rfl) rfl <| sm rfl rfl <| sy (yd_toU32 rfl) rfl <| sy (yd_ixO rfl rfl (by omega) (by omega)) rfl <| ?_
 rw [e1]
 refine sc (ch_storeD (d := cc % 4294967296) rfl rfl (by omega) (.hd ..) (by omega) rfl ?_)
 refine st_end <| st_region <| sm rfl rfl <| sy (yd_shr rfl rfl (by decide)) rfl <| sa rfl rfl <| st_end <| st_region <| sy (yd_add64 rfl rfl) rfl <| sm rfl rfl <| st_end <| ?_
 rw [shr32]
 refine st_again ⟨ws.set (i + k) (cc % 4294967296), k + 1, cc / 4294967296⟩ ⟨by show k + 1 ≤ _; omega, by simp [hwl], hwo.set _ (by omega), by show cc / 4294967296 < _; omega, fun j hj => ?_, ?_⟩ (by show b.length - (k + 1) < b.length - k; omega) (.cons rfl (.cons rfl (.cons rfl (.cons rfl (.cons rfl (.cons rfl (.cons rfl (.cons rfl (.cons rfl (.cons rfl (.cons rfl .nil))))))))))) rfl
 · show (ws.set (i + k) (cc % 4294967296)).getD j 0 = 0
   rw [set_getD (by omega)]; exact hz j hj
 · show dv (ws.set (i + k) (cc % 4294967296)) + 4294967296 ^ (i + (k + 1)) * (cc / 4294967296) = dv (a.take i) * dv b + 4294967296 ^ i * (a.getD i 0 * dv (b.take (k + 1)))
   have h1 := dv_set ws (i + k) (cc % 4294967296) (by omega)
   rw [← hcc2] at h1 ⊢
   have h2 := mul_step h1 hinv
   rw [← Nat.add_assoc, Nat.pow_succ, h2, dv_take_succ, Nat.mul_add, Nat.mul_add, Nat.pow_add]
   have : 4294967296 ^ i * (a.getD i 0 * (4294967296 ^ k * b.getD k 0)) = 4294967296 ^ i * 4294967296 ^ k * (a.getD i 0 * b.getD k 0) := by
     rw [Nat.mul_left_comm (a.getD i 0), ← Nat.mul_assoc]
   rw [this, Nat.add_assoc]
end Go.Sx
end
