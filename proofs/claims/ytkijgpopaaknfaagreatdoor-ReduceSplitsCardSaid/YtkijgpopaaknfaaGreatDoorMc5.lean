/-
  Integers, calls, allocs, stores and rows over deep values. Regions that draw their order, over deep values. Rows handed over to calls and back, over deep values.
-/
import Derived.Test.YtkijgpopaaknfaaGreatDoorMc4
set_option linter.unusedSimpArgs false
set_option linter.unusedVariables false
section
set_option maxRecDepth 100000
namespace Go.Sx
open Go
section
variable {P : Program} {GB : Gh} {C : Ctx} {n : Nat} {E : Ext} {fr fr' : FrF} {own own' : List OwnD} {bs bs' bs1 : List BufD} {ops : Array Oper} {Q : Exit → Act → World → Prop} {r : List Oper} {Φ : Act → World → Prop}
variable {dst : Option Nat} {t t' ty' : TypeId} {pos : String} {af : Array Edge} {gd : Option (Nat × Bool)} {x y z : Operand} {e s by_ : Nat}
/-! integers and bools -/
theorem yq_add64 {p q : Int} (hx : opF fr x = some (.d (.v (.int .i64 p)))) (hy : opF fr y = some (.d (.v (.int .i64 q)))) (h0 : -9223372036854775808 ≤ p + q := by omega) (h1 : p + q ≤ 9223372036854775807 := by omega) : YD P GB C fr own bs ⟨dst, .binOp .add t x y t', ty', pos, af, gd⟩ (.d (.v (.int .i64 (p + q)))) := .of2 hx hy fun a b => yd_add64 a b h0 h1
theorem yq_addU {p q : Int} (hx : opF fr x = some (.d (.v (.int .u64 p)))) (hy : opF fr y = some (.d (.v (.int .u64 q)))) (h0 : 0 ≤ p + q := by omega) (h1 : p + q ≤ 18446744073709551615 := by omega) : YD P GB C fr own bs ⟨dst, .binOp .add t x y t', ty', pos, af, gd⟩ (.d (.v (.int .u64 (p + q)))) := .of2 hx hy fun a b => yd_addU a b h0 h1
theorem yq_sub64 {p q : Int} (hx : opF fr x = some (.d (.v (.int .i64 p)))) (hy : opF fr y = some (.d (.v (.int .i64 q)))) (h0 : -9223372036854775808 ≤ p - q := by omega) (h1 : p - q ≤ 9223372036854775807 := by omega) : YD P GB C fr own bs ⟨dst, .binOp .sub t x y t', ty', pos, af, gd⟩ (.d (.v (.int .i64 (p - q)))) := .of2 hx hy fun a b => yd_sub64 a b h0 h1
theorem yq_subU {p q : Int} (hx : opF fr x = some (.d (.v (.int .u64 p)))) (hy : opF fr y = some (.d (.v (.int .u64 q)))) (h0 : 0 ≤ p - q) (h1 : p - q ≤ 18446744073709551615) : YD P GB C fr own bs ⟨dst, .binOp .sub t x y t', ty', pos, af, gd⟩ (.d (.v (.int .u64 (p - q)))) := .of2 hx hy fun a b => yd_subU a b h0 h1
theorem yq_subw {k : IntKind} {p q : Int} (hx : opF fr x = some (.d (.v (.int k p)))) (hy : opF fr y = some (.d (.v (.int k q)))) : YD P GB C fr own bs ⟨dst, .binOp .sub t x y t', ty', pos, af, gd⟩ (.d (.v (.int k (k.wrap (p - q))))) := .of2 hx hy fun a b => yd_subw a b
theorem yq_mul64 {p q : Int} (hx : opF fr x = some (.d (.v (.int .i64 p)))) (hy : opF fr y = some (.d (.v (.int .i64 q)))) (h0 : -9223372036854775808 ≤ p * q) (h1 : p * q ≤ 9223372036854775807) : YD P GB C fr own bs ⟨dst, .binOp .mul t x y t', ty', pos, af, gd⟩ (.d (.v (.int .i64 (p * q)))) := .of2 hx hy fun a b => yd_mul64 a b h0 h1
theorem yq_mulU {p q : Int} (hx : opF fr x = some (.d (.v (.int .u64 p)))) (hy : opF fr y = some (.d (.v (.int .u64 q)))) (h0 : 0 ≤ p * q) (h1 : p * q ≤ 18446744073709551615) : YD P GB C fr own bs ⟨dst, .binOp .mul t x y t', ty', pos, af, gd⟩ (.d (.v (.int .u64 (p * q)))) := .of2 hx hy fun a b => yd_mulU a b h0 h1
theorem yq_lss {k : IntKind} {p q : Int} (hx : opF fr x = some (.d (.v (.int k p)))) (hy : opF fr y = some (.d (.v (.int k q)))) : YD P GB C fr own bs ⟨dst, .binOp .lss t x y t', ty', pos, af, gd⟩ (.d (.v (.bool (decide (p < q))))) := .of2 hx hy fun a b => yd_lss a b
theorem yq_leq {k : IntKind} {p q : Int} (hx : opF fr x = some (.d (.v (.int k p)))) (hy : opF fr y = some (.d (.v (.int k q)))) : YD P GB C fr own bs ⟨dst, .binOp .leq t x y t', ty', pos, af, gd⟩ (.d (.v (.bool (decide (p ≤ q))))) := .of2 hx hy fun a b => yd_leq a b
theorem yq_gtr {k : IntKind} {p q : Int} (hx : opF fr x = some (.d (.v (.int k p)))) (hy : opF fr y = some (.d (.v (.int k q)))) : YD P GB C fr own bs ⟨dst, .binOp .gtr t x y t', ty', pos, af, gd⟩ (.d (.v (.bool (decide (q < p))))) := .of2 hx hy fun a b => yd_gtr a b
theorem yq_geq {k : IntKind} {p q : Int} (hx : opF fr x = some (.d (.v (.int k p)))) (hy : opF fr y = some (.d (.v (.int k q)))) : YD P GB C fr own bs ⟨dst, .binOp .geq t x y t', ty', pos, af, gd⟩ (.d (.v (.bool (decide (q ≤ p))))) := .of2 hx hy fun a b => yd_geq a b
theorem yq_eql {k : IntKind} {p q : Int} (hx : opF fr x = some (.d (.v (.int k p)))) (hy : opF fr y = some (.d (.v (.int k q)))) : YD P GB C fr own bs ⟨dst, .binOp .eql t x y t', ty', pos, af, gd⟩ (.d (.v (.bool (decide (p = q))))) := .of2 hx hy fun a b => yd_eql a b
theorem yq_neq {k : IntKind} {p q : Int} (hx : opF fr x = some (.d (.v (.int k p)))) (hy : opF fr y = some (.d (.v (.int k q)))) : YD P GB C fr own bs ⟨dst, .binOp .neq t x y t', ty', pos, af, gd⟩ (.d (.v (.bool (decide (p ≠ q))))) := .of2 hx hy fun a b => yd_neq a b
theorem yq_quow {k : IntKind} {p q : Int} (hx : opF fr x = some (.d (.v (.int k p)))) (hy : opF fr y = some (.d (.v (.int k q)))) (h : q ≠ 0) : YD P GB C fr own bs ⟨dst, .binOp .quo t x y t', ty', pos, af, gd⟩ (.d (.v (.int k (k.wrap (p.tdiv q))))) := .of2 hx hy fun a b => yd_quow a b h
theorem yq_rem {k : IntKind} {p q : Int} (hx : opF fr x = some (.d (.v (.int k p)))) (hy : opF fr y = some (.d (.v (.int k q)))) (h : q ≠ 0) : YD P GB C fr own bs ⟨dst, .binOp .rem t x y t', ty', pos, af, gd⟩ (.d (.v (.int k (p.tmod q)))) := .of2 hx hy fun a b => yd_rem a b h
theorem yq_remU {k : IntKind} {p q : Int} (hx : opF fr x = some (.d (.v (.int k p)))) (hy : opF fr y = some (.d (.v (.int k q)))) (h0 : 0 ≤ p) (h : q ≠ 0) : YD P GB C fr own bs ⟨dst, .binOp .rem t x y t', ty', pos, af, gd⟩ (.d (.v (.int k (p % q)))) := .of2 hx hy fun a b => yd_remU a b h0 h
theorem yq_quoU {p q : Int} (hx : opF fr x = some (.d (.v (.int .u64 p)))) (hy : opF fr y = some (.d (.v (.int .u64 q)))) (h0 : 0 ≤ p) (h1 : p ≤ 18446744073709551615) (h : 0 < q) : YD P GB C fr own bs ⟨dst, .binOp .quo t x y t', ty', pos, af, gd⟩ (.d (.v (.int .u64 (p / q)))) := .of2 hx hy fun a b => yd_quoU a b h0 h1 h
theorem yq_shr {k k' : IntKind} {p q : Int} (hx : opF fr x = some (.d (.v (.int k p)))) (hy : opF fr y = some (.d (.v (.int k' q)))) (h0 : 0 ≤ q) : YD P GB C fr own bs ⟨dst, .binOp .shr t x y t', ty', pos, af, gd⟩ (.d (.v (.int k (p.fdiv (2 ^ min q.toNat k.bits))))) := .of2 hx hy fun a b => yd_shr a b h0
theorem yq_shl {k k' : IntKind} {p q : Int} (hx : opF fr x = some (.d (.v (.int k p)))) (hy : opF fr y = some (.d (.v (.int k' q)))) (h0 : 0 ≤ q) : YD P GB C fr own bs ⟨dst, .binOp .shl t x y t', ty', pos, af, gd⟩ (.d (.v (.int k (k.wrap (p * 2 ^ min q.toNat k.bits))))) := .of2 hx hy fun a b => yd_shl a b h0
theorem yq_eqB [hT : TyB P t] {p q : Bool} (hx : opF fr x = some (.d (.v (.bool p)))) (hy : opF fr y = some (.d (.v (.bool q)))) : YD P GB C fr own bs ⟨dst, .binOp .eql t x y t', ty', pos, af, gd⟩ (.d (.v (.bool (p == q)))) := .of2 hx hy fun a b => yd_eqB a b
theorem yq_neB [hT : TyB P t] {p q : Bool} (hx : opF fr x = some (.d (.v (.bool p)))) (hy : opF fr y = some (.d (.v (.bool q)))) : YD P GB C fr own bs ⟨dst, .binOp .neq t x y t', ty', pos, af, gd⟩ (.d (.v (.bool (!(p == q))))) := .of2 hx hy fun a b => yd_neB a b
theorem yq_toU64 {k : IntKind} {p : Int} [hs : TyI P t k] [hd : TyI P t' .u64] (hx : opF fr x = some (.d (.v (.int k p)))) (h0 : 0 ≤ p := by omega) (h1 : p ≤ 18446744073709551615 := by omega) : YD P GB C fr own bs ⟨dst, .convert t t' x, ty', pos, af, gd⟩ (.d (.v (.int .u64 (p)))) := .of1 hx fun a => yd_toU64 a h0 h1
theorem yq_toU32 {k : IntKind} {p : Int} [hs : TyI P t k] [hd : TyI P t' .u32] (hx : opF fr x = some (.d (.v (.int k p)))) : YD P GB C fr own bs ⟨dst, .convert t t' x, ty', pos, af, gd⟩ (.d (.v (.int .u32 (p % 4294967296)))) := .of1 hx fun a => yd_toU32 a
theorem yq_conv {k k' : IntKind} {p : Int} [hs : TyI P t k] [hd : TyI P t' k'] (hx : opF fr x = some (.d (.v (.int k p)))) : YD P GB C fr own bs ⟨dst, .convert t t' x, ty', pos, af, gd⟩ (.d (.v (.int k' (k'.wrap p)))) := .of1 hx fun a => yd_conv a
theorem yq_not {b : Bool} (hx : opF fr x = some (.d (.v (.bool b)))) : YD P GB C fr own bs ⟨dst, .unOp .not t x, ty', pos, af, gd⟩ (.d (.v (.bool (!b)))) := .of1 hx fun a => yd_not a
theorem yq_neg {k : IntKind} {p : Int} (hx : opF fr x = some (.d (.v (.int k p)))) : YD P GB C fr own bs ⟨dst, .unOp .neg t x, ty', pos, af, gd⟩ (.d (.v (.int k (k.wrap (0 - p))))) := .of1 hx fun a => yd_neg a
theorem yq_neg64 {p : Int} (hx : opF fr x = some (.d (.v (.int .i64 p)))) (h0 : -9223372036854775807 ≤ p) (h1 : p ≤ 9223372036854775807) : YD P GB C fr own bs ⟨dst, .unOp .neg t x, ty', pos, af, gd⟩ (.d (.v (.int .i64 (-p)))) := .of1 hx fun a => by
 have := yd_neg (P := P) (C := C) (own := ‹_›) (G := ‹_›) (dst := dst) (ty' := ty') (pos := pos) (af := af) (gd := gd) (t := t) a
 rw [wrap_in (by simp only [IntKind.min, IntKind.max, IntKind.bits, IntKind.signed]; simp; omega)] at this
 rwa [Int.zero_sub] at this
theorem yq_eqN0 [hT : TyIf P t] (hx : opF fr x = some (.d (.v .nilIface))) : YD P GB C fr own bs ⟨dst, .binOp .eql t x (.const .nilIface) t', ty', pos, af, gd⟩ (.d (.v (.bool true))) := .of1 hx fun a => yd_eqN (.inl rfl) a
/-! calls -/
theorem td_call {f : FuncId} {fo : Operand} {args : Array Operand} {tys : Array TypeId} {ds : List DV} {r : DV} (ho : opF fr fo = some (.d (.v (.func (.func f) #[] #[])))) (hv : opFs fr args.toList = some ds) (hF : PF GB P f ds r) (hd : dstOk n dst = true) :
  TD P GB C n fr own bs ⟨dst, .call ⟨.value fo, args, tys⟩, ty', pos, af, gd⟩ (putF fr dst (.d r)) own bs := by
 intro GB' E Φ hgb h G frv ov s
 obtain ⟨vs, h1, h2⟩ := s.fr.ops hv
 refine ch_call (opv_app (s.fr.opv ho)) (opvs_app h1) (hF G vs (hgb.trans s.gb) h2) hd ?_
 intro v G' hG hK
 rw [put_app]
 exact h G' _ ov ⟨s.gb.trans hG.le, (s.fr.up hG.le).put (f := .d r) hK _, s.ob.up hG.le⟩
/-! variables -/
theorem tf_alloc {z : Value} {cs : List DV} [hz : TyZD P t z cs] (hd : dstOk n dst = true) : TF P GB C n fr own bs ⟨dst, .alloc t, ty', pos, af, gd⟩ Nat (fun b => putF fr dst (.d (.v (.pointer (some ⟨b, 0, none⟩))))) (fun b => ⟨b, cs, t, true⟩ :: own) (fun _ => bs) := by
 intro GB' E Φ hgb h G frv ov s
 have hz1 := hz.tz
 have hz2 := hz.iz
 obtain ⟨p, q, rfl, hp, hq⟩ := s.ob
 refine ch_alloc hd fun b => ?_
 rw [put_app]
 exact h b G _ (⟨b, cellsL z, t, true⟩ :: (p ++ q)) ⟨s.gb, s.fr.put (isF_v.2 rfl) _, ⟨b, cellsL z, t, true⟩ :: p, q, rfl, ⟨_, _, rfl, hz2.up (GLe.bot G), hp⟩, hq⟩
theorem tf_box {d : DV} (hx : opD fr x = some d) (hc : d.okc = true) (hd : dstOk n dst = true) : TF P GB C n fr own bs ⟨dst, .box t x, ty', pos, af, gd⟩ Nat (fun b => putF fr dst (.d (.v (.pointer (some ⟨b, 0, none⟩))))) (fun b => ⟨b, d.cells, t, true⟩ :: own) (fun _ => bs) := by
 intro GB' E Φ hgb h G frv ov s
 obtain ⟨u, h1, h2⟩ := s.fr.opD hx
 obtain ⟨p, q, rfl, hp, hq⟩ := s.ob
 refine ch_box (opv_app h1) hd fun b => ?_
 rw [put_app]
 exact h b G _ (⟨b, cellsL u, t, true⟩ :: (p ++ q)) ⟨s.gb, s.fr.put (isF_v.2 rfl) _, ⟨b, cellsL u, t, true⟩ :: p, q, rfl, ⟨_, _, rfl, (h2.cells hc).1, hp⟩, hq⟩
theorem OUpd.app {own own' : List Own} {b : Nat} {cs cs' : List Value} {ty : TypeId} {lo : Bool} (h : OUpd own b cs ty lo cs' own') (x : List Own) : OUpd (own ++ x) b cs ty lo cs' (own' ++ x) := by
 induction h with
 | hd => exact .hd ..
 | tl o t t' b cs cs' ty lo h ih => exact .tl _ _ _ _ _ _ _ _ ih
theorem td_store {d : DV} {b off k : Nat} {cs cs' : List DV} {ty : TypeId} {lo : Bool} (hx : opF fr x = some (.d (.v (.pointer (some ⟨b, off, none⟩))))) (hy : opD fr y = some d) [hs : TyA P t k] [ho : OAtD own b cs ty lo]
  (hc : ovD cs off d.cells = cs') (hu : OUpdD own b cs ty lo cs' own') (hk : Nat.beq d.cells.length k = true) (hl : Nat.ble (off + k) cs.length = true) (hf : d.okc = true) (hd : dstOk n dst = true) :
  TD P GB C n fr own bs ⟨dst, .store t x y, ty', pos, af, gd⟩ (putF fr dst (.d (.v undef))) own' bs := by
 intro GB' E Φ hgb h G frv ov s
 obtain ⟨u, h1, h2⟩ := s.fr.opD hy
 obtain ⟨p, q, rfl, hp, hq⟩ := s.ob
 obtain ⟨m, a1, a2, rfl, hm, hkk⟩ := hu.lens hp
 obtain ⟨c1, c2⟩ := h2.cells hf
 replace hk := Nat.eq_of_beq_eq_true hk
 rw [Nat.ble_eq] at hl
 subst hc
 refine ch_store (cs := m) (own' := ((a1 ++ ⟨b, ovw m off (cellsL u), ty, lo⟩ :: a2) ++ q) ++ E.own) (opv_app (s.fr.opv hx)) (opv_app h1) (((OUpd.mid a1).app q).app E.own) (by rw [c1.len, hk]) (by rw [hm.len]; exact hl) (by rw [List.all_eq_true]; exact c2) hd ?_
 rw [put_app]
 exact h G _ _ ⟨s.gb, s.fr.put (isF_v.2 rfl) _, _, _, rfl, hkk G _ (GLe.refl _) (hm.ov c1), hq⟩
theorem tdS {d : DV} {b off k : Nat} {cs cs' : List DV} {ty : TypeId} {lo : Bool} (hx : opF fr x = some (.d (.v (.pointer (some ⟨b, off, none⟩))))) (hy : opD fr y = some d) [hs : TyA P t k] [ho : OAtD own b cs ty lo]
  (hk : Nat.beq d.cells.length k = true) (hl : Nat.ble (off + k) cs.length = true) (hf : d.okc = true) (hd : dstOk n dst = true)
  (hc : ovD cs off d.cells = cs' := by first | (dsimp only [DV.cells, ovD, List.set_cons_zero, List.set_cons_succ, Nat.reduceAdd, List.drop_succ_cons, List.drop_zero]; done) | exact rfl) (hu : OUpdD own b cs ty lo cs' own' := by repeat (first | exact .hd .. | apply OUpdD.tl)) :
  TD P GB C n fr own bs ⟨dst, .store t x y, ty', pos, af, gd⟩ (putF fr dst (.d (.v undef))) own' bs := td_store hx hy hc hu hk hl hf hd
theorem td_store1 {d : DV} {b off : Nat} {cs cs' : List DV} {ty : TypeId} {lo : Bool} (hx : opF fr x = some (.d (.v (.pointer (some ⟨b, off, none⟩))))) (hy : opD fr y = some d) [hs : TyS P t] [ho : OAtD own b cs ty lo]
  (hc : cs.set off d = cs') (hu : OUpdD own b cs ty lo cs' own') (hl : Nat.blt off cs.length = true) (hf : d.flat = true) (hd : dstOk n dst = true) :
  TD P GB C n fr own bs ⟨dst, .store t x y, ty', pos, af, gd⟩ (putF fr dst (.d (.v undef))) own' bs := by
 intro GB' E Φ hgb h G frv ov s
 obtain ⟨u, h1, h2⟩ := s.fr.opD hy
 obtain ⟨p, q, rfl, hp, hq⟩ := s.ob
 obtain ⟨m, a1, a2, rfl, hm, hkk⟩ := hu.lens hp
 have c2 := h2.flat hf
 rw [Nat.blt_eq] at hl
 subst hc
 refine ch_store1 (cs := m) (own' := ((a1 ++ ⟨b, m.set off u, ty, lo⟩ :: a2) ++ q) ++ E.own) (opv_app (s.fr.opv hx)) (opv_app h1) (((OUpd.mid a1).app q).app E.own) (by rw [hm.len]; exact hl) c2 hd ?_
 rw [put_app]
 exact h G _ _ ⟨s.gb, s.fr.put (isF_v.2 rfl) _, _, _, rfl, hkk G _ (GLe.refl _) (hm.set off h2), hq⟩
/-! rows -/
class TyZE (P : Program) (t : TypeId) (d : outParam DV) : Prop where
 z : ∃ z, TyZ P t z ∧ Is (fun _ => none) d z ∧ d.okc = true
abbrev SV.f (w : SV) : FV := .d (.v (.slice w.a w.n w.c))
theorem flatL_replicate (z : Value) (k : Nat) : flatL (List.replicate k z) = zeros z k := by unfold flatL zeros; rw [List.map_replicate]
theorem isL_replicate {G : Gh} {d : DV} {y : Value} (h : Is G d y) : ∀ k : Nat, IsLs G (List.replicate k d) (List.replicate k y)
 | 0 => .nil
 | k + 1 => .cons h (isL_replicate h k)
theorem tf_make [hT : TySl P t e s by_] {d : DV} [hz : TyZE P e d] {k k' : IntKind} {l : Int} (hx : opF fr x = some (.d (.v (.int k l)))) (hy : opF fr y = some (.d (.v (.int k' l)))) (h0 : 0 ≤ l) (hb : by_ * l ≤ 2 ^ 47) (hl : l ≤ 2 ^ 60) (hs : Nat.beq d.cells.length s = true) (hd : dstOk n dst = true) :
   TF P GB C n fr own bs ⟨dst, .makeSlice t x y, ty', pos, af, gd⟩ SV (fun w => putF fr dst w.f) (fun _ => own) (fun w => ⟨w, s, e, List.replicate l.toNat d, true⟩ :: bs) := by
 intro GB' E Φ hgb h G frv ov st
 obtain ⟨z, hz1, hz2, hz3⟩ := hz.z
 obtain ⟨p, q, rfl, hp, hq⟩ := st.ob
 have c1 := (hz2.cells hz3).1.len
 replace hs := Nat.eq_of_beq_eq_true hs
 refine ch_make (opv_app (st.fr.opv hx)) (opv_app (st.fr.opv hy)) h0 hb hl (by rw [c1, hs]) hd fun b => ?_
 rw [put_app]
 refine st_perm ((p ++ ([⟨b, zeros z l.toNat, e, true⟩] ++ q)) ++ E.own) ?_ (h ⟨some ⟨b, 0, none⟩, l.toNat, l.toNat⟩ G _ _ ⟨st.gb, st.fr.put (isF_v.2 rfl) _, p, _, rfl, hp, ?_⟩)
 · simp only [List.append_assoc, List.cons_append, List.nil_append]
   exact List.perm_middle.symm
 · have e1 : ∀ v ∈ List.replicate l.toNat z, (cellsL v).length = s := fun v hv => by rw [List.eq_of_mem_replicate hv, c1, hs]
   refine ⟨_, _, rfl, ⟨List.replicate l.toNat z, .inr ⟨b, [], true, by simp, by rw [flatL_replicate, List.append_nil], flatL_len _ e1, by rw [flatL_len _ e1]; simp, by simp⟩, isL_replicate (hz2.up (GLe.bot G)) _, e1, fun _ o ho => by rw [List.mem_singleton.1 ho]⟩, hq⟩
def rowD (fr : FrF) : Nat → List (Nat × Operand) → Option (List DV)
 | _, [] => some []
 | j, (i, x) :: r => match opD fr x, rowD fr (j + 1) r with
   | some d, some l => bif Nat.beq i j then some (d :: l) else none
   | _, _ => none
theorem ovw_app (pre mid post vs : List Value) (h : vs.length = mid.length) : ovw (pre ++ (mid ++ post)) pre.length vs = pre ++ (vs ++ post) := by
 rw [ovw_spec _ _ _ (by simp; omega)]
 simp [h]
theorem zeros_succ (z : Value) (k : Nat) : zeros z (k + 1) = cellsL z ++ zeros z k := by simp [zeros, List.replicate_succ]
theorem row_bldS {G : Gh} {frv : Fr} {xf : Fr} (h : FrIs G fr frv) {zv : Value} (hz : (cellsL zv).length = s) : ∀ (ps : List (Nat × Operand)) (j : Nat) (pre : List Value) (ds : List DV), rowD fr j ps = some ds → pre.length = j * s → (∀ d ∈ ds, d.okc = true ∧ d.cells.length = s) →
   ∃ vs, bldS (frv ++ xf) s (pre ++ zeros zv ps.length) ps = some (pre ++ flatL vs) ∧ IsLs G ds vs ∧ ∀ v ∈ vs, (cellsL v).length = s
 | [], j, pre, ds, e, hp, hd => by
   simp only [rowD] at e; cases e
   exact ⟨[], by simp [bldS, zeros, flatL], .nil, by simp⟩
 | (i, x) :: ps, j, pre, ds, e, hp, hd => by
   simp only [rowD] at e
   split at e
   · rename_i d l hx hl
     cases hb : Nat.beq i j with
     | false => rw [hb] at e; cases e
     | true =>
       rw [hb] at e
       cases e
       have := Nat.eq_of_beq_eq_true hb
       subst this
       obtain ⟨y, hy, hy'⟩ := h.opD hx
       obtain ⟨k1, k2⟩ := hd d List.mem_cons_self
       have c1 := (hy'.cells k1).1.len
       have hov : ovw (pre ++ zeros zv (ps.length + 1)) (i * s) (cellsL y) = (pre ++ cellsL y) ++ zeros zv ps.length := by
         rw [zeros_succ, ← hp, ovw_app _ _ _ _ (by rw [c1, k2, hz]), List.append_assoc]
       obtain ⟨vs, h1, h2, h3⟩ := row_bldS (xf := xf) h hz ps (i + 1) (pre ++ cellsL y) l hl (by rw [List.length_append, c1, k2, hp, Nat.succ_mul]) (fun d hd' => hd d (List.mem_cons_of_mem _ hd'))
       refine ⟨y :: vs, ?_, .cons hy' h2, fun v hv => ?_⟩
       · simp only [bldS, opv_app hy, List.length_cons]
         rw [if_pos ⟨by rw [c1, k2], by rw [List.length_append, zeros_len, hz, hp, Nat.succ_mul]; omega⟩, hov, h1]
         simp [flatL]
       · rcases List.mem_cons.1 hv with rfl | hv
         · rw [c1, k2]
         · exact h3 v hv
   · cases e
theorem rowD_len {fr : FrF} : ∀ (ps : List (Nat × Operand)) (j : Nat) (ds : List DV), rowD fr j ps = some ds → ds.length = ps.length
 | [], j, ds, e => by simp only [rowD] at e; cases e; rfl
 | (i, x) :: ps, j, ds, e => by
   simp only [rowD] at e
   split at e
   · rename_i d l hx hl
     cases hb : Nat.beq i j with
     | false => rw [hb] at e; cases e
     | true => rw [hb] at e; cases e; simp [rowD_len ps _ _ hl]
   · cases e
def okRow (s : Nat) (ds : List DV) : Bool := ds.all fun d => d.okc && Nat.beq d.cells.length s
theorem okRow_spec {ds : List DV} (h : okRow s ds = true) : slOk s ds := fun d hd => by
 have := List.all_eq_true.1 h d hd
 simp only [Bool.and_eq_true] at this
 exact ⟨this.1, Nat.eq_of_beq_eq_true this.2⟩
theorem tf_row [hT : TySl P t e s by_] {d0 : DV} [hz : TyZE P e d0] {len : Nat} {parts : Array (Nat × Operand)} {ds : List DV} (hs : Nat.beq d0.cells.length s = true) (hb : rowD fr 0 parts.toList = some ds) (hok : okRow s ds = true) (hlen : Nat.beq parts.toList.length len = true) (hsm : Nat.ble (len * s) 1000 = true) (hs0 : Nat.blt 0 (len * s) = true) (hd : dstOk n dst = true) :
   TF P GB C n fr own bs ⟨dst, .buildSlice t len parts, ty', pos, af, gd⟩ SV (fun w => putF fr dst w.f) (fun _ => own) (fun w => ⟨w, s, e, ds, true⟩ :: bs) := by
 intro GB' E Φ hgb h G frv ov st
 obtain ⟨z, hz1, hz2, hz3⟩ := hz.z
 obtain ⟨p, q, rfl, hp, hq⟩ := st.ob
 have c1 := (hz2.cells hz3).1.len
 replace hs := Nat.eq_of_beq_eq_true hs
 have hlen' := Nat.eq_of_beq_eq_true hlen
 obtain ⟨vs, h1, h2, h3⟩ := row_bldS (xf := E.fr) (s := s) st.fr (by rw [c1, hs]) parts.toList 0 [] ds hb (by simp) (okRow_spec hok)
 rw [List.nil_append, List.nil_append] at h1
 have hvl : vs.length = len := by rw [h2.len, rowD_len _ _ _ hb, hlen']
 refine ch_slice (z := z) (out := flatL vs) (by rw [c1, hs]) (by rw [← hlen']; exact h1) hsm hs0 hd fun b => ?_
 rw [put_app]
 refine st_perm ((p ++ ([⟨b, flatL vs, e, true⟩] ++ q)) ++ E.own) ?_ (h ⟨some ⟨b, 0, none⟩, len, len⟩ G _ _ ⟨st.gb, st.fr.put (isF_v.2 rfl) _, p, _, rfl, hp, ?_⟩)
 · simp only [List.append_assoc, List.cons_append, List.nil_append]
   exact List.perm_middle.symm
 · exact ⟨_, _, rfl, ⟨vs, .inr ⟨b, [], true, by rw [hvl], by rw [List.append_nil], flatL_len _ h3, by rw [flatL_len _ h3, hvl]; simp, by rw [hvl]; exact Nat.le_refl _⟩, h2, h3, fun _ o ho => by rw [List.mem_singleton.1 ho]⟩, hq⟩
theorem tf_row0 [hT : TySl P t e s by_] (hd : dstOk n dst = true) :
   TF P GB C n fr own bs ⟨dst, .buildSlice t 0 #[], ty', pos, af, gd⟩ SV (fun w => putF fr dst w.f) (fun _ => own) (fun w => ⟨w, s, e, [], true⟩ :: bs) := by
 intro GB' E Φ hgb h G frv ov st
 obtain ⟨p, q, rfl, hp, hq⟩ := st.ob
 refine ch_slice0 hd fun b => ?_
 rw [put_app]
 refine st_perm ((p ++ ([⟨b, [], e, true⟩] ++ q)) ++ E.own) ?_ (h ⟨some ⟨b, 0, none⟩, 0, 0⟩ G _ _ ⟨st.gb, st.fr.put (isF_v.2 rfl) _, p, _, rfl, hp, ?_⟩)
 · simp only [List.append_assoc, List.cons_append, List.nil_append]
   exact List.perm_middle.symm
 · exact ⟨_, _, rfl, ⟨[], .inr ⟨b, [], true, rfl, by simp [flatL], by simp [flatL], by simp [flatL], by simp⟩, .nil, by simp, fun _ o ho => by rw [List.mem_singleton.1 ho]⟩, hq⟩
/-! what is appended -/
theorem takeL_cat {cs : List Value} {off s : Nat} : ∀ (es : List Value), (∀ i (h : i < es.length), takeL cs (off + i * s) s = some (cellsL es[i])) → off ≤ cs.length → takeL cs off (es.length * s) = some (flatL es)
 | [], _, ho => by
   rw [takeL_of _ _ _ (by simpa using ho)]; simp [flatL]
 | v :: t, h, ho => by
   have h0 := h 0 (by simp)
   simp only [Nat.zero_mul, Nat.add_zero, List.getElem_cons_zero] at h0
   obtain ⟨k1, k2⟩ := takeL_eq h0
   have ih := takeL_cat (off := off + s) t (fun i hi => by
     have := h (i + 1) (by simpa using hi)
     rw [Nat.succ_mul, show off + (i * s + s) = off + s + i * s by omega] at this
     simpa using this) (by omega)
   obtain ⟨k3, k4⟩ := takeL_eq ih
   rw [takeL_of _ _ _ (by simp only [List.length_cons, Nat.succ_mul]; omega)]
   congr 1
   have e1 : flatL (v :: t) = cellsL v ++ flatL t := by simp [flatL]
   rw [e1, k2, k4, List.length_cons, Nat.succ_mul, Nat.add_comm (t.length * s) s, List.take_add, List.drop_drop]
theorem src_sl {ov : List Own} {G : Gh} {w : SV} {es : List Value} (h : IsSl G s w es) : Src P C ov G s w.n (.slice w.a w.n w.c) (flatL es) := by
 rcases h.mem with he | ⟨b, off, cs, ha, hg, hc⟩
 · subst he
   rw [h.len]
   exact src_zero
 · rw [ha]
   by_cases he : es = []
   · subst he; rw [h.len]; exact src_zero
   · have hp : 0 < es.length := List.length_pos_iff.2 he
     have h0 := hc 0 hp
     have := (takeL_eq h0).1
     rw [h.len]
     exact src_gh hg (takeL_cat es hc (by omega))
def SrcD (fr : FrF) (bs : List BufD) (s : Nat) (y : Operand) (ds : List DV) : Prop :=
 (∃ l, opD fr y = some (.sl l) ∧ l = ds ∧ slOk s l) ∨ ∃ w ty lo, opF fr y = some w.f ∧ (⟨w, s, ty, ds, lo⟩ : BufD) ∈ bs ∧ slOk s ds
theorem SrcD.sl {ds : List DV} (h : opD fr y = some (.sl ds)) (k : slOk s ds) : SrcD fr bs s y ds := .inl ⟨ds, h, rfl, k⟩
theorem SrcD.bf {w : SV} {ty : TypeId} {ds : List DV} {lo : Bool} (h : opF fr y = some w.f) [hb : BAtD bs w s ty ds lo] (k : slOk s ds) : SrcD fr bs s y ds := .inr ⟨w, ty, lo, h, hb.mem, k⟩
theorem SrcD.src {G : Gh} {frv : Fr} {q : List Own} {ds : List DV} (h : SrcD fr bs s y ds) (hf : FrIs G fr frv) (hq : BufsIs G bs q) (ov : List Own) (hov : ∀ o ∈ q, o ∈ ov) :
   ∃ (w : SV) (vs : List Value), opv frv y = some (.slice w.a w.n w.c) ∧ w.n = vs.length ∧ IsLs G ds vs ∧ (∀ v ∈ vs, (cellsL v).length = s) ∧ (∀ v ∈ flatL vs, Sx.flat v = true) ∧ Src P C ov G s w.n (.slice w.a w.n w.c) (flatL vs) := by
 have hfl : ∀ (ds : List DV) (vs : List Value), slOk s ds → IsLs G ds vs → (∀ v ∈ vs, (cellsL v).length = s) ∧ ∀ v ∈ flatL vs, Sx.flat v = true := by
   intro ds vs hk hl
   refine ⟨fun v hv => ?_, fun v hv => ?_⟩
   · obtain ⟨d, hd, h3⟩ := hl.all v hv
     obtain ⟨k1, k2⟩ := hk d hd
     rw [(h3.cells k1).1.len, k2]
   · simp only [flatL, List.mem_flatten, List.mem_map] at hv
     obtain ⟨l, ⟨u, hu, rfl⟩, hv⟩ := hv
     obtain ⟨d, hd, h3⟩ := hl.all u hu
     exact (h3.cells (hk d hd).1).2 v hv
 rcases h with ⟨l, h1, rfl, hk⟩ | ⟨w, ty, lo, h1, h2, hk⟩
 · obtain ⟨u, h3, h4⟩ := hf.opD h1
   obtain ⟨s', w, es, rfl, hsl, hl⟩ := is_sl.1 h4
   obtain ⟨f1, f2⟩ := hfl _ _ hk hl
   refine ⟨w, es, h3, hsl.len, hl, f1, f2, ?_⟩
   rcases sl_stride hsl hl hk with he | he
   · subst he
     rw [hsl.len]
     exact src_zero
   · subst he; exact src_sl hsl
 · obtain ⟨B, ⟨vs, hB, hv, hs, _⟩, hmem⟩ := hq.mem h2
   obtain ⟨f1, f2⟩ := hfl _ _ hk hv
   refine ⟨w, vs, hf.opv h1, hB.len, hv, f1, f2, ?_⟩
   rcases hB with ⟨e1, e2, e3⟩ | ⟨b, rest, lo', h3, h4, h5, h6, h7⟩
   · simp only [] at e2
     subst e1 e2
     exact src_zero
   · simp only [] at h3 h4 h5 h6 h7
     have ha : w.a = some ⟨b, 0, none⟩ := by rw [h3]
     have hn : w.n = vs.length := by rw [h3]
     have : OAt ov b (flatL vs ++ rest) ty lo' := ⟨hov _ (hmem _ (by rw [h4]; exact List.mem_cons_self))⟩
     rw [ha, hn]
     refine src_own this ?_
     rw [takeL_of _ _ _ (by rw [List.length_append]; omega), List.drop_zero, List.take_append_of_le_length (by omega), List.take_of_length_le (by omega)]
theorem run_append_nil [hT : TySl P t e s by_] [hN : TyN P t'] {w : World} {ad2 : Option Addr} {cap2 : Nat} : (Builtin.append_ #[t, t'] ty' #[.slice none 0 0, .slice ad2 0 cap2]).run P w = .ok (.slice none 0 0) w := by
 obtain ⟨d, hd1⟩ := hN.un
 obtain ⟨i, hi, his, hib⟩ := hT.info
 have h0 : (Builtin.firstCells i.size 0 (.slice ad2 0 cap2)).run P w = .ok #[] w := by
   cases ad2 with
   | none => rfl
   | some a => unfold Builtin.firstCells loadCells; simp [loadCellsFrom, run_pure]
 simp [Builtin.append_, run_underlying hT.un, run_underlying hd1, sizeOf, typeInfo, hi, Builtin.lenOf, h0]
theorem ch_append_nil [hT : TySl P t e s by_] [hN : TyN P t'] {fr : Fr} {own : List Own} {G : Gh} {ad2 : Option Addr} {cap2 : Nat} (hx : opv fr x = some (.slice none 0 0)) (hy : opv fr y = some (.slice ad2 0 cap2)) (hd : dstOk n dst = true)
  (h : St C n (put fr dst (.slice none 0 0)) own G Φ) : Ch P C n fr own G ⟨dst, .call ⟨.builtin .append, #[x, y], #[t, t']⟩, ty', pos, af, gd⟩ Φ := by
 intro a w Q rl
 refine ch_value (v := .slice none 0 0) (w' := w) ?_ (h _ _ (rl.put _ hd))
 simp only [execOp, resolve, List.map_toArray, List.map_cons, List.map_nil, opv_eval rl.fr hx, opv_eval rl.fr hy]
 exact value_of run_append_nil
theorem tf_append [hT : TySl P t e s by_] [hN : TyN P t'] {d0 : DV} [hz : TyZE P e d0] {w : SV} {ds ds2 : List DV} (hx : opF fr x = some w.f) (hb : BRemD bs ⟨w, s, e, ds, true⟩ bs1) (hy : SrcD fr bs1 s y ds2)
   (hby : Nat.blt 0 by_ = true) (hbd : (ds.length + ds2.length) * by_ ≤ 140737488355328) (hzs : Nat.beq d0.cells.length s = true) (hd : dstOk n dst = true) :
   TF P GB C n fr own bs ⟨dst, .call ⟨.builtin .append, #[x, y], #[t, t']⟩, ty', pos, af, gd⟩ SV (fun w' => putF fr dst w'.f) (fun _ => own) (fun w' => ⟨w', s, e, ds ++ ds2, true⟩ :: bs1) := by
 intro GB' E Φ hgb h G frv ov st
 obtain ⟨z, hz1, hz2, hz3⟩ := hz.z
 obtain ⟨p, q, rfl, hp, hq⟩ := st.ob
 have cz := (hz2.cells hz3).1.len
 replace hzs := Nat.eq_of_beq_eq_true hzs
 rw [Nat.blt_eq] at hby
 obtain ⟨B, a1, a2, rfl, ⟨vs, hB, hv, hvs, hlo⟩, hq1⟩ := hb.lens hq
 simp only [] at hB hv hvs
 obtain ⟨w2, us, h1, h2, h3, h4, h5, h6⟩ := hy.src (P := P) (C := C) st.fr hq1 ((p ++ (a1 ++ (B ++ a2))) ++ E.own) (fun o ho => by
   simp only [List.mem_append] at ho ⊢; rcases ho with h | h <;> simp [h])
 have hx' := opv_app (y := E.fr) (st.fr.opv hx)
 have hy' := opv_app (y := E.fr) h1
 have hus : (flatL us).length = us.length * s := flatL_len us h4
 have hbd' : (vs.length + us.length) * by_ ≤ 140737488355328 := by rw [hv.len, h3.len]; exact hbd
 have hall : ∀ v ∈ vs ++ us, (cellsL v).length = s := fun v hv => by
   rcases List.mem_append.1 hv with hv | hv
   · exact hvs v hv
   · exact h4 v hv
 have hfin : ∀ (b : Nat) (cap' : Nat) (rest' : List Value), vs.length + us.length ≤ cap' → rest'.length + (vs.length + us.length) * s = cap' * s →
     St C n (put (frv ++ E.fr) dst (.slice (some ⟨b, 0, none⟩) (vs.length + us.length) cap')) (⟨b, flatL (vs ++ us) ++ rest', e, true⟩ :: ((p ++ (a1 ++ a2)) ++ E.own)) G Φ := by
   intro b cap' rest' hc hr
   rw [put_app]
   refine st_perm ((p ++ ([⟨b, flatL (vs ++ us) ++ rest', e, true⟩] ++ (a1 ++ a2))) ++ E.own) ?_ (h ⟨some ⟨b, 0, none⟩, vs.length + us.length, cap'⟩ G _ _ ⟨st.gb, st.fr.put (isF_v.2 rfl) _, p, _, rfl, hp, ?_⟩)
   · simp only [List.append_assoc, List.cons_append, List.nil_append]
     exact List.perm_middle.symm
   · refine ⟨_, _, rfl, ⟨vs ++ us, .inr ⟨b, rest', true, by simp, rfl, flatL_len _ hall, ?_, by simpa using hc⟩, hv.app h3, hall, fun _ o ho => by rw [List.mem_singleton.1 ho]⟩, hq1⟩
     rw [flatL_len _ hall, List.length_append]
     simp only []
     omega
 rcases hB with ⟨e1, e2, e3⟩ | ⟨b, rest, lo', k3, k4, k5, k6, k7⟩
 · subst e1 e2 e3
   by_cases hne : us = []
   · subst hne
     have : ds2 = [] := List.eq_nil_of_length_eq_zero (by rw [← h3.len]; rfl)
     subst this
     rw [h2] at hy'
     refine ch_append_nil hx' hy' hd ?_
     rw [put_app]
     refine h ⟨none, 0, 0⟩ G _ _ ⟨st.gb, st.fr.put (isF_v.2 rfl) _, p, _, rfl, hp, ?_⟩
     rw [List.append_nil]
     refine ⟨[], _, by simp, ⟨[], .inl ⟨rfl, rfl, rfl⟩, hv, by simp, fun _ o ho => by cases ho⟩, hq1⟩
   · have hup : 0 < us.length := List.length_pos_iff.2 hne
     rw [h2] at hy' h6
     refine ch_append_grow (z := z) (xs := []) (ys := flatL us) hx' hy' src_zero h6 (by show (0 : Nat) < 0 + us.length; omega) hby (by simpa using hbd') hd (fun b cap' hc => ?_)
     have := hfin b cap' (zeros z (cap' - us.length)) (by simpa using hc) (by rw [zeros_len, cz, hzs, ← Nat.add_mul]; simp at hc ⊢; congr 1; omega)
     simpa using this
 · have hl := hlo rfl
   subst k4
   have hlo' : lo' = true := hl _ List.mem_cons_self
   subst hlo'
   have ha : w.a = some ⟨b, 0, none⟩ := by rw [k3]
   have hn : w.n = vs.length := by rw [k3]
   rw [ha, hn] at hx'
   rw [h2] at hy' h6
   refine ch_append_own (z := z) (xs := flatL vs) (ys := flatL us) (rest := rest) (own1 := (p ++ (a1 ++ a2)) ++ E.own) hx' hy' ?_ k5 k6 k7 h6 hus h5 hby hbd' (by rw [cz, hzs]) hd (fun b' cap' rest' hc hr => ?_)
   · have := (ORem.mid (o := (⟨b, flatL vs ++ rest, e, true⟩ : Own)) (r := a2 ++ E.own) (p ++ a1))
     simpa [List.append_assoc] using this
   · rw [← flatL_app]
     exact hfin b' cap' rest' hc hr
/-! stores to elements -/
theorem BufIs.upd {G : Gh} {w : SV} {s : Nat} {ty : TypeId} {ds : List DV} {lo : Bool} {B : List Own} (h : BufIs G ⟨w, s, ty, ds, lo⟩ B) {i : Nat} {d : DV} (hi : ds[i]? = some d) :
   ∃ b vs rest lo', w.a = some ⟨b, 0, none⟩ ∧ B = [⟨b, flatL vs ++ rest, ty, lo'⟩] ∧ IsLs G ds vs ∧ (∀ v ∈ vs, (cellsL v).length = s) ∧ i < vs.length ∧
     ∀ u d', Is G d' u → (cellsL u).length = s → BufIs G ⟨w, s, ty, ds.set i d', lo⟩ [⟨b, flatL (vs.set i u) ++ rest, ty, lo'⟩] := by
 obtain ⟨vs, hB, hv, hs, hlo⟩ := h
 obtain ⟨v, h1, h2⟩ := hv.get hi
 obtain ⟨hi', _⟩ := List.getElem?_eq_some_iff.1 h1
 rcases hB with ⟨e, _, _⟩ | ⟨b, rest, lo', h3, h4, h5, h6, h7⟩
 · rw [e] at h1; simp at h1
 · refine ⟨b, vs, rest, lo', by simp only [] at h3; rw [h3], h4, hv, hs, hi', fun u d' hu hul => ?_⟩
   have hall : ∀ x ∈ vs.set i u, (cellsL x).length = s := fun x hx => by
     rcases List.mem_or_eq_of_mem_set hx with h' | rfl
     · exact hs x h'
     · exact hul
   refine ⟨vs.set i u, .inr ⟨b, rest, lo', by simpa using h3, rfl, flatL_len _ hall, ?_, by simpa using h7⟩, hv.set i hu, hall, fun hl o ho => ?_⟩
   · rw [flatL_len _ hall, List.length_set, ← h5]; exact h6
   · have := hlo hl
     rw [h4] at this
     rw [List.mem_singleton.1 ho]
     have h9 := this ⟨b, flatL vs ++ rest, ty, lo'⟩ List.mem_cons_self
     exact h9
theorem flatL_set {s : Nat} {rest : List Value} {u : Value} (vs : List Value) (i : Nat) (h : i < vs.length) (hs : ∀ v ∈ vs, (cellsL v).length = s) (hu : (cellsL u).length = s) : ovw (flatL vs ++ rest) (i * s) (cellsL u) = flatL (vs.set i u) ++ rest := by
 have hl := flatL_len vs hs
 have hle : i * s + s ≤ vs.length * s := by rw [← Nat.succ_mul]; exact Nat.mul_le_mul_right _ h
 rw [ovw_spec _ _ _ (by rw [hu, List.length_append]; omega), hu, List.take_append_of_le_length (by omega), List.drop_append_of_le_length (by omega), flatL_take vs i hs (by omega), ← Nat.succ_mul, flatL_drop vs (i + 1) hs h,
  List.set_eq_take_append_cons_drop, if_pos h, show vs.take i ++ u :: vs.drop (i + 1) = vs.take i ++ ([u] ++ vs.drop (i + 1)) from rfl, flatL_app, flatL_app, flatL_one]
 simp
theorem td_storeB1 {w : SV} {i : Nat} {ty : TypeId} {ds : List DV} {d u : DV} {lo : Bool} (hx : opF fr x = some (.be w 1 i 0)) (hy : opD fr y = some u) [hs : TyS P t] (hb : BRemD bs ⟨w, 1, ty, ds, lo⟩ bs1)
   (hi : ds[i]? = some d) (hf : u.flat = true) (hd : dstOk n dst = true) :
   TD P GB C n fr own bs ⟨dst, .store t x y, ty', pos, af, gd⟩ (putF fr dst (.d (.v undef))) own (⟨w, 1, ty, ds.set i u, lo⟩ :: bs1) := by
 intro GB' E Φ hgb h G frv ov st
 obtain ⟨y', h1, h2⟩ := st.fr.opD hy
 obtain ⟨x', h3, b, hwb, rfl⟩ := st.fr.op hx
 obtain ⟨p, q, rfl, hp, hq⟩ := st.ob
 obtain ⟨B, a1, a2, rfl, hB, hq1⟩ := hb.lens hq
 obtain ⟨b', vs, rest, lo', e1, rfl, hv, hvs, hil, hup⟩ := hB.upd hi
 rw [hwb] at e1; cases e1
 have hfl := h2.flat hf
 have hcl := cellsL_flat hfl
 have key := hup y' u h2 (by rw [hcl]; rfl)
 have hset := flatL_set (rest := rest) (u := y') vs i hil hvs (by rw [hcl]; rfl)
 rw [hcl] at hset
 simp only [ovw, Nat.mul_one] at hset
 rw [Nat.mul_one, Nat.add_zero] at h3
 refine ch_store1 (ty := ty) (lo := lo') (cs := flatL vs ++ rest) (own' := (p ++ (a1 ++ ([⟨b, flatL (vs.set i y') ++ rest, ty, lo'⟩] ++ a2))) ++ E.own) (opv_app h3) (opv_app h1) ?_ ?_ hfl hd ?_
 · rw [hset]
   have := (OUpd.mid (b := b) (cs := flatL vs ++ rest) (cs' := flatL (vs.set i y') ++ rest) (ty := ty) (lo := lo') (r := a2 ++ E.own) (p ++ a1))
   simpa [List.append_assoc] using this
 · have hlv := flatL_len vs hvs
   rw [List.length_append]; omega
 · rw [put_app]
   refine st_perm ((p ++ ([⟨b, flatL (vs.set i y') ++ rest, ty, lo'⟩] ++ (a1 ++ a2))) ++ E.own) ?_ (h G _ _ ⟨st.gb, st.fr.put (isF_v.2 rfl) _, p, _, rfl, hp, ⟨_, _, rfl, key, hq1⟩⟩)
   simp only [List.append_assoc, List.cons_append, List.nil_append]
   exact List.perm_middle.append_left _
/-! ### what is written no more; what is forgotten; spelled otherwise -/
theorem sd_re (k : Nat) {f f' : FV} (hl : lookF fr k = some f) (hE : E.fr = []) (hf : ∀ G y, IsF G f y → IsF G f' y) (h : SD GB C n E ((k, f') :: fr) own bs Φ) : SD GB C n E fr own bs Φ := by
 refine ⟨fun G frv ov s => ?_⟩
 obtain ⟨u, hu, hu'⟩ := s.fr.look hl
 refine st_frame ((k, u) :: (frv ++ E.fr)) (FrLe.cons (look_appS hu) (fun _ _ h => h)) (h G ((k, u) :: frv) ov ⟨s.gb, ⟨u, frv, rfl, hf G u hu', s.fr⟩, s.ob⟩)
theorem sd_nilS (k : Nat) (hl : lookF fr k = some (.d (.v (.slice none 0 0)))) (h : SD GB C n E0 ((k, .d (.sl [])) :: fr) own bs Φ) : SD GB C n E0 fr own bs Φ :=
 sd_re (f' := .d (.sl [])) k hl rfl (fun G y hy => (toD_is (f := .d (.v (.slice none 0 0))) hy rfl : Is G (.sl []) y)) h
theorem sd_newB (s ty : Nat) (h : SD GB C n E fr own (⟨⟨none, 0, 0⟩, s, ty, [], true⟩ :: bs) Φ) : SD GB C n E fr own bs Φ := by
 refine ⟨fun G frv ov st => ?_⟩
 obtain ⟨p, q, rfl, hp, hq⟩ := st.ob
 exact h G frv _ ⟨st.gb, st.fr, p, q, rfl, hp, ⟨[], q, rfl, ⟨[], .inl ⟨rfl, rfl, rfl⟩, .nil, by simp, fun _ o ho => by cases ho⟩, hq⟩⟩
def reF (ks : List Nat) (f : FV) (fr : FrF) : FrF := ks.map (fun k => (k, f)) ++ fr
theorem sd_freezeB (ks : List Nat) {w : SV} {s : Nat} {ty : TypeId} {ds : List DV} (hb : BRemD bs ⟨w, s, ty, ds, true⟩ bs1) (hk : ∀ k ∈ ks, lookF fr k = some w.f) (h : SD GB C n E0 (reF ks (.d (.sl ds)) fr) own bs1 Φ) : SD GB C n E0 fr own bs Φ := by
 refine ⟨fun G frv ov st => ?_⟩
 obtain ⟨p, q, rfl, hp, hq⟩ := st.ob
 obtain ⟨B, a1, a2, rfl, ⟨vs, hB, hv, hvs, hlo⟩, hq1⟩ := hb.lens hq
 simp only [] at hB hv hvs
 simp only [E0, List.append_nil]
 have hks : ∀ k ∈ ks, look frv k = some (.slice w.a w.n w.c) := fun k hk' => st.fr.opv (x := .tmp k) (hk k hk')
 have fin : ∀ G', GLe G G' → IsSl G' s w vs → St C n frv (p ++ (a1 ++ a2)) G' Φ := by
   intro G' hg hsl
   have hF : ∀ ks : List Nat, (∀ k ∈ ks, look frv k = some (.slice w.a w.n w.c)) → ∃ m, FrIs G' (reF ks (.d (.sl ds)) fr) m ∧ FrLe m frv := by
     intro ks
     induction ks with
     | nil => exact fun _ => ⟨frv, st.fr.up hg, fun _ _ h => h⟩
     | cons k ks ih =>
       intro hk'
       obtain ⟨m, h1, h2⟩ := ih (fun j hj => hk' j (List.mem_cons_of_mem _ hj))
       exact ⟨(k, _) :: m, ⟨_, m, rfl, (show IsF G' (.d (.sl ds)) (.slice w.a w.n w.c) from is_sl.2 ⟨s, w, vs, rfl, hsl, hv.up hg⟩), h1⟩, FrLe.cons (hk' k List.mem_cons_self) h2⟩
   obtain ⟨m, h1, h2⟩ := hF ks hks
   have := h G' m (p ++ (a1 ++ a2)) ⟨st.gb.trans hg, h1, p, _, rfl, hp.up hg, hq1.up hg⟩
   simp only [E0, List.append_nil] at this
   exact st_frame _ h2 this
 rcases hB with ⟨e1, e2, e3⟩ | ⟨b, rest, lo', h3, h4, h5, h6, h7⟩
 · subst e1 e2 e3
   exact fin G (GLe.refl _) (IsSl.nil _ _)
 · subst h4
   have hl : lo' = true := hlo rfl _ List.mem_cons_self
   subst hl
   refine st_freeze b (cs := flatL vs ++ rest) (ty := ty) (own' := p ++ (a1 ++ a2)) ?_ ?_
   · have := (ORem.mid (o := (⟨b, flatL vs ++ rest, ty, true⟩ : Own)) (r := a2) (p ++ a1))
     simpa [List.append_assoc] using this
   · intro G' hG hg
     refine fin G' hG.le ?_
     rw [h3]
     exact IsSl.of_flat hvs hg.h h7
end
end Go.Sx
end

section
set_option maxRecDepth 100000
namespace Go.Sx
open Go
section
variable {P : Program} {ops : Array Oper} {Q : Exit → Act → World → Prop} {S : World → Prop} {π₂ : List (Nat × Bool)}
abbrev fin0 : Nat → Bool := fun _ => false
theorem wpAnyZ_mono {fin : Nat → Bool} {S S' : World → Prop} (h : ∀ w, S' w → S w) : ∀ (fuel : Nat) (listed : Array Bool) (a : Act) (w : World), wpAnyZ P ops Q S' fin fuel listed a w → wpAnyZ P ops Q S fin fuel listed a w
 | 0, _, _, _, k => k
 | fuel + 1, _, _, _, k => ⟨k.1, fun i hi => wpOp_mono (fun _ w' h' => ⟨h'.1.imp id (h w'), wpAnyZ_mono h fuel _ _ _ h'.2⟩) (k.2 i hi)⟩
def grS (S : World → Prop) (K : (World → Prop) → Act → World → Prop) (a : Act) (w : World) : Prop := ∃ S' : World → Prop, (∀ w, S' w → S w) ∧ S' w ∧ K S' a w
def dwT (P : Program) (ops : Array Oper) (Q : Exit → Act → World → Prop) (K : (World → Prop) → Act → World → Prop) : List Nat → List (Nat × Bool) → (World → Prop) → Act → World → Prop
 | [], [], S, a, w => K S a w
 | k :: ks, [], S, a, w => ∀ j, (h : j ∈ k :: ks) → wpOp P ops Q j (grS S (dwT P ops Q K (without (k :: ks) j) [])) a w
 | ks, (i, true) :: r, S, a, w => ∃ o v, ops[i]? = some o ∧ S w ∧ YieldsIf P ops S o v a ∧ dwT P ops Q K ks r S (a.put o.dst v) w
 | ks, (i, false) :: r, S, a, w => wpOp P ops Q i (grS S (dwT P ops Q K ks r)) a w ∧
     ∀ j, (h : j ∈ ks) → wpOp P ops Q j (grS S (dwT P ops Q K (without ks j) ((i, false) :: r))) a w
termination_by ks π => ks.length + π.length
decreasing_by
 all_goals (first | (have := without_lt h; simp only [List.length_cons, List.length_nil] at *; omega) | (simp only [List.length_cons]; omega))
def endN (Q : Exit → Act → World → Prop) : (World → Prop) → Act → World → Prop := fun _ a w => Q .normal a w
theorem wpAnyZ_of_T (hQ : ∀ c a d v w, Q (.panic c) (Act.put a d v) w → Q (.panic c) a w) {K : (World → Prop) → Act → World → Prop}
   (hK : ∀ (S : World → Prop) (listed : Array Bool) (a : Act) (w : World), orderOk ops fin0 π₂ listed = true → K S a w → ∀ fuel, π₂.length ≤ fuel → wpAnyZ P ops Q S fin0 fuel listed a w) :
   ∀ (n : Nat) (ks : List Nat) (π : List (Nat × Bool)) (S : World → Prop) (listed : Array Bool) (a : Act) (w : World), orderOkG ops fin0 π₂ n ks π listed = true → dwT P ops Q K ks π S a w → ∀ fuel, ks.length + π.length + π₂.length ≤ fuel → wpAnyZ P ops Q S fin0 fuel listed a w
 | 0, ks, π, S, listed, a, w, ho, h, fuel, hf => by simp [orderOkG] at ho
 | n + 1, [], [], S, listed, a, w, ho, h, fuel, hf => by
   rw [dwT] at h
   simp only [orderOkG] at ho
   exact hK S _ _ _ ho h fuel (by simpa using hf)
 | n + 1, k :: ks, [], S, listed, a, w, ho, h, 0, hf => by simp at hf
 | n + 1, k :: ks, [], S, listed, a, w, ho, h, fuel + 1, hf => by
   rw [dwT] at h
   simp only [orderOkG, Bool.and_eq_true, List.all_eq_true, Bool.not_eq_true'] at ho
   obtain ⟨⟨h1, h2⟩, h3⟩ := ho
   refine ⟨fun h0 => by rw [h0] at h1; simp at h1, fun j hj => ?_⟩
   have hjk : j ∈ k :: ks := by have := h2 j hj; simpa using this
   refine wpOp_mono (fun a' w' h' => ?_) (h j hjk)
   obtain ⟨S', hs, hS', hd⟩ := h'
   exact ⟨.inr (hs _ hS'), wpAnyZ_mono hs _ _ _ _ (wpAnyZ_of_T hQ hK n _ _ _ _ _ _ (h3 j hjk) hd fuel (by have := without_lt hjk; simp only [List.length_cons, List.length_nil] at *; omega))⟩
 | n + 1, ks, (i, true) :: r, S, listed, a, w, ho, h, 0, hf => by simp at hf
 | n + 1, ks, (i, true) :: r, S, listed, a, w, ho, h, fuel + 1, hf => by
   rw [dwT] at h
   obtain ⟨o, v, hoi, hS, hy, hk⟩ := h
   simp only [orderOkG, takeOk, Bool.and_eq_true] at ho
   obtain ⟨⟨⟨⟨h1, h2⟩, h3⟩, h4⟩, h5⟩ := ho
   obtain ⟨h6, h7⟩ := finOk_spec h4
   exact wpAnyZ_first hoi (Region.noSelect_spec h1) (fun c a w => hQ c a _ _ w) h6 h7 fuel listed a w (Region.free_spec hoi h2) (by simpa using h3) hy hS
     (wpAnyZ_of_T hQ hK n _ _ _ _ _ _ h5 hk fuel (by simp only [List.length_cons] at hf; omega))
 | n + 1, ks, (i, false) :: r, S, listed, a, w, ho, h, 0, hf => by simp at hf
 | n + 1, ks, (i, false) :: r, S, listed, a, w, ho, h, fuel + 1, hf => by
   rw [dwT] at h
   simp only [orderOkG, Bool.and_eq_true, List.all_eq_true, Bool.not_eq_true'] at ho
   obtain ⟨⟨⟨h1, h2⟩, h3⟩, h4⟩ := ho
   refine ⟨fun h0 => by rw [h0] at h1; simp at h1, fun j hj => ?_⟩
   have := h2 j hj
   simp only [Bool.or_eq_true] at this
   rcases this with e | e
   · replace e := Nat.eq_of_beq_eq_true e
     subst e
     refine wpOp_mono (fun a' w' h' => ?_) h.1
     obtain ⟨S', hs, hS', hd⟩ := h'
     exact ⟨.inr (hs _ hS'), wpAnyZ_mono hs _ _ _ _ (wpAnyZ_of_T hQ hK n _ _ _ _ _ _ h3 hd fuel (by simp only [List.length_cons] at hf; omega))⟩
   · have hjk : j ∈ ks := by simpa using e
     refine wpOp_mono (fun a' w' h' => ?_) (h.2 j hjk)
     obtain ⟨S', hs, hS', hd⟩ := h'
     exact ⟨.inr (hs _ hS'), wpAnyZ_mono hs _ _ _ _ (wpAnyZ_of_T hQ hK n _ _ _ _ _ _ (h4 j hjk) hd fuel (by have := without_lt hjk; simp only [List.length_cons] at *; omega))⟩
theorem wpAnyZ_of_T0 (hQ : ∀ c a d v w, Q (.panic c) (Act.put a d v) w → Q (.panic c) a w) : ∀ (π : List (Nat × Bool)) (S : World → Prop) (listed : Array Bool) (a : Act) (w : World), orderOk ops fin0 π listed = true → dwT P ops Q (endN Q) [] π S a w → ∀ fuel, π.length ≤ fuel → wpAnyZ P ops Q S fin0 fuel listed a w
 | [], S, listed, a, w, ho, h, fuel, hf => by
   rw [dwT] at h
   have hr : Region.ready .any ops listed = [] := by simpa [orderOk] using ho
   cases fuel with
   | zero => exact ⟨hr, h⟩
   | succ k => exact ⟨fun _ => h, by rw [hr]; simp⟩
 | (i, true) :: r, S, listed, a, w, ho, h, 0, hf => by simp at hf
 | (i, false) :: r, S, listed, a, w, ho, h, 0, hf => by simp at hf
 | (i, true) :: r, S, listed, a, w, ho, h, fuel + 1, hf => by
   rw [dwT] at h
   obtain ⟨o, v, hoi, hS, hy, hk⟩ := h
   simp only [orderOk, takeOk, Bool.and_eq_true] at ho
   obtain ⟨⟨⟨⟨h1, h2⟩, h3⟩, h4⟩, h5⟩ := ho
   obtain ⟨h6, h7⟩ := finOk_spec h4
   exact wpAnyZ_first hoi (Region.noSelect_spec h1) (fun c a w => hQ c a _ _ w) h6 h7 fuel listed a w (Region.free_spec hoi h2) (by simpa using h3) hy hS
     (wpAnyZ_of_T0 hQ r _ _ _ _ h5 hk fuel (by simpa using hf))
 | (i, false) :: r, S, listed, a, w, ho, h, fuel + 1, hf => by
   rw [dwT] at h
   simp only [orderOk, Bool.and_eq_true, beq_iff_eq] at ho
   refine wpAnyZ_all ho.1 (wpOp_mono (fun a' w' h' => ?_) h.1)
   obtain ⟨S', hs, hS', hd⟩ := h'
   exact ⟨.inr (hs _ hS'), wpAnyZ_mono hs _ _ _ _ (wpAnyZ_of_T0 hQ r _ _ _ _ ho.2 hd fuel (by simpa using hf))⟩
end
section
variable {P : Program} {GB : Gh} {C : Ctx} {n : Nat} {fr fr' : FrF} {own own' own0 own1 own1' : List OwnD} {bs bs0 bs1 bs1' : List BufD} {ops : Array Oper} {Q : Exit → Act → World → Prop} {fd : List FD} {π π₂ : List (Nat × Bool)}
structure SR (GB : Gh) (C : Ctx) (n : Nat) (fr : FrF) (own0 : List OwnD) (bs0 : List BufD) (own1 : List OwnD) (bs1 : List BufD) (fd : List FD) (K : List Nat → (World → Prop) → Act → World → Prop) : Prop where
 run : ∀ G frv o0 o1, GLe GB G → FrIs G fr frv → OB G own0 bs0 o0 → OB G own1 bs1 o1 → ∀ fs : Fs, St C n (frv ++ fFs fd fs) (o1 ++ (o0 ++ fOs fd fs)) G (K (pend fd fs) (HS C o0 G))
instance {GB : Gh} {C : Ctx} {n : Nat} {fr : FrF} {own0 : List OwnD} {bs0 : List BufD} {own1 : List OwnD} {bs1 : List BufD} {fd : List FD} {K : List Nat → (World → Prop) → Act → World → Prop} : CoeFun (SR GB C n fr own0 bs0 own1 bs1 fd K) (fun _ => ∀ G frv o0 o1, GLe GB G → FrIs G fr frv → OB G own0 bs0 o0 → OB G own1 bs1 o1 → ∀ fs : Fs, St C n (frv ++ fFs fd fs) (o1 ++ (o0 ++ fOs fd fs)) G (K (pend fd fs) (HS C o0 G))) := ⟨SR.run⟩
abbrev dwK (P : Program) (ops : Array Oper) (Q : Exit → Act → World → Prop) (K : (World → Prop) → Act → World → Prop) (π : List (Nat × Bool)) : List Nat → (World → Prop) → Act → World → Prop := fun ks S => dwT P ops (NoPan Q) K ks π S
theorem OwnsIs.perm {G : Gh} {own own' : List OwnD} (hs : own.Perm own') : ∀ {p : List Own}, OwnsIs G own p → ∃ p', p.Perm p' ∧ OwnsIs G own' p' := by
 induction hs with
 | nil => exact fun {p} hp => ⟨p, List.Perm.refl _, hp⟩
 | cons a hs ih =>
   rintro p ⟨cs, m, rfl, h1, h2⟩
   obtain ⟨p', h3, h4⟩ := ih h2
   exact ⟨_, h3.cons _, ⟨cs, p', rfl, h1, h4⟩⟩
 | swap a b l =>
   rintro p ⟨cs, m, rfl, h1, ⟨cs2, m2, rfl, h2, h3⟩⟩
   exact ⟨_, List.Perm.swap .., ⟨cs2, _, rfl, h2, ⟨cs, m2, rfl, h1, h3⟩⟩⟩
 | trans h1 h2 ih1 ih2 =>
   intro p hp
   obtain ⟨p1, k1, k2⟩ := ih1 hp
   obtain ⟨p2, k3, k4⟩ := ih2 k2
   exact ⟨p2, k1.trans k3, k4⟩
theorem BufsIs.perm {G : Gh} {own own' : List BufD} (hs : own.Perm own') : ∀ {p : List Own}, BufsIs G own p → ∃ p', p.Perm p' ∧ BufsIs G own' p' := by
 induction hs with
 | nil => exact fun {p} hp => ⟨p, List.Perm.refl _, hp⟩
 | cons a hs ih =>
   rintro p ⟨B, m, rfl, h1, h2⟩
   obtain ⟨p', h3, h4⟩ := ih h2
   exact ⟨_, h3.append_left B, ⟨B, p', rfl, h1, h4⟩⟩
 | swap a b l =>
   rintro p ⟨B, m, rfl, h1, ⟨B2, m2, rfl, h2, h3⟩⟩
   exact ⟨B2 ++ (B ++ m2), by rw [← List.append_assoc, ← List.append_assoc]; exact (List.perm_append_comm).append_right m2, ⟨B2, _, rfl, h2, ⟨B, m2, rfl, h1, h3⟩⟩⟩
 | trans h1 h2 ih1 ih2 =>
   intro p hp
   obtain ⟨p1, k1, k2⟩ := ih1 hp
   obtain ⟨p2, k3, k4⟩ := ih2 k2
   exact ⟨p2, k1.trans k3, k4⟩
theorem OwnsIs.unapp {G : Gh} : ∀ {a b : List OwnD} {m : List Own}, OwnsIs G (a ++ b) m → ∃ x y, m = x ++ y ∧ OwnsIs G a x ∧ OwnsIs G b y
 | [], b, m, h => ⟨[], m, rfl, rfl, h⟩
 | d :: t, b, m, ⟨cs, n, e, h1, h2⟩ => by
   subst e
   obtain ⟨u, v, rfl, h3, h4⟩ := OwnsIs.unapp h2
   exact ⟨_ :: u, v, rfl, ⟨cs, u, rfl, h1, h3⟩, h4⟩
theorem OwnsIs.app {G : Gh} : ∀ {a b : List OwnD} {m n : List Own}, OwnsIs G a m → OwnsIs G b n → OwnsIs G (a ++ b) (m ++ n)
 | [], b, m, n, h, k => by rw [show m = [] from h]; exact k
 | d :: t, b, m, n, ⟨cs, u, e, h1, h2⟩, k => by subst e; exact ⟨cs, _, rfl, h1, OwnsIs.app h2 k⟩
theorem BufsIs.unapp {G : Gh} : ∀ {a b : List BufD} {m : List Own}, BufsIs G (a ++ b) m → ∃ x y, m = x ++ y ∧ BufsIs G a x ∧ BufsIs G b y
 | [], b, m, h => ⟨[], m, rfl, rfl, h⟩
 | d :: t, b, m, ⟨B, n, e, h1, h2⟩ => by
   subst e
   obtain ⟨u, v, rfl, h3, h4⟩ := BufsIs.unapp h2
   exact ⟨B ++ u, v, by rw [List.append_assoc], ⟨B, u, rfl, h1, h3⟩, h4⟩
theorem BufsIs.app {G : Gh} : ∀ {a b : List BufD} {m n : List Own}, BufsIs G a m → BufsIs G b n → BufsIs G (a ++ b) (m ++ n)
 | [], b, m, n, h, k => by rw [show m = [] from h]; exact k
 | d :: t, b, m, n, ⟨B, u, e, h1, h2⟩, k => by subst e; exact ⟨B, u ++ n, by rw [List.append_assoc], h1, BufsIs.app h2 k⟩
theorem pend_none (fd : List FD) : fFs fd (fun _ => none) = [] ∧ fOs fd (fun _ => none) = [] ∧ pend fd (fun _ => none) = fd.map (·.k) := by
 induction fd with
 | nil => exact ⟨rfl, rfl, rfl⟩
 | cons f r ih => exact ⟨by simp [fFs, fF, ih.1], by simp [fOs, fO, ih.2.1], by simp [pend, List.filter_eq_self.2]⟩
theorem drX (fd : List FD) (π π₂ : List (Nat × Bool)) {id : Nat} (hm : P.follows .mixedOrders = true) (hpo : own.Perm (own0 ++ own1)) (hpb : bs.Perm (bs0 ++ bs1))
   (ho : (orderOkG ops fin0 π₂ (fd.length + π.length + 1) (fd.map (·.k)) π (Array.replicate ops.size false) && Nat.ble (fd.length + π.length + π₂.length) ops.size) = true)
   (h : SR GB C n fr own0 bs0 own1 bs1 fd (dwK P ops Q (dwK P ops Q (endN (NoPan Q)) π₂ []) π)) : SD GB C n E0 fr own bs ((Code.region id ops true).wp P Q) := by
 simp only [Bool.and_eq_true] at ho
 refine ⟨fun G frv ov s => ?_⟩
 obtain ⟨p, q, rfl, hp, hq⟩ := s.ob
 obtain ⟨p', e1, hp'⟩ := hp.perm hpo
 obtain ⟨q', e2, hq'⟩ := hq.perm hpb
 obtain ⟨p0, p1, rfl, hp0, hp1⟩ := hp'.unapp
 obtain ⟨q0, q1, rfl, hq0, hq1⟩ := hq'.unapp
 simp only [E0, List.append_nil]
 have h0 := h G frv (p0 ++ q0) (p1 ++ q1) s.gb s.fr ⟨p0, q0, rfl, hp0, hq0⟩ ⟨p1, q1, rfl, hp1, hq1⟩ (fun _ => none)
 rw [(pend_none fd).1, (pend_none fd).2.1, (pend_none fd).2.2, List.append_nil, List.append_nil] at h0
 refine st_perm ((p1 ++ q1) ++ (p0 ++ q0)) ?_ ?_
 · refine (e1.append e2).trans ?_
   refine List.perm_append_comm.trans ?_
   rw [List.append_assoc, List.append_assoc]
   have : (q0 ++ (q1 ++ (p0 ++ p1))).Perm (p1 ++ (q1 ++ (p0 ++ q0))) := by
     have a1 : (q0 ++ (q1 ++ (p0 ++ p1))).Perm ((q1 ++ (p0 ++ p1)) ++ q0) := List.perm_append_comm
     have a2 : ((q1 ++ (p0 ++ p1)) ++ q0).Perm (((q1 ++ p0) ++ p1) ++ q0) := by rw [← List.append_assoc q1]
     have a3 : (((q1 ++ p0) ++ p1) ++ q0).Perm ((p1 ++ (q1 ++ p0)) ++ q0) := (List.perm_append_comm).append_right q0
     refine a1.trans (a2.trans (a3.trans ?_))
     simp [List.append_assoc]
   simpa [List.append_assoc] using this
 · intro a w rl
   exact wp_mono (wp_region_any hm (wpAny_of_Z _ _ _ _ (wpAnyZ_of_T (fun _ _ _ _ _ h => h) (fun S listed a w ho hK fuel hf => wpAnyZ_of_T0 (fun _ _ _ _ _ h => h) _ _ _ _ _ ho hK fuel hf) _ _ π _ _ a _ ho.1 (h0 a _ (rl.heap rl.h.drew)) _ (by have := ho.2; simp at this ⊢; omega)))) NoPan.imp
theorem dyX {K : (World → Prop) → Act → World → Prop} {i : Nat} {dst : Option Nat} {ty' : TypeId} {pos : String} {af : Array Edge} {op : Op} {f : FV} (ho : ops[i]? = some ⟨dst, op, ty', pos, af, none⟩) (hy : YD P GB C fr own0 bs0 ⟨dst, op, ty', pos, af, none⟩ f) (hd : dstOk n dst = true)
  (h : SR GB C n (putF fr dst f) own0 bs0 own1 bs1 fd (dwK P ops Q K π)) : SR GB C n fr own0 bs0 own1 bs1 fd (dwK P ops Q K ((i, true) :: π)) := by
 refine ⟨fun G frv o0 o1 hgb hf h0 h1 fs => ?_⟩
 intro a w rl
 obtain ⟨y, k1, k2⟩ := hy G frv o0 ⟨hgb, hf, h0⟩
 have hsub : o0.Sublist (o1 ++ (o0 ++ fOs fd fs)) := (List.sublist_append_left o0 _).trans (List.sublist_append_right _ _)
 have hS : HS C o0 G w := ⟨G, GLe.refl _, rl.h.drop hsub⟩
 show dwT P ops (NoPan Q) K (pend fd fs) ((i, true) :: π) _ a w
 rw [dwT]
 refine ⟨_, y, ho, hS, .inl ⟨by simp [Region.wanted], fun w' ⟨G', hle, hr⟩ => k2 G' hle a w' rl.fr.left hr⟩, ?_⟩
 have := h G (put frv dst y) o0 o1 hgb (hf.put k1 _) h0 h1 fs _ _ (rl.put y hd |> fun r => by rw [put_app] at r; exact r)
 exact this
theorem dygX {K : (World → Prop) → Act → World → Prop} {i : Nat} {dst : Option Nat} {ty' : TypeId} {pos : String} {af : Array Edge} {op : Op} {f : FV} {j d : Nat} {b : Bool} (ho : ops[i]? = some ⟨dst, op, ty', pos, af, some (j, b)⟩)  (hj : (ops[j]?).bind (·.dst) = some d) (hlk : lookF fr d = some (.d (.v (.bool b)))) (hy : YD P GB C fr own0 bs0 ⟨dst, op, ty', pos, af, some (j, b)⟩ f) (hd : dstOk n dst = true)
  (h : SR GB C n (putF fr dst f) own0 bs0 own1 bs1 fd (dwK P ops Q K π)) : SR GB C n fr own0 bs0 own1 bs1 fd (dwK P ops Q K ((i, true) :: π)) := by
 refine ⟨fun G frv o0 o1 hgb hf h0 h1 fs => ?_⟩
 intro a w rl
 obtain ⟨y, k1, k2⟩ := hy G frv o0 ⟨hgb, hf, h0⟩
 have hsub : o0.Sublist (o1 ++ (o0 ++ fOs fd fs)) := (List.sublist_append_left o0 _).trans (List.sublist_append_right _ _)
 have hS : HS C o0 G w := ⟨G, GLe.refl _, rl.h.drop hsub⟩
 have hl : look frv d = some (.bool b) := hf.opv (x := .tmp d) hlk
 show dwT P ops (NoPan Q) K (pend fd fs) ((i, true) :: π) _ a w
 rw [dwT]
 refine ⟨_, y, ho, hS, .inl ⟨by simp [Region.wanted, yielded_of rl.fr hj (look_appS hl)], fun w' ⟨G', hle, hr⟩ => k2 G' hle a w' rl.fr.left hr⟩, ?_⟩
 exact h G (put frv dst y) o0 o1 hgb (hf.put k1 _) h0 h1 fs _ _ (rl.put y hd |> fun r => by rw [put_app] at r; exact r)
theorem dysX {K : (World → Prop) → Act → World → Prop} {i : Nat} {dst : Option Nat} {ty' : TypeId} {pos : String} {af : Array Edge} {op : Op} {j d : Nat} {b c : Bool} (ho : ops[i]? = some ⟨dst, op, ty', pos, af, some (j, b)⟩)  (hj : (ops[j]?).bind (·.dst) = some d) (hlk : lookF fr d = some (.d (.v (.bool c)))) (hbc : (c == b) = false) (hd : dstOk n dst = true)
  (h : SR GB C n (putF fr dst (.d (.v undef))) own0 bs0 own1 bs1 fd (dwK P ops Q K π)) : SR GB C n fr own0 bs0 own1 bs1 fd (dwK P ops Q K ((i, true) :: π)) := by
 refine ⟨fun G frv o0 o1 hgb hf h0 h1 fs => ?_⟩
 intro a w rl
 have hsub : o0.Sublist (o1 ++ (o0 ++ fOs fd fs)) := (List.sublist_append_left o0 _).trans (List.sublist_append_right _ _)
 have hS : HS C o0 G w := ⟨G, GLe.refl _, rl.h.drop hsub⟩
 have hl : look frv d = some (.bool c) := hf.opv (x := .tmp d) hlk
 show dwT P ops (NoPan Q) K (pend fd fs) ((i, true) :: π) _ a w
 rw [dwT]
 refine ⟨_, undef, ho, hS, .inr ⟨by simp [Region.wanted, yielded_of rl.fr hj (look_appS hl), hbc], rfl⟩, ?_⟩
 exact h G (put frv dst undef) o0 o1 hgb (hf.put (isF_v.2 rfl) _) h0 h1 fs _ _ (rl.put undef hd |> fun r => by rw [put_app] at r; exact r)
theorem FDok.nil : FDok P ops n [] := ⟨fun _ h => (by cases h), fun _ h => (by cases h), .nil, fun _ h => (by cases h)⟩
theorem dcX0 {K : (World → Prop) → Act → World → Prop} {i : Nat} (hok : FDok P ops n fd) (hfr : (fd.all fun f => (lookF fr f.d).isNone) = true)
   {G : Gh} {frv : Fr} {o0 o1 : List Own} (hf : FrIs G fr frv)
   (hc : ∀ fs, St C n (frv ++ fFs fd fs) (o1 ++ (o0 ++ fOs fd fs)) G (wpOp P ops (NoPan Q) i (grS (HS C o0 G) (dwT P ops (NoPan Q) K (pend fd fs) π)))) :
   ∀ (m : Nat) (fs : Fs), (pend fd fs).length ≤ m → St C n (frv ++ fFs fd fs) (o1 ++ (o0 ++ fOs fd fs)) G (dwT P ops (NoPan Q) K (pend fd fs) ((i, false) :: π) (HS C o0 G))
 | m, fs, hm => by
   intro a w rl
   rw [dwT]
   refine ⟨hc fs a w rl, fun j hj => ?_⟩
   have hsm : ∀ fs', (pend fd fs').length < (pend fd fs).length → St C n (frv ++ fFs fd fs') (o1 ++ (o0 ++ fOs fd fs')) G (dwT P ops (NoPan Q) K (pend fd fs') ((i, false) :: π) (HS C o0 G)) := fun fs' hlt => by
     cases m with
     | zero => omega
     | succ m => exact dcX0 hok hfr hf hc m fs' (by omega)
   have hfr' : (fd.all fun f => (look frv f.d).isNone) = true := by
     rw [List.all_eq_true] at hfr ⊢
     intro f hfm
     have h9 := hfr f hfm
     rw [Option.isNone_iff_eq_none] at h9 ⊢
     exact hf.lookN h9
   have := alloc_G (own := o1 ++ o0) (own0 := o0) (G0 := G) (Q := Q) (fin := fin0) (Φ := fun l => dwT P ops (NoPan Q) K l ((i, false) :: π) (HS C o0 G)) hok hfr' (List.sublist_append_right _ _) hj (fun b => by
     rw [List.append_assoc]
     refine hsm _ ?_
     rw [pend_upd]
     exact without_lt hj)
   rw [List.append_assoc] at this
   refine wpOp_mono (fun a' w' h' => ?_) (this a w rl)
   exact ⟨HS C o0 G, fun _ h => h, h'.1.resolve_left (by simp), h'.2⟩
theorem grS_SD {K : (World → Prop) → Act → World → Prop} (h : SR GB C n fr' own0 bs0 own1' bs1' fd (dwK P ops Q K π)) {G : Gh} {o0 : List Own} (hgb : GLe GB G) (h0 : OB G own0 bs0 o0) (fs : Fs) :
  SD G C n ⟨fFs fd fs, o0 ++ fOs fd fs⟩ fr' own1' bs1' (grS (HS C o0 G) (dwT P ops (NoPan Q) K (pend fd fs) π)) := by
 refine ⟨fun G' frv' o1' s => ?_⟩
 intro a w rl
 have := h G' frv' o0 o1' (hgb.trans s.gb) s.fr (h0.up s.gb) s.ob fs a w rl
 refine ⟨HS C o0 G', fun w' ⟨G2, hle, hr⟩ => ⟨G2, s.gb.trans hle, hr⟩, ⟨G', GLe.refl _, rl.h.drop ?_⟩, this⟩
 exact (List.sublist_append_left o0 _).trans (List.sublist_append_right _ _)
theorem dcX {K : (World → Prop) → Act → World → Prop} {i : Nat} {dst : Option Nat} {ty' : TypeId} {pos : String} {af : Array Edge} {op : Op} (ho : ops[i]? = some ⟨dst, op, ty', pos, af, none⟩) (h : TD P GB C n fr own1 bs1 ⟨dst, op, ty', pos, af, none⟩ fr' own1' bs1') (hok : FDok P ops n fd) (hfr : (fd.all fun f => (lookF fr f.d).isNone) = true)
  (k : SR GB C n fr' own0 bs0 own1' bs1' fd (dwK P ops Q K π)) : SR GB C n fr own0 bs0 own1 bs1 fd (dwK P ops Q K ((i, false) :: π)) := by
 refine ⟨fun G frv o0 o1 hgb hf h0 h1 fs => ?_⟩
 refine dcX0 hok hfr hf (fun fs => ?_) _ fs (Nat.le_refl _)
 intro a w rl
 unfold wpOp
 simp only [ho, Region.wanted, if_true]
 exact .inl (h G ⟨fFs fd fs, o0 ++ fOs fd fs⟩ _ hgb (grS_SD k hgb h0 fs) G frv o1 ⟨GLe.refl _, hf, h1⟩ a w _ rl)
theorem dfX {K : (World → Prop) → Act → World → Prop} {i : Nat} {dst : Option Nat} {ty' : TypeId} {pos : String} {af : Array Edge} {op : Op} {ι : Type} {fr' : ι → FrF} {own1' : ι → List OwnD} {bs1' : ι → List BufD} (ho : ops[i]? = some ⟨dst, op, ty', pos, af, none⟩) (h : TF P GB C n fr own1 bs1 ⟨dst, op, ty', pos, af, none⟩ ι fr' own1' bs1') (hok : FDok P ops n fd) (hfr : (fd.all fun f => (lookF fr f.d).isNone) = true)
  (k : ∀ x, SR GB C n (fr' x) own0 bs0 (own1' x) (bs1' x) fd (dwK P ops Q K π)) : SR GB C n fr own0 bs0 own1 bs1 fd (dwK P ops Q K ((i, false) :: π)) := by
 refine ⟨fun G frv o0 o1 hgb hf h0 h1 fs => ?_⟩
 refine dcX0 hok hfr hf (fun fs => ?_) _ fs (Nat.le_refl _)
 intro a w rl
 unfold wpOp
 simp only [ho, Region.wanted, if_true]
 exact .inl (h G ⟨fFs fd fs, o0 ++ fOs fd fs⟩ _ hgb (fun x => grS_SD (k x) hgb h0 fs) G frv o1 ⟨GLe.refl _, hf, h1⟩ a w _ rl)
theorem dcgX {K : (World → Prop) → Act → World → Prop} {i : Nat} {dst : Option Nat} {ty' : TypeId} {pos : String} {af : Array Edge} {op : Op} {j d : Nat} {b : Bool} (ho : ops[i]? = some ⟨dst, op, ty', pos, af, some (j, b)⟩)  (hj : (ops[j]?).bind (·.dst) = some d) (hlk : lookF fr d = some (.d (.v (.bool b)))) (h : TD P GB C n fr own1 bs1 ⟨dst, op, ty', pos, af, some (j, b)⟩ fr' own1' bs1') (hok : FDok P ops n fd) (hfr : (fd.all fun f => (lookF fr f.d).isNone) = true)
  (k : SR GB C n fr' own0 bs0 own1' bs1' fd (dwK P ops Q K π)) : SR GB C n fr own0 bs0 own1 bs1 fd (dwK P ops Q K ((i, false) :: π)) := by
 refine ⟨fun G frv o0 o1 hgb hf h0 h1 fs => ?_⟩
 refine dcX0 hok hfr hf (fun fs => ?_) _ fs (Nat.le_refl _)
 intro a w rl
 unfold wpOp
 have hl : look frv d = some (.bool b) := hf.opv (x := .tmp d) hlk
 have : Region.wanted ⟨dst, op, ty', pos, af, some (j, b)⟩ (yielded ops a.tmps) = true := by simp [Region.wanted, yielded_of rl.fr hj (look_appS hl)]
 simp only [ho, this, if_true]
 exact .inl (h G ⟨fFs fd fs, o0 ++ fOs fd fs⟩ _ hgb (grS_SD k hgb h0 fs) G frv o1 ⟨GLe.refl _, hf, h1⟩ a w _ rl)
theorem dcsX {K : (World → Prop) → Act → World → Prop} {i : Nat} {dst : Option Nat} {ty' : TypeId} {pos : String} {af : Array Edge} {op : Op} {j d : Nat} {b c : Bool} (ho : ops[i]? = some ⟨dst, op, ty', pos, af, some (j, b)⟩)  (hj : (ops[j]?).bind (·.dst) = some d) (hlk : lookF fr d = some (.d (.v (.bool c)))) (hbc : (c == b) = false) (hd : dstOk n dst = true) (hok : FDok P ops n fd) (hfr : (fd.all fun f => (lookF fr f.d).isNone) = true)
  (k : SR GB C n (putF fr dst (.d (.v undef))) own0 bs0 own1 bs1 fd (dwK P ops Q K π)) : SR GB C n fr own0 bs0 own1 bs1 fd (dwK P ops Q K ((i, false) :: π)) := by
 refine ⟨fun G frv o0 o1 hgb hf h0 h1 fs => ?_⟩
 refine dcX0 hok hfr hf (fun fs => ?_) _ fs (Nat.le_refl _)
 intro a w rl
 unfold wpOp
 have hl : look frv d = some (.bool c) := hf.opv (x := .tmp d) hlk
 have : Region.wanted ⟨dst, op, ty', pos, af, some (j, b)⟩ (yielded ops a.tmps) = false := by simp [Region.wanted, yielded_of rl.fr hj (look_appS hl), hbc]
 simp only [ho, this]
 have h9 := grS_SD k hgb h0 fs G (put frv dst undef) o1 ⟨GLe.refl _, hf.put (isF_v.2 rfl) _, h1⟩
 refine h9 _ _ ?_
 have := rl.put undef hd
 rw [put_app] at this
 exact this
theorem td_yd {dst : Option Nat} {ty' : TypeId} {pos : String} {af : Array Edge} {op : Op} {gd : Option (Nat × Bool)} {f : FV} (hy : YD P GB C fr own bs ⟨dst, op, ty', pos, af, gd⟩ f) (hd : dstOk n dst = true) : TD P GB C n fr own bs ⟨dst, op, ty', pos, af, gd⟩ (putF fr dst f) own bs := by
 intro GB' E Φ hgb h G frv ov s
 obtain ⟨y, h1, h2⟩ := hy G frv ov (s.gbd hgb)
 refine ch_yd (h2 G (GLe.refl _)).ext hd ?_
 show St _ _ (put _ dst _) _ _ _
 rw [put_app]
 exact h G _ ov ⟨s.gb, s.fr.put h1 _, s.ob⟩
theorem outX0 {K : (World → Prop) → Act → World → Prop} (h : SR GB C n fr own0 bs0 own1 bs1 [] (fun _ => K)) : SR GB C n fr own0 bs0 own1 bs1 [] (dwK P ops Q K []) := by
 refine ⟨fun G frv o0 o1 hgb hf h0 h1 fs => ?_⟩
 intro a w rl
 show dwT P ops (NoPan Q) K [] [] _ a w
 rw [dwT]
 exact h G frv o0 o1 hgb hf h0 h1 fs a w rl
theorem outX' {K : (World → Prop) → Act → World → Prop} (hok : FDok P ops n fd) (hfr : (fd.all fun f => (lookF fr f.d).isNone) = true) {G : Gh} {frv : Fr} {o0 o1 : List Own} (hf : FrIs G fr frv)
   (h : ∀ fs, pend fd fs = [] → St C n (frv ++ fFs fd fs) (o1 ++ (o0 ++ fOs fd fs)) G (K (HS C o0 G))) :
   ∀ (m : Nat) (fs : Fs), (pend fd fs).length ≤ m → St C n (frv ++ fFs fd fs) (o1 ++ (o0 ++ fOs fd fs)) G (dwT P ops (NoPan Q) K (pend fd fs) [] (HS C o0 G))
 | m, fs, hm => by
   intro a w rl
   cases hp : pend fd fs with
   | nil => rw [dwT]; exact h fs hp a w rl
   | cons k ks =>
     rw [dwT]
     intro j hj
     rw [← hp] at hj ⊢
     have hsm : ∀ fs', (pend fd fs').length < (pend fd fs).length → St C n (frv ++ fFs fd fs') (o1 ++ (o0 ++ fOs fd fs')) G (dwT P ops (NoPan Q) K (pend fd fs') [] (HS C o0 G)) := fun fs' hlt => by
       cases m with
       | zero => omega
       | succ m => exact outX' hok hfr hf h m fs' (by omega)
     have hfr' : (fd.all fun f => (look frv f.d).isNone) = true := by
       rw [List.all_eq_true] at hfr ⊢
       intro f hfm
       have h9 := hfr f hfm
       rw [Option.isNone_iff_eq_none] at h9 ⊢
       exact hf.lookN h9
     have := alloc_G (own := o1 ++ o0) (own0 := o0) (G0 := G) (Q := Q) (fin := fin0) (Φ := fun l => dwT P ops (NoPan Q) K l [] (HS C o0 G)) hok hfr' (List.sublist_append_right _ _) hj (fun b => by
       rw [List.append_assoc]
       refine hsm _ ?_
       rw [pend_upd]
       exact without_lt hj)
     rw [List.append_assoc] at this
     refine wpOp_mono (fun a' w' h' => ?_) (this a w rl)
     exact ⟨HS C o0 G, fun _ h => h, h'.1.resolve_left (by simp), h'.2⟩
def frB : List FD → List Nat → FrF
 | f :: fd, b :: bl => (f.d, .d (.v (.pointer (some ⟨b, 0, none⟩)))) :: frB fd bl
 | _, _ => []
def owB : List FD → List (List DV) → List Nat → List OwnD
 | f :: fd, c :: cl, b :: bl => ⟨b, c, f.t, true⟩ :: owB fd cl bl
 | _, _, _ => []
def ZsOk : List FD → List (List DV) → Prop
 | f :: fd, c :: cl => IsLs (fun _ => none) c (cellsL f.z) ∧ ZsOk fd cl
 | [], [] => True
 | _, _ => False
theorem pend_nil {fs : Fs} : ∀ {fd : List FD}, pend fd fs = [] → ∃ bl : List Nat, bl.length = fd.length ∧ ∀ G, FrIs G (frB fd bl) (fFs fd fs) ∧ ∀ cl, ZsOk fd cl → OwnsIs G (owB fd cl bl) (fOs fd fs)
 | [], _ => ⟨[], rfl, fun G => ⟨rfl, fun cl _ => (by cases cl <;> rfl)⟩⟩
 | f :: fd, h => by
   have hf : ∃ b, fs f.k = some b := by
     cases hb : fs f.k with
     | some b => exact ⟨b, rfl⟩
     | none => simp [pend, hb] at h
   obtain ⟨b, hb⟩ := hf
   have h' : pend fd fs = [] := by simpa [pend, hb] using h
   obtain ⟨bl, h1, h2⟩ := pend_nil h'
   refine ⟨b :: bl, by simp [h1], fun G => ⟨⟨_, _, by simp only [fFs, hb, fF]; rfl, isF_v.2 rfl, (h2 G).1⟩, fun cl hz => ?_⟩⟩
   cases cl with
   | nil => cases hz
   | cons c cl => exact ⟨cellsL f.z, _, by simp only [fOs, hb, fO]; rfl, hz.1.up (GLe.bot G), (h2 G).2 cl hz.2⟩
theorem FrIs.app {G : Gh} : ∀ {a b : FrF} {m n : Fr}, FrIs G a m → FrIs G b n → FrIs G (a ++ b) (m ++ n)
 | [], b, m, n, h, k => by rw [show m = [] from h]; exact k
 | (j, f) :: t, b, m, n, ⟨y, u, e, h1, h2⟩, k => by subst e; exact ⟨y, _, rfl, h1, FrIs.app h2 k⟩
theorem outX {K : (World → Prop) → Act → World → Prop} (cl : List (List DV)) (hz : ZsOk fd cl) (hok : FDok P ops n fd) (hfr : (fd.all fun f => (lookF fr f.d).isNone) = true)
  (h : ∀ bl : List Nat, bl.length = fd.length → SR GB C n (fr ++ frB fd bl) own0 bs0 (owB fd cl bl ++ own1) bs1 [] (fun _ => K)) : SR GB C n fr own0 bs0 own1 bs1 fd (dwK P ops Q K []) := by
 refine ⟨fun G frv o0 o1 hgb hf h0 h1 fs => ?_⟩
 refine outX' hok hfr hf (fun fs hp => ?_) _ fs (Nat.le_refl _)
 obtain ⟨bl, hl, hb⟩ := pend_nil hp
 obtain ⟨p, q, rfl, hp1, hq1⟩ := h1
 have := h bl hl G (frv ++ fFs fd fs) o0 (fOs fd fs ++ (p ++ q)) hgb (hf.app (hb G).1) h0 ⟨fOs fd fs ++ p, q, by rw [List.append_assoc], ((hb G).2 cl hz).app hp1, hq1⟩ fs
 simp only [fFs, fOs, List.append_nil] at this
 refine st_perm _ ?_ this
 simp only [List.append_assoc]
 have e1 : (p ++ (q ++ (o0 ++ fOs fd fs))).Perm (fOs fd fs ++ (p ++ (q ++ o0))) := by
  rw [← List.append_assoc, ← List.append_assoc, ← List.append_assoc p q]
  exact List.perm_append_comm
 exact e1
theorem outX1 {f : FD} {c : List DV} {K : (World → Prop) → Act → World → Prop} (hz : ZsOk [f] [c]) (hok : FDok P ops n [f]) (hfr : ([f].all fun f => (lookF fr f.d).isNone) = true)
   (h : ∀ b : Nat, SR GB C n (fr ++ [(f.d, .d (.v (.pointer (some ⟨b, 0, none⟩))))]) own0 bs0 (⟨b, c, f.t, true⟩ :: own1) bs1 [] (fun _ => K)) : SR GB C n fr own0 bs0 own1 bs1 [f] (dwK P ops Q K []) :=
 outX [c] hz hok hfr fun bl hl => by
   match bl, hl with
   | [b], _ => exact h b
theorem outX2 {f g : FD} {c c2 : List DV} {K : (World → Prop) → Act → World → Prop} (hz : ZsOk [f, g] [c, c2]) (hok : FDok P ops n [f, g]) (hfr : ([f, g].all fun f => (lookF fr f.d).isNone) = true)
   (h : ∀ b b2 : Nat, SR GB C n (fr ++ [(f.d, .d (.v (.pointer (some ⟨b, 0, none⟩)))), (g.d, .d (.v (.pointer (some ⟨b2, 0, none⟩))))]) own0 bs0 (⟨b, c, f.t, true⟩ :: ⟨b2, c2, g.t, true⟩ :: own1) bs1 [] (fun _ => K)) : SR GB C n fr own0 bs0 own1 bs1 [f, g] (dwK P ops Q K []) :=
 outX [c, c2] hz hok hfr fun bl hl => by
   match bl, hl with
   | [b, b2], _ => exact h b b2
theorem onX {K : (World → Prop) → Act → World → Prop} (h : SR GB C n fr own0 bs0 own1 bs1 [] (dwK P ops Q K π)) : SR GB C n fr own0 bs0 own1 bs1 [] (fun _ => dwK P ops Q K π []) := ⟨fun G frv o0 o1 hgb hf h0 h1 fs => h G frv o0 o1 hgb hf h0 h1 fs⟩
theorem dnX (h : SD GB C n E0 fr (own1 ++ own0) (bs1 ++ bs0) (Q .normal)) : SR GB C n fr own0 bs0 own1 bs1 [] (fun _ => endN (NoPan Q)) := by
 refine ⟨fun G frv o0 o1 hgb hf h0 h1 fs => ?_⟩
 obtain ⟨p0, q0, rfl, hp0, hq0⟩ := h0
 obtain ⟨p1, q1, rfl, hp1, hq1⟩ := h1
 have := h G frv ((p1 ++ p0) ++ (q1 ++ q0)) ⟨hgb, hf, _, _, rfl, hp1.app hp0, hq1.app hq0⟩
 simp only [E0, List.append_nil] at this
 simp only [fFs, fOs, List.append_nil]
 refine st_perm _ ?_ this
 simp only [List.append_assoc]
 refine List.Perm.append_left p1 ?_
 rw [← List.append_assoc q1, ← List.append_assoc p0]
 exact (List.perm_append_comm).append_right q0
end
/-! ### a choice of the blocks -/
theorem HRel.sub' {C : Ctx} {own own' : List Own} {G : Gh} {w : World} (h : HRel C own G w) (hs : ∀ o ∈ own', o ∈ own) (hp : own'.Pairwise (fun x y => x.b ≠ y.b)) : HRel C own' G w :=
 ⟨h.os, h.tape, h.output, h.size, h.keep, h.sub, h.gle, h.gold, fun o ho => h.hown o (hs o ho), hp⟩
def pickL {α : Type} (idx : List Nat) (l : List α) : List α := idx.filterMap (l[·]?)
theorem pickL_mem {α : Type} {idx : List Nat} {l : List α} {x : α} (h : x ∈ pickL idx l) : ∃ i ∈ idx, l[i]? = some x := by
 simpa [pickL, List.mem_filterMap] using h
theorem OwnsIs.pick {G : Gh} {own : List OwnD} {p : List Own} (h : OwnsIs G own p) : ∀ idx : List Nat, OwnsIs G (pickL idx own) (pickL idx p) := by
 have key : ∀ (own : List OwnD) (p : List Own) (i : Nat), OwnsIs G own p → (own[i]? = none ∧ p[i]? = none) ∨ ∃ o cs, own[i]? = some o ∧ p[i]? = some ⟨o.b, cs, o.ty, o.lo⟩ ∧ IsLs G o.cs cs := by
   intro own
   induction own with
   | nil => rintro p i h; rw [show p = [] from h]; exact .inl ⟨rfl, rfl⟩
   | cons o t ih =>
     rintro p i ⟨cs, m, rfl, h1, h2⟩
     cases i with
     | zero => exact .inr ⟨o, cs, rfl, rfl, h1⟩
     | succ i => exact ih m i h2
 intro idx
 induction idx with
 | nil => rfl
 | cons i t ih =>
   unfold pickL at *
   rw [List.filterMap_cons, List.filterMap_cons]
   rcases key own p i h with ⟨h1, h2⟩ | ⟨o, cs, h1, h2, h3⟩
   · rw [h1, h2]; exact ih
   · rw [h1, h2]; exact ⟨cs, _, rfl, h3, ih⟩
theorem pairwise_get {l : List Own} (h : l.Pairwise (fun x y => x.b ≠ y.b)) {i j : Nat} {x y : Own} (hi : l[i]? = some x) (hj : l[j]? = some y) (hne : i ≠ j) : x.b ≠ y.b := by
 obtain ⟨h1, h2⟩ := List.getElem?_eq_some_iff.1 hi
 obtain ⟨h3, h4⟩ := List.getElem?_eq_some_iff.1 hj
 rw [List.pairwise_iff_getElem] at h
 rcases Nat.lt_or_gt_of_ne hne with hlt | hlt
 · rw [← h2, ← h4]; exact h i j h1 h3 hlt
 · rw [← h2, ← h4]; exact (h j i h3 h1 hlt).symm
theorem sd_selO {GB : Gh} {C : Ctx} {n : Nat} {E : Ext} {fr : FrF} {own own' : List OwnD} {bs : List BufD} {Φ : Act → World → Prop} (idx : List Nat) (hn : idx.Pairwise (· ≠ ·)) (he : own' = pickL idx own) (h : SD GB C n E fr own' bs Φ) : SD GB C n E fr own bs Φ := by
 subst he
 refine ⟨fun G frv ov s => ?_⟩
 intro a w rl
 obtain ⟨p, q, rfl, hp, hq⟩ := s.ob
 refine h G frv (pickL idx p ++ q) ⟨s.gb, s.fr, _, q, rfl, hp.pick idx, hq⟩ a w ⟨rl.h.sub' ?_ ?_, rl.sz, rl.fr, rl.df⟩
 · intro o ho
   simp only [List.mem_append] at ho ⊢
   rcases ho with (ho | ho) | ho
   · obtain ⟨i, _, hi⟩ := pickL_mem ho
     exact .inl (.inl (List.mem_of_getElem? hi))
   · exact .inl (.inr ho)
   · exact .inr ho
 · have hnd := rl.h.nd
   rw [List.append_assoc] at hnd ⊢
   obtain ⟨h1, h2, h3⟩ := List.pairwise_append.1 hnd
   refine List.pairwise_append.2 ⟨?_, h2, ?_⟩
   · unfold pickL
     rw [List.pairwise_filterMap]
     refine hn.imp ?_
     intro i j hij x hx y hy
     exact pairwise_get h1 hx hy hij
   · intro x hx y hy
     obtain ⟨i, _, hi⟩ := pickL_mem hx
     exact h3 x (List.mem_of_getElem? hi) y hy
end Go.Sx
end

section
set_option maxRecDepth 100000
namespace Go.Sx
open Go
section
variable {P : Program} {GB : Gh} {C : Ctx} {n : Nat} {E : Ext} {fr fr' : FrF} {own own' : List OwnD} {bs bs' bs1 : List BufD} {ops : Array Oper} {Q : Exit → Act → World → Prop} {r : List Oper} {Φ : Act → World → Prop}
variable {dst : Option Nat} {t t' ty' : TypeId} {pos : String} {af : Array Edge} {gd : Option (Nat × Bool)} {x y z : Operand} {e s by_ : Nat}
theorem tf_appendF [hT : TySl P t e s by_] [hN : TyN P t'] {d0 : DV} [hz : TyZE P e d0] {w : SV} {ds ds2 : List DV} (hx : opF fr x = some w.f) (hb : BRemD bs ⟨w, s, e, ds, false⟩ bs1) (hy : SrcD fr bs1 s y ds2)
   (hby : Nat.blt 0 by_ = true) (hbd : (ds.length + ds2.length) * by_ ≤ 140737488355328) (hzs : Nat.beq d0.cells.length s = true) (hd : dstOk n dst = true) :
   TF P GB C n fr own bs ⟨dst, .call ⟨.builtin .append, #[x, y], #[t, t']⟩, ty', pos, af, gd⟩ SV (fun w' => putF fr dst w'.f) (fun _ => own) (fun w' => ⟨w', s, e, ds ++ ds2, false⟩ :: bs1) := by
 intro GB' E Φ hgb h G frv ov st
 obtain ⟨z, hz1, hz2, hz3⟩ := hz.z
 obtain ⟨p, q, rfl, hp, hq⟩ := st.ob
 have cz := (hz2.cells hz3).1.len
 replace hzs := Nat.eq_of_beq_eq_true hzs
 rw [Nat.blt_eq] at hby
 obtain ⟨B, a1, a2, rfl, ⟨vs, hB, hv, hvs, hlo⟩, hq1⟩ := hb.lens hq
 simp only [] at hB hv hvs
 obtain ⟨w2, us, h1, h2, h3, h4, h5, h6⟩ := hy.src (P := P) (C := C) st.fr hq1 ((p ++ (a1 ++ (B ++ a2))) ++ E.own) (fun o ho => by
   simp only [List.mem_append] at ho ⊢; rcases ho with h | h <;> simp [h])
 have hx' := opv_app (y := E.fr) (st.fr.opv hx)
 have hy' := opv_app (y := E.fr) h1
 have hus : (flatL us).length = us.length * s := flatL_len us h4
 have hbd' : (vs.length + us.length) * by_ ≤ 140737488355328 := by rw [hv.len, h3.len]; exact hbd
 have hall : ∀ v ∈ vs ++ us, (cellsL v).length = s := fun v hv => by
   rcases List.mem_append.1 hv with hv | hv
   · exact hvs v hv
   · exact h4 v hv
 have hfin : ∀ (b : Nat) (lo' : Bool) (cap' : Nat) (rest' : List Value), vs.length + us.length ≤ cap' → rest'.length + (vs.length + us.length) * s = cap' * s →
     St C n (put (frv ++ E.fr) dst (.slice (some ⟨b, 0, none⟩) (vs.length + us.length) cap')) (⟨b, flatL (vs ++ us) ++ rest', e, lo'⟩ :: ((p ++ (a1 ++ a2)) ++ E.own)) G Φ := by
   intro b lo' cap' rest' hc hr
   rw [put_app]
   refine st_perm ((p ++ ([⟨b, flatL (vs ++ us) ++ rest', e, lo'⟩] ++ (a1 ++ a2))) ++ E.own) ?_ (h ⟨some ⟨b, 0, none⟩, vs.length + us.length, cap'⟩ G _ _ ⟨st.gb, st.fr.put (isF_v.2 rfl) _, p, _, rfl, hp, ?_⟩)
   · simp only [List.append_assoc, List.cons_append, List.nil_append]
     exact List.perm_middle.symm
   · refine ⟨_, _, rfl, ⟨vs ++ us, .inr ⟨b, rest', lo', by simp, rfl, flatL_len _ hall, ?_, by simpa using hc⟩, hv.app h3, hall, fun h => by cases h⟩, hq1⟩
     rw [flatL_len _ hall, List.length_append]
     simp only []
     omega
 rcases hB with ⟨e1, e2, e3⟩ | ⟨b, rest, lo', k3, k4, k5, k6, k7⟩
 · subst e1 e2 e3
   by_cases hne : us = []
   · subst hne
     have : ds2 = [] := List.eq_nil_of_length_eq_zero (by rw [← h3.len]; rfl)
     subst this
     rw [h2] at hy'
     refine ch_append_nil hx' hy' hd ?_
     rw [put_app]
     refine h ⟨none, 0, 0⟩ G _ _ ⟨st.gb, st.fr.put (isF_v.2 rfl) _, p, _, rfl, hp, ?_⟩
     rw [List.append_nil]
     refine ⟨[], _, by simp, ⟨[], .inl ⟨rfl, rfl, rfl⟩, hv, by simp, fun h => by cases h⟩, hq1⟩
   · have hup : 0 < us.length := List.length_pos_iff.2 hne
     rw [h2] at hy' h6
     refine ch_append_grow (z := z) (xs := []) (ys := flatL us) hx' hy' src_zero h6 (by show (0 : Nat) < 0 + us.length; omega) hby (by simpa using hbd') hd (fun b cap' hc => ?_)
     have := hfin b true cap' (zeros z (cap' - us.length)) (by simpa using hc) (by rw [zeros_len, cz, hzs, ← Nat.add_mul]; simp at hc ⊢; congr 1; omega)
     simpa using this
 · subst k4
   have ha : w.a = some ⟨b, 0, none⟩ := by rw [k3]
   have hn : w.n = vs.length := by rw [k3]
   rw [ha, hn] at hx'
   rw [h2] at hy' h6
   refine ch_append_any (z := z) (xs := flatL vs) (ys := flatL us) (rest := rest) (own1 := (p ++ (a1 ++ a2)) ++ E.own) (lo := lo') hx' hy' ?_ k5 k6 k7 h6 hus h5 hby hbd' (by rw [cz, hzs]) hd (fun b' lo2 cap' rest' hc hr => ?_)
   · have := (ORem.mid (o := (⟨b, flatL vs ++ rest, e, lo'⟩ : Own)) (r := a2 ++ E.own) (p ++ a1))
     simpa [List.append_assoc] using this
   · rw [← flatL_app]
     exact hfin b' lo2 cap' rest' hc hr
theorem td_storeBs {w : SV} {i j sz : Nat} {ty : TypeId} {ds : List DV} {d u : DV} {lo : Bool} (hx : opF fr x = some (.be w sz i j)) (hy : opD fr y = some u) [hs : TyS P t] (hb : BRemD bs ⟨w, sz, ty, ds, lo⟩ bs1)
   (hi : ds[i]? = some (.ag d.cells)) (hj : Nat.blt j d.cells.length = true) (hf : u.flat = true) (hd : dstOk n dst = true) :
   TD P GB C n fr own bs ⟨dst, .store t x y, ty', pos, af, gd⟩ (putF fr dst (.d (.v undef))) own (⟨w, sz, ty, ds.set i (.ag (d.cells.set j u)), lo⟩ :: bs1) := by
 intro GB' E Φ hgb h G frv ov st
 obtain ⟨y', h1, h2⟩ := st.fr.opD hy
 obtain ⟨x', h3, b, hwb, rfl⟩ := st.fr.op hx
 obtain ⟨p, q, rfl, hp, hq⟩ := st.ob
 obtain ⟨B, a1, a2, rfl, hB, hq1⟩ := hb.lens hq
 obtain ⟨b', vs, rest, lo', e1, rfl, hv, hvs, hil, hup⟩ := hB.upd hi
 rw [hwb] at e1; cases e1
 have hfl := h2.flat hf
 rw [Nat.blt_eq] at hj
 obtain ⟨v, g1, g2⟩ := hv.get hi
 obtain ⟨m, rfl, hm⟩ := is_ag.1 g2
 obtain ⟨g3, g4⟩ := List.getElem?_eq_some_iff.1 g1
 have hml : m.length = sz := hvs _ (List.mem_of_getElem? g1)
 have hmd := hm.len
 have key := hup (.agg ⟨m.set j y'⟩) (.ag (d.cells.set j u)) (is_ag.2 ⟨_, rfl, hm.set j h2⟩) (by show (m.set j y').length = sz; simpa using hml)
 have hset := flatL_set (rest := rest) (u := .agg ⟨m.set j y'⟩) vs i hil hvs (by show (m.set j y').length = sz; simpa using hml)
 have hlv := flatL_len vs hvs
 have hle : i * sz + sz ≤ vs.length * sz := by rw [← Nat.succ_mul]; exact Nat.mul_le_mul_right _ hil
 have hst : (flatL vs ++ rest).set (i * sz + j) y' = flatL (vs.set i (.agg ⟨m.set j y'⟩)) ++ rest := by
   rw [← hset, flat_set (by omega) vs i hil hvs]
   show _ = ovw _ _ (m.set j y')
   rw [ovw_spec _ _ _ (by simp only [List.length_set, List.length_append]; omega), g4]
   rw [List.take_append_of_le_length (by omega), flatL_take vs i hvs (by omega), List.length_set, hml, List.drop_append_of_le_length (by omega), ← Nat.succ_mul, flatL_drop vs (i + 1) hvs hil]
   simp [cellsL, List.append_assoc]
 refine ch_store1 (ty := ty) (lo := lo') (cs := flatL vs ++ rest) (own' := (p ++ (a1 ++ ([⟨b, flatL (vs.set i (.agg ⟨m.set j y'⟩)) ++ rest, ty, lo'⟩] ++ a2))) ++ E.own) (opv_app h3) (opv_app h1) ?_ ?_ hfl hd ?_
 · rw [hst]
   have := (OUpd.mid (b := b) (cs := flatL vs ++ rest) (cs' := flatL (vs.set i (.agg ⟨m.set j y'⟩)) ++ rest) (ty := ty) (lo := lo') (r := a2 ++ E.own) (p ++ a1))
   simpa [List.append_assoc] using this
 · rw [List.length_append]; omega
 · rw [put_app]
   refine st_perm ((p ++ ([⟨b, flatL (vs.set i (.agg ⟨m.set j y'⟩)) ++ rest, ty, lo'⟩] ++ (a1 ++ a2))) ++ E.own) ?_ (h G _ _ ⟨st.gb, st.fr.put (isF_v.2 rfl) _, p, _, rfl, hp, ⟨_, _, rfl, key, hq1⟩⟩)
   simp only [List.append_assoc, List.cons_append, List.nil_append]
   exact List.perm_middle.append_left _
def PB (GB : Gh) (P : Program) (f : FuncId) (mk : SV → List DV) (s : Nat) (ty : TypeId) (dsi : List DV) (mkr : SV → DV) (dso : List DV) : Prop :=
 ∀ G w vs B, GLe GB G → BufIs G ⟨w, s, ty, dsi, false⟩ B → IsLs G (mk w) vs → FnO P f vs B G (fun v own' G' => ∃ w', Is G' (mkr w') v ∧ BufIs G' ⟨w', s, ty, dso, false⟩ own')
def opXs (fr : FrF) : List Operand → Option (List DV)
 | [] => some []
 | x :: t => match opF fr x, opXs fr t with
   | some (.d d), some l => some (d :: l)
   | _, _ => none
theorem FrIs.opx {G : Gh} {fr : FrF} {m : Fr} (h : FrIs G fr m) : ∀ {x : List Operand} {l : List DV}, opXs fr x = some l → ∃ y, opvs m x = some y ∧ IsLs G l y
 | [], l, e => by simp only [opXs] at e; cases e; exact ⟨[], rfl, .nil⟩
 | x :: t, l, e => by
   simp only [opXs] at e
   split at e
   · rename_i d l' hd hl'
     cases e
     obtain ⟨y, h1, h2⟩ := h.op hd
     obtain ⟨ys, h3, h4⟩ := h.opx hl'
     exact ⟨y :: ys, by simp only [opvs, h1, h3], .cons h2 h4⟩
   · cases e
theorem BufIs.asB {G : Gh} {w : SV} {ty : TypeId} {ds : List DV} {lo : Bool} {B : List Own} (h : BufIs G ⟨w, s, ty, ds, lo⟩ B) : BufIs G ⟨w, s, ty, ds, false⟩ (Sx.asB B) := by
 obtain ⟨vs, h1, h2, h3, h4⟩ := h
 exact ⟨vs, h1.asB, h2, h3, fun h => by cases h⟩
theorem BufIs.weak {G : Gh} {w : SV} {ty : TypeId} {ds : List DV} {lo : Bool} {B : List Own} (h : BufIs G ⟨w, s, ty, ds, lo⟩ B) : BufIs G ⟨w, s, ty, ds, false⟩ B := by
 obtain ⟨vs, h1, h2, h3, h4⟩ := h
 exact ⟨vs, h1, h2, h3, fun h => by cases h⟩
theorem tf_callB {f : FuncId} {fo : Operand} {args : Array Operand} {tys : Array TypeId} {mk : SV → List DV} {ty : TypeId} {dsi dso : List DV} {mkr : SV → DV} {w : SV} {lo : Bool} (ho : opF fr fo = some (.d (.v (.func (.func f) #[] #[])))) (hv : opXs fr args.toList = some (mk w)) (hF : PB GB P f mk s ty dsi mkr dso) (hb : BRemD bs ⟨w, s, ty, dsi, lo⟩ bs1) (hd : dstOk n dst = true) :
   TF P GB C n fr own bs ⟨dst, .call ⟨.value fo, args, tys⟩, ty', pos, af, gd⟩ SV (fun w' => putF fr dst (.d (mkr w'))) (fun _ => own) (fun w' => ⟨w', s, ty, dso, lo⟩ :: bs1) := by
 intro GB' E Φ hgb h G frv ov st
 obtain ⟨vs, h1, h2⟩ := st.fr.opx hv
 obtain ⟨p, q, rfl, hp, hq⟩ := st.ob
 obtain ⟨B, a1, a2, rfl, hB, hq1⟩ := hb.lens hq
 refine ch_callcO (c1 := []) (c2 := []) (M := B) (rest := p ++ (a1 ++ (a2 ++ E.own))) (opv_app (st.fr.opv ho)) (opvs_app h1) ?_ (by simpa using hF G w vs B (hgb.trans st.gb) hB.weak h2) hd ?_
 · simp only [List.append_assoc]
   have e1 : (p ++ (a1 ++ (B ++ (a2 ++ E.own)))).Perm (B ++ (p ++ (a1 ++ (a2 ++ E.own)))) := by
     rw [← List.append_assoc p, ← List.append_assoc p a1 (a2 ++ E.own), ← List.append_assoc, ← List.append_assoc B]
     exact (List.perm_append_comm).append_right _
   exact e1
 · rintro v own1 G' hG ⟨w', hr, vs', k1, k2, k3, k4⟩
   rw [put_app]
   refine st_perm ((p ++ (own1.map (relo (flM B)) ++ (a1 ++ a2))) ++ E.own) ?_ (h w' G' _ _ ⟨st.gb.trans hG.le, (st.fr.up hG.le).put (f := .d (mkr w')) hr _, p, _, rfl, hp.up hG.le, ⟨_, _, rfl, ⟨vs', k1.relo _, k2, k3, ?_⟩, hq1.up hG.le⟩⟩)
   · simp only [List.append_assoc]
     rw [← List.append_assoc, ← List.append_assoc p]
     exact (List.perm_append_comm).append_right _
   · intro hl o ho
     simp only [] at hl
     obtain ⟨o', _, rfl⟩ := List.mem_map.1 ho
     obtain ⟨_, _, _, _, hlo⟩ := hB
     exact flM_true _ (hlo hl)
theorem PB.intro {f : FuncId} {fn : Func} {c : Code} {k : Nat} {mk : SV → List DV} {dsi dso : List DV} {ty : TypeId} {mkr : SV → DV} (hf : P.funcs[f]? = some fn) (hb : fn.body = some c) (hn : (fn.name == "runtime.NumGoroutine") = false) (hm : fn.ntmps = k) (hlen : ∀ w, Nat.ble (mk w).length k = true)
  (h : ∀ (C : Ctx) (w : SV), SD GB C k E0 (args0F 0 (mk w)) [] [⟨w, s, ty, dsi, false⟩] (c.wp P (bodyPost P fn (RPostO C (fun v own' G' => ∃ w', Is G' (mkr w') v ∧ BufIs G' ⟨w', s, ty, dso, false⟩ own'))))) : PB GB P f mk s ty dsi mkr dso := by
 intro G w vs B hg hB hv
 refine FnO.intro hf hb hn hm (by rw [hv.len]; exact hlen w) fun C _ _ => ?_
 have := h C w G _ (asB B) ⟨hg, FrIs.args0 0 hv, [], _, rfl, rfl, ⟨asB B, [], (List.append_nil _).symm, hB.asB, rfl⟩⟩
 simpa only [E0, List.append_nil] using this
inductive RVX (fr : FrF) : List ResultVar → List DV → Prop
 | nil : RVX fr [] []
 | tmp {t : Nat} {v : DV} {rs : List ResultVar} {vs : List DV} (h : lookF fr t = some (.d v)) (k : RVX fr rs vs) : RVX fr (.tmp t :: rs) (v :: vs)
theorem sd_doneB {fn : Func} {w : SV} {ty : TypeId} {dso ds : List DV} {mkr : SV → DV} (hr : RVX fr fn.results.toList ds) (e : tupD ds = mkr w) (hb : BRemD bs ⟨w, s, ty, dso, false⟩ bs1) :
   SD GB C n E0 fr own bs (bodyPost P fn (RPostO C (fun v own' G' => ∃ w', Is G' (mkr w') v ∧ BufIs G' ⟨w', s, ty, dso, false⟩ own')) .ret) := by
 refine ⟨fun G frv ov st => ?_⟩
 obtain ⟨p, q, rfl, hp, hq⟩ := st.ob
 obtain ⟨B, a1, a2, rfl, hB, hq1⟩ := hb.lens hq
 have : ∃ vs, RVs P frv (p ++ (a1 ++ (B ++ a2))) fn.results.toList vs ∧ IsLs G ds vs := by
   clear e
   generalize fn.results.toList = rs at hr
   induction hr with
   | nil => exact ⟨[], .nil, .nil⟩
   | tmp h k ih =>
     obtain ⟨vs, h1, h2⟩ := ih
     obtain ⟨y, hy, hy'⟩ := st.fr.look h
     exact ⟨y :: vs, .tmp hy h1, .cons hy' h2⟩
 obtain ⟨vs, h1, h2⟩ := this
 simp only [E0, List.append_nil]
 refine st_doneO h1 (B ++ (p ++ (a1 ++ a2))) B ?_ (List.sublist_append_left _ _) ⟨w, e ▸ tupD_is h2, hB⟩
 rw [← List.append_assoc p, ← List.append_assoc, ← List.append_assoc p a1 a2, ← List.append_assoc B]
 exact (List.perm_append_comm).append_right _
end
end Go.Sx
end
