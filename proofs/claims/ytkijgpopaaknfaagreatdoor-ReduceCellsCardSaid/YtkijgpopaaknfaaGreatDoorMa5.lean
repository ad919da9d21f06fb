/-
  Integers, calls, allocs, stores and rows over deep values.
-/
import Derived.Test.YtkijgpopaaknfaaGreatDoorMa4
section
set_option maxRecDepth 100000
namespace Go.Sx
open Go

section
variable {P : Program} {GB : Gh} {C : Ctx} {n : Nat} {E : Ext} {fr fr' : FrF} {own own' : List OwnD} {bs bs' bs1 : List BufD} {ops : Array Oper} {Q : Exit → Act → World → Prop} {r : List Oper} {Φ : Act → World → Prop}
variable {dst : Option Nat} {t t' ty' : TypeId} {pos : String} {af : Array Edge} {gd : Option (Nat × Bool)} {x y z : Operand} {e s by_ : Nat}

/-! integers and bools -/
theorem yq_add64 {p q : Int} (hx : opF fr x = some (.d (.v (.int .i64 p)))) (hy : opF fr y = some (.d (.v (.int .i64 q)))) (h0 : -9223372036854775808 ≤ p + q) (h1 : p + q ≤ 9223372036854775807) : YD P GB C fr own bs ⟨dst, .binOp .add t x y t', ty', pos, af, gd⟩ (.d (.v (.int .i64 (p + q)))) := .of2 hx hy fun a b => yd_add64 a b h0 h1
theorem yq_addU {p q : Int} (hx : opF fr x = some (.d (.v (.int .u64 p)))) (hy : opF fr y = some (.d (.v (.int .u64 q)))) (h0 : 0 ≤ p + q) (h1 : p + q ≤ 18446744073709551615) : YD P GB C fr own bs ⟨dst, .binOp .add t x y t', ty', pos, af, gd⟩ (.d (.v (.int .u64 (p + q)))) := .of2 hx hy fun a b => yd_addU a b h0 h1
theorem yq_addw {k : IntKind} {p q : Int} (hx : opF fr x = some (.d (.v (.int k p)))) (hy : opF fr y = some (.d (.v (.int k q)))) : YD P GB C fr own bs ⟨dst, .binOp .add t x y t', ty', pos, af, gd⟩ (.d (.v (.int k (k.wrap (p + q))))) := .of2 hx hy fun a b => yd_addw a b
theorem yq_sub64 {p q : Int} (hx : opF fr x = some (.d (.v (.int .i64 p)))) (hy : opF fr y = some (.d (.v (.int .i64 q)))) (h0 : -9223372036854775808 ≤ p - q) (h1 : p - q ≤ 9223372036854775807) : YD P GB C fr own bs ⟨dst, .binOp .sub t x y t', ty', pos, af, gd⟩ (.d (.v (.int .i64 (p - q)))) := .of2 hx hy fun a b => yd_sub64 a b h0 h1
theorem yq_subU {p q : Int} (hx : opF fr x = some (.d (.v (.int .u64 p)))) (hy : opF fr y = some (.d (.v (.int .u64 q)))) (h0 : 0 ≤ p - q) (h1 : p - q ≤ 18446744073709551615) : YD P GB C fr own bs ⟨dst, .binOp .sub t x y t', ty', pos, af, gd⟩ (.d (.v (.int .u64 (p - q)))) := .of2 hx hy fun a b => yd_subU a b h0 h1
theorem yq_subw {k : IntKind} {p q : Int} (hx : opF fr x = some (.d (.v (.int k p)))) (hy : opF fr y = some (.d (.v (.int k q)))) : YD P GB C fr own bs ⟨dst, .binOp .sub t x y t', ty', pos, af, gd⟩ (.d (.v (.int k (k.wrap (p - q))))) := .of2 hx hy fun a b => yd_subw a b
theorem yq_mul64 {p q : Int} (hx : opF fr x = some (.d (.v (.int .i64 p)))) (hy : opF fr y = some (.d (.v (.int .i64 q)))) (h0 : -9223372036854775808 ≤ p * q) (h1 : p * q ≤ 9223372036854775807) : YD P GB C fr own bs ⟨dst, .binOp .mul t x y t', ty', pos, af, gd⟩ (.d (.v (.int .i64 (p * q)))) := .of2 hx hy fun a b => yd_mul64 a b h0 h1
theorem yq_mulU {p q : Int} (hx : opF fr x = some (.d (.v (.int .u64 p)))) (hy : opF fr y = some (.d (.v (.int .u64 q)))) (h0 : 0 ≤ p * q) (h1 : p * q ≤ 18446744073709551615) : YD P GB C fr own bs ⟨dst, .binOp .mul t x y t', ty', pos, af, gd⟩ (.d (.v (.int .u64 (p * q)))) := .of2 hx hy fun a b => yd_mulU a b h0 h1
theorem yq_mulw {k : IntKind} {p q : Int} (hx : opF fr x = some (.d (.v (.int k p)))) (hy : opF fr y = some (.d (.v (.int k q)))) : YD P GB C fr own bs ⟨dst, .binOp .mul t x y t', ty', pos, af, gd⟩ (.d (.v (.int k (k.wrap (p * q))))) := .of2 hx hy fun a b => yd_mulw a b
theorem yq_lss {k : IntKind} {p q : Int} (hx : opF fr x = some (.d (.v (.int k p)))) (hy : opF fr y = some (.d (.v (.int k q)))) : YD P GB C fr own bs ⟨dst, .binOp .lss t x y t', ty', pos, af, gd⟩ (.d (.v (.bool (decide (p < q))))) := .of2 hx hy fun a b => yd_lss a b
theorem yq_leq {k : IntKind} {p q : Int} (hx : opF fr x = some (.d (.v (.int k p)))) (hy : opF fr y = some (.d (.v (.int k q)))) : YD P GB C fr own bs ⟨dst, .binOp .leq t x y t', ty', pos, af, gd⟩ (.d (.v (.bool (decide (p ≤ q))))) := .of2 hx hy fun a b => yd_leq a b
theorem yq_gtr {k : IntKind} {p q : Int} (hx : opF fr x = some (.d (.v (.int k p)))) (hy : opF fr y = some (.d (.v (.int k q)))) : YD P GB C fr own bs ⟨dst, .binOp .gtr t x y t', ty', pos, af, gd⟩ (.d (.v (.bool (decide (q < p))))) := .of2 hx hy fun a b => yd_gtr a b
theorem yq_geq {k : IntKind} {p q : Int} (hx : opF fr x = some (.d (.v (.int k p)))) (hy : opF fr y = some (.d (.v (.int k q)))) : YD P GB C fr own bs ⟨dst, .binOp .geq t x y t', ty', pos, af, gd⟩ (.d (.v (.bool (decide (q ≤ p))))) := .of2 hx hy fun a b => yd_geq a b
theorem yq_eql {k : IntKind} {p q : Int} (hx : opF fr x = some (.d (.v (.int k p)))) (hy : opF fr y = some (.d (.v (.int k q)))) : YD P GB C fr own bs ⟨dst, .binOp .eql t x y t', ty', pos, af, gd⟩ (.d (.v (.bool (decide (p = q))))) := .of2 hx hy fun a b => yd_eql a b
theorem yq_neq {k : IntKind} {p q : Int} (hx : opF fr x = some (.d (.v (.int k p)))) (hy : opF fr y = some (.d (.v (.int k q)))) : YD P GB C fr own bs ⟨dst, .binOp .neq t x y t', ty', pos, af, gd⟩ (.d (.v (.bool (decide (p ≠ q))))) := .of2 hx hy fun a b => yd_neq a b
theorem yq_quow {k : IntKind} {p q : Int} (hx : opF fr x = some (.d (.v (.int k p)))) (hy : opF fr y = some (.d (.v (.int k q)))) (h : q ≠ 0) : YD P GB C fr own bs ⟨dst, .binOp .quo t x y t', ty', pos, af, gd⟩ (.d (.v (.int k (k.wrap (p.tdiv q))))) := .of2 hx hy fun a b => yd_quow a b h
theorem yq_rem {k : IntKind} {p q : Int} (hx : opF fr x = some (.d (.v (.int k p)))) (hy : opF fr y = some (.d (.v (.int k q)))) (h : q ≠ 0) : YD P GB C fr own bs ⟨dst, .binOp .rem t x y t', ty', pos, af, gd⟩ (.d (.v (.int k (p.tmod q)))) := .of2 hx hy fun a b => yd_rem a b h
theorem yq_remU {k : IntKind} {p q : Int} (hx : opF fr x = some (.d (.v (.int k p)))) (hy : opF fr y = some (.d (.v (.int k q)))) (h0 : 0 ≤ p) (h : q ≠ 0) : YD P GB C fr own bs ⟨dst, .binOp .rem t x y t', ty', pos, af, gd⟩ (.d (.v (.int k (p % q)))) := .of2 hx hy fun a b => yd_remU a b h0 h
theorem yq_quoU {p q : Int} (hx : opF fr x = some (.d (.v (.int .u64 p)))) (hy : opF fr y = some (.d (.v (.int .u64 q)))) (h0 : 0 ≤ p) (h1 : p ≤ 18446744073709551615) (h : 0 < q) : YD P GB C fr own bs ⟨dst, .binOp .quo t x y t', ty', pos, af, gd⟩ (.d (.v (.int .u64 (p / q)))) := .of2 hx hy fun a b => yd_quoU a b h0 h1 h
theorem yq_shr {k k' : IntKind} {p q : Int} (hx : opF fr x = some (.d (.v (.int k p)))) (hy : opF fr y = some (.d (.v (.int k' q)))) (h0 : 0 ≤ q) : YD P GB C fr own bs ⟨dst, .binOp .shr t x y t', ty', pos, af, gd⟩ (.d (.v (.int k (p.fdiv (2 ^ min q.toNat k.bits))))) := .of2 hx hy fun a b => yd_shr a b h0
theorem yq_shl {k k' : IntKind} {p q : Int} (hx : opF fr x = some (.d (.v (.int k p)))) (hy : opF fr y = some (.d (.v (.int k' q)))) (h0 : 0 ≤ q) : YD P GB C fr own bs ⟨dst, .binOp .shl t x y t', ty', pos, af, gd⟩ (.d (.v (.int k (k.wrap (p * 2 ^ min q.toNat k.bits))))) := .of2 hx hy fun a b => yd_shl a b h0
theorem yq_eqB [hT : TyB P t] {p q : Bool} (hx : opF fr x = some (.d (.v (.bool p)))) (hy : opF fr y = some (.d (.v (.bool q)))) : YD P GB C fr own bs ⟨dst, .binOp .eql t x y t', ty', pos, af, gd⟩ (.d (.v (.bool (p == q)))) := .of2 hx hy fun a b => yd_eqB a b
theorem yq_neB [hT : TyB P t] {p q : Bool} (hx : opF fr x = some (.d (.v (.bool p)))) (hy : opF fr y = some (.d (.v (.bool q)))) : YD P GB C fr own bs ⟨dst, .binOp .neq t x y t', ty', pos, af, gd⟩ (.d (.v (.bool (!(p == q))))) := .of2 hx hy fun a b => yd_neB a b
theorem yq_toU64 {k : IntKind} {p : Int} [hs : TyI P t k] [hd : TyI P t' .u64] (hx : opF fr x = some (.d (.v (.int k p)))) (h0 : 0 ≤ p) (h1 : p ≤ 18446744073709551615) : YD P GB C fr own bs ⟨dst, .convert t t' x, ty', pos, af, gd⟩ (.d (.v (.int .u64 (p)))) := .of1 hx fun a => yd_toU64 a h0 h1
theorem yq_toI64 {k : IntKind} {p : Int} [hs : TyI P t k] [hd : TyI P t' .i64] (hx : opF fr x = some (.d (.v (.int k p)))) (h0 : -9223372036854775808 ≤ p) (h1 : p ≤ 9223372036854775807) : YD P GB C fr own bs ⟨dst, .convert t t' x, ty', pos, af, gd⟩ (.d (.v (.int .i64 (p)))) := .of1 hx fun a => yd_toI64 a h0 h1
theorem yq_toU32 {k : IntKind} {p : Int} [hs : TyI P t k] [hd : TyI P t' .u32] (hx : opF fr x = some (.d (.v (.int k p)))) : YD P GB C fr own bs ⟨dst, .convert t t' x, ty', pos, af, gd⟩ (.d (.v (.int .u32 (p % 4294967296)))) := .of1 hx fun a => yd_toU32 a
theorem yq_conv {k k' : IntKind} {p : Int} [hs : TyI P t k] [hd : TyI P t' k'] (hx : opF fr x = some (.d (.v (.int k p)))) : YD P GB C fr own bs ⟨dst, .convert t t' x, ty', pos, af, gd⟩ (.d (.v (.int k' (k'.wrap p)))) := .of1 hx fun a => yd_conv a
theorem yq_not {b : Bool} (hx : opF fr x = some (.d (.v (.bool b)))) : YD P GB C fr own bs ⟨dst, .unOp .not t x, ty', pos, af, gd⟩ (.d (.v (.bool (!b)))) := .of1 hx fun a => yd_not a
theorem yq_neg {k : IntKind} {p : Int} (hx : opF fr x = some (.d (.v (.int k p)))) : YD P GB C fr own bs ⟨dst, .unOp .neg t x, ty', pos, af, gd⟩ (.d (.v (.int k (k.wrap (0 - p))))) := .of1 hx fun a => yd_neg a
theorem yq_neg64 {p : Int} (hx : opF fr x = some (.d (.v (.int .i64 p)))) (h0 : -9223372036854775807 ≤ p) (h1 : p ≤ 9223372036854775807) : YD P GB C fr own bs ⟨dst, .unOp .neg t x, ty', pos, af, gd⟩ (.d (.v (.int .i64 (-p)))) := .of1 hx fun a => by
  have := yd_neg (P := P) (C := C) (own := ‹_›) (G := ‹_›) (dst := dst) (ty' := ty') (pos := pos) (af := af) (gd := gd) (t := t) a
  rw [wrap_in (by simp only [IntKind.min, IntKind.max, IntKind.bits, IntKind.signed]; simp; omega)] at this
  rwa [Int.zero_sub] at this
theorem yq_mk {fn : Go.Fn} {c1 c2 : Array Operand} (h1 : c1.toList = []) (h2 : c2.toList = []) : YD P GB C fr own bs ⟨dst, .makeFunc fn c1 c2, ty', pos, af, gd⟩ (.d (.v (.func fn #[] #[]))) :=
  fun G frv ov s => ⟨_, isF_v.2 rfl, fun _ _ => yd_makeFunc (l1 := []) (l2 := []) (by rw [h1]; rfl) (by rw [h2]; rfl)⟩
/-- a pointer against nil -/
theorem yq_eqP [hT : TyP P t] {l : List DV} (hx : opF fr x = some (.d (.pt l))) (hy : opF fr y = some (.d (.v (.pointer none)))) : YD P GB C fr own bs ⟨dst, .binOp .eql t x y t', ty', pos, af, gd⟩ (.d (.v (.bool false))) := by
  intro G frv ov s
  obtain ⟨u, h1, h2⟩ := s.fr.op hx
  obtain ⟨b, m, rfl, _⟩ := is_pt.1 h2
  exact ⟨_, isF_v.2 rfl, fun G' hg => yd_eqP h1 (s.fr.opv hy)⟩
theorem yq_neP [hT : TyP P t] {l : List DV} (hx : opF fr x = some (.d (.pt l))) (hy : opF fr y = some (.d (.v (.pointer none)))) : YD P GB C fr own bs ⟨dst, .binOp .neq t x y t', ty', pos, af, gd⟩ (.d (.v (.bool true))) := by
  intro G frv ov s
  obtain ⟨u, h1, h2⟩ := s.fr.op hx
  obtain ⟨b, m, rfl, _⟩ := is_pt.1 h2
  exact ⟨_, isF_v.2 rfl, fun G' hg => yd_neP h1 (s.fr.opv hy)⟩
theorem yq_eqP0 [hT : TyP P t] (hx : opF fr x = some (.d (.v (.pointer none)))) (hy : opF fr y = some (.d (.v (.pointer none)))) : YD P GB C fr own bs ⟨dst, .binOp .eql t x y t', ty', pos, af, gd⟩ (.d (.v (.bool true))) := .of2 hx hy fun a b => yd_eqP a b
theorem yq_neP0 [hT : TyP P t] (hx : opF fr x = some (.d (.v (.pointer none)))) (hy : opF fr y = some (.d (.v (.pointer none)))) : YD P GB C fr own bs ⟨dst, .binOp .neq t x y t', ty', pos, af, gd⟩ (.d (.v (.bool false))) := .of2 hx hy fun a b => yd_neP a b
/-- an error against nil -/
theorem yq_eqN0 [hT : TyIf P t] (hx : opF fr x = some (.d (.v .nilIface))) : YD P GB C fr own bs ⟨dst, .binOp .eql t x (.const .nilIface) t', ty', pos, af, gd⟩ (.d (.v (.bool true))) := .of1 hx fun a => yd_eqN (.inl rfl) a
theorem yq_neN0 [hT : TyIf P t] (hx : opF fr x = some (.d (.v .nilIface))) : YD P GB C fr own bs ⟨dst, .binOp .neq t x (.const .nilIface) t', ty', pos, af, gd⟩ (.d (.v (.bool false))) := .of1 hx fun a => yd_neN (.inl rfl) a
theorem yq_eqN1 [hT : TyIf P t] {k : TypeId} {u : Value} (hx : opF fr x = some (.d (.v (.iface k u)))) : YD P GB C fr own bs ⟨dst, .binOp .eql t x (.const .nilIface) t', ty', pos, af, gd⟩ (.d (.v (.bool false))) := .of1 hx fun a => yd_eqN (.inr ⟨_, _, rfl⟩) a
theorem yq_neN1 [hT : TyIf P t] {k : TypeId} {u : Value} (hx : opF fr x = some (.d (.v (.iface k u)))) : YD P GB C fr own bs ⟨dst, .binOp .neq t x (.const .nilIface) t', ty', pos, af, gd⟩ (.d (.v (.bool true))) := .of1 hx fun a => yd_neN (.inr ⟨_, _, rfl⟩) a

/-! calls -/
theorem td_call {f : FuncId} {fo : Operand} {args : Array Operand} {tys : Array TypeId} {ds : List DV} {r : DV} (ho : opF fr fo = some (.d (.v (.func (.func f) #[] #[])))) (hv : opFs fr args.toList = some ds) (hF : PF GB P f ds r) (hd : dstOk n dst = true) :
    TD P GB C n fr own bs ⟨dst, .call ⟨.value fo, args, tys⟩, ty', pos, af, gd⟩ (putF fr dst (.d r)) own bs := by
  intro GB' E Φ hgb h G frv ov s
  obtain ⟨vs, h1, h2⟩ := s.fr.ops hv
  refine ch_call (opv_app (s.fr.opv ho)) (opvs_app h1) (hF G vs (hgb.trans s.gb) h2) hd ?_
  intro v G' hG hK
  rw [put_app]
  exact h G' _ ov ⟨s.gb.trans hG.le, (s.fr.up hG.le).put (f := .d r) hK _, s.ob.up hG.le⟩
theorem td_callM {f : FuncId} {fo : Operand} {args : Array Operand} {tys : Array TypeId} {ds : List DV} {r : DV} {b : Nat} {ty : TypeId} {lo : Bool} {cs cs' : List DV} (ho : opF fr fo = some (.d (.v (.func (.func f) #[] #[])))) (hv : opFs fr args.toList = some ds) (hF : PM GB P f ds b ty cs r cs') (hu : OUpdD own b cs ty lo cs' own') (hd : dstOk n dst = true) :
    TD P GB C n fr own bs ⟨dst, .call ⟨.value fo, args, tys⟩, ty', pos, af, gd⟩ (putF fr dst (.d r)) own' bs := by
  intro GB' E Φ hgb h G frv ov s
  obtain ⟨vs, h1, h2⟩ := s.fr.ops hv
  obtain ⟨p, q, rfl, hp, hq⟩ := s.ob
  obtain ⟨m, a1, a2, rfl, hm, hk⟩ := hu.lens hp
  refine ch_callM (M := [⟨b, m, ty, lo⟩]) (rest := a1 ++ (a2 ++ (q ++ E.own))) (opv_app (s.fr.opv ho)) (opvs_app h1) ?_ (hF G vs m lo (hgb.trans s.gb) h2 hm) hd ?_
  · simp only [List.append_assoc, List.cons_append, List.nil_append]
    exact List.perm_middle
  · rintro v css G' hG _ ⟨hr, m', rfl, hm'⟩
    rw [put_app]
    refine st_perm (((a1 ++ ⟨b, m', ty, lo⟩ :: a2) ++ q) ++ E.own) ?_ (h G' _ _ ⟨s.gb.trans hG.le, (s.fr.up hG.le).put (f := .d r) hr _, _, _, rfl, hk G' m' hG.le hm', hq.up hG.le⟩)
    simp only [reown, List.zip_cons_cons, List.zip_nil_right, List.map_cons, List.map_nil, List.append_assoc, List.cons_append, List.nil_append]
    exact List.perm_middle.symm

/-! variables -/
theorem tf_alloc {z : Value} {cs : List DV} [hz : TyZD P t z cs] (hd : dstOk n dst = true) : TF P GB C n fr own bs ⟨dst, .alloc t, ty', pos, af, gd⟩ Nat (fun b => putF fr dst (.d (.v (.pointer (some ⟨b, 0, none⟩))))) (fun b => ⟨b, cs, t, true⟩ :: own) (fun _ => bs) := by
  intro GB' E Φ hgb h G frv ov s
  have hz1 := hz.tz
  have hz2 := hz.iz
  obtain ⟨p, q, rfl, hp, hq⟩ := s.ob
  refine ch_alloc hd fun b => ?_
  rw [put_app]
  exact h b G _ (⟨b, cellsL z, t, true⟩ :: (p ++ q)) ⟨s.gb, s.fr.put (isF_v.2 rfl) _, ⟨b, cellsL z, t, true⟩ :: p, q, rfl, ⟨_, _, rfl, hz2.up (GLe.bot G), hp⟩, hq⟩
theorem tf_box {d : DV} (hx : opD fr x = some d) (hc : d.okc = true) (hd : dstOk n dst = true) : TF P GB C n fr own bs ⟨dst, .box t x, ty', pos, af, gd⟩ Nat (fun b => putF fr dst (.d (.v (.pointer (some ⟨b, 0, none⟩))))) (fun b => ⟨b, d.cells, t, true⟩ :: own) (fun _ => bs) := by
  intro GB' E Φ hgb h G frv ov s
  obtain ⟨u, h1, h2⟩ := s.fr.opD hx
  obtain ⟨p, q, rfl, hp, hq⟩ := s.ob
  refine ch_box (opv_app h1) hd fun b => ?_
  rw [put_app]
  exact h b G _ (⟨b, cellsL u, t, true⟩ :: (p ++ q)) ⟨s.gb, s.fr.put (isF_v.2 rfl) _, ⟨b, cellsL u, t, true⟩ :: p, q, rfl, ⟨_, _, rfl, (h2.cells hc).1, hp⟩, hq⟩
theorem OUpd.app {own own' : List Own} {b : Nat} {cs cs' : List Value} {ty : TypeId} {lo : Bool} (h : OUpd own b cs ty lo cs' own') (x : List Own) : OUpd (own ++ x) b cs ty lo cs' (own' ++ x) := by
  induction h with
  | hd => exact .hd ..
  | tl o t t' b cs cs' ty lo h ih => exact .tl _ _ _ _ _ _ _ _ ih
theorem td_store {d : DV} {b off k : Nat} {cs cs' : List DV} {ty : TypeId} {lo : Bool} (hx : opF fr x = some (.d (.v (.pointer (some ⟨b, off, none⟩))))) (hy : opD fr y = some d) [hs : TyA P t k] [ho : OAtD own b cs ty lo]
    (hc : ovD cs off d.cells = cs') (hu : OUpdD own b cs ty lo cs' own') (hk : Nat.beq d.cells.length k = true) (hl : Nat.ble (off + k) cs.length = true) (hf : d.okc = true) (hd : dstOk n dst = true) :
    TD P GB C n fr own bs ⟨dst, .store t x y, ty', pos, af, gd⟩ (putF fr dst (.d (.v undef))) own' bs := by
  intro GB' E Φ hgb h G frv ov s
  obtain ⟨u, h1, h2⟩ := s.fr.opD hy
  obtain ⟨p, q, rfl, hp, hq⟩ := s.ob
  obtain ⟨m, a1, a2, rfl, hm, hkk⟩ := hu.lens hp
  obtain ⟨c1, c2⟩ := h2.cells hf
  replace hk := Nat.eq_of_beq_eq_true hk
  rw [Nat.ble_eq] at hl
  subst hc
  refine ch_store (cs := m) (own' := ((a1 ++ ⟨b, ovw m off (cellsL u), ty, lo⟩ :: a2) ++ q) ++ E.own) (opv_app (s.fr.opv hx)) (opv_app h1) (((OUpd.mid a1).app q).app E.own) (by rw [c1.len, hk]) (by rw [hm.len]; exact hl) (by rw [List.all_eq_true]; exact c2) hd ?_
  rw [put_app]
  exact h G _ _ ⟨s.gb, s.fr.put (isF_v.2 rfl) _, _, _, rfl, hkk G _ (GLe.refl _) (hm.ov c1), hq⟩
theorem td_store1 {d : DV} {b off : Nat} {cs cs' : List DV} {ty : TypeId} {lo : Bool} (hx : opF fr x = some (.d (.v (.pointer (some ⟨b, off, none⟩))))) (hy : opD fr y = some d) [hs : TyS P t] [ho : OAtD own b cs ty lo]
    (hc : cs.set off d = cs') (hu : OUpdD own b cs ty lo cs' own') (hl : Nat.blt off cs.length = true) (hf : d.flat = true) (hd : dstOk n dst = true) :
    TD P GB C n fr own bs ⟨dst, .store t x y, ty', pos, af, gd⟩ (putF fr dst (.d (.v undef))) own' bs := by
  intro GB' E Φ hgb h G frv ov s
  obtain ⟨u, h1, h2⟩ := s.fr.opD hy
  obtain ⟨p, q, rfl, hp, hq⟩ := s.ob
  obtain ⟨m, a1, a2, rfl, hm, hkk⟩ := hu.lens hp
  have c2 := h2.flat hf
  rw [Nat.blt_eq] at hl
  subst hc
  refine ch_store1 (cs := m) (own' := ((a1 ++ ⟨b, m.set off u, ty, lo⟩ :: a2) ++ q) ++ E.own) (opv_app (s.fr.opv hx)) (opv_app h1) (((OUpd.mid a1).app q).app E.own) (by rw [hm.len]; exact hl) c2 hd ?_
  rw [put_app]
  exact h G _ _ ⟨s.gb, s.fr.put (isF_v.2 rfl) _, _, _, rfl, hkk G _ (GLe.refl _) (hm.set off h2), hq⟩

/-! rows -/
class TyZE (P : Program) (t : TypeId) (d : outParam DV) : Prop where
  z : ∃ z, TyZ P t z ∧ Is (fun _ => none) d z ∧ d.okc = true
abbrev SV.f (w : SV) : FV := .d (.v (.slice w.a w.n w.c))
theorem flatL_replicate (z : Value) (k : Nat) : flatL (List.replicate k z) = zeros z k := by unfold flatL zeros; rw [List.map_replicate]
theorem isL_replicate {G : Gh} {d : DV} {y : Value} (h : Is G d y) : ∀ k : Nat, IsLs G (List.replicate k d) (List.replicate k y)
  | 0 => .nil
  | k + 1 => .cons h (isL_replicate h k)
theorem tf_make [hT : TySl P t e s by_] {d : DV} [hz : TyZE P e d] {k k' : IntKind} {l : Int} (hx : opF fr x = some (.d (.v (.int k l)))) (hy : opF fr y = some (.d (.v (.int k' l)))) (h0 : 0 ≤ l) (hb : by_ * l ≤ 2 ^ 47) (hl : l ≤ 2 ^ 60) (hs : Nat.beq d.cells.length s = true) (hd : dstOk n dst = true) :
    TF P GB C n fr own bs ⟨dst, .makeSlice t x y, ty', pos, af, gd⟩ SV (fun w => putF fr dst w.f) (fun _ => own) (fun w => ⟨w, s, e, List.replicate l.toNat d, true⟩ :: bs) := by
  intro GB' E Φ hgb h G frv ov st
  obtain ⟨z, hz1, hz2, hz3⟩ := hz.z
  obtain ⟨p, q, rfl, hp, hq⟩ := st.ob
  have c1 := (hz2.cells hz3).1.len
  replace hs := Nat.eq_of_beq_eq_true hs
  refine ch_make (opv_app (st.fr.opv hx)) (opv_app (st.fr.opv hy)) h0 hb hl (by rw [c1, hs]) hd fun b => ?_
  rw [put_app]
  refine st_perm ((p ++ ([⟨b, zeros z l.toNat, e, true⟩] ++ q)) ++ E.own) ?_ (h ⟨some ⟨b, 0, none⟩, l.toNat, l.toNat⟩ G _ _ ⟨st.gb, st.fr.put (isF_v.2 rfl) _, p, _, rfl, hp, ?_⟩)
  · simp only [List.append_assoc, List.cons_append, List.nil_append]
    exact List.perm_middle.symm
  · have e1 : ∀ v ∈ List.replicate l.toNat z, (cellsL v).length = s := fun v hv => by rw [List.eq_of_mem_replicate hv, c1, hs]
    refine ⟨_, _, rfl, ⟨List.replicate l.toNat z, .inr ⟨b, [], true, by simp, by rw [flatL_replicate, List.append_nil], flatL_len _ e1, by rw [flatL_len _ e1]; simp, by simp⟩, isL_replicate (hz2.up (GLe.bot G)) _, e1, fun _ o ho => by rw [List.mem_singleton.1 ho]⟩, hq⟩

/-- the elements of '[]T{x, y, ..}' -/
def rowD (fr : FrF) : Nat → List (Nat × Operand) → Option (List DV)
  | _, [] => some []
  | j, (i, x) :: r => match opD fr x, rowD fr (j + 1) r with
    | some d, some l => bif Nat.beq i j then some (d :: l) else none
    | _, _ => none
theorem ovw_app (pre mid post vs : List Value) (h : vs.length = mid.length) : ovw (pre ++ (mid ++ post)) pre.length vs = pre ++ (vs ++ post) := by
  rw [ovw_spec _ _ _ (by simp; omega)]
  simp [h]
theorem zeros_succ (z : Value) (k : Nat) : zeros z (k + 1) = cellsL z ++ zeros z k := by simp [zeros, List.replicate_succ]
theorem row_bldS {G : Gh} {frv : Fr} {xf : Fr} (h : FrIs G fr frv) {zv : Value} (hz : (cellsL zv).length = s) : ∀ (ps : List (Nat × Operand)) (j : Nat) (pre : List Value) (ds : List DV), rowD fr j ps = some ds → pre.length = j * s → (∀ d ∈ ds, d.okc = true ∧ d.cells.length = s) →
    ∃ vs, bldS (frv ++ xf) s (pre ++ zeros zv ps.length) ps = some (pre ++ flatL vs) ∧ IsLs G ds vs ∧ ∀ v ∈ vs, (cellsL v).length = s
  | [], j, pre, ds, e, hp, hd => by
    simp only [rowD] at e; cases e
    exact ⟨[], by simp [bldS, zeros, flatL], .nil, by simp⟩
  | (i, x) :: ps, j, pre, ds, e, hp, hd => by
    simp only [rowD] at e
    split at e
    · rename_i d l hx hl
      cases hb : Nat.beq i j with
      | false => rw [hb] at e; cases e
      | true =>
        rw [hb] at e
        cases e
        have := Nat.eq_of_beq_eq_true hb
        subst this
        obtain ⟨y, hy, hy'⟩ := h.opD hx
        obtain ⟨k1, k2⟩ := hd d List.mem_cons_self
        have c1 := (hy'.cells k1).1.len
        have hov : ovw (pre ++ zeros zv (ps.length + 1)) (i * s) (cellsL y) = (pre ++ cellsL y) ++ zeros zv ps.length := by
          rw [zeros_succ, ← hp, ovw_app _ _ _ _ (by rw [c1, k2, hz]), List.append_assoc]
        obtain ⟨vs, h1, h2, h3⟩ := row_bldS (xf := xf) h hz ps (i + 1) (pre ++ cellsL y) l hl (by rw [List.length_append, c1, k2, hp, Nat.succ_mul]) (fun d hd' => hd d (List.mem_cons_of_mem _ hd'))
        refine ⟨y :: vs, ?_, .cons hy' h2, fun v hv => ?_⟩
        · simp only [bldS, opv_app hy, List.length_cons]
          rw [if_pos ⟨by rw [c1, k2], by rw [List.length_append, zeros_len, hz, hp, Nat.succ_mul]; omega⟩, hov, h1]
          simp [flatL]
        · rcases List.mem_cons.1 hv with rfl | hv
          · rw [c1, k2]
          · exact h3 v hv
    · cases e
theorem rowD_len {fr : FrF} : ∀ (ps : List (Nat × Operand)) (j : Nat) (ds : List DV), rowD fr j ps = some ds → ds.length = ps.length
  | [], j, ds, e => by simp only [rowD] at e; cases e; rfl
  | (i, x) :: ps, j, ds, e => by
    simp only [rowD] at e
    split at e
    · rename_i d l hx hl
      cases hb : Nat.beq i j with
      | false => rw [hb] at e; cases e
      | true => rw [hb] at e; cases e; simp [rowD_len ps _ _ hl]
    · cases e
def okRow (s : Nat) (ds : List DV) : Bool := ds.all fun d => d.okc && Nat.beq d.cells.length s
theorem okRow_spec {ds : List DV} (h : okRow s ds = true) : slOk s ds := fun d hd => by
  have := List.all_eq_true.1 h d hd
  simp only [Bool.and_eq_true] at this
  exact ⟨this.1, Nat.eq_of_beq_eq_true this.2⟩
theorem tf_row [hT : TySl P t e s by_] {d0 : DV} [hz : TyZE P e d0] {len : Nat} {parts : Array (Nat × Operand)} {ds : List DV} (hs : Nat.beq d0.cells.length s = true) (hb : rowD fr 0 parts.toList = some ds) (hok : okRow s ds = true) (hlen : Nat.beq parts.toList.length len = true) (hsm : Nat.ble (len * s) 1000 = true) (hs0 : Nat.blt 0 (len * s) = true) (hd : dstOk n dst = true) :
    TF P GB C n fr own bs ⟨dst, .buildSlice t len parts, ty', pos, af, gd⟩ SV (fun w => putF fr dst w.f) (fun _ => own) (fun w => ⟨w, s, e, ds, true⟩ :: bs) := by
  intro GB' E Φ hgb h G frv ov st
  obtain ⟨z, hz1, hz2, hz3⟩ := hz.z
  obtain ⟨p, q, rfl, hp, hq⟩ := st.ob
  have c1 := (hz2.cells hz3).1.len
  replace hs := Nat.eq_of_beq_eq_true hs
  have hlen' := Nat.eq_of_beq_eq_true hlen
  obtain ⟨vs, h1, h2, h3⟩ := row_bldS (xf := E.fr) (s := s) st.fr (by rw [c1, hs]) parts.toList 0 [] ds hb (by simp) (okRow_spec hok)
  rw [List.nil_append, List.nil_append] at h1
  have hvl : vs.length = len := by rw [h2.len, rowD_len _ _ _ hb, hlen']
  refine ch_slice (z := z) (out := flatL vs) (by rw [c1, hs]) (by rw [← hlen']; exact h1) hsm hs0 hd fun b => ?_
  rw [put_app]
  refine st_perm ((p ++ ([⟨b, flatL vs, e, true⟩] ++ q)) ++ E.own) ?_ (h ⟨some ⟨b, 0, none⟩, len, len⟩ G _ _ ⟨st.gb, st.fr.put (isF_v.2 rfl) _, p, _, rfl, hp, ?_⟩)
  · simp only [List.append_assoc, List.cons_append, List.nil_append]
    exact List.perm_middle.symm
  · exact ⟨_, _, rfl, ⟨vs, .inr ⟨b, [], true, by rw [hvl], by rw [List.append_nil], flatL_len _ h3, by rw [flatL_len _ h3, hvl]; simp, by rw [hvl]; exact Nat.le_refl _⟩, h2, h3, fun _ o ho => by rw [List.mem_singleton.1 ho]⟩, hq⟩
theorem tf_row0 [hT : TySl P t e s by_] (hd : dstOk n dst = true) :
    TF P GB C n fr own bs ⟨dst, .buildSlice t 0 #[], ty', pos, af, gd⟩ SV (fun w => putF fr dst w.f) (fun _ => own) (fun w => ⟨w, s, e, [], true⟩ :: bs) := by
  intro GB' E Φ hgb h G frv ov st
  obtain ⟨p, q, rfl, hp, hq⟩ := st.ob
  refine ch_slice0 hd fun b => ?_
  rw [put_app]
  refine st_perm ((p ++ ([⟨b, [], e, true⟩] ++ q)) ++ E.own) ?_ (h ⟨some ⟨b, 0, none⟩, 0, 0⟩ G _ _ ⟨st.gb, st.fr.put (isF_v.2 rfl) _, p, _, rfl, hp, ?_⟩)
  · simp only [List.append_assoc, List.cons_append, List.nil_append]
    exact List.perm_middle.symm
  · exact ⟨_, _, rfl, ⟨[], .inr ⟨b, [], true, rfl, by simp [flatL], by simp [flatL], by simp [flatL], by simp⟩, .nil, by simp, fun _ o ho => by rw [List.mem_singleton.1 ho]⟩, hq⟩

/-! what is appended -/
theorem takeL_cat {cs : List Value} {off s : Nat} : ∀ (es : List Value), (∀ i (h : i < es.length), takeL cs (off + i * s) s = some (cellsL es[i])) → off ≤ cs.length → takeL cs off (es.length * s) = some (flatL es)
  | [], _, ho => by
    rw [takeL_of _ _ _ (by simpa using ho)]; simp [flatL]
  | v :: t, h, ho => by
    have h0 := h 0 (by simp)
    simp only [Nat.zero_mul, Nat.add_zero, List.getElem_cons_zero] at h0
    obtain ⟨k1, k2⟩ := takeL_eq h0
    have ih := takeL_cat (off := off + s) t (fun i hi => by
      have := h (i + 1) (by simpa using hi)
      rw [Nat.succ_mul, show off + (i * s + s) = off + s + i * s by omega] at this
      simpa using this) (by omega)
    obtain ⟨k3, k4⟩ := takeL_eq ih
    rw [takeL_of _ _ _ (by simp only [List.length_cons, Nat.succ_mul]; omega)]
    congr 1
    have e1 : flatL (v :: t) = cellsL v ++ flatL t := by simp [flatL]
    rw [e1, k2, k4, List.length_cons, Nat.succ_mul, Nat.add_comm (t.length * s) s, List.take_add, List.drop_drop]
theorem src_sl {ov : List Own} {G : Gh} {w : SV} {es : List Value} (h : IsSl G s w es) : Src P C ov G s w.n (.slice w.a w.n w.c) (flatL es) := by
  rcases h.mem with he | ⟨b, off, cs, ha, hg, hc⟩
  · subst he
    rw [h.len]
    exact src_zero
  · rw [ha]
    by_cases he : es = []
    · subst he; rw [h.len]; exact src_zero
    · have hp : 0 < es.length := List.length_pos_iff.2 he
      have h0 := hc 0 hp
      have := (takeL_eq h0).1
      rw [h.len]
      exact src_gh hg (takeL_cat es hc (by omega))
/-- Where the appended elements lie. -/
def SrcD (fr : FrF) (bs : List BufD) (s : Nat) (y : Operand) (ds : List DV) : Prop :=
  (∃ l, opD fr y = some (.sl l) ∧ l = ds ∧ slOk s l) ∨ ∃ w ty lo, opF fr y = some w.f ∧ (⟨w, s, ty, ds, lo⟩ : BufD) ∈ bs ∧ slOk s ds
theorem SrcD.sl {ds : List DV} (h : opD fr y = some (.sl ds)) (k : slOk s ds) : SrcD fr bs s y ds := .inl ⟨ds, h, rfl, k⟩
theorem SrcD.bf {w : SV} {ty : TypeId} {ds : List DV} {lo : Bool} (h : opF fr y = some w.f) [hb : BAtD bs w s ty ds lo] (k : slOk s ds) : SrcD fr bs s y ds := .inr ⟨w, ty, lo, h, hb.mem, k⟩
theorem SrcD.src {G : Gh} {frv : Fr} {q : List Own} {ds : List DV} (h : SrcD fr bs s y ds) (hf : FrIs G fr frv) (hq : BufsIs G bs q) (ov : List Own) (hov : ∀ o ∈ q, o ∈ ov) :
    ∃ (w : SV) (vs : List Value), opv frv y = some (.slice w.a w.n w.c) ∧ w.n = vs.length ∧ IsLs G ds vs ∧ (∀ v ∈ vs, (cellsL v).length = s) ∧ (∀ v ∈ flatL vs, Sx.flat v = true) ∧ Src P C ov G s w.n (.slice w.a w.n w.c) (flatL vs) := by
  have hfl : ∀ (ds : List DV) (vs : List Value), slOk s ds → IsLs G ds vs → (∀ v ∈ vs, (cellsL v).length = s) ∧ ∀ v ∈ flatL vs, Sx.flat v = true := by
    intro ds vs hk hl
    refine ⟨fun v hv => ?_, fun v hv => ?_⟩
    · obtain ⟨d, hd, h3⟩ := hl.all v hv
      obtain ⟨k1, k2⟩ := hk d hd
      rw [(h3.cells k1).1.len, k2]
    · simp only [flatL, List.mem_flatten, List.mem_map] at hv
      obtain ⟨l, ⟨u, hu, rfl⟩, hv⟩ := hv
      obtain ⟨d, hd, h3⟩ := hl.all u hu
      exact (h3.cells (hk d hd).1).2 v hv
  rcases h with ⟨l, h1, rfl, hk⟩ | ⟨w, ty, lo, h1, h2, hk⟩
  · obtain ⟨u, h3, h4⟩ := hf.opD h1
    obtain ⟨s', w, es, rfl, hsl, hl⟩ := is_sl.1 h4
    obtain ⟨f1, f2⟩ := hfl _ _ hk hl
    refine ⟨w, es, h3, hsl.len, hl, f1, f2, ?_⟩
    rcases sl_stride hsl hl hk with he | he
    · subst he
      rw [hsl.len]
      exact src_zero
    · subst he; exact src_sl hsl
  · obtain ⟨B, ⟨vs, hB, hv, hs, _⟩, hmem⟩ := hq.mem h2
    obtain ⟨f1, f2⟩ := hfl _ _ hk hv
    refine ⟨w, vs, hf.opv h1, hB.len, hv, f1, f2, ?_⟩
    rcases hB with ⟨e1, e2, e3⟩ | ⟨b, rest, lo', h3, h4, h5, h6, h7⟩
    · simp only [] at e2
      subst e1 e2
      exact src_zero
    · simp only [] at h3 h4 h5 h6 h7
      have ha : w.a = some ⟨b, 0, none⟩ := by rw [h3]
      have hn : w.n = vs.length := by rw [h3]
      have : OAt ov b (flatL vs ++ rest) ty lo' := ⟨hov _ (hmem _ (by rw [h4]; exact List.mem_cons_self))⟩
      rw [ha, hn]
      refine src_own this ?_
      rw [takeL_of _ _ _ (by rw [List.length_append]; omega), List.drop_zero, List.take_append_of_le_length (by omega), List.take_of_length_le (by omega)]

theorem run_append_nil [hT : TySl P t e s by_] [hN : TyN P t'] {w : World} {ad2 : Option Addr} {cap2 : Nat} : (Builtin.append_ #[t, t'] ty' #[.slice none 0 0, .slice ad2 0 cap2]).run P w = .ok (.slice none 0 0) w := by
  obtain ⟨d, hd1⟩ := hN.un
  obtain ⟨i, hi, his, hib⟩ := hT.info
  have h0 : (Builtin.firstCells i.size 0 (.slice ad2 0 cap2)).run P w = .ok #[] w := by
    cases ad2 with
    | none => rfl
    | some a => unfold Builtin.firstCells loadCells; simp [loadCellsFrom, run_pure]
  simp [Builtin.append_, run_underlying hT.un, run_underlying hd1, sizeOf, typeInfo, hi, Builtin.lenOf, h0]
theorem ch_append_nil [hT : TySl P t e s by_] [hN : TyN P t'] {fr : Fr} {own : List Own} {G : Gh} {ad2 : Option Addr} {cap2 : Nat} (hx : opv fr x = some (.slice none 0 0)) (hy : opv fr y = some (.slice ad2 0 cap2)) (hd : dstOk n dst = true)
    (h : St C n (put fr dst (.slice none 0 0)) own G Φ) : Ch P C n fr own G ⟨dst, .call ⟨.builtin .append, #[x, y], #[t, t']⟩, ty', pos, af, gd⟩ Φ := by
  intro a w Q rl
  refine ch_value (v := .slice none 0 0) (w' := w) ?_ (h _ _ (rl.put _ hd))
  simp only [execOp, resolve, List.map_toArray, List.map_cons, List.map_nil, opv_eval rl.fr hx, opv_eval rl.fr hy]
  exact value_of run_append_nil

theorem tf_append [hT : TySl P t e s by_] [hN : TyN P t'] {d0 : DV} [hz : TyZE P e d0] {w : SV} {ds ds2 : List DV} (hx : opF fr x = some w.f) (hb : BRemD bs ⟨w, s, e, ds, true⟩ bs1) (hy : SrcD fr bs1 s y ds2)
    (hby : Nat.blt 0 by_ = true) (hbd : (ds.length + ds2.length) * by_ ≤ 140737488355328) (hzs : Nat.beq d0.cells.length s = true) (hd : dstOk n dst = true) :
    TF P GB C n fr own bs ⟨dst, .call ⟨.builtin .append, #[x, y], #[t, t']⟩, ty', pos, af, gd⟩ SV (fun w' => putF fr dst w'.f) (fun _ => own) (fun w' => ⟨w', s, e, ds ++ ds2, true⟩ :: bs1) := by
  intro GB' E Φ hgb h G frv ov st
  obtain ⟨z, hz1, hz2, hz3⟩ := hz.z
  obtain ⟨p, q, rfl, hp, hq⟩ := st.ob
  have cz := (hz2.cells hz3).1.len
  replace hzs := Nat.eq_of_beq_eq_true hzs
  rw [Nat.blt_eq] at hby
  obtain ⟨B, a1, a2, rfl, ⟨vs, hB, hv, hvs, hlo⟩, hq1⟩ := hb.lens hq
  simp only [] at hB hv hvs
  obtain ⟨w2, us, h1, h2, h3, h4, h5, h6⟩ := hy.src (P := P) (C := C) st.fr hq1 ((p ++ (a1 ++ (B ++ a2))) ++ E.own) (fun o ho => by
    simp only [List.mem_append] at ho ⊢; rcases ho with h | h <;> simp [h])
  have hx' := opv_app (y := E.fr) (st.fr.opv hx)
  have hy' := opv_app (y := E.fr) h1
  have hus : (flatL us).length = us.length * s := flatL_len us h4
  have hbd' : (vs.length + us.length) * by_ ≤ 140737488355328 := by rw [hv.len, h3.len]; exact hbd
  have hall : ∀ v ∈ vs ++ us, (cellsL v).length = s := fun v hv => by
    rcases List.mem_append.1 hv with hv | hv
    · exact hvs v hv
    · exact h4 v hv
  have hfin : ∀ (b : Nat) (cap' : Nat) (rest' : List Value), vs.length + us.length ≤ cap' → rest'.length + (vs.length + us.length) * s = cap' * s →
      St C n (put (frv ++ E.fr) dst (.slice (some ⟨b, 0, none⟩) (vs.length + us.length) cap')) (⟨b, flatL (vs ++ us) ++ rest', e, true⟩ :: ((p ++ (a1 ++ a2)) ++ E.own)) G Φ := by
    intro b cap' rest' hc hr
    rw [put_app]
    refine st_perm ((p ++ ([⟨b, flatL (vs ++ us) ++ rest', e, true⟩] ++ (a1 ++ a2))) ++ E.own) ?_ (h ⟨some ⟨b, 0, none⟩, vs.length + us.length, cap'⟩ G _ _ ⟨st.gb, st.fr.put (isF_v.2 rfl) _, p, _, rfl, hp, ?_⟩)
    · simp only [List.append_assoc, List.cons_append, List.nil_append]
      exact List.perm_middle.symm
    · refine ⟨_, _, rfl, ⟨vs ++ us, .inr ⟨b, rest', true, by simp, rfl, flatL_len _ hall, ?_, by simpa using hc⟩, hv.app h3, hall, fun _ o ho => by rw [List.mem_singleton.1 ho]⟩, hq1⟩
      rw [flatL_len _ hall, List.length_append]
      simp only []
      omega
  rcases hB with ⟨e1, e2, e3⟩ | ⟨b, rest, lo', k3, k4, k5, k6, k7⟩
  · subst e1 e2 e3
    by_cases hne : us = []
    · subst hne
      have : ds2 = [] := List.eq_nil_of_length_eq_zero (by rw [← h3.len]; rfl)
      subst this
      rw [h2] at hy'
      refine ch_append_nil hx' hy' hd ?_
      rw [put_app]
      refine h ⟨none, 0, 0⟩ G _ _ ⟨st.gb, st.fr.put (isF_v.2 rfl) _, p, _, rfl, hp, ?_⟩
      rw [List.append_nil]
      refine ⟨[], _, by simp, ⟨[], .inl ⟨rfl, rfl, rfl⟩, hv, by simp, fun _ o ho => by cases ho⟩, hq1⟩
    · have hup : 0 < us.length := List.length_pos_iff.2 hne
      rw [h2] at hy' h6
      refine ch_append_grow (z := z) (xs := []) (ys := flatL us) hx' hy' src_zero h6 (by show (0 : Nat) < 0 + us.length; omega) hby (by simpa using hbd') hd (fun b cap' hc => ?_)
      have := hfin b cap' (zeros z (cap' - us.length)) (by simpa using hc) (by rw [zeros_len, cz, hzs, ← Nat.add_mul]; simp at hc ⊢; congr 1; omega)
      simpa using this
  · have hl := hlo rfl
    subst k4
    have hlo' : lo' = true := hl _ List.mem_cons_self
    subst hlo'
    have ha : w.a = some ⟨b, 0, none⟩ := by rw [k3]
    have hn : w.n = vs.length := by rw [k3]
    rw [ha, hn] at hx'
    rw [h2] at hy' h6
    refine ch_append_own (z := z) (xs := flatL vs) (ys := flatL us) (rest := rest) (own1 := (p ++ (a1 ++ a2)) ++ E.own) hx' hy' ?_ k5 k6 k7 h6 hus h5 hby hbd' (by rw [cz, hzs]) hd (fun b' cap' rest' hc hr => ?_)
    · have := (ORem.mid (o := (⟨b, flatL vs ++ rest, e, true⟩ : Own)) (r := a2 ++ E.own) (p ++ a1))
      simpa [List.append_assoc] using this
    · rw [← flatL_app]
      exact hfin b' cap' rest' hc hr

/-! stores to elements -/
theorem BufIs.upd {G : Gh} {w : SV} {s : Nat} {ty : TypeId} {ds : List DV} {lo : Bool} {B : List Own} (h : BufIs G ⟨w, s, ty, ds, lo⟩ B) {i : Nat} {d : DV} (hi : ds[i]? = some d) :
    ∃ b vs rest lo', w.a = some ⟨b, 0, none⟩ ∧ B = [⟨b, flatL vs ++ rest, ty, lo'⟩] ∧ IsLs G ds vs ∧ (∀ v ∈ vs, (cellsL v).length = s) ∧ i < vs.length ∧
      ∀ u d', Is G d' u → (cellsL u).length = s → BufIs G ⟨w, s, ty, ds.set i d', lo⟩ [⟨b, flatL (vs.set i u) ++ rest, ty, lo'⟩] := by
  obtain ⟨vs, hB, hv, hs, hlo⟩ := h
  obtain ⟨v, h1, h2⟩ := hv.get hi
  obtain ⟨hi', _⟩ := List.getElem?_eq_some_iff.1 h1
  rcases hB with ⟨e, _, _⟩ | ⟨b, rest, lo', h3, h4, h5, h6, h7⟩
  · rw [e] at h1; simp at h1
  · refine ⟨b, vs, rest, lo', by simp only [] at h3; rw [h3], h4, hv, hs, hi', fun u d' hu hul => ?_⟩
    have hall : ∀ x ∈ vs.set i u, (cellsL x).length = s := fun x hx => by
      rcases List.mem_or_eq_of_mem_set hx with h' | rfl
      · exact hs x h'
      · exact hul
    refine ⟨vs.set i u, .inr ⟨b, rest, lo', by simpa using h3, rfl, flatL_len _ hall, ?_, by simpa using h7⟩, hv.set i hu, hall, fun hl o ho => ?_⟩
    · rw [flatL_len _ hall, List.length_set, ← h5]; exact h6
    · have := hlo hl
      rw [h4] at this
      rw [List.mem_singleton.1 ho]
      have h9 := this ⟨b, flatL vs ++ rest, ty, lo'⟩ List.mem_cons_self
      exact h9
theorem flatL_set {s : Nat} {rest : List Value} {u : Value} (vs : List Value) (i : Nat) (h : i < vs.length) (hs : ∀ v ∈ vs, (cellsL v).length = s) (hu : (cellsL u).length = s) : ovw (flatL vs ++ rest) (i * s) (cellsL u) = flatL (vs.set i u) ++ rest := by
  have hl := flatL_len vs hs
  have hle : i * s + s ≤ vs.length * s := by rw [← Nat.succ_mul]; exact Nat.mul_le_mul_right _ h
  rw [ovw_spec _ _ _ (by rw [hu, List.length_append]; omega), hu, List.take_append_of_le_length (by omega), List.drop_append_of_le_length (by omega), flatL_take vs i hs (by omega), ← Nat.succ_mul, flatL_drop vs (i + 1) hs h,
    List.set_eq_take_append_cons_drop, if_pos h, show vs.take i ++ u :: vs.drop (i + 1) = vs.take i ++ ([u] ++ vs.drop (i + 1)) from rfl, flatL_app, flatL_app, flatL_one]
  simp
theorem td_storeB {w : SV} {i j k sz : Nat} {ty : TypeId} {ds : List DV} {d d' u : DV} {lo : Bool} (hx : opF fr x = some (.be w sz i j)) (hy : opD fr y = some u) [hs : TyA P t k] (hb : BRemD bs ⟨w, sz, ty, ds, lo⟩ bs1)
    (hi : ds[i]? = some (.ag d.cells)) (hc : .ag (ovD d.cells j u.cells) = d') (hdf : d.cells.all DV.flat = true) (hk : Nat.beq u.cells.length k = true) (hl : Nat.ble (j + k) d.cells.length = true) (hf : u.okc = true) (hd : dstOk n dst = true) :
    TD P GB C n fr own bs ⟨dst, .store t x y, ty', pos, af, gd⟩ (putF fr dst (.d (.v undef))) own (⟨w, sz, ty, ds.set i d', lo⟩ :: bs1) := by
  intro GB' E Φ hgb h G frv ov st
  obtain ⟨y', h1, h2⟩ := st.fr.opD hy
  obtain ⟨x', h3, b, hwb, rfl⟩ := st.fr.op hx
  obtain ⟨p, q, rfl, hp, hq⟩ := st.ob
  obtain ⟨B, a1, a2, rfl, hB, hq1⟩ := hb.lens hq
  obtain ⟨b', vs, rest, lo', e1, rfl, hv, hvs, hil, hup⟩ := hB.upd hi
  rw [hwb] at e1; cases e1
  obtain ⟨c1, c2⟩ := h2.cells hf
  replace hk := Nat.eq_of_beq_eq_true hk
  rw [Nat.ble_eq] at hl
  obtain ⟨v, g1, g2⟩ := hv.get hi
  obtain ⟨m, rfl, hm⟩ := is_ag.1 g2
  obtain ⟨g3, g4⟩ := List.getElem?_eq_some_iff.1 g1
  have hml : m.length = sz := hvs _ (List.mem_of_getElem? g1)
  have hmd := hm.len
  subst hc
  have key := hup (.agg ⟨ovw m j (cellsL y')⟩) (.ag (ovD d.cells j u.cells)) (is_ag.2 ⟨_, rfl, hm.ov c1⟩) (by show (ovw m j (cellsL y')).length = sz; rw [ovw_len, hml])
  have hov : ovw (flatL vs ++ rest) (i * sz + j) (cellsL y') = flatL (vs.set i (.agg ⟨ovw m j (cellsL y')⟩)) ++ rest := by
    have h9 := flatL_set (rest := rest) (u := .agg ⟨ovw m j (cellsL y')⟩) vs i hil hvs (by show (ovw m j (cellsL y')).length = sz; rw [ovw_len, hml])
    rw [← h9]
    have hlv := flatL_len vs hvs
    have hle : i * sz + sz ≤ vs.length * sz := by rw [← Nat.succ_mul]; exact Nat.mul_le_mul_right _ hil
    have hX : flatL vs ++ rest = (flatL vs).take (i * sz) ++ (m ++ ((flatL vs).drop (i * sz + sz) ++ rest)) := by
      have t1 := takeL_flat (rest := rest) hvs hil
      rw [g4] at t1
      obtain ⟨_, t2⟩ := takeL_eq t1
      have t3 : m = ((flatL vs).drop (i * sz)).take sz := by
        have : m = ((flatL vs ++ rest).drop (i * sz)).take sz := t2
        rw [this, List.drop_append_of_le_length (by omega), List.take_append_of_le_length (by rw [List.length_drop]; omega)]
      rw [t3]
      conv => lhs; rw [← List.take_append_drop (i * sz) (flatL vs), ← List.take_append_drop sz ((flatL vs).drop (i * sz)), List.drop_drop]
      simp [List.append_assoc]
    have hc1 : (cellsL y').length = k := by rw [c1.len, hk]
    have hP : ((flatL vs).take (i * sz)).length = i * sz := by rw [List.length_take]; omega
    generalize (flatL vs).take (i * sz) = A at hX hP
    generalize (flatL vs).drop (i * sz + sz) ++ rest = Z at hX
    rw [hX, ← hP, show cellsL (Value.agg ⟨ovw m j (cellsL y')⟩) = ovw m j (cellsL y') from rfl, ovw_app A m Z (ovw m j (cellsL y')) (by rw [ovw_len])]
    rw [ovw_spec _ m j (by rw [hc1]; omega), ovw_spec _ _ _ (by simp only [List.length_append, hc1]; omega)]
    rw [List.take_append, List.take_of_length_le (by omega), Nat.add_sub_cancel_left, List.take_append_of_le_length (by omega)]
    rw [List.drop_append, List.drop_of_length_le (by omega), List.nil_append, show A.length + j + (cellsL y').length - A.length = j + (cellsL y').length by omega, List.drop_append_of_le_length (by omega)]
    simp [List.append_assoc]
  refine ch_store (ty := ty) (lo := lo') (cs := flatL vs ++ rest) (own' := (p ++ (a1 ++ ([⟨b, flatL (vs.set i (.agg ⟨ovw m j (cellsL y')⟩)) ++ rest, ty, lo'⟩] ++ a2))) ++ E.own) (opv_app h3) (opv_app h1) ?_ (by rw [c1.len, hk]) ?_ (by rw [List.all_eq_true]; exact c2) hd ?_
  · rw [hov]
    have := (OUpd.mid (b := b) (cs := flatL vs ++ rest) (cs' := flatL (vs.set i (.agg ⟨ovw m j (cellsL y')⟩)) ++ rest) (ty := ty) (lo := lo') (r := a2 ++ E.own) (p ++ a1))
    simpa [List.append_assoc] using this
  · have hlv := flatL_len vs hvs
    have hle : i * sz + sz ≤ vs.length * sz := by rw [← Nat.succ_mul]; exact Nat.mul_le_mul_right _ hil
    rw [List.length_append]; omega
  · rw [put_app]
    refine st_perm ((p ++ ([⟨b, flatL (vs.set i (.agg ⟨ovw m j (cellsL y')⟩)) ++ rest, ty, lo'⟩] ++ (a1 ++ a2))) ++ E.own) ?_ (h G _ _ ⟨st.gb, st.fr.put (isF_v.2 rfl) _, p, _, rfl, hp, ⟨_, _, rfl, key, hq1⟩⟩)
    simp only [List.append_assoc, List.cons_append, List.nil_append]
    exact List.perm_middle.append_left _
theorem td_storeB1 {w : SV} {i : Nat} {ty : TypeId} {ds : List DV} {d u : DV} {lo : Bool} (hx : opF fr x = some (.be w 1 i 0)) (hy : opD fr y = some u) [hs : TyS P t] (hb : BRemD bs ⟨w, 1, ty, ds, lo⟩ bs1)
    (hi : ds[i]? = some d) (hf : u.flat = true) (hd : dstOk n dst = true) :
    TD P GB C n fr own bs ⟨dst, .store t x y, ty', pos, af, gd⟩ (putF fr dst (.d (.v undef))) own (⟨w, 1, ty, ds.set i u, lo⟩ :: bs1) := by
  intro GB' E Φ hgb h G frv ov st
  obtain ⟨y', h1, h2⟩ := st.fr.opD hy
  obtain ⟨x', h3, b, hwb, rfl⟩ := st.fr.op hx
  obtain ⟨p, q, rfl, hp, hq⟩ := st.ob
  obtain ⟨B, a1, a2, rfl, hB, hq1⟩ := hb.lens hq
  obtain ⟨b', vs, rest, lo', e1, rfl, hv, hvs, hil, hup⟩ := hB.upd hi
  rw [hwb] at e1; cases e1
  have hfl := h2.flat hf
  have hcl := cellsL_flat hfl
  have key := hup y' u h2 (by rw [hcl]; rfl)
  have hset := flatL_set (rest := rest) (u := y') vs i hil hvs (by rw [hcl]; rfl)
  rw [hcl] at hset
  simp only [ovw, Nat.mul_one] at hset
  rw [Nat.mul_one, Nat.add_zero] at h3
  refine ch_store1 (ty := ty) (lo := lo') (cs := flatL vs ++ rest) (own' := (p ++ (a1 ++ ([⟨b, flatL (vs.set i y') ++ rest, ty, lo'⟩] ++ a2))) ++ E.own) (opv_app h3) (opv_app h1) ?_ ?_ hfl hd ?_
  · rw [hset]
    have := (OUpd.mid (b := b) (cs := flatL vs ++ rest) (cs' := flatL (vs.set i y') ++ rest) (ty := ty) (lo := lo') (r := a2 ++ E.own) (p ++ a1))
    simpa [List.append_assoc] using this
  · have hlv := flatL_len vs hvs
    rw [List.length_append]; omega
  · rw [put_app]
    refine st_perm ((p ++ ([⟨b, flatL (vs.set i y') ++ rest, ty, lo'⟩] ++ (a1 ++ a2))) ++ E.own) ?_ (h G _ _ ⟨st.gb, st.fr.put (isF_v.2 rfl) _, p, _, rfl, hp, ⟨_, _, rfl, key, hq1⟩⟩)
    simp only [List.append_assoc, List.cons_append, List.nil_append]
    exact List.perm_middle.append_left _

/-! ### what is written no more; what is forgotten; spelled otherwise -/
theorem sd_re (k : Nat) {f f' : FV} (hl : lookF fr k = some f) (hE : E.fr = []) (hf : ∀ G y, IsF G f y → IsF G f' y) (h : SD GB C n E ((k, f') :: fr) own bs Φ) : SD GB C n E fr own bs Φ := by
  refine ⟨fun G frv ov s => ?_⟩
  obtain ⟨u, hu, hu'⟩ := s.fr.look hl
  refine st_frame ((k, u) :: (frv ++ E.fr)) (FrLe.cons (look_appS hu) (fun _ _ h => h)) (h G ((k, u) :: frv) ov ⟨s.gb, ⟨u, frv, rfl, hf G u hu', s.fr⟩, s.ob⟩)
theorem sd_nilS (k : Nat) (hl : lookF fr k = some (.d (.v (.slice none 0 0)))) (h : SD GB C n E0 ((k, .d (.sl [])) :: fr) own bs Φ) : SD GB C n E0 fr own bs Φ :=
  sd_re (f' := .d (.sl [])) k hl rfl (fun G y hy => (toD_is (f := .d (.v (.slice none 0 0))) hy rfl : Is G (.sl []) y)) h
/-- a row of the call's own, nothing in it yet -/
theorem sd_newB (s ty : Nat) (h : SD GB C n E fr own (⟨⟨none, 0, 0⟩, s, ty, [], true⟩ :: bs) Φ) : SD GB C n E fr own bs Φ := by
  refine ⟨fun G frv ov st => ?_⟩
  obtain ⟨p, q, rfl, hp, hq⟩ := st.ob
  exact h G frv _ ⟨st.gb, st.fr, p, q, rfl, hp, ⟨[], q, rfl, ⟨[], .inl ⟨rfl, rfl, rfl⟩, .nil, by simp, fun _ o ho => by cases ho⟩, hq⟩⟩
theorem sd_dropO (own' : List OwnD) (hs : own'.Sublist own) (h : SD GB C n E fr own' bs Φ) : SD GB C n E fr own bs Φ := by
  have key : ∀ {G : Gh} {own own' : List OwnD}, own'.Sublist own → ∀ {p : List Own}, OwnsIs G own p → ∃ p', p'.Sublist p ∧ OwnsIs G own' p' := by
    intro G own own' hs
    induction hs with
    | slnil => exact fun {p} hp => ⟨[], List.nil_sublist _, rfl⟩
    | cons a hs ih =>
      rintro p ⟨cs, m, rfl, h1, h2⟩
      obtain ⟨p', h3, h4⟩ := ih h2
      exact ⟨p', h3.cons _, h4⟩
    | cons_cons a hs ih =>
      rintro p ⟨cs, m, rfl, h1, h2⟩
      obtain ⟨p', h3, h4⟩ := ih h2
      exact ⟨_, h3.cons_cons _, ⟨cs, p', rfl, h1, h4⟩⟩
  refine ⟨fun G frv ov s => ?_⟩
  obtain ⟨p, q, rfl, hp, hq⟩ := s.ob
  obtain ⟨p', h1, h2⟩ := key hs hp
  exact st_drop _ ((h1.append_right q).append_right E.own) (h G frv _ ⟨s.gb, s.fr, p', q, rfl, h2, hq⟩)
theorem sd_permO (own' : List OwnD) (hs : own.Perm own') (h : SD GB C n E fr own' bs Φ) : SD GB C n E fr own bs Φ := by
  have key : ∀ {G : Gh} {own own' : List OwnD}, own.Perm own' → ∀ {p : List Own}, OwnsIs G own p → ∃ p', p.Perm p' ∧ OwnsIs G own' p' := by
    intro G own own' hs
    induction hs with
    | nil => exact fun {p} hp => ⟨p, List.Perm.refl _, hp⟩
    | cons a hs ih =>
      rintro p ⟨cs, m, rfl, h1, h2⟩
      obtain ⟨p', h3, h4⟩ := ih h2
      exact ⟨_, h3.cons _, ⟨cs, p', rfl, h1, h4⟩⟩
    | swap a b l =>
      rintro p ⟨cs, m, rfl, h1, ⟨cs2, m2, rfl, h2, h3⟩⟩
      exact ⟨_, List.Perm.swap .., ⟨cs2, _, rfl, h2, ⟨cs, m2, rfl, h1, h3⟩⟩⟩
    | trans h1 h2 ih1 ih2 =>
      intro p hp
      obtain ⟨p1, k1, k2⟩ := ih1 hp
      obtain ⟨p2, k3, k4⟩ := ih2 k2
      exact ⟨p2, k1.trans k3, k4⟩
  refine ⟨fun G frv ov s => ?_⟩
  obtain ⟨p, q, rfl, hp, hq⟩ := s.ob
  obtain ⟨p', h1, h2⟩ := key hs hp
  exact st_perm _ ((h1.append_right q).append_right E.own) (h G frv _ ⟨s.gb, s.fr, p', q, rfl, h2, hq⟩)
theorem sd_dropB {β : BufD} (hb : BRemD bs β bs1) (h : SD GB C n E fr own bs1 Φ) : SD GB C n E fr own bs Φ := by
  refine ⟨fun G frv ov s => ?_⟩
  obtain ⟨p, q, rfl, hp, hq⟩ := s.ob
  obtain ⟨B, a1, a2, rfl, hB, hq1⟩ := hb.lens hq
  refine st_drop ((p ++ (a1 ++ a2)) ++ E.own) ?_ (h G frv _ ⟨s.gb, s.fr, p, _, rfl, hp, hq1⟩)
  exact ((List.Sublist.append_left ((List.sublist_append_right B a2).append_left a1) p)).append_right E.own
/-- slots of a list, seen otherwise -/
def reF (ks : List Nat) (f : FV) (fr : FrF) : FrF := ks.map (fun k => (k, f)) ++ fr
theorem sd_freezeB (ks : List Nat) {w : SV} {s : Nat} {ty : TypeId} {ds : List DV} (hb : BRemD bs ⟨w, s, ty, ds, true⟩ bs1) (hk : ∀ k ∈ ks, lookF fr k = some w.f) (h : SD GB C n E0 (reF ks (.d (.sl ds)) fr) own bs1 Φ) : SD GB C n E0 fr own bs Φ := by
  refine ⟨fun G frv ov st => ?_⟩
  obtain ⟨p, q, rfl, hp, hq⟩ := st.ob
  obtain ⟨B, a1, a2, rfl, ⟨vs, hB, hv, hvs, hlo⟩, hq1⟩ := hb.lens hq
  simp only [] at hB hv hvs
  simp only [E0, List.append_nil]
  have hks : ∀ k ∈ ks, look frv k = some (.slice w.a w.n w.c) := fun k hk' => st.fr.opv (x := .tmp k) (hk k hk')
  have fin : ∀ G', GLe G G' → IsSl G' s w vs → St C n frv (p ++ (a1 ++ a2)) G' Φ := by
    intro G' hg hsl
    have hF : ∀ ks : List Nat, (∀ k ∈ ks, look frv k = some (.slice w.a w.n w.c)) → ∃ m, FrIs G' (reF ks (.d (.sl ds)) fr) m ∧ FrLe m frv := by
      intro ks
      induction ks with
      | nil => exact fun _ => ⟨frv, st.fr.up hg, fun _ _ h => h⟩
      | cons k ks ih =>
        intro hk'
        obtain ⟨m, h1, h2⟩ := ih (fun j hj => hk' j (List.mem_cons_of_mem _ hj))
        exact ⟨(k, _) :: m, ⟨_, m, rfl, (show IsF G' (.d (.sl ds)) (.slice w.a w.n w.c) from is_sl.2 ⟨s, w, vs, rfl, hsl, hv.up hg⟩), h1⟩, FrLe.cons (hk' k List.mem_cons_self) h2⟩
    obtain ⟨m, h1, h2⟩ := hF ks hks
    have := h G' m (p ++ (a1 ++ a2)) ⟨st.gb.trans hg, h1, p, _, rfl, hp.up hg, hq1.up hg⟩
    simp only [E0, List.append_nil] at this
    exact st_frame _ h2 this
  rcases hB with ⟨e1, e2, e3⟩ | ⟨b, rest, lo', h3, h4, h5, h6, h7⟩
  · subst e1 e2 e3
    exact fin G (GLe.refl _) (IsSl.nil _ _)
  · subst h4
    have hl : lo' = true := hlo rfl _ List.mem_cons_self
    subst hl
    refine st_freeze b (cs := flatL vs ++ rest) (ty := ty) (own' := p ++ (a1 ++ a2)) ?_ ?_
    · have := (ORem.mid (o := (⟨b, flatL vs ++ rest, ty, true⟩ : Own)) (r := a2) (p ++ a1))
      simpa [List.append_assoc] using this
    · intro G' hG hg
      refine fin G' hG.le ?_
      rw [h3]
      exact IsSl.of_flat hvs hg.h h7
theorem sd_freezeV (ks : List Nat) {b : Nat} {cs : List DV} {ty : TypeId} (hb : ORemD own b cs ty true own') (hk : ∀ k ∈ ks, lookF fr k = some (.d (.v (.pointer (some ⟨b, 0, none⟩))))) (h : SD GB C n E0 (reF ks (.d (.pt cs)) fr) own' bs Φ) : SD GB C n E0 fr own bs Φ := by
  refine ⟨fun G frv ov st => ?_⟩
  obtain ⟨p, q, rfl, hp, hq⟩ := st.ob
  obtain ⟨m, a1, a2, rfl, hm, hp'⟩ := hb.lens hp
  simp only [E0, List.append_nil]
  have hks : ∀ k ∈ ks, look frv k = some (.pointer (some ⟨b, 0, none⟩)) := fun k hk' => st.fr.opv (x := .tmp k) (hk k hk')
  refine st_freeze b (cs := m) (ty := ty) (own' := (a1 ++ a2) ++ q) ?_ ?_
  · have := (ORem.mid (o := (⟨b, m, ty, true⟩ : Own)) (r := a2 ++ q) a1)
    simpa [List.append_assoc] using this
  · intro G' hG hg
    have hF : ∀ ks : List Nat, (∀ k ∈ ks, look frv k = some (.pointer (some ⟨b, 0, none⟩))) → ∃ m, FrIs G' (reF ks (.d (.pt cs)) fr) m ∧ FrLe m frv := by
      intro ks
      induction ks with
      | nil => exact fun _ => ⟨frv, st.fr.up hG.le, fun _ _ h => h⟩
      | cons k ks ih =>
        intro hk'
        obtain ⟨m2, h1, h2⟩ := ih (fun j hj => hk' j (List.mem_cons_of_mem _ hj))
        exact ⟨(k, _) :: m2, ⟨_, m2, rfl, (show IsF G' (.d (.pt cs)) (.pointer (some ⟨b, 0, none⟩)) from is_pt.2 ⟨b, m, rfl, hg.h, hm.up hG.le⟩), h1⟩, FrLe.cons (hk' k List.mem_cons_self) h2⟩
    obtain ⟨m2, h1, h2⟩ := hF ks hks
    have := h G' m2 ((a1 ++ a2) ++ q) ⟨st.gb.trans hG.le, h1, _, _, rfl, hp'.up hG.le, hq.up hG.le⟩
    simp only [E0, List.append_nil] at this
    exact st_frame _ h2 this
end
end Go.Sx
end
