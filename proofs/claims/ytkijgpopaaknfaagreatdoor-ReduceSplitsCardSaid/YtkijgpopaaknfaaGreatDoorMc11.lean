/-
  Package geo: Clip, Divide. Package geo: Divide. Package bsp: trees in memory; Leaf, New, Join, Restrict, Reduce, Depth. Package bsp: the reader of trees. Package bsp: Of, and lines in the form of package api. Package bsp: trees written for package api. Package bsp: Parts; package reduce: read, Reduce; package cells: parts. Package cells: All. Reference: small numbers; the tape.
-/
import Derived.Test.YtkijgpopaaknfaaGreatDoorMc10
set_option linter.unusedSimpArgs false
set_option linter.unusedVariables false
section
set_option maxRecDepth 100000
namespace Go.Sx
open Go Go.Proofs
section
variable {P : Program} {C : Ctx} {n : Nat} {fr : Fr} {own own' : List Own} {G : Gh} {Φ : Act → World → Prop}
variable {dst : Option Nat} {t t' ty' : TypeId} {pos : String} {af : Array Edge} {gd : Option (Nat × Bool)} {x y : Operand} {e s by_ : Nat}
theorem ch_make0 [hT : TySl P t e s by_] {z : Value} [hz : TyZ P e z] {k k' : IntKind} {l : Int} (hx : opv fr x = some (.int k 0)) (hy : opv fr y = some (.int k' l)) (h0 : 0 ≤ l) (hb : by_ * l ≤ 2 ^ 47) (hl : l ≤ 2 ^ 60) (hs : (cellsL z).length = s) (hd : dstOk n dst = true)
   (h : ∀ b, St C n (put fr dst (.slice (some ⟨b, 0, none⟩) 0 l.toNat)) (⟨b, zeros z l.toNat, e, true⟩ :: own) G Φ) :
   Ch P C n fr own G ⟨dst, .makeSlice t x y, ty', pos, af, gd⟩ Φ := by
 intro a w Q rl
 have h1 : (Instr.makeSlice t (a.eval x) (a.eval y)).run P w = .ok (.slice (some ⟨w.heap.size, 0, none⟩) 0 l.toNat) (w.alloc (.cells ⟨zeros z l.toNat⟩ e)) := by
   obtain ⟨i, hi, hib⟩ := run_bytes (P := P) (t := t) (e := e) (s := s) (by_ := by_) w
   rw [opv_eval rl.fr hx, opv_eval rl.fr hy]
   unfold Instr.makeSlice
   rw [run_ok_bind (hT.u w)]
   simp only [asInt, asIntOf]
   rw [run_ok_bind (a := 0) (w' := w) rfl, run_ok_bind (a := l) (w' := w) rfl, run_ok_bind hi, hib]
   have hw : IntKind.i64.wrap l = l := wrap_in (by simp [IntKind.min, IntKind.max, IntKind.signed, IntKind.bits]; omega)
   have hw0 : IntKind.i64.wrap 0 = 0 := rfl
   simp only [hw, hw0]
   have c1 : ¬ ((by_ : Int) * l > 2 ^ 48) := by
     have : (2:Int)^47 ≤ 2^48 := by decide
     omega
   have c5 : decide ((by_ : Int) * l > 2 ^ 48) = false := decide_eq_false c1
   have c2 : decide (l < 0) = false := decide_eq_false (by omega)
   have c4 : decide ((0 : Int) > l) = false := by simp; omega
   simp only [c2, c4, c5, Bool.false_or, Int.lt_irrefl, decide_false, Bool.or_false, Bool.false_eq_true, if_false]
   have hr : ¬ (l.toNat * by_ > roomBytes) := by
     unfold roomBytes
     have : ((l.toNat * by_ : Nat) : Int) = by_ * l := by rw [Int.natCast_mul, Int.toNat_of_nonneg h0, Int.mul_comm]
     have h47 : ((2 ^ 47 : Nat) : Int) = 2 ^ 47 := by decide
     omega
   unfold askRoom
   simp only [hr, if_false]
   rw [run_ok_bind (run_pure _ _ _), run_ok_bind (hT.siz w)]
   have hn : l.toNat * s = l.toNat * (cellsL z).length := by rw [hs]
   by_cases h00 : l.toNat * s = 0
   · rw [if_pos h00, run_ok_bind (run_pure _ _ _)]
     have e0 : zeros z l.toNat = [] := List.eq_nil_of_length_eq_zero (by rw [zeros_len, hs]; exact h00)
     rw [h00, e0, show (Array.range 0) = #[] from rfl, Array.map_empty]
     rfl
   · rw [if_neg h00, run_ok_bind (hz.zero w), cells_eq]
     rw [run_ok_bind (run_pure _ _ _), range_zeros hn]
     rfl
 refine ch_value (v := .slice (some ⟨w.heap.size, 0, none⟩) 0 l.toNat) (value_of h1) (h w.heap.size _ _ ((rl.heap (rl.h.alloc _ _)).put _ hd))
end
theorem row_app (fs : List FrV) (g : FrV) {rest : List Value} (hr : 17 ≤ rest.length) : ovw (flatL (fs.map FrV.val) ++ rest) (fs.length * 17) (cellsL g.val) = flatL ((fs ++ [g]).map FrV.val) ++ rest.drop 17 := by
 have h := app_cells (vs := fs.map FrV.val) (rest := rest) (vcs := cellsL g.val) (FrV.len17 fs) rfl hr
 rw [List.length_map] at h
 rw [h, List.map_append, flatL_app, List.map_singleton, flatL_one]
theorem row_ins (fs : List FrV) (g : FrV) (i : Nat) (rest : List Value) : flatL ((fs.map FrV.val).take i) ++ cellsL g.val ++ flatL ((fs.map FrV.val).drop i) ++ rest.drop 17 = flatL ((fs.take i ++ g :: fs.drop i).map FrV.val) ++ rest.drop 17 := by
 rw [List.map_append, List.map_cons, flatL_app, show g.val :: (fs.drop i).map FrV.val = [g.val] ++ (fs.drop i).map FrV.val from rfl, flatL_app, flatL_one, List.map_take, List.map_drop, ← List.append_assoc]
set_option maxHeartbeats 2000000 in
theorem Cell_Clip {A B G : Gh} {x : SV} {z : LV} {c : CellQ} {l : LnQ} {k : Nat} (hx : IsC k A x c) (hl : IsL k B z l) [GL A G] [GL B G] (hk : k ≤ 100000000) (hb : c.length ≤ 1000000) :
   Fn Tryz.prog 103 [.slice x.a x.n x.c, .agg ⟨[.int .i64 z.a.n, .int .i64 z.a.d, .pointer z.a.p, .int .i64 z.b.n, .int .i64 z.b.d, .pointer z.b.p, .int .i64 z.c.n, .int .i64 z.c.d, .pointer z.c.p]⟩] G (fun u G' => ∃ y : SV, u = .tuple #[.slice y.a y.n y.c, .bool (clipB c l)] ∧ IsC k G' y (clipC c l)) := by
 have hpart : ∀ {G : Gh} [GL A G] [GL B G], Fn Tryz.prog 149 [.slice x.a x.n x.c, .agg ⟨[.int .i64 z.a.n, .int .i64 z.a.d, .pointer z.a.p, .int .i64 z.b.n, .int .i64 z.b.d, .pointer z.b.p, .int .i64 z.c.n, .int .i64 z.c.d, .pointer z.c.p]⟩] G _ := fun {G} _ _ => Cell_part (G := G) hx hl hk (by omega)
 have hplace : ∀ {G : Gh} [GL A G] [GL B G], Fn Tryz.prog 150 [.slice x.a x.n x.c, .agg ⟨[.int .i64 z.a.n, .int .i64 z.a.d, .pointer z.a.p, .int .i64 z.b.n, .int .i64 z.b.d, .pointer z.b.p, .int .i64 z.c.n, .int .i64 z.c.d, .pointer z.c.p]⟩] G _ := fun {G} _ _ => Cell_Place (G := G) hx hl hk (by omega)
 have hlen := hx.len
 obtain ⟨fs, hs, hfs⟩ := hx.ex
 obtain ⟨xa, xn, xc⟩ := x
 simp only [] at hlen
 subst hlen
 show Fn _ _ [.slice xa c.length xc, _] _ _
 refine Fn.intro Tryz.func103 rfl rfl Tryz.ntmps103 rfl ?_
 intro C _ _
 refine sR <| ?_
 refine sc (ch_box rfl rfl ?_)
 intro b1
 refine sa rfl rfl <| sa rfl rfl <| st_end <| sR <| sm rfl rfl <| slo rfl rfl rfl <| ?_
 refine sc (ch_call rfl rfl hpart rfl ?_)
 rintro _ G2 _ (⟨hn, rfl⟩ | ⟨v, y, hv, rfl, hy⟩)
 case inl =>
   have e1 : clipC c l = c := by rw [clipC, hn]
   have e2 : clipB c l = decide (0 < placeQ c l) := by rw [clipB, hn]
   refine sm rfl rfl <| sx rfl rfl rfl <| sx rfl rfl rfl <| ?_
   refine sc (ch_alloc rfl ?_)
   intro b3
   refine sc (ch_storeN rfl rfl (by first | (dsimp only [ovw, cellsL, zs1, zs2, Nat.reduceAdd, RV.v, LV.v, PV.v, IvV.v, FrV.val]; done) | exact rfl) (by repeat (first | exact .hd .. | apply OUpd.tl)) rfl (nb rfl) rfl rfl ?_)
   refine sa rfl rfl <| st_end <| st_seq <| sR <| sm rfl rfl <| sy (yd_not rfl) rfl <| st_end <| st_condT rfl <| ?_
   refine sR <| sm rfl rfl <| sm rfl rfl <| slo rfl rfl rfl <| ?_
   refine sc (ch_call rfl rfl hplace rfl ?_)
   rintro _ G4 _ rfl
   refine sy (yd_gtr rfl rfl) rfl <| sa rfl rfl <| sa rfl rfl <| st_end <| st_ret <| ?_
   exact st_done (.tmp rfl (.tmp rfl .nil)) ⟨⟨xa, c.length, xc⟩, by rw [e2]; rfl, by rw [e1]; exact hx.up⟩
 refine sm rfl rfl <| sx rfl rfl rfl <| sx rfl rfl rfl <| ?_
 refine sc (ch_alloc rfl ?_)
 intro b3
 refine sc (ch_storeN rfl rfl (by first | (dsimp only [ovw, cellsL, zs1, zs2, Nat.reduceAdd, RV.v, LV.v, PV.v, IvV.v, FrV.val]; done) | exact rfl) (by repeat (first | exact .hd .. | apply OUpd.tl)) rfl (nb rfl) rfl rfl ?_)
 refine sa rfl rfl <| st_end <| st_seq <| sR <| sm rfl rfl <| sy (yd_not rfl) rfl <| st_end <| st_condF rfl <| ?_
 refine st_skipc <| sR <| sm rfl rfl <| slen rfl rfl <| sy (yd_add64 rfl rfl) rfl <| ?_
 refine sc (ch_make0 rfl rfl (by omega) (by omega) (by omega) (by rfl) rfl ?_)
 intro b5
 rw [show ((c.length : Int) + 1).toNat = c.length + 1 by omega]
 refine sa rfl rfl <| st_end <| st_seq <| sR <| sm rfl rfl <| slen rfl rfl <| sm rfl rfl <| st_end <| st_block <| ?_
 refine st_loop (X := Nat × List FrV × List Value) (fun q => [(34, .int .i64 q.1), (33, .int .i64 c.length), (32, .slice xa c.length xc), (3, .pointer (some ⟨b1, 0, none⟩)), (8, .slice (some ⟨b5, 0, none⟩) q.2.1.length (c.length + 1)), (6, .pointer (some ⟨b3, 0, none⟩))])
   (fun q => [⟨b5, flatL (q.2.1.map FrV.val) ++ q.2.2, 196, true⟩, ⟨b3, [.int .i64 y.lo.n, .int .i64 y.lo.d, .pointer y.lo.p, .int .i64 y.hi.n, .int .i64 y.hi.d, .pointer y.hi.p, .bool y.nl, .bool y.nh], 194, true⟩, ⟨b1, [.int .i64 z.a.n, .int .i64 z.a.d, .pointer z.a.p, .int .i64 z.b.n, .int .i64 z.b.d, .pointer z.b.p, .int .i64 z.c.n, .int .i64 z.c.d, .pointer z.c.p], 105, true⟩])
   (fun q G => q.1 ≤ c.length ∧ q.2.1.length ≤ q.1 ∧ q.2.1.length * 17 + q.2.2.length = (c.length + 1) * 17 ∧ ∃ o, All2 (IsFr k G) q.2.1 o ∧ o ++ cutsV l (c.drop q.1) = cutsV l c) (fun q => c.length - q.1) (0, [], zeros (.agg ⟨[.int .i64 0, .int .i64 0, .pointer none, .int .i64 0, .int .i64 0, .pointer none, .int .i64 0, .int .i64 0, .pointer none, .int .i64 0, .int .i64 0, .pointer none, .int .i64 0, .int .i64 0, .pointer none, .bool false, .bool false]⟩) (c.length + 1))
   ⟨Nat.zero_le _, Nat.le_refl _, by rw [zeros_len]; show 0 * 17 + (c.length + 1) * 17 = _; omega, [], .nil, rfl⟩ (.cons rfl (.cons rfl (.cons rfl (.cons rfl (.cons rfl (.cons rfl .nil)))))) rfl ?_
 rintro ⟨i, os, rest⟩ Gx _ ⟨hi, hol, hot, o, ho, hoq⟩
 simp only [] at hi hol hot ho hoq
 refine sR <| sy (yd_lss rfl rfl) rfl <| st_end <| st_seq <| ?_
 refine st_condE rfl (fun hc => ?_) (fun hc => ?_) -- slot 35
 · rw [List.drop_eq_nil_of_le (by omega)] at hoq
   have hoc : o = cutsV l c := by rw [← hoq]; simp [cutsV]
   subst hoc
   have hol2 := ho.len
   have e1 : clipC c l = insQ (cutsV l c) l v := by rw [clipC, hv]
   have e2 : clipB c l = true := by rw [clipB, hv]
   refine st_exit <| st_te <| st_te <| st_inBlock_eq <| sR <| sm rfl rfl <| slo rfl rfl rfl <| ?_
   rw [hol2]
   refine sc (ch_callM rfl rfl (List.Perm.refl _) (sides_search ho hl hk (by omega)) rfl ?_)
   rintro _ css G6 _ _ ⟨rfl, bb, rfl⟩
   show St C _ _ [⟨b5, _, _, true⟩, ⟨b3, _, _, true⟩, ⟨b1, _, _, true⟩] _ _
   have hble := (bsq_le (angAt (cutsV l c) l) (cutsV l c).length 0 (cutsV l c).length (by omega) (by omega)).2
   have hins : insQ (cutsV l c) l v = (cutsV l c).take (bsq (angAt (cutsV l c) l) 0 (cutsV l c).length) ++ ⟨l, v⟩ :: (cutsV l c).drop (bsq (angAt (cutsV l c) l) 0 (cutsV l c).length) := rfl
   generalize bsq (angAt (cutsV l c) l) 0 (cutsV l c).length = at_ at hble hins
   refine sm rfl rfl <| sx rfl rfl rfl <| sx rfl rfl rfl <| sa rfl rfl <| sa rfl rfl <| st_end <| sR <| sm rfl rfl <| sm rfl rfl <| slo rfl rfl rfl <| slo rfl rfl rfl <| sy (yd_build rfl) rfl <| ?_
   refine sc (ch_slice1 rfl (by rfl) (by rfl) (by decide) (by decide) rfl ?_)
   intro b7
   have hmap : (os.map FrV.val).length = (cutsV l c).length := by rw [List.length_map, hol2]
   have hI := sides_insert (G := G6) (b := b5) (bv := b7) (cap := c.length + 1) (i := at_) (vs := os.map FrV.val) (rest := rest) (vcs := cellsL (FrV.val ⟨z, y⟩)) (lo := true) (lo2 := true) (FrV.len17 os) (FrV.flat os) rfl (FrV.flat [⟨z, y⟩] _ List.mem_cons_self)
     (by rw [List.length_map]; exact hot) (by rw [List.length_map]; omega) (by omega) (by omega)
   rw [hmap] at hI
   refine sc (ch_callM rfl rfl (List.Perm.swap ..) hI rfl ?_)
   rintro _ css G8 _ _ ⟨rfl, rfl⟩
   show St C _ _ [⟨b5, _, _, true⟩, ⟨b7, _, _, true⟩, ⟨b3, _, _, true⟩, ⟨b1, _, _, true⟩] _ _
   rw [row_ins]
   refine sa rfl rfl <| sa rfl rfl <| st_end <| st_ret <| ?_
   refine st_freeze b5 (.hd ..) ?_
   intro G9 _ hfz
   refine st_done (.tmp rfl (.tmp rfl .nil)) ⟨⟨some ⟨b5, 0, none⟩, (cutsV l c).length + 1, c.length + 1⟩, by rw [e2]; rfl, ?_⟩
   rw [e1, hins]
   have hnl : ((os.take at_ ++ ⟨z, y⟩ :: os.drop at_).map FrV.val).length = (cutsV l c).length + 1 := by
     simp; omega
   refine ⟨⟨os.take at_ ++ ⟨z, y⟩ :: os.drop at_, ?_, ((ho.imp fun _ _ h => h.up).take at_).app (.cons ⟨hl.up, hy.up⟩ ((ho.imp fun _ _ h => h.up).drop at_))⟩⟩
   rw [← hnl]
   exact IsSl.of_flat (s := 17) (FrV.len17 _) hfz.h (by rw [hnl]; omega)
 have hi1 : i < c.length := by omega
 obtain ⟨f, hf, hff⟩ := hfs.get (List.getElem?_eq_getElem hi1)
 have hfi : (fs.map FrV.val)[i]? = some (.agg ⟨[.int .i64 f.l.a.n, .int .i64 f.l.a.d, .pointer f.l.a.p, .int .i64 f.l.b.n, .int .i64 f.l.b.d, .pointer f.l.b.p, .int .i64 f.l.c.n, .int .i64 f.l.c.d, .pointer f.l.c.p, .int .i64 f.v.lo.n, .int .i64 f.v.lo.d, .pointer f.v.lo.p, .int .i64 f.v.hi.n, .int .i64 f.v.hi.d, .pointer f.v.hi.p, .bool f.v.nl, .bool f.v.nh]⟩) := by rw [List.getElem?_map, hf]; rfl
 rw [List.drop_eq_getElem_cons hi1, cutsV] at hoq
 refine st_skipc <| st_seq <| st_block <| sR <| sy (yd_ix (z := ⟨xa, c.length, xc⟩) hs rfl rfl (by omega) (by show (i : Int) < (c.length : Int); omega)) rfl <| ?_
 rw [Int.toNat_natCast]
 refine sy (yd_ldA (i := i) hs rfl (by rw [List.length_map, hfs.len]; exact hi1) hfi) rfl <| ?_
 refine sc (ch_alloc rfl ?_)
 intro b9
 refine sc (ch_storeN rfl rfl (by first | (dsimp only [ovw, cellsL, zs1, zs2, Nat.reduceAdd, RV.v, LV.v, PV.v, IvV.v, FrV.val]; done) | exact rfl) (by repeat (first | exact .hd .. | apply OUpd.tl)) rfl (nb rfl) rfl rfl ?_)
 refine st_end <| sR <| sf rfl rfl <| slo rfl rfl rfl <| sf rfl rfl <| slo rfl rfl rfl <| slo rfl rfl rfl <| ?_
 refine sc (ch_call rfl rfl (Ln_Cut hff.l hff.v hl (by omega)) rfl ?_)
 rintro _ G10 _ ⟨y', rfl, hy'⟩
 refine sm rfl rfl <| sx rfl rfl rfl <| sx rfl rfl rfl <| ?_
 refine sc (ch_alloc rfl ?_)
 intro b11
 refine sc (ch_storeN rfl rfl (by first | (dsimp only [ovw, cellsL, zs1, zs2, Nat.reduceAdd, RV.v, LV.v, PV.v, IvV.v, FrV.val]; done) | exact rfl) (by repeat (first | exact .hd .. | apply OUpd.tl)) rfl (nb rfl) rfl rfl ?_)
 refine sa rfl rfl <| st_end <| sR <| sm rfl rfl <| st_end <| ?_
 refine st_condB rfl (fun hc1 => ?_) (fun hc1 => ?_) -- slot 47
 · rw [if_pos hc1] at hoq
   refine st_region <| sm rfl rfl <| sf rfl rfl <| slo rfl rfl rfl <| slo rfl rfl rfl <| sy (yd_build rfl) rfl <| ?_
   refine sc (ch_slice1 rfl (by rfl) (by rfl) (by decide) (by decide) rfl ?_)
   intro b12
   refine sc (ch_append_room (s := 17) (m := 1) (b := b5) (len := os.length) (ys := cellsL (FrV.val ⟨f.l, y'⟩)) rfl rfl (.tl _ _ _ _ _ _ _ _ (.tl _ _ _ _ _ _ _ _ (.tl _ _ _ _ _ _ _ _ (.hd ..)))) (by rw [List.length_append, flatL_len (s := 17) _ (FrV.len17 os), List.length_map]; exact hot) (src_own inferInstance rfl) rfl (FrV.flat [⟨f.l, y'⟩] _ List.mem_cons_self) (by omega) rfl ?_)
   have hr17 : 17 ≤ rest.length := by omega
   rw [row_app os ⟨f.l, y'⟩ (rest := rest) hr17]
   refine sa rfl rfl <| st_end <| st_region <| sy (yd_add64 rfl rfl) rfl <| sm rfl rfl <| st_end <| ?_
   refine st_drop _ (.cons _ (.cons _ (.cons _ (List.Sublist.refl _)))) ?_
   exact st_again (i + 1, os ++ [⟨f.l, y'⟩], rest.drop 17) ⟨hi1, by simp; omega, by simp; omega, o ++ [⟨c[i].l, c[i].l.cutV c[i].v l⟩], (ho.imp fun _ _ h => h.up).app (.cons ⟨hff.l.up, hy'.up⟩ .nil), by rw [← hoq]; simp⟩ (by show c.length - (i + 1) < c.length - i; omega) (.cons rfl (.cons rfl (.cons rfl (.cons rfl (.cons (show look _ 8 = some (.slice (some ⟨b5, 0, none⟩) (os ++ [(⟨f.l, y'⟩ : FrV)]).length (c.length + 1)) from by rw [List.length_append]; rfl) (.cons rfl .nil)))))) rfl
 rw [if_neg (by simp [hc1])] at hoq
 refine st_skipc <| st_region <| sy (yd_add64 rfl rfl) rfl <| sm rfl rfl <| st_end <| ?_
 refine st_drop _ (.cons _ (.cons _ (List.Sublist.refl _))) ?_
 exact st_again (i + 1, os, rest) ⟨hi1, by show os.length ≤ i + 1; omega, hot, o, ho.imp fun _ _ h => h.up, hoq⟩ (by show c.length - (i + 1) < c.length - i; omega) (.cons rfl (.cons rfl (.cons rfl (.cons rfl (.cons rfl (.cons rfl .nil)))))) rfl
end Go.Sx
end

section
set_option maxRecDepth 100000
namespace Go.Sx
open Go Go.Proofs
theorem Cell_Divide {A B G : Gh} {x : SV} {z : LV} {c : CellQ} {l : LnQ} {k : Nat} (hx : IsC k A x c) (hl : IsL k B z l) [GL A G] [GL B G] (hk : k ≤ 100000000) (hb : c.length ≤ 1000000) :
  Fn Tryz.prog 47 [.slice x.a x.n x.c, .agg ⟨[.int .i64 z.a.n, .int .i64 z.a.d, .pointer z.a.p, .int .i64 z.b.n, .int .i64 z.b.d, .pointer z.b.p, .int .i64 z.c.n, .int .i64 z.c.d, .pointer z.c.p]⟩] G (fun u G' => ∃ y1 y2 : SV, u = .tuple #[.slice y1.a y1.n y1.c, .slice y2.a y2.n y2.c, .bool (clipB c l), .bool (clipB c l.rev)] ∧ IsC k G' y1 (clipC c l) ∧ IsC k G' y2 (clipC c l.rev)) := by
 refine Fn.intro Tryz.func47 rfl rfl Tryz.ntmps47 rfl ?_
 intro C _ _
 refine sR <| ?_
 refine sc (ch_box rfl rfl ?_)
 intro b1
 refine sa rfl rfl <| sa rfl rfl <| sa rfl rfl <| sa rfl rfl <| st_end <| sR <| sm rfl rfl <| slo rfl rfl rfl <| ?_
 refine sc (ch_call rfl rfl (Cell_Clip hx hl hk hb) rfl ?_)
 rintro _ G2 _ ⟨y1, rfl, hy1⟩
 refine sm rfl rfl <| sx rfl rfl rfl <| sx rfl rfl rfl <| sa rfl rfl <| sa rfl rfl <| st_end <| sR <| sm rfl rfl <| slo rfl rfl rfl <| ?_
 refine sc (ch_call rfl rfl (Ln_Reverse hl (by omega)) rfl ?_)
 rintro _ G3 _ ⟨x4, rfl, h5⟩
 refine sc (ch_call rfl rfl (Cell_Clip hx h5 hk hb) rfl ?_)
 rintro _ G6 _ ⟨y2, rfl, hy2⟩
 refine sm rfl rfl <| sx rfl rfl rfl <| sx rfl rfl rfl <| sa rfl rfl <| sa rfl rfl <| st_end <| sR <| sm rfl rfl <| sm rfl rfl <| sm rfl rfl <| sm rfl rfl <| sa rfl rfl <| sa rfl rfl <| ?_
 refine sa rfl rfl <| sa rfl rfl <| st_end <| st_ret <| ?_
 exact st_done (.tmp rfl (.tmp rfl (.tmp rfl (.tmp rfl .nil)))) ⟨y1, y2, rfl, hy1.up, hy2.up⟩
end Go.Sx
end

section
set_option maxRecDepth 100000
namespace Go.Sx
open Go Go.Proofs
def IsT (k : Nat) (G : Gh) : Tr → Option Addr → Prop
 | .leaf b, p => ∃ n, p = some ⟨n, 0, none⟩ ∧ G n = some [.int .i64 0, .int .i64 0, .pointer none, .int .i64 0, .int .i64 0, .pointer none, .int .i64 0, .int .i64 0, .pointer none, .pointer none, .pointer none, .bool b]
 | .node l x y, p => ∃ (n : Nat) (z : LV) (q r : Option Addr), p = some ⟨n, 0, none⟩ ∧ G n = some [.int .i64 z.a.n, .int .i64 z.a.d, .pointer z.a.p, .int .i64 z.b.n, .int .i64 z.b.d, .pointer z.b.p, .int .i64 z.c.n, .int .i64 z.c.d, .pointer z.c.p, .pointer q, .pointer r, .bool false] ∧ IsL k G z l ∧ IsT k G x q ∧ IsT k G y r
theorem IsT.up {k : Nat} {A G : Gh} [hl : GL A G] : ∀ {t : Tr} {p : Option Addr}, IsT k A t p → IsT k G t p
 | .leaf b, p, ⟨n, h1, h2⟩ => ⟨n, h1, hl.le _ _ h2⟩
 | .node l x y, p, ⟨n, z, q, r, h1, h2, h3, h4, h5⟩ => ⟨n, z, q, r, h1, hl.le _ _ h2, h3.up, h4.up, h5.up⟩
theorem IsT.some {k : Nat} {G : Gh} : ∀ {t : Tr} {p : Option Addr}, IsT k G t p → ∃ n, p = some ⟨n, 0, none⟩
 | .leaf _, _, ⟨n, h, _⟩ => ⟨n, h⟩
 | .node .., _, ⟨n, _, _, _, h, _⟩ => ⟨n, h⟩
theorem T_IsLeaf {A G : Gh} {t : Tr} {p : Option Addr} {k : Nat} (h : IsT k A t p) [hl : GL A G] : Fn Tryz.prog 105 [.pointer p] G (fun v _ => v = .bool t.isLeaf) := by
 cases t with
 | leaf b =>
   obtain ⟨n, rfl, hg⟩ := h
   have hG : GHas A n _ := ⟨hg⟩
   refine Fn.intro Tryz.func105 rfl rfl Tryz.ntmps105 rfl ?_
   intro C _ _
   refine sR <| sa rfl rfl <| st_end <| sR <| sm rfl rfl <| sn rfl rfl <| sf rfl rfl <| slg1 rfl rfl rfl <| sy (yd_eqP rfl rfl) rfl <| sa rfl rfl <| st_end <| st_ret <| ?_
   exact st_done (.tmp rfl .nil) rfl
 | node l x y =>
   obtain ⟨n, z, q, r, rfl, hg, hz, hx, hy⟩ := h
   obtain ⟨m, rfl⟩ := hx.some
   have hG : GHas A n _ := ⟨hg⟩
   refine Fn.intro Tryz.func105 rfl rfl Tryz.ntmps105 rfl ?_
   intro C _ _
   refine sR <| sa rfl rfl <| st_end <| sR <| sm rfl rfl <| sn rfl rfl <| sf rfl rfl <| slg1 rfl rfl rfl <| sy (yd_eqP rfl rfl) rfl <| sa rfl rfl <| st_end <| st_ret <| ?_
   exact st_done (.tmp rfl .nil) rfl
theorem T_Leaf {G : Gh} {b : Bool} {k : Nat} : Fn Tryz.prog 133 [.bool b] G (fun v G' => ∃ p, v = .pointer p ∧ IsT k G' (.leaf b) p) := by
 refine Fn.intro Tryz.func133 rfl rfl Tryz.ntmps133 rfl ?_
 intro C _ _
 refine sR <| sa rfl rfl <| st_end <| sR <| sm rfl rfl <| sy (yd_build rfl) rfl <| ?_
 refine sc (ch_box rfl rfl ?_)
 intro b1
 refine sa rfl rfl <| st_end <| st_ret <| ?_
 refine st_freeze b1 (.hd ..) ?_
 intro G9 _ hfz
 exact st_done (.tmp rfl .nil) ⟨_, rfl, b1, rfl, hfz.h⟩
theorem T_New {A B D G : Gh} {z : LV} {l : LnQ} {x y : Tr} {q r : Option Addr} {k : Nat} (hz : IsL k A z l) (hx : IsT k B x q) (hy : IsT k D y r) [GL A G] [GL B G] [GL D G] : Fn Tryz.prog 134 [.agg ⟨[.int .i64 z.a.n, .int .i64 z.a.d, .pointer z.a.p, .int .i64 z.b.n, .int .i64 z.b.d, .pointer z.b.p, .int .i64 z.c.n, .int .i64 z.c.d, .pointer z.c.p]⟩, .pointer q, .pointer r] G (fun v G' => ∃ p, v = .pointer p ∧ IsT k G' (.node l x y) p) := by
 refine Fn.intro Tryz.func134 rfl rfl Tryz.ntmps134 rfl ?_
 intro C _ _
 refine sR <| ?_
 refine sc (ch_box rfl rfl ?_)
 intro b1
 refine sa rfl rfl <| st_end <| sR <| slo rfl rfl rfl <| sm rfl rfl <| sm rfl rfl <| sy (yd_build rfl) rfl <| ?_
 refine sc (ch_box rfl rfl ?_)
 intro b2
 refine sa rfl rfl <| st_end <| st_ret <| ?_
 refine st_freeze b2 (.hd ..) ?_
 intro G9 _ hfz
 exact st_done (.tmp rfl .nil) ⟨_, rfl, b2, z, q, r, rfl, hfz.h, hz.up, hx.up, hy.up⟩
set_option maxHeartbeats 1000000 in
theorem T_Join {A B D G : Gh} {z : LV} {l : LnQ} {x y : Tr} {q r : Option Addr} {k : Nat} (hz : IsL k A z l) (hx : IsT k B x q) (hy : IsT k D y r) [GL A G] [GL B G] [GL D G] : Fn Tryz.prog 106 [.agg ⟨[.int .i64 z.a.n, .int .i64 z.a.d, .pointer z.a.p, .int .i64 z.b.n, .int .i64 z.b.d, .pointer z.b.p, .int .i64 z.c.n, .int .i64 z.c.d, .pointer z.c.p]⟩, .pointer q, .pointer r] G (fun v G' => ∃ p, v = .pointer p ∧ IsT k G' (Tr.joinQ l x y) p) := by
 have hx0 := hx
 cases x with
 | node l1 x1 y1 =>
   refine Fn.intro Tryz.func106 rfl rfl Tryz.ntmps106 rfl ?_
   intro C _ _
   refine sR <| ?_
   refine sc (ch_box rfl rfl ?_)
   intro b1
   refine sa rfl rfl <| st_end <| st_seq <| st_seq <| dr (fun _ => false) [(0, true), (1, false), (2, true), (3, true), (4, false), (5, true), (6, true), (7, true), (8, true), (9, true), (10, true), (11, true), (12, true), (13, true), (14, true), (15, true), (16, true)] follows (by kernel_rfl) <| ?_
   refine dM rfl rfl rfl <| ?_
   refine dc rfl rfl (ch_call rfl rfl (T_IsLeaf hx) rfl ?_)
   rintro _ G2 _ rfl
   refine dr_s <| dM rfl rfl rfl <| dys rfl rfl rfl rfl rfl rfl <| dcs rfl rfl rfl rfl rfl rfl <| dr_s <| dy rfl (fun _ => yd_pickF rfl rfl) rfl rfl <| dM rfl rfl rfl <| ?_
   refine dys rfl rfl rfl rfl rfl rfl <| dys rfl rfl rfl rfl rfl rfl <| dys rfl rfl rfl rfl rfl rfl <| dys rfl rfl rfl rfl rfl rfl <| dys rfl rfl rfl rfl rfl rfl <| dys rfl rfl rfl rfl rfl rfl <| ?_
   refine dys rfl rfl rfl rfl rfl rfl <| dys rfl rfl rfl rfl rfl rfl <| dys rfl rfl rfl rfl rfl rfl <| dy rfl (fun _ => yd_pickF rfl rfl) rfl rfl <| dn <| st_condF rfl <| st_skipc <| sR <| ?_
   refine slo rfl rfl rfl <| sm rfl rfl <| sm rfl rfl <| ?_
   refine sc (ch_call rfl rfl (T_New hz hx hy) rfl ?_)
   rintro _ G3 _ ⟨p, rfl, hp⟩
   refine sa rfl rfl <| st_end <| st_ret <| ?_
   exact st_done (.tmp rfl .nil) ⟨p, rfl, hp⟩
 | leaf a =>
   cases y with
   | node l1 x1 y1 =>
     refine Fn.intro Tryz.func106 rfl rfl Tryz.ntmps106 rfl ?_
     intro C _ _
     refine sR <| ?_
     refine sc (ch_box rfl rfl ?_)
     intro b1
     refine sa rfl rfl <| st_end <| st_seq <| st_seq <| dr (fun _ => false) [(0, true), (1, false), (2, true), (3, true), (4, false), (5, true), (6, true), (7, true), (8, true), (9, true), (10, true), (11, true), (12, true), (13, true), (14, true), (15, true), (16, true)] follows (by kernel_rfl) <| ?_
     refine dM rfl rfl rfl <| ?_
     refine dc rfl rfl (ch_call rfl rfl (T_IsLeaf hx) rfl ?_)
     rintro _ G2 _ rfl
     refine dr_s <| dM rfl rfl rfl <| dyg rfl rfl rfl rfl (fun _ => yd_move rfl) rfl <| ?_
     refine dcg rfl rfl rfl rfl (ch_call rfl rfl (T_IsLeaf hy) rfl ?_)
     rintro _ G3 _ rfl
     refine dr_s <| dy rfl (fun _ => yd_pickT rfl rfl) rfl rfl <| dM rfl rfl rfl <| dys rfl rfl rfl rfl rfl rfl <| dys rfl rfl rfl rfl rfl rfl <| dys rfl rfl rfl rfl rfl rfl <| ?_
     refine dys rfl rfl rfl rfl rfl rfl <| dys rfl rfl rfl rfl rfl rfl <| dys rfl rfl rfl rfl rfl rfl <| dys rfl rfl rfl rfl rfl rfl <| dys rfl rfl rfl rfl rfl rfl <| dys rfl rfl rfl rfl rfl rfl <| ?_
     refine dy rfl (fun _ => yd_pickF rfl rfl) rfl rfl <| dn <| st_condF rfl <| st_skipc <| sR <| slo rfl rfl rfl <| sm rfl rfl <| sm rfl rfl <| ?_
     refine sc (ch_call rfl rfl (T_New hz hx hy) rfl ?_)
     rintro _ G4 _ ⟨p, rfl, hp⟩
     refine sa rfl rfl <| st_end <| st_ret <| ?_
     exact st_done (.tmp rfl .nil) ⟨p, rfl, hp⟩
   | leaf b =>
     obtain ⟨n, rfl, hg⟩ := hx0
     obtain ⟨m, rfl, hg2⟩ := id hy
     have hG : GHas B n _ := ⟨hg⟩
     have hG2 : GHas D m _ := ⟨hg2⟩
     cases a <;> cases b
     case leaf.leaf.false.false =>
       refine Fn.intro Tryz.func106 rfl rfl Tryz.ntmps106 rfl ?_
       intro C _ _
       refine sR <| ?_
       refine sc (ch_box rfl rfl ?_)
       intro b1
       refine sa rfl rfl <| st_end <| st_seq <| st_seq <| dr (fun _ => false) [(0, true), (1, false), (2, true), (3, true), (4, false), (5, true), (6, true), (7, true), (8, true), (9, true), (10, true), (11, true), (12, true), (13, true), (14, true), (15, true), (16, true)] follows (by kernel_rfl) <| ?_
       refine dM rfl rfl rfl <| ?_
       refine dc rfl rfl (ch_call rfl rfl (T_IsLeaf hx) rfl ?_)
       rintro _ G2 _ rfl
       refine dr_s <| dM rfl rfl rfl <| dyg rfl rfl rfl rfl (fun _ => yd_move rfl) rfl <| ?_
       refine dcg rfl rfl rfl rfl (ch_call rfl rfl (T_IsLeaf hy) rfl ?_)
       rintro _ G3 _ rfl
       refine dr_s <| dy rfl (fun _ => yd_pickT rfl rfl) rfl rfl <| dM rfl rfl rfl <| dyg rfl rfl rfl rfl (fun _ => yd_move rfl) rfl <| dyg rfl rfl rfl rfl (fun _ => yd_nilCheck rfl) rfl <| ?_
       refine dyg rfl rfl rfl rfl (fun _ => yd_fieldAddr rfl) rfl <| dyg rfl rfl rfl rfl (fun _ => yd_load_gh1 rfl ghi rfl) rfl <| dyg rfl rfl rfl rfl (fun _ => yd_move rfl) rfl <| dyg rfl rfl rfl rfl (fun _ => yd_nilCheck rfl) rfl <| ?_
       refine dyg rfl rfl rfl rfl (fun _ => yd_fieldAddr rfl) rfl <| dyg rfl rfl rfl rfl (fun _ => yd_load_gh1 rfl ghi rfl) rfl <| dyg rfl rfl rfl rfl (fun _ => yd_eqB rfl rfl) rfl <| dy rfl (fun _ => yd_pickT rfl rfl) rfl rfl <| ?_
       refine dn <| st_condT rfl <| sR <| sm rfl rfl <| sa rfl rfl <| st_end <| st_ret <| ?_
       exact st_done (.tmp rfl .nil) ⟨_, rfl, hx.up⟩
     case leaf.leaf.false.true =>
       refine Fn.intro Tryz.func106 rfl rfl Tryz.ntmps106 rfl ?_
       intro C _ _
       refine sR <| ?_
       refine sc (ch_box rfl rfl ?_)
       intro b1
       refine sa rfl rfl <| st_end <| st_seq <| st_seq <| dr (fun _ => false) [(0, true), (1, false), (2, true), (3, true), (4, false), (5, true), (6, true), (7, true), (8, true), (9, true), (10, true), (11, true), (12, true), (13, true), (14, true), (15, true), (16, true)] follows (by kernel_rfl) <| ?_
       refine dM rfl rfl rfl <| ?_
       refine dc rfl rfl (ch_call rfl rfl (T_IsLeaf hx) rfl ?_)
       rintro _ G2 _ rfl
       refine dr_s <| dM rfl rfl rfl <| dyg rfl rfl rfl rfl (fun _ => yd_move rfl) rfl <| ?_
       refine dcg rfl rfl rfl rfl (ch_call rfl rfl (T_IsLeaf hy) rfl ?_)
       rintro _ G3 _ rfl
       refine dr_s <| dy rfl (fun _ => yd_pickT rfl rfl) rfl rfl <| dM rfl rfl rfl <| dyg rfl rfl rfl rfl (fun _ => yd_move rfl) rfl <| dyg rfl rfl rfl rfl (fun _ => yd_nilCheck rfl) rfl <| ?_
       refine dyg rfl rfl rfl rfl (fun _ => yd_fieldAddr rfl) rfl <| dyg rfl rfl rfl rfl (fun _ => yd_load_gh1 rfl ghi rfl) rfl <| dyg rfl rfl rfl rfl (fun _ => yd_move rfl) rfl <| dyg rfl rfl rfl rfl (fun _ => yd_nilCheck rfl) rfl <| ?_
       refine dyg rfl rfl rfl rfl (fun _ => yd_fieldAddr rfl) rfl <| dyg rfl rfl rfl rfl (fun _ => yd_load_gh1 rfl ghi rfl) rfl <| dyg rfl rfl rfl rfl (fun _ => yd_eqB rfl rfl) rfl <| dy rfl (fun _ => yd_pickT rfl rfl) rfl rfl <| ?_
       refine dn <| st_condF rfl <| st_skipc <| sR <| slo rfl rfl rfl <| sm rfl rfl <| sm rfl rfl <| ?_
       refine sc (ch_call rfl rfl (T_New hz hx hy) rfl ?_)
       rintro _ G4 _ ⟨p, rfl, hp⟩
       refine sa rfl rfl <| st_end <| st_ret <| ?_
       exact st_done (.tmp rfl .nil) ⟨p, rfl, hp⟩
     case leaf.leaf.true.false =>
       refine Fn.intro Tryz.func106 rfl rfl Tryz.ntmps106 rfl ?_
       intro C _ _
       refine sR <| ?_
       refine sc (ch_box rfl rfl ?_)
       intro b1
       refine sa rfl rfl <| st_end <| st_seq <| st_seq <| dr (fun _ => false) [(0, true), (1, false), (2, true), (3, true), (4, false), (5, true), (6, true), (7, true), (8, true), (9, true), (10, true), (11, true), (12, true), (13, true), (14, true), (15, true), (16, true)] follows (by kernel_rfl) <| ?_
       refine dM rfl rfl rfl <| ?_
       refine dc rfl rfl (ch_call rfl rfl (T_IsLeaf hx) rfl ?_)
       rintro _ G2 _ rfl
       refine dr_s <| dM rfl rfl rfl <| dyg rfl rfl rfl rfl (fun _ => yd_move rfl) rfl <| ?_
       refine dcg rfl rfl rfl rfl (ch_call rfl rfl (T_IsLeaf hy) rfl ?_)
       rintro _ G3 _ rfl
       refine dr_s <| dy rfl (fun _ => yd_pickT rfl rfl) rfl rfl <| dM rfl rfl rfl <| dyg rfl rfl rfl rfl (fun _ => yd_move rfl) rfl <| dyg rfl rfl rfl rfl (fun _ => yd_nilCheck rfl) rfl <| ?_
       refine dyg rfl rfl rfl rfl (fun _ => yd_fieldAddr rfl) rfl <| dyg rfl rfl rfl rfl (fun _ => yd_load_gh1 rfl ghi rfl) rfl <| dyg rfl rfl rfl rfl (fun _ => yd_move rfl) rfl <| dyg rfl rfl rfl rfl (fun _ => yd_nilCheck rfl) rfl <| ?_
       refine dyg rfl rfl rfl rfl (fun _ => yd_fieldAddr rfl) rfl <| dyg rfl rfl rfl rfl (fun _ => yd_load_gh1 rfl ghi rfl) rfl <| dyg rfl rfl rfl rfl (fun _ => yd_eqB rfl rfl) rfl <| dy rfl (fun _ => yd_pickT rfl rfl) rfl rfl <| ?_
       refine dn <| st_condF rfl <| st_skipc <| sR <| slo rfl rfl rfl <| sm rfl rfl <| sm rfl rfl <| ?_
       refine sc (ch_call rfl rfl (T_New hz hx hy) rfl ?_)
       rintro _ G4 _ ⟨p, rfl, hp⟩
       refine sa rfl rfl <| st_end <| st_ret <| ?_
       exact st_done (.tmp rfl .nil) ⟨p, rfl, hp⟩
     case leaf.leaf.true.true =>
       refine Fn.intro Tryz.func106 rfl rfl Tryz.ntmps106 rfl ?_
       intro C _ _
       refine sR <| ?_
       refine sc (ch_box rfl rfl ?_)
       intro b1
       refine sa rfl rfl <| st_end <| st_seq <| st_seq <| dr (fun _ => false) [(0, true), (1, false), (2, true), (3, true), (4, false), (5, true), (6, true), (7, true), (8, true), (9, true), (10, true), (11, true), (12, true), (13, true), (14, true), (15, true), (16, true)] follows (by kernel_rfl) <| ?_
       refine dM rfl rfl rfl <| ?_
       refine dc rfl rfl (ch_call rfl rfl (T_IsLeaf hx) rfl ?_)
       rintro _ G2 _ rfl
       refine dr_s <| dM rfl rfl rfl <| dyg rfl rfl rfl rfl (fun _ => yd_move rfl) rfl <| ?_
       refine dcg rfl rfl rfl rfl (ch_call rfl rfl (T_IsLeaf hy) rfl ?_)
       rintro _ G3 _ rfl
       refine dr_s <| dy rfl (fun _ => yd_pickT rfl rfl) rfl rfl <| dM rfl rfl rfl <| dyg rfl rfl rfl rfl (fun _ => yd_move rfl) rfl <| dyg rfl rfl rfl rfl (fun _ => yd_nilCheck rfl) rfl <| ?_
       refine dyg rfl rfl rfl rfl (fun _ => yd_fieldAddr rfl) rfl <| dyg rfl rfl rfl rfl (fun _ => yd_load_gh1 rfl ghi rfl) rfl <| dyg rfl rfl rfl rfl (fun _ => yd_move rfl) rfl <| dyg rfl rfl rfl rfl (fun _ => yd_nilCheck rfl) rfl <| ?_
       refine dyg rfl rfl rfl rfl (fun _ => yd_fieldAddr rfl) rfl <| dyg rfl rfl rfl rfl (fun _ => yd_load_gh1 rfl ghi rfl) rfl <| dyg rfl rfl rfl rfl (fun _ => yd_eqB rfl rfl) rfl <| dy rfl (fun _ => yd_pickT rfl rfl) rfl rfl <| ?_
       refine dn <| st_condT rfl <| sR <| sm rfl rfl <| sa rfl rfl <| st_end <| st_ret <| ?_
       exact st_done (.tmp rfl .nil) ⟨_, rfl, hx.up⟩
theorem T_Depth {k : Nat} : ∀ {t : Tr} {A G : Gh} {p : Option Addr}, IsT k A t p → [GL A G] → t.depth ≤ 1000000 → Fn Tryz.prog 66 [.pointer p] G (fun v _ => v = .int .i64 (t.depth : Nat))
 | .leaf b, A, G, p, h, _, hd => by
   refine Fn.intro Tryz.func66 rfl rfl Tryz.ntmps66 rfl ?_
   intro C _ _
   refine sR <| sa rfl rfl <| st_end <| st_seq <| sR <| sm rfl rfl <| ?_
   refine sc (ch_call rfl rfl (T_IsLeaf h) rfl ?_)
   rintro _ G1 _ rfl
   refine st_end <| st_condT rfl <| sR <| sa rfl rfl <| st_end <| st_ret <| ?_
   exact st_done (.tmp rfl .nil) rfl
 | .node l x y, A, G, p, h, _, hd => by
   obtain ⟨n, z, q, r, rfl, hg, hz, hx, hy⟩ := id h
   have hG : GHas A n _ := ⟨hg⟩
   simp only [Tr.depth] at hd
   refine Fn.intro Tryz.func66 rfl rfl Tryz.ntmps66 rfl ?_
   intro C _ _
   refine sR <| sa rfl rfl <| st_end <| st_seq <| sR <| sm rfl rfl <| ?_
   refine sc (ch_call rfl rfl (T_IsLeaf h) rfl ?_)
   rintro _ G1 _ rfl
   refine st_end <| st_condF rfl <| st_skipc <| st_seq <| dr (fun _ => false) [(0, true), (1, true), (2, true), (3, true), (5, true), (6, true), (7, true), (8, true), (4, false), (9, false), (10, true), (11, true), (12, true)] follows (by kernel_rfl) <| ?_
   refine dM rfl rfl rfl <| dy rfl (fun _ => yd_nilCheck rfl) rfl rfl <| dF rfl rfl rfl <| dy rfl (fun _ => yd_load_gh1 rfl ghi rfl) rfl rfl <| ?_
   refine dM rfl rfl rfl <| dy rfl (fun _ => yd_nilCheck rfl) rfl rfl <| dF rfl rfl rfl <| dy rfl (fun _ => yd_load_gh1 rfl ghi rfl) rfl rfl <| ?_
   refine dc rfl rfl (ch_call rfl rfl (T_Depth hx (by omega)) rfl ?_)
   rintro _ G2 _ rfl
   refine dr_s <| ?_
   refine dc rfl rfl (ch_call rfl rfl (T_Depth hy (by omega)) rfl ?_)
   rintro _ G3 _ rfl
   refine dr_s <| dy rfl (fun _ => yd_max rfl rfl) rfl rfl <| dy rfl (fun _ => yd_add64 rfl rfl (by omega) (by omega)) rfl rfl <| dA rfl rfl rfl <| dn <| st_ret <| ?_
   exact st_done (.tmp rfl .nil) (by show Value.int .i64 (1 + if (y.depth : Int) > (x.depth : Int) then (y.depth : Int) else (x.depth : Int)) = .int .i64 ((1 + max x.depth y.depth : Nat) : Int); congr 1; split <;> omega)
set_option maxHeartbeats 1000000 in
theorem T_Restrict {k : Nat} (hk : k ≤ 100000000) : ∀ {t : Tr} {A B G : Gh} {p : Option Addr} {x : SV} {c : CellQ}, IsT k A t p → IsC k B x c → [GL A G] → [GL B G] → c.length + t.depth ≤ 1000000 → Fn Tryz.prog 48 [.pointer p, .slice x.a x.n x.c] G (fun v G' => ∃ p, v = .pointer p ∧ IsT k G' (t.restrict c) p)
 | .leaf b, A, B, G, p, x, c, h, hc, _, _, hd => by
   refine Fn.intro Tryz.func48 rfl rfl Tryz.ntmps48 rfl ?_
   intro C _ _
   refine sR <| sa rfl rfl <| st_end <| st_seq <| sR <| sm rfl rfl <| ?_
   refine sc (ch_call rfl rfl (T_IsLeaf h) rfl ?_)
   rintro _ G1 _ rfl
   refine st_end <| st_condT rfl <| sR <| sm rfl rfl <| sa rfl rfl <| st_end <| st_ret <| ?_
   exact st_done (.tmp rfl .nil) ⟨_, rfl, h.up⟩
 | .node l s u, A, B, G, p, x, c, h, hc, _, _, hd => by
   obtain ⟨n, z, q, r, rfl, hg, hz, hs, hu⟩ := id h
   have hG : GHas A n _ := ⟨hg⟩
   simp only [Tr.depth] at hd
   have hl1 := clipC_len c l
   have hl2 := clipC_len c l.rev
   cases hR : clipB c l.rev
   case false =>
     have e : (Tr.node l s u).restrict c = s.restrict c := by rw [Tr.restrict, hR]; rfl
     rw [e]
     refine Fn.intro Tryz.func48 rfl rfl Tryz.ntmps48 rfl ?_
     intro C _ _
     refine sR <| sa rfl rfl <| st_end <| st_seq <| sR <| sm rfl rfl <| ?_
     refine sc (ch_call rfl rfl (T_IsLeaf h) rfl ?_)
     rintro _ G1 _ rfl
     refine st_end <| st_condF rfl <| st_skipc <| sR <| sm rfl rfl <| sm rfl rfl <| sn rfl rfl <| sf rfl rfl <| slg rfl rfl rfl <| ?_
     refine sc (ch_call rfl rfl (Cell_Divide hc hz hk (by omega)) rfl ?_)
     rintro _ G2 _ ⟨y1, y2, rfl, hy1, hy2⟩
     rw [hR]
     refine sm rfl rfl <| sx rfl rfl rfl <| sx rfl rfl rfl <| sx rfl rfl rfl <| sx rfl rfl rfl <| sa rfl rfl <| sa rfl rfl <| sa rfl rfl <| sa rfl rfl <| st_end <| st_seq <| st_block <| sR <| ?_
     refine sm rfl rfl <| sy (yd_not rfl) rfl <| sa rfl rfl <| st_end <| st_condT rfl <| sR <| sm rfl rfl <| sn rfl rfl <| sf rfl rfl <| slg1 rfl rfl rfl <| sm rfl rfl <| ?_
     refine sc (ch_call rfl rfl (T_Restrict hk hs hc (by omega)) rfl ?_)
     rintro _ G3 _ ⟨p, rfl, hp⟩
     refine sa rfl rfl <| st_end <| st_ret <| ?_
     exact st_done (.tmp rfl .nil) ⟨p, rfl, hp⟩
   cases hL : clipB c l
   case false =>
     have e : (Tr.node l s u).restrict c = u.restrict c := by rw [Tr.restrict, hR, hL]; rfl
     rw [e]
     refine Fn.intro Tryz.func48 rfl rfl Tryz.ntmps48 rfl ?_
     intro C _ _
     refine sR <| sa rfl rfl <| st_end <| st_seq <| sR <| sm rfl rfl <| ?_
     refine sc (ch_call rfl rfl (T_IsLeaf h) rfl ?_)
     rintro _ G1 _ rfl
     refine st_end <| st_condF rfl <| st_skipc <| sR <| sm rfl rfl <| sm rfl rfl <| sn rfl rfl <| sf rfl rfl <| slg rfl rfl rfl <| ?_
     refine sc (ch_call rfl rfl (Cell_Divide hc hz hk (by omega)) rfl ?_)
     rintro _ G2 _ ⟨y1, y2, rfl, hy1, hy2⟩
     rw [hR, hL]
     refine sm rfl rfl <| sx rfl rfl rfl <| sx rfl rfl rfl <| sx rfl rfl rfl <| sx rfl rfl rfl <| sa rfl rfl <| sa rfl rfl <| sa rfl rfl <| sa rfl rfl <| st_end <| st_seq <| st_block <| sR <| ?_
     refine sm rfl rfl <| sy (yd_not rfl) rfl <| sa rfl rfl <| st_end <| st_condF rfl <| sR <| sm rfl rfl <| sy (yd_not rfl) rfl <| sa rfl rfl <| st_end <| st_condT rfl <| st_seq <| ?_
     refine st_region <| sm rfl rfl <| sn rfl rfl <| sf rfl rfl <| slg1 rfl rfl rfl <| sm rfl rfl <| ?_
     refine sc (ch_call rfl rfl (T_Restrict hk hu hc (by omega)) rfl ?_)
     rintro _ G3 _ ⟨p, rfl, hp⟩
     refine sa rfl rfl <| st_end <| st_ret <| ?_
     exact st_done (.tmp rfl .nil) ⟨p, rfl, hp⟩
   have e : (Tr.node l s u).restrict c = Tr.joinQ l (s.restrict (clipC c l)) (u.restrict (clipC c l.rev)) := by rw [Tr.restrict, hR, hL]; rfl
   rw [e]
   refine Fn.intro Tryz.func48 rfl rfl Tryz.ntmps48 rfl ?_
   intro C _ _
   refine sR <| sa rfl rfl <| st_end <| st_seq <| sR <| sm rfl rfl <| ?_
   refine sc (ch_call rfl rfl (T_IsLeaf h) rfl ?_)
   rintro _ G1 _ rfl
   refine st_end <| st_condF rfl <| st_skipc <| sR <| sm rfl rfl <| sm rfl rfl <| sn rfl rfl <| sf rfl rfl <| slg rfl rfl rfl <| ?_
   refine sc (ch_call rfl rfl (Cell_Divide hc hz hk (by omega)) rfl ?_)
   rintro _ G2 _ ⟨y1, y2, rfl, hy1, hy2⟩
   rw [hR, hL]
   refine sm rfl rfl <| sx rfl rfl rfl <| sx rfl rfl rfl <| sx rfl rfl rfl <| sx rfl rfl rfl <| sa rfl rfl <| sa rfl rfl <| sa rfl rfl <| sa rfl rfl <| st_end <| st_seq <| st_block <| sR <| ?_
   refine sm rfl rfl <| sy (yd_not rfl) rfl <| sa rfl rfl <| st_end <| st_condF rfl <| sR <| sm rfl rfl <| sy (yd_not rfl) rfl <| sa rfl rfl <| st_end <| st_condF rfl <| st_skipc <| ?_
   refine st_seq <| dr (fun _ => false) [(0, true), (1, true), (2, true), (3, true), (4, true), (5, true), (6, true), (7, true), (8, true), (10, true), (11, true), (12, true), (13, true), (14, true), (9, false), (15, false), (16, false), (17, true)] follows (by kernel_rfl) <| ?_
   refine dM rfl rfl rfl <| dy rfl (fun _ => yd_nilCheck rfl) rfl rfl <| dF rfl rfl rfl <| dy rfl (fun _ => yd_load_gh rfl ghi rfl) rfl rfl <| dM rfl rfl rfl <| ?_
   refine dy rfl (fun _ => yd_nilCheck rfl) rfl rfl <| dF rfl rfl rfl <| dy rfl (fun _ => yd_load_gh1 rfl ghi rfl) rfl rfl <| dM rfl rfl rfl <| ?_
   refine dM rfl rfl rfl <| dy rfl (fun _ => yd_nilCheck rfl) rfl rfl <| dF rfl rfl rfl <| dy rfl (fun _ => yd_load_gh1 rfl ghi rfl) rfl rfl <| ?_
   refine dM rfl rfl rfl <| ?_
   refine dc rfl rfl (ch_call rfl rfl (T_Restrict hk hs hy1 (by omega)) rfl ?_)
   rintro _ G3 _ ⟨p1, rfl, hp1⟩
   refine dr_s <| ?_
   refine dc rfl rfl (ch_call rfl rfl (T_Restrict hk hu hy2 (by omega)) rfl ?_)
   rintro _ G4 _ ⟨p2, rfl, hp2⟩
   refine dr_s <| ?_
   refine dc rfl rfl (ch_call rfl rfl (T_Join hz hp1 hp2) rfl ?_)
   rintro _ G5 _ ⟨p, rfl, hp⟩
   refine dr_s <| dA rfl rfl rfl <| dn <| st_ret <| ?_
   exact st_done (.tmp rfl .nil) ⟨p, rfl, hp⟩
theorem T_Reduce {A G : Gh} {t : Tr} {p : Option Addr} {k : Nat} (hk : k ≤ 100000000) (h : IsT k A t p) [GL A G] (hd : t.depth ≤ 1000000) : Fn Tryz.prog 57 [.pointer p] G (fun v G' => ∃ p, v = .pointer p ∧ IsT k G' (t.restrict []) p) := by
 refine Fn.intro Tryz.func57 rfl rfl Tryz.ntmps57 rfl ?_
 intro C _ _
 refine sR <| sa rfl rfl <| st_end <| sR <| sm rfl rfl <| ?_
 refine sc (ch_call rfl rfl (T_Restrict (x := ⟨none, 0, 0⟩) (B := G) hk h (IsC.nil k G) (by simpa using hd)) rfl ?_)
 rintro _ G1 _ ⟨p, rfl, hp⟩
 refine sa rfl rfl <| st_end <| st_ret <| ?_
 exact st_done (.tmp rfl .nil) ⟨p, rfl, hp⟩
end Go.Sx
end

section
set_option maxRecDepth 100000
namespace Go.Sx
open Go Go.Proofs
structure ND where
 a : IV
 b : IV
 c : IV
 l : Int
 r : Int
def ND.val (z : ND) : Value := .agg ⟨[.bool z.a.neg, .slice z.a.a.a z.a.a.n z.a.a.c, .bool z.b.neg, .slice z.b.a.a z.b.a.n z.b.a.c, .bool z.c.neg, .slice z.c.a.a z.c.a.n z.c.a.c, .int .i64 z.l, .int .i64 z.r]⟩
structure IsND (k : Nat) (G : Gh) (z : ND) (n : NQ) : Prop where
 a : IsI k G z.a n.l.a
 b : IsI k G z.b n.l.b
 c : IsI k G z.c n.l.c
 l : z.l = n.a
 r : z.r = n.b
theorem IsND.up {k : Nat} {A G : Gh} {z : ND} {n : NQ} (h : IsND k A z n) [GL A G] : IsND k G z n := ⟨h.a.up, h.b.up, h.c.up, h.l, h.r⟩
structure IsNs (k : Nat) (G : Gh) (x : SV) (ns : List NQ) : Prop where
 ex : ∃ zs : List ND, IsSl G 8 x (zs.map ND.val) ∧ All2 (IsND k G) zs ns
theorem IsNs.up {k : Nat} {A G : Gh} {x : SV} {ns : List NQ} (h : IsNs k A x ns) [GL A G] : IsNs k G x ns := by
 obtain ⟨zs, h1, h2⟩ := h.ex
 exact ⟨zs, h1.up, h2.imp fun _ _ h => h.up⟩
theorem IsNs.len {k : Nat} {G : Gh} {x : SV} {ns : List NQ} (h : IsNs k G x ns) : x.n = ns.length := by
 obtain ⟨zs, h1, h2⟩ := h.ex
 rw [h1.len, List.length_map, h2.len]
theorem IsI.ok {k : Nat} {G : Gh} {z : IV} {m : Int} (h : IsI k G z m) : okI z.neg (dg m.natAbs) := by
 refine ⟨(dg_spec _).2.2, fun hn => ?_⟩
 rw [h.neg] at hn
 have hm : m < 0 := by simpa using hn
 intro e
 have h1 := (dg_spec m.natAbs).1
 rw [e] at h1
 have : m.natAbs = 0 := h1.symm
 omega
theorem geo_LnOfQ {A B D G : Gh} {za zb zc : IV} {l : LnQ} {k : Nat} (ha : IsI k A za l.a) (hb : IsI k B zb l.b) (hc : IsI k D zc l.c) [GL A G] [GL B G] [GL D G] (hok : l.ok) (hk1 : 1 ≤ k) (hk : k ≤ 100000000) :
   Fn Tryz.prog 45 [.agg ⟨[.bool za.neg, .slice za.a.a za.a.n za.a.c, .bool zb.neg, .slice zb.a.a zb.a.n zb.a.c, .bool zc.neg, .slice zc.a.a zc.a.n zc.a.c]⟩] G (fun v G' => ∃ z : LV, v = .tuple #[z.v, .bool true] ∧ IsL k G' z l) := by
 have la := ha.len; have lb := hb.len; have lc := hc.len
 have h := geo_LnOf (G := G) (an := za.neg) (bn := zb.neg) (cn := zc.neg) (k := k) ha.abs.d hb.abs.d hc.abs.d (by rw [ha.dvl]; exact ha.abs.lt) (by rw [hb.dvl]; exact hb.abs.lt) (by rw [hc.dvl]; exact hc.abs.lt) hk1 (by omega) (by omega) (by omega) (by omega)
 rw [ha.dvl, hb.dvl, hc.dvl, ha.zv, hb.zv, hc.zv] at h
 refine h.mono fun v G' _ hK => ?_
 rcases hK with ⟨_, h1⟩ | ⟨hn, _⟩
 · exact h1
 · exact absurd ⟨ha.ok, hb.ok, hc.ok, hok⟩ hn
def seenL (n i : Nat) : List Value := (List.range n).map fun j => .bool (decide (j < i))
theorem seenL_len (n i : Nat) : (seenL n i).length = n := by simp [seenL]
theorem seenL_get {n i : Nat} (h : i < n) : (seenL n i)[i]? = some (.bool false) := by simp [seenL, h]
theorem seenL_set (n i : Nat) : (seenL n i).set i (.bool true) = seenL n (i + 1) := by
 apply List.ext_getElem?
 intro j
 rw [List.getElem?_set]
 simp only [seenL, List.length_map, List.length_range, List.getElem?_map]
 by_cases hj : j < n
 · rw [List.getElem?_range hj]
   simp only [Option.map_some]
   by_cases e : i = j
   · subst e; simp [hj]
   · have : decide (j < i + 1) = decide (j < i) := decide_eq_decide.2 (by omega)
     simp [e, this]
 · rw [List.getElem?_eq_none (by simpa using hj)]
   by_cases e : i = j
   · subst e; simp [hj]
   · simp [e]
theorem NQ_at {k : Nat} {G : Gh} {zs : List ND} {ns : List NQ} (h : All2 (IsND k G) zs ns) {i : Nat} {n : NQ} (hi : ns[i]? = some n) : ∃ z, (zs.map ND.val)[i]? = some (.agg ⟨[.bool z.a.neg, .slice z.a.a.a z.a.a.n z.a.a.c, .bool z.b.neg, .slice z.b.a.a z.b.a.n z.b.a.c, .bool z.c.neg, .slice z.c.a.a z.c.a.n z.c.a.c, .int .i64 z.l, .int .i64 z.r]⟩) ∧ IsND k G z n := by
 obtain ⟨z, hz, hr⟩ := h.get hi
 exact ⟨z, by rw [List.getElem?_map, hz]; rfl, hr⟩
set_option maxHeartbeats 2000000 in
theorem reader_part {k : Nat} (hk1 : 1 ≤ k) (hk : k ≤ 100000000) {A : Gh} {ns : List NQ} {x : SV} (hx : IsNs k A x ns) (hn : ns.length ≤ 1000000) : ∀ {t : Tr} {G : Gh} {base rb sb : Nat} {lo lo2 : Bool}, [GL A G] → (∀ i, i < t.size → ns[base + i]? = (t.wr base)[i]?) → base + t.size ≤ ns.length → t.all LnQ.ok →
   FnM Tryz.prog 117 [.pointer (some ⟨rb, 0, none⟩), .int .i64 (t.num base)] [⟨rb, [.slice x.a x.n x.c, .slice (some ⟨sb, 0, none⟩) ns.length ns.length, .int .i64 base, .bool false], 204, lo⟩, ⟨sb, seenL ns.length base, 4, lo2⟩] G
     (fun v css G' => ∃ p, v = .pointer p ∧ IsT k G' t p ∧ css = [[.slice x.a x.n x.c, .slice (some ⟨sb, 0, none⟩) ns.length ns.length, .int .i64 (base + t.size : Nat), .bool false], seenL ns.length (base + t.size)])
 | .leaf bb, G, base, rb, sb, lo, lo2, _, hsub, hle, hok => by
   refine FnM.intro Tryz.func117 rfl rfl Tryz.ntmps117 rfl ?_
   intro C _ _
   show St C _ _ [⟨rb, _, _, false⟩, ⟨sb, _, _, false⟩] _ _
   cases bb
   case true =>
     refine sR <| sa rfl rfl <| st_end <| st_seq <| st_block <| sR <| sm rfl rfl <| sy (yd_eql rfl rfl) rfl <| sm rfl rfl <| ss rfl rfl rfl rfl <| ss rfl rfl rfl rfl <| ?_
     refine sy (yd_pickT rfl rfl) rfl <| sa rfl rfl <| st_end <| st_condT rfl <| sR <| sm rfl rfl <| sy (yd_eql rfl rfl) rfl <| ?_
     refine sc (ch_call rfl rfl (T_Leaf (k := k)) rfl ?_)
     rintro _ G1 _ ⟨p, rfl, hp⟩
     refine sa rfl rfl <| st_end <| st_ret <| ?_
     exact st_doneM (css := [_, _]) (.tmp rfl .nil) rfl _ (List.Perm.refl _) (List.Sublist.refl _) ⟨p, rfl, hp, rfl⟩
   refine sR <| sa rfl rfl <| st_end <| st_seq <| st_block <| sR <| sm rfl rfl <| sy (yd_eql rfl rfl) rfl <| sm rfl rfl <| syg rfl rfl (yd_move rfl) rfl <| syg rfl rfl (yd_eql rfl rfl) rfl <| ?_
   refine sy (yd_pickF rfl rfl) rfl <| sa rfl rfl <| st_end <| st_condT rfl <| sR <| sm rfl rfl <| sy (yd_eql rfl rfl) rfl <| ?_
   refine sc (ch_call rfl rfl (T_Leaf (k := k)) rfl ?_)
   rintro _ G1 _ ⟨p, rfl, hp⟩
   refine sa rfl rfl <| st_end <| st_ret <| ?_
   exact st_doneM (css := [_, _]) (.tmp rfl .nil) rfl _ (List.Perm.refl _) (List.Sublist.refl _) ⟨p, rfl, hp, rfl⟩
 | .node l s u, G, base, rb, sb, lo, lo2, _, hsub, hle, hok => by
   have hlen := hx.len
   obtain ⟨zs, hs, hzs⟩ := id hx.ex
   obtain ⟨hokl, hoks, hoku⟩ := hok
   simp only [Tr.size] at hle
   have h0 : ns[base]? = some ⟨l, s.num (base + 1), u.num (base + 1 + s.size)⟩ := by
     have := hsub 0 (by simp only [Tr.size]; omega)
     simpa [Tr.wr] using this
   have hsS : ∀ i, i < s.size → ns[base + 1 + i]? = (s.wr (base + 1))[i]? := fun i hi => by
     have := hsub (i + 1) (by simp only [Tr.size]; omega)
     rw [show base + (i + 1) = base + 1 + i by omega] at this
     rw [this]
     simp only [Tr.wr, List.cons_append, List.getElem?_cons_succ]
     rw [List.getElem?_append_left (by rw [Tr.wr_len]; exact hi)]
   have hsU : ∀ i, i < u.size → ns[base + 1 + s.size + i]? = (u.wr (base + 1 + s.size))[i]? := fun i hi => by
     have := hsub (i + 1 + s.size) (by simp only [Tr.size]; omega)
     rw [show base + (i + 1 + s.size) = base + 1 + s.size + i by omega] at this
     rw [this, show i + 1 + s.size = s.size + i + 1 by omega]
     simp only [Tr.wr, List.cons_append, List.getElem?_cons_succ]
     rw [List.getElem?_append_right (by rw [Tr.wr_len]; omega), Tr.wr_len]
     congr 1
     omega
   obtain ⟨z, hzi, hz⟩ := NQ_at hzs h0
   have hbn : base < ns.length := by omega
   have hzl := hz.l
   have hzr := hz.r
   simp only [] at hzl hzr
   obtain ⟨xa, xn, xc⟩ := x
   simp only [] at hlen
   subst hlen
   refine FnM.intro Tryz.func117 rfl rfl Tryz.ntmps117 rfl ?_
   intro C _ _
   show St C _ [(0, .pointer (some ⟨rb, 0, none⟩)), (1, .int .i64 (base : Int))] [⟨rb, [.slice xa ns.length xc, .slice (some ⟨sb, 0, none⟩) ns.length ns.length, .int .i64 base, .bool false], _, false⟩, ⟨sb, seenL ns.length base, _, false⟩] _ _
   refine sR <| sa rfl rfl <| st_end <| st_seq <| st_block <| sR <| sm rfl rfl <| sy (yd_eql rfl rfl) rfl <| sm rfl rfl <| ?_
   refine st_caseP 12 rfl (fun hg => absurd hg (by omega)) (fun hg => ?_)
   refine syg rfl rfl (yd_move rfl) rfl <| syg rfl rfl (yd_eql rfl rfl) rfl <| sy (yd_pickF rfl rfl) rfl <| sa rfl rfl <| st_end <| ?_
   refine st_condP rfl (fun hc => absurd hc (by omega)) (fun _ => ?_)
   refine sR <| sm rfl rfl <| sy (yd_lss rfl rfl) rfl <| sm rfl rfl <| ?_
   refine st_caseP 22 rfl (fun hg => absurd hg (by omega)) (fun hg => ?_)
   refine syg rfl rfl (yd_move rfl) rfl <| syg rfl rfl (yd_move rfl) rfl <| syg rfl rfl (yd_nilCheck rfl) rfl <| syg rfl rfl (yd_fieldAddr rfl) rfl <| syg rfl rfl (yd_load_own1 rfl rfl) rfl <| syg rfl rfl (yd_len rfl) rfl <| syg rfl rfl (yd_geq rfl rfl) rfl <| sy (yd_pickF rfl rfl) rfl <| sm rfl rfl <| ?_
   refine st_caseP 31 rfl (fun hg => absurd hg (by omega)) (fun hg => ?_)
   refine syg rfl rfl (yd_move rfl) rfl <| syg rfl rfl (yd_nilCheck rfl) rfl <| syg rfl rfl (yd_fieldAddr rfl) rfl <| syg rfl rfl (yd_load_own1 rfl rfl) rfl <| syg rfl rfl (yd_move rfl) rfl <| syg rfl rfl (yd_ixO rfl rfl (by omega) (by omega)) rfl <| ?_
   refine syg rfl rfl (yd_load_own1 (v := .bool false) rfl (by rw [Int.toNat_natCast, Nat.mul_one]; exact seenL_get hbn)) rfl <| sy (yd_pickF rfl rfl) rfl <| sa rfl rfl <| st_end <| st_condF rfl <| st_skipc <| ?_
   refine sR <| sm rfl rfl <| sn rfl rfl <| sf rfl rfl <| slo1 rfl rfl rfl <| sm rfl rfl <| sy (yd_ixO rfl rfl (by omega) (by omega)) rfl <| ?_
   refine sc (ch_store1 rfl rfl (.tl _ _ _ _ _ _ _ _ (.hd ..)) (by rw [seenL_len, Int.toNat_natCast, Nat.mul_one]; exact hbn) rfl rfl ?_)
   rw [Int.toNat_natCast, Nat.mul_one, seenL_set]
   refine st_end <| sR <| sm rfl rfl <| sn rfl rfl <| sf rfl rfl <| slo1 rfl rfl rfl <| sy (yd_add64 rfl rfl) rfl <| sn rfl rfl <| sf rfl rfl <| ?_
   refine sc (ch_storeN1 rfl rfl (by first | (dsimp only [ovw, cellsL, zs1, zs2, Nat.reduceAdd, RV.v, LV.v, PV.v, IvV.v, FrV.val]; done) | exact rfl) (by repeat (first | exact .hd .. | apply OUpd.tl)) (nb rfl) rfl rfl ?_)
   rw [show (base : Int) + 1 = ((base + 1 : Nat) : Int) by omega]
   refine st_end <| sR <| sm rfl rfl <| sn rfl rfl <| sf rfl rfl <| slo1 rfl rfl rfl <| sm rfl rfl <| sy (yd_ix (z := ⟨xa, ns.length, xc⟩) hs rfl rfl (by omega) (by show (base : Int) < (ns.length : Int); omega)) rfl <| ?_
   rw [Int.toNat_natCast]
   refine sy (yd_ldA (i := base) hs rfl (by rw [List.length_map, hzs.len]; exact hbn) hzi) rfl <| ?_
   refine sc (ch_alloc rfl ?_)
   intro b5
   refine sc (ch_storeN rfl rfl (by first | (dsimp only [ovw, cellsL, zs1, zs2, Nat.reduceAdd, RV.v, LV.v, PV.v, IvV.v, FrV.val]; done) | exact rfl) (by repeat (first | exact .hd .. | apply OUpd.tl)) rfl (nb rfl) rfl rfl ?_)
   refine st_end <| sR <| sf rfl rfl <| slo rfl rfl rfl <| ?_
   refine sc (ch_call rfl rfl (geo_LnOfQ hz.a hz.b hz.c hokl hk1 hk) rfl ?_)
   rintro _ G6 _ ⟨w, rfl, hw⟩
   refine sm rfl rfl <| sx rfl rfl rfl <| sx rfl rfl rfl <| ?_
   refine sc (ch_alloc rfl ?_)
   intro b6
   refine sc (ch_storeN rfl rfl (by first | (dsimp only [ovw, cellsL, zs1, zs2, Nat.reduceAdd, RV.v, LV.v, PV.v, IvV.v, FrV.val]; done) | exact rfl) (by repeat (first | exact .hd .. | apply OUpd.tl)) rfl (nb rfl) rfl rfl ?_)
   refine sa rfl rfl <| st_end <| st_seq <| sR <| sm rfl rfl <| sy (yd_not rfl) rfl <| st_end <| st_condF rfl <| st_skipc <| ?_
   refine sR <| sm rfl rfl <| sf rfl rfl <| slo1 rfl rfl rfl <| ?_
   have hrp := reader_part hk1 hk hx hn (t := s) (G := G6) (base := base + 1) (rb := rb) (sb := sb) (lo := false) (lo2 := false) hsS (by omega) hoks
   rw [← hzl] at hrp
   refine sc (ch_callM rfl rfl (List.perm_append_comm (l₁ := [_, _]) (l₂ := [_, _])) hrp rfl ?_)
   rintro _ css G7 _ _ ⟨p1, rfl, hp1, rfl⟩
   show St C _ _ [⟨rb, [.slice xa ns.length xc, .slice (some ⟨sb, 0, none⟩) ns.length ns.length, .int .i64 (base + 1 + s.size : Nat), .bool false], 204, false⟩, ⟨sb, seenL ns.length (base + 1 + s.size), 4, false⟩, ⟨b6, [.int .i64 w.a.n, .int .i64 w.a.d, .pointer w.a.p, .int .i64 w.b.n, .int .i64 w.b.d, .pointer w.b.p, .int .i64 w.c.n, .int .i64 w.c.d, .pointer w.c.p], 105, true⟩, ⟨b5, [.bool z.a.neg, .slice z.a.a.a z.a.a.n z.a.a.c, .bool z.b.neg, .slice z.b.a.a z.b.a.n z.b.a.c, .bool z.c.neg, .slice z.c.a.a z.c.a.n z.c.a.c, .int .i64 z.l, .int .i64 z.r], 60, true⟩] _ _
   refine sa rfl rfl <| st_end <| st_seq <| ?_
   refine drS [⟨b6, [.int .i64 w.a.n, .int .i64 w.a.d, .pointer w.a.p, .int .i64 w.b.n, .int .i64 w.b.d, .pointer w.b.p, .int .i64 w.c.n, .int .i64 w.c.d, .pointer w.c.p], 105, true⟩, ⟨b5, [.bool z.a.neg, .slice z.a.a.a z.a.a.n z.a.a.c, .bool z.b.neg, .slice z.b.a.a z.b.a.n z.b.a.c, .bool z.c.neg, .slice z.c.a.a z.c.a.n z.c.a.c, .int .i64 z.l, .int .i64 z.r], 60, true⟩] (fun _ => false) [(0, true), (1, true), (2, true), (3, true), (4, true), (5, false), (6, false), (7, true)] follows (by kernel_rfl) <| ?_
   refine dL rfl rfl rfl rfl <| dM rfl rfl rfl <| dM rfl rfl rfl <| dF rfl rfl rfl <| dL1 rfl rfl rfl rfl <| ?_
   have hrp := reader_part hk1 hk hx hn (t := u) (G := G7) (base := base + 1 + s.size) (rb := rb) (sb := sb) (lo := false) (lo2 := false) hsU (by omega) hoku
   rw [← hzr] at hrp
   refine dc rfl rfl (ch_callM rfl rfl (M := [_, _]) (rest := [_, _]) (List.Perm.refl _) hrp rfl ?_)
   rintro _ css G8 _ _ ⟨p2, rfl, hp2, rfl⟩
   show St C _ _ [⟨rb, [.slice xa ns.length xc, .slice (some ⟨sb, 0, none⟩) ns.length ns.length, .int .i64 (base + 1 + s.size + u.size : Nat), .bool false], 204, false⟩, ⟨sb, seenL ns.length (base + 1 + s.size + u.size), 4, false⟩, ⟨b6, [.int .i64 w.a.n, .int .i64 w.a.d, .pointer w.a.p, .int .i64 w.b.n, .int .i64 w.b.d, .pointer w.b.p, .int .i64 w.c.n, .int .i64 w.c.d, .pointer w.c.p], 105, true⟩, ⟨b5, [.bool z.a.neg, .slice z.a.a.a z.a.a.n z.a.a.c, .bool z.b.neg, .slice z.b.a.a z.b.a.n z.b.a.c, .bool z.c.neg, .slice z.c.a.a z.c.a.n z.c.a.c, .int .i64 z.l, .int .i64 z.r], 60, true⟩] _ _
   refine dr_s <| ?_
   refine dc rfl rfl (ch_call rfl rfl (T_New hw hp1 hp2) rfl ?_)
   rintro _ G9 _ ⟨p, rfl, hp⟩
   refine dr_s <| dA rfl rfl rfl <| dn <| st_ret <| ?_
   refine st_doneM (css := [[.slice xa ns.length xc, .slice (some ⟨sb, 0, none⟩) ns.length ns.length, .int .i64 (base + 1 + s.size + u.size : Nat), .bool false], seenL ns.length (base + 1 + s.size + u.size)]) (.tmp rfl .nil) rfl _ (List.Perm.refl _) (.cons_cons _ (.cons_cons _ (List.nil_sublist _))) ⟨p, rfl, hp, ?_⟩
   rw [show base + (Tr.node l s u).size = base + 1 + s.size + u.size by simp only [Tr.size]; omega]
end Go.Sx
end

section
set_option maxRecDepth 100000
namespace Go.Sx
open Go Go.Proofs
theorem zeros_seen (n : Nat) : zeros (.bool false) n = seenL n 0 := by
 apply List.ext_getElem?
 intro i
 by_cases h : i < n
 · rw [show (seenL n 0)[i]? = some (.bool false) by simp [seenL, h]]
   unfold zeros
   rw [flat_rep_get (cellsL (.bool false)) n i (by simpa [cellsL] using h)]
   simp [cellsL, Nat.mod_one]
 · rw [List.getElem?_eq_none (by rw [zeros_len]; simp [cellsL]; omega), List.getElem?_eq_none (by rw [seenL_len]; omega)]
set_option maxHeartbeats 1000000 in
theorem T_Of {k : Nat} (hk1 : 1 ≤ k) (hk : k ≤ 100000000) {A G : Gh} {x : SV} {t : Tr} (hx : IsNs k A x (t.wr 0)) [GL A G] (hok : t.all LnQ.ok) (hs : t.size ≤ 65536) :
  Fn Tryz.prog 63 [.agg ⟨[.int .i64 (t.num 0), .slice x.a x.n x.c]⟩] G (fun v G' => ∃ p, v = .tuple #[.pointer p, .bool true] ∧ IsT k G' t p) := by
 have hlen := hx.len
 have hwl : (t.wr 0).length = t.size := t.wr_len 0
 have hsub : ∀ i, i < t.size → (t.wr 0)[0 + i]? = (t.wr 0)[i]? := fun i _ => by rw [Nat.zero_add]
 generalize hns : t.wr 0 = ns at *
 obtain ⟨xa, xn, xc⟩ := x
 simp only [] at hlen
 subst hlen
 show Fn _ _ [.agg ⟨[_, .slice xa ns.length xc]⟩] _ _
 refine Fn.intro Tryz.func63 rfl rfl Tryz.ntmps63 rfl ?_
 intro C _ _
 refine sR <| ?_
 refine sc (ch_box rfl rfl ?_)
 intro b1
 refine sa rfl rfl <| sa rfl rfl <| st_end <| st_seq <| sR <| sf rfl rfl <| slo1 rfl rfl rfl <| slen rfl rfl <| sy (yd_gtr rfl rfl) rfl <| st_end <| ?_
 refine st_condP rfl (fun hc => absurd hc (by omega)) (fun _ => ?_) -- slot 9
 refine st_skipc <| st_seq <| dr (fun _ => false) [(0, true), (1, true), (2, true), (3, true), (4, true), (5, false), (6, true), (7, false), (8, true)] follows (by kernel_rfl) <| dF rfl rfl rfl <| ?_
 refine dL1 rfl rfl rfl rfl <| dF rfl rfl rfl <| dL1 rfl rfl rfl rfl <| dy rfl (fun _ => yd_len rfl) rfl rfl <| ?_
 refine dc rfl rfl (ch_make rfl rfl (by omega) (by omega) (by omega) (by rfl) rfl ?_)
 intro b2
 rw [Int.toNat_natCast, zeros_seen]
 refine dr_s <| dy rfl (fun _ => yd_build rfl) rfl rfl <| ?_
 refine dc rfl rfl (ch_box rfl rfl ?_)
 intro b3
 refine dr_s <| dA rfl rfl rfl <| dn <| sR <| sm rfl rfl <| sf rfl rfl <| slo1 rfl rfl rfl <| ?_
 have hrp := reader_part hk1 hk hx (by omega) (t := t) (G := G) (base := 0) (rb := b3) (sb := b2) (lo := true) (lo2 := true) (by rw [hns]; exact hsub) (by omega) hok
 refine sc (ch_callM rfl rfl (M := [_, _]) (rest := [_]) (List.Perm.refl _) hrp rfl ?_)
 rintro _ css G4 _ _ ⟨p, rfl, hp, rfl⟩
 show St C _ _ [⟨b3, [.slice xa ns.length xc, .slice (some ⟨b2, 0, none⟩) ns.length ns.length, .int .i64 (0 + t.size : Nat), .bool false], 204, true⟩, ⟨b2, seenL ns.length (0 + t.size), 4, true⟩, ⟨b1, [.int .i64 (t.num 0), .slice xa ns.length xc], 36, true⟩] _ _
 refine sa rfl rfl <| st_end <| st_seq <| st_seq <| dr (fun _ => false) [(0, true), (1, true), (2, true), (3, true), (4, true), (5, true), (6, true), (7, true), (8, true), (9, true), (10, true), (11, true), (12, true), (13, true)] follows (by kernel_rfl) <| ?_
 refine dM rfl rfl rfl <| dy rfl (fun _ => yd_nilCheck rfl) rfl rfl <| dF rfl rfl rfl <| dL1 rfl rfl rfl rfl <| dM rfl rfl rfl <| ?_
 refine dyg rfl rfl rfl rfl (fun _ => yd_move rfl) rfl <| dyg rfl rfl rfl rfl (fun _ => yd_nilCheck rfl) rfl <| dyg rfl rfl rfl rfl (fun _ => yd_fieldAddr rfl) rfl <| dyg rfl rfl rfl rfl (fun _ => yd_load_own1 rfl rfl) rfl <| ?_
 refine dyg rfl rfl rfl rfl (fun _ => yd_fieldAddr rfl) rfl <| dyg rfl rfl rfl rfl (fun _ => yd_load_own1 rfl rfl) rfl <| dyg rfl rfl rfl rfl (fun _ => yd_len rfl) rfl <| dyg rfl rfl rfl rfl (fun _ => yd_neq rfl rfl) rfl <| ?_
 refine dy rfl (fun _ => yd_pickF rfl rfl) rfl rfl <| dn <| ?_
 refine st_condP rfl (fun hc => absurd hc (by omega)) (fun _ => ?_) -- slot 35
 refine st_skipc <| sR <| sm rfl rfl <| sa rfl rfl <| sa rfl rfl <| st_end <| st_ret <| ?_
 exact st_done (.tmp rfl (.tmp rfl .nil)) ⟨p, rfl, hp⟩
theorem Ln_API {A G : Gh} {z : LV} {l : LnQ} {k : Nat} (hl : IsL k A z l) [GL A G] (hk : k ≤ 1099511627776) :
  Fn Tryz.prog 108 [.agg ⟨[.int .i64 z.a.n, .int .i64 z.a.d, .pointer z.a.p, .int .i64 z.b.n, .int .i64 z.b.d, .pointer z.b.p, .int .i64 z.c.n, .int .i64 z.c.d, .pointer z.c.p]⟩] G (fun v G' => ∃ a b c : IV, v = .agg ⟨[.bool a.neg, .slice a.a.a a.a.n a.a.c, .bool b.neg, .slice b.a.a b.a.n b.a.c, .bool c.neg, .slice c.a.a c.a.n c.a.c]⟩ ∧ IsI k G' a l.a ∧ IsI k G' b l.b ∧ IsI k G' c l.c) := by
 refine Fn.intro Tryz.func108 rfl rfl Tryz.ntmps108 rfl ?_
 intro C _ _
 refine sR <| ?_
 refine sc (ch_box rfl rfl ?_)
 intro b1
 refine sc (ch_alloc rfl ?_)
 intro b2
 refine st_end <| st_seq <| dr (fun i => Nat.beq i 10) [(0, true), (1, true), (3, true), (4, true), (6, true), (7, true), (2, false), (5, false), (8, false), (9, true), (10, false)] follows (by kernel_rfl) <| ?_
 refine dF rfl rfl rfl <| dL rfl rfl rfl rfl <| dF rfl rfl rfl <| dL rfl rfl rfl rfl <| ?_
 refine dF rfl rfl rfl <| dL rfl rfl rfl rfl <| ?_
 refine dc rfl rfl (ch_call rfl rfl (R_Num hl.a (by omega)) rfl ?_)
 rintro _ G3 _ ⟨x4, rfl, h5⟩
 refine dr_s <| ?_
 refine dc rfl rfl (ch_call rfl rfl (R_Num hl.b (by omega)) rfl ?_)
 rintro _ G6 _ ⟨x7, rfl, h8⟩
 refine dr_s <| ?_
 refine dc rfl rfl (ch_call rfl rfl (R_Num hl.c (by omega)) rfl ?_)
 rintro _ G9 _ ⟨x10, rfl, h11⟩
 refine dr_s <| dy rfl (fun _ => yd_build rfl) rfl rfl <| ?_
 refine dc rfl rfl (ch_storeN rfl rfl (by first | (dsimp only [ovw, cellsL, zs1, zs2, Nat.reduceAdd, IV.v, RV.v, LV.v, PV.v, IvV.v]; done) | exact rfl) (by repeat (first | exact .hd .. | apply OUpd.tl)) rfl (nb rfl) rfl rfl ?_)
 refine dr_f rfl <| dn <| st_ret <| ?_
 exact st_done (.agg rfl ii ii rfl .nil) ⟨x4, x7, x10, rfl, h5.up, h8.up, h11.up⟩
end Go.Sx
end

section
set_option maxRecDepth 100000
namespace Go.Sx
open Go Go.Proofs
theorem ND.len8 (zs : List ND) : ∀ v ∈ zs.map ND.val, (cellsL v).length = 8 := fun v hv => by
 obtain ⟨f, _, rfl⟩ := List.mem_map.1 hv; rfl
theorem ND.flat (zs : List ND) : ∀ v ∈ zs.map ND.val, ∀ c ∈ cellsL v, Sx.flat c = true := fun v hv c hc => by
 obtain ⟨f, _, rfl⟩ := List.mem_map.1 hv
 simp only [ND.val, cellsL, List.mem_cons, List.not_mem_nil, or_false] at hc
 rcases hc with rfl | rfl | rfl | rfl | rfl | rfl | rfl | rfl <;> rfl
theorem All2.set {α β : Type} {R : α → β → Prop} {us : List α} {bs : List β} (h : All2 R us bs) {a : α} {b : β} (hr : R a b) (i : Nat) : All2 R (us.set i a) (bs.set i b) := by
 induction h generalizing i with
 | nil => simp; exact .nil
 | cons h t ih =>
   cases i with
   | zero => exact .cons hr t
   | succ i => exact .cons h (ih i)
theorem nodes_set (zs : List ND) (rest : List Value) (i j : Nat) (x : Value) (z : ND) (hi : i < zs.length) (hj : j < 8) (hz : cellsL z.val = (cellsL (zs[i]).val).set j x) :
  (flatL (zs.map ND.val) ++ rest).set (i * 8 + j) x = flatL ((zs.set i z).map ND.val) ++ rest := by
 have hi' : i < (zs.map ND.val).length := by simpa using hi
 rw [flat_set hj _ i hi' (ND.len8 zs), List.getElem_map, ← hz, List.map_set, List.set_eq_take_append_cons_drop, if_pos hi', flatL_app]
 have e : flatL (z.val :: (zs.map ND.val).drop (i + 1)) = cellsL z.val ++ flatL ((zs.map ND.val).drop (i + 1)) := by simp [flatL]
 rw [e]
 simp [List.append_assoc]
def apiClo (ob wb : Nat) : Value := .func (.func 107) #[] #[.pointer (some ⟨ob, 0, none⟩), .pointer (some ⟨wb, 0, none⟩)]
set_option maxHeartbeats 2000000 in
theorem T_write {k : Nat} (hk : k ≤ 100000000) : ∀ {t : Tr} {A A2 G : Gh} {p : Option Addr} {ob wb : Nat} {lo lo2 : Bool} {x : SV} {zs : List ND} {ns : List NQ} {B : List Own}, IsT k A t p → [GL A G] → [GL A2 G] → Buf 8 60 x (zs.map ND.val) B → All2 (IsND k A2) zs ns → zs.length + t.size ≤ 1000000 →
   FnO Tryz.prog 107 [.pointer p, .pointer (some ⟨ob, 0, none⟩), .pointer (some ⟨wb, 0, none⟩)] (⟨ob, [.int .i64 0, .slice x.a x.n x.c], 36, lo⟩ :: ⟨wb, [apiClo ob wb], 186, lo2⟩ :: B) G
     (fun v own' G' => ∃ x' zs' B', v = .int .i64 (t.num zs.length) ∧ own' = ⟨ob, [.int .i64 0, .slice x'.a x'.n x'.c], 36, false⟩ :: ⟨wb, [apiClo ob wb], 186, false⟩ :: B' ∧ Buf 8 60 x' (zs'.map ND.val) B' ∧ All2 (IsND k G') zs' (ns ++ t.wr zs.length))
 | .leaf bb, A, A2, G, p, ob, wb, lo, lo2, x, zs, ns, B, h, _, _, hB, hz, hle => by
   obtain ⟨n, rfl, hg⟩ := id h
   have hG : GHas A n _ := ⟨hg⟩
   have hz' : All2 (IsND k G) zs (ns ++ []) := by rw [List.append_nil]; exact hz.imp fun _ _ h => h.up
   refine FnO.intro Tryz.func107 rfl rfl Tryz.ntmps107 rfl ?_
   intro C _ _
   show St C _ _ (⟨ob, [.int .i64 0, .slice x.a x.n x.c], 36, false⟩ :: ⟨wb, [apiClo ob wb], 186, false⟩ :: asB B) _ _
   refine sR <| sa rfl rfl <| st_end <| st_seq <| sR <| sm rfl rfl <| ?_
   refine sc (ch_call rfl rfl (T_IsLeaf h) rfl ?_)
   rintro _ G1 _ rfl
   refine st_end <| st_condT rfl <| ?_
   refine st_seq <| sR <| sm rfl rfl <| sn rfl rfl <| sf rfl rfl <| slg1 rfl rfl rfl <| st_end <| ?_
   cases bb
   case true =>
     refine st_condT rfl <| sR <| sa rfl rfl <| st_end <| st_ret <| ?_
     exact st_doneO (.tmp rfl .nil) _ _ (List.Perm.refl _) (List.Sublist.refl _) ⟨x, zs, _, rfl, rfl, hB.asB, hz'.imp fun _ _ h => h.up⟩
   refine st_condF rfl <| st_skipc <| sR <| sa rfl rfl <| st_end <| st_ret <| ?_
   exact st_doneO (.tmp rfl .nil) _ _ (List.Perm.refl _) (List.Sublist.refl _) ⟨x, zs, _, rfl, rfl, hB.asB, hz'.imp fun _ _ h => h.up⟩
 | .node l s u, A, A2, G, p, ob, wb, lo, lo2, x, zs, ns, B, h, _, _, hB, hz, hle => by
   obtain ⟨n, z, q, r, rfl, hg, hzl, hs, hu⟩ := id h
   have hG : GHas A n _ := ⟨hg⟩
   have hxn := hB.len
   have hzn := hz.len
   simp only [Tr.size] at hle
   obtain ⟨xa, xn, xc⟩ := x
   rw [List.length_map] at hxn
   simp only [] at hxn
   subst hxn
   refine FnO.intro Tryz.func107 rfl rfl Tryz.ntmps107 rfl ?_
   intro C _ _
   show St C _ _ (⟨ob, [.int .i64 0, .slice xa zs.length xc], 36, false⟩ :: ⟨wb, [apiClo ob wb], 186, false⟩ :: asB B) _ _
   replace hB := hB.asB
   generalize asB B = B at hB
   refine sR <| sa rfl rfl <| st_end <| st_seq <| sR <| sm rfl rfl <| ?_
   refine sc (ch_call rfl rfl (T_IsLeaf h) rfl ?_)
   rintro _ G1 _ rfl
   refine st_end <| st_condF rfl <| ?_
   refine st_skipc <| sR <| sf rfl rfl <| slo1 rfl rfl rfl <| slen rfl rfl <| sa rfl rfl <| st_end <| st_seq <| ?_
   refine drS [⟨ob, [.int .i64 0, .slice xa zs.length xc], 36, false⟩] (fun i => Nat.beq i 11) [(0, true), (1, true), (2, true), (3, true), (4, true), (5, true), (6, false), (7, true), (8, false), (9, false), (10, true), (11, false)] follows (by kernel_rfl) <| ?_
   refine dF rfl rfl rfl <| dL1 rfl rfl rfl rfl <| dM rfl rfl rfl <| dy rfl (fun _ => yd_nilCheck rfl) rfl rfl <| ?_
   refine dF rfl rfl rfl <| dy rfl (fun _ => yd_load_gh rfl ghi rfl) rfl rfl <| ?_
   refine dc rfl rfl (ch_call rfl rfl (Ln_API hzl (by omega)) rfl ?_)
   rintro _ G2 _ ⟨ia, ib, ic, rfl, hia, hib, hic⟩
   refine dr_s <| dy rfl (fun _ => yd_build rfl) rfl rfl <| ?_
   refine dc rfl rfl (ch_slice1 rfl (by rfl) (by rfl) (by decide) (by decide) rfl ?_)
   intro b3
   refine dr_s <| ?_
   refine dc rfl rfl (ch_append_buf (v := ND.val ⟨ia, ib, ic, 0, 0⟩) (vs := zs.map ND.val) [_, _, _] rfl hB rfl rfl (src_own inferInstance rfl) rfl (ND.flat [⟨ia, ib, ic, 0, 0⟩] _ List.mem_cons_self) (by decide) (by rw [List.length_map]; omega) rfl rfl ?_)
   intro x1 B1 hB1
   rw [show zs.map ND.val ++ [ND.val ⟨ia, ib, ic, 0, 0⟩] = (zs ++ [(⟨ia, ib, ic, 0, 0⟩ : ND)]).map ND.val by simp] at hB1
   show St C _ _ (⟨b3, _, _, true⟩ :: ⟨ob, [.int .i64 0, .slice xa zs.length xc], 36, false⟩ :: ⟨wb, [apiClo ob wb], 186, false⟩ :: B1) _ _
   refine dr_s <| dF rfl rfl rfl <| ?_
   refine dc rfl rfl (ch_storeN1 (cs' := [.int .i64 0, .slice x1.a x1.n x1.c]) rfl rfl rfl (.tl _ _ _ _ _ _ _ _ (.hd ..)) (nb rfl) rfl rfl ?_)
   refine dr_f rfl <| dn <| ?_
   refine st_drop _ (List.sublist_cons_self _ _) ?_
   have hz1 : All2 (IsND k G2) (zs ++ [(⟨ia, ib, ic, 0, 0⟩ : ND)]) (ns ++ [⟨l, 0, 0⟩]) := (hz.imp fun _ _ h => h.up).app (.cons ⟨hia, hib, hic, rfl, rfl⟩ .nil)
   refine st_seq <| drS [⟨wb, [apiClo ob wb], 186, false⟩] (fun _ => false) [(0, true), (1, true), (2, true), (3, true), (4, true), (5, false), (6, true)] follows (by kernel_rfl) <| ?_
   refine dL1 rfl rfl rfl rfl <| dM rfl rfl rfl <| dy rfl (fun _ => yd_nilCheck rfl) rfl rfl <| dF rfl rfl rfl <| dy rfl (fun _ => yd_load_gh1 rfl ghi rfl) rfl rfl <| ?_
   refine dc rfl rfl (ch_callcO' (c1 := []) (M := _ :: _ :: B1) (rest := []) rfl rfl (by rw [List.append_nil]) (T_write hk (lo := false) (lo2 := false) hs hB1 hz1 (by simp; omega)) rfl ?_)
   rintro _ _ G3 fl _ hf _ ⟨x2, zs2, B2, rfl, rfl, hB2, hz2⟩
   have e1 : fl ob = false := hf _ List.mem_cons_self rfl
   have e2 : fl wb = false := hf _ (List.mem_cons_of_mem _ List.mem_cons_self) rfl
   replace hB2 := hB2.relo fl
   refine st_ownE (own' := ⟨ob, [.int .i64 0, .slice x2.a x2.n x2.c], 36, false⟩ :: ⟨wb, [apiClo ob wb], 186, false⟩ :: B2.map (relo fl)) (by simp only [List.map_cons, relo, e1, e2, List.append_nil]) ?_
   generalize B2.map (relo fl) = B2 at hB2
   have hl2 := hz2.len
   simp only [List.length_append, Tr.wr_len, List.length_singleton] at hl2
   refine dr_s <| dA rfl rfl rfl <| dn <| st_seq <| drS [⟨wb, [apiClo ob wb], 186, false⟩] (fun _ => false) [(0, true), (1, true), (2, true), (3, true), (4, true), (5, false), (6, true)] follows (by kernel_rfl) <| ?_
   refine dL1 rfl rfl rfl rfl <| dM rfl rfl rfl <| dy rfl (fun _ => yd_nilCheck rfl) rfl rfl <| dF rfl rfl rfl <| dy rfl (fun _ => yd_load_gh1 rfl ghi rfl) rfl rfl <| ?_
   refine dc rfl rfl (ch_callcO' (c1 := []) (M := _ :: _ :: B2) (rest := []) rfl rfl (by rw [List.append_nil]) (T_write hk (lo := false) (lo2 := false) hu hB2 hz2 (by omega)) rfl ?_)
   rintro _ _ G4 fl _ hf _ ⟨x3, zs3, B3, rfl, rfl, hB3, hz3⟩
   have e3 : fl ob = false := hf _ List.mem_cons_self rfl
   have e4 : fl wb = false := hf _ (List.mem_cons_of_mem _ List.mem_cons_self) rfl
   replace hB3 := hB3.relo fl
   refine st_ownE (own' := ⟨ob, [.int .i64 0, .slice x3.a x3.n x3.c], 36, false⟩ :: ⟨wb, [apiClo ob wb], 186, false⟩ :: B3.map (relo fl)) (by simp only [List.map_cons, relo, e3, e4, List.append_nil]) ?_
   generalize B3.map (relo fl) = B3 at hB3
   have hl3 := hz3.len
   simp only [List.length_append, Tr.wr_len, List.length_singleton] at hl3
   have hn3 : zs.length < zs3.length := by omega
   rcases hB3 with ⟨h1, _, _⟩ | ⟨nb, rest, lo3, hx3, rfl, hf1, hf2, hf3⟩
   · have := congrArg List.length h1; rw [List.length_map, List.length_nil] at this; omega
   obtain ⟨x3a, x3n, x3c⟩ := x3
   simp only [SV.mk.injEq] at hx3
   obtain ⟨rfl, rfl, _⟩ := hx3
   rw [List.length_map] at hf3
   have hzz : ns.length = zs.length := hzn.symm
   obtain ⟨zn, hzn1, hzn2⟩ := hz3.get (i := zs.length) (b := ⟨l, 0, 0⟩) (by rw [List.append_assoc, List.append_assoc, ← hzz, List.getElem?_append_right (Nat.le_refl _), Nat.sub_self]; rfl)
   obtain ⟨_, hzn3⟩ := List.getElem?_eq_some_iff.1 hzn1
   have hL1 : (zs ++ [(⟨ia, ib, ic, 0, 0⟩ : ND)]).length = zs.length + 1 := by simp
   have hL2 : zs2.length = zs.length + 1 + s.size := by omega
   rw [hL1] at hz3
   rw [hL1, hL2]
   rw [hL2] at hz3
   refine dr_s <| dA rfl rfl rfl <| dn <| ?_
   refine st_seq <| drS [⟨ob, [.int .i64 0, .slice (some ⟨nb, 0, none⟩) (zs3.map ND.val).length x3c], 36, false⟩] (fun _ => false) [(0, true), (1, true), (2, true), (3, true), (4, true), (5, true), (6, true), (7, true), (8, true), (9, true), (10, false), (11, true), (12, true), (13, false)] follows (by kernel_rfl) <| ?_
   refine dF rfl rfl rfl <| dL1 rfl rfl rfl rfl <| dM rfl rfl rfl <| dF rfl rfl rfl <| ?_
   refine dL1 rfl rfl rfl rfl <| dM rfl rfl rfl <| dM rfl rfl rfl <| dM rfl rfl rfl <| dy rfl (fun _ => yd_ixO rfl rfl (by omega) (by rw [List.length_map]; omega)) rfl rfl <| ?_
   refine dF rfl rfl rfl <| ?_
   refine dc rfl rfl (ch_store1 rfl rfl (.tl _ _ _ _ _ _ _ _ (.tl _ _ _ _ _ _ _ _ (.hd ..))) (by rw [List.length_append, hf1, List.length_map, Int.toNat_natCast]; omega) rfl rfl ?_)
   rw [Int.toNat_natCast, nodes_set zs3 rest zs.length 6 _ { zn with l := s.num (zs.length + 1) } hn3 (by decide) (by rw [hzn3]; rfl)]
   refine dr_s <| dy rfl (fun _ => yd_ixO rfl rfl (by omega) (by rw [List.length_map]; omega)) rfl rfl <| dF rfl rfl rfl <| ?_
   refine dc rfl rfl (ch_store1 rfl rfl (.tl _ _ _ _ _ _ _ _ (.tl _ _ _ _ _ _ _ _ (.hd ..))) (by rw [List.length_append, flatL_len (s := 8) _ (ND.len8 _), List.length_map, List.length_set, Int.toNat_natCast]; omega) rfl rfl ?_)
   rw [Int.toNat_natCast, nodes_set (zs3.set zs.length _) rest zs.length 7 _ { zn with l := s.num (zs.length + 1), r := u.num (zs.length + 1 + s.size) } (by rw [List.length_set]; exact hn3) (by decide) (by rw [List.getElem_set_self]; rfl)]
   refine dr_s <| dn <| sR <| sm rfl rfl <| sa rfl rfl <| st_end <| st_ret <| ?_
   have hfin := hz3.set (a := { zn with l := s.num (zs.length + 1), r := u.num (zs.length + 1 + s.size) }) (b := ⟨l, s.num (zs.length + 1), u.num (zs.length + 1 + s.size)⟩) ⟨hzn2.a, hzn2.b, hzn2.c, rfl, rfl⟩ zs.length
   have hns : (ns ++ [(⟨l, 0, 0⟩ : NQ)] ++ s.wr (zs.length + 1) ++ u.wr (zs.length + 1 + s.size)).set zs.length ⟨l, s.num (zs.length + 1), u.num (zs.length + 1 + s.size)⟩ = ns ++ (Tr.node l s u).wr zs.length := by
     rw [List.append_assoc, List.append_assoc, List.set_append_right _ _ (by omega), hzz, Nat.sub_self]
     simp [Tr.wr]
   rw [hns] at hfin
   refine st_doneO (.tmp rfl .nil) _ _ (List.Perm.refl _) (List.Sublist.refl _) ⟨⟨some ⟨nb, 0, none⟩, (zs3.map ND.val).length, x3c⟩, _, _, rfl, rfl, ?_, hfin⟩
   refine .inr ⟨nb, rest, lo3, by simp, by rw [List.set_set], ?_, ?_, ?_⟩
   · rw [flatL_len (s := 8) _ (ND.len8 _)]
   · rw [flatL_len (s := 8) _ (ND.len8 _), List.length_map, List.length_set]; rw [hf1, List.length_map] at hf2; exact hf2
   · rw [List.length_map, List.length_set]; exact hf3
theorem T_API {A G : Gh} {t : Tr} {p : Option Addr} {k : Nat} (hk : k ≤ 100000000) (h : IsT k A t p) [GL A G] (hs : t.size ≤ 1000000) : Fn Tryz.prog 49 [.pointer p] G (fun v G' => ∃ x : SV, v = .agg ⟨[.int .i64 (t.num 0), .slice x.a x.n x.c]⟩ ∧ IsNs k G' x (t.wr 0)) := by
 refine Fn.intro Tryz.func49 rfl rfl Tryz.ntmps49 rfl ?_
 intro C _ hC
 refine sR <| ?_
 refine sc (ch_alloc rfl ?_)
 intro b1
 refine st_end <| sR <| ?_
 refine sc (ch_alloc rfl ?_)
 intro b2
 refine st_end <| sR <| ?_
 refine sc (ch_alloc rfl ?_)
 intro b3
 refine st_end <| sR <| sy (yd_makeFunc rfl rfl) rfl <| ?_
 refine sc (ch_storeN1 (cs' := [apiClo b2 b3]) rfl rfl rfl (.hd ..) (nb rfl) rfl rfl ?_)
 refine st_end <| sR <| slo1 rfl rfl rfl <| sm rfl rfl <| ?_
 refine sc (ch_callcO' (c1 := []) (M := [⟨b2, [.int .i64 0, .slice none 0 0], 36, true⟩, ⟨b3, [apiClo b2 b3], 186, true⟩]) (rest := [⟨b1, [.int .i64 0, .slice none 0 0], 36, true⟩]) rfl rfl (List.Perm.swap ..) (T_write hk (A2 := G) (x := ⟨none, 0, 0⟩) (zs := []) (ns := []) (B := []) h (Buf.nil ..) .nil (by simpa using hs)) rfl ?_)
 rintro _ _ G4 fl _ _ hf ⟨x, zs, B, rfl, rfl, hB, hz⟩
 have e1 := hf (by simp) b2
 have e2 := hf (by simp) b3
 replace hB := hB.relo fl
 refine st_ownE (own' := ⟨b2, [.int .i64 0, .slice x.a x.n x.c], 36, true⟩ :: ⟨b3, [apiClo b2 b3], 186, true⟩ :: (B.map (relo fl) ++ [⟨b1, [.int .i64 0, .slice none 0 0], 36, true⟩])) (by simp only [List.map_cons, relo, e1, e2, List.cons_append]) ?_
 generalize B.map (relo fl) = B at hB
 refine st_perm (⟨b2, [.int .i64 0, .slice x.a x.n x.c], 36, true⟩ :: ⟨b3, [apiClo b2 b3], 186, true⟩ :: ⟨b1, [.int .i64 0, .slice none 0 0], 36, true⟩ :: B) ((List.perm_append_comm (l₁ := B) (l₂ := [_])).cons _ |>.cons _) ?_
 refine sf rfl rfl <| ?_
 refine sc (ch_storeN1 (cs' := [.int .i64 (t.num 0), .slice x.a x.n x.c]) rfl rfl rfl (.hd ..) (nb rfl) rfl rfl ?_)
 refine st_end <| sR <| slo rfl rfl rfl <| ?_
 refine sc (ch_storeN (cs' := [.int .i64 (t.num 0), .slice x.a x.n x.c]) rfl rfl rfl (.tl _ _ _ _ _ _ _ _ (.tl _ _ _ _ _ _ _ _ (.hd ..))) rfl (nb rfl) rfl rfl ?_)
 refine st_end <| ?_
 refine st_bufFreeze (L := [_, _, _]) hC hB (ND.len8 _) ?_
 intro G5 _ hsl
 show St C _ _ [⟨b2, _, _, true⟩, ⟨b3, _, _, true⟩, ⟨b1, [.int .i64 (t.num 0), .slice x.a x.n x.c], 36, true⟩] _ _
 refine st_ret <| ?_
 exact st_done (.agg rfl ii ii rfl .nil) ⟨x, rfl, zs, hsl, by rw [List.nil_append] at hz; exact hz.imp fun _ _ h => h.up⟩
end Go.Sx
end

section
set_option maxRecDepth 100000
namespace Go.Sx
open Go Go.Proofs
structure PtV where
 x : SV
 p : Option Addr
def PtV.val (z : PtV) : Value := .agg ⟨[.slice z.x.a z.x.n z.x.c, .pointer z.p]⟩
structure IsPt (k : Nat) (G : Gh) (z : PtV) (b : Bool × CellQ) : Prop where
 c : IsC k G z.x b.2
 t : IsT k G (.leaf b.1) z.p
structure IsPs (k : Nat) (G : Gh) (w : SV) (ps : List (Bool × CellQ)) : Prop where
 ex : ∃ zs : List PtV, IsSl G 2 w (zs.map PtV.val) ∧ All2 (IsPt k G) zs ps
theorem reduce_read {k : Nat} (hk1 : 1 ≤ k) (hk : k ≤ 100000000) {A G : Gh} {x : SV} {t : Tr} (hx : IsNs k A x (t.wr 0)) [GL A G] (hok : t.all LnQ.ok) (hs : t.size ≤ 65536) (hd : t.depth ≤ 1024) :
  Fn Tryz.prog 46 [.agg ⟨[.int .i64 (t.num 0), .slice x.a x.n x.c]⟩, .int .i64 0] G (fun v G' => ∃ p, v = .tuple #[.pointer p, .nilIface] ∧ IsT k G' t p) := by
 refine Fn.intro Tryz.func46 rfl rfl Tryz.ntmps46 rfl ?_
 intro C _ _
 refine sR <| ?_
 refine sc (ch_box rfl rfl ?_)
 intro b1
 refine sa rfl rfl <| sa rfl rfl <| st_end <| sR <| slo rfl rfl rfl <| ?_
 refine sc (ch_call rfl rfl (T_Of hk1 hk hx hok hs) rfl ?_)
 rintro _ G2 _ ⟨p, rfl, hp⟩
 refine sm rfl rfl <| sx rfl rfl rfl <| sx rfl rfl rfl <| sa rfl rfl <| sa rfl rfl <| st_end <| st_seq <| st_block <| sR <| sm rfl rfl <| sy (yd_not rfl) rfl <| sa rfl rfl <| st_end <| ?_
 refine st_condF rfl <| sR <| sm rfl rfl <| ?_
 refine sc (ch_call rfl rfl (T_Depth hp (by omega)) rfl ?_)
 rintro _ G3 _ rfl
 refine sm rfl rfl <| sy (yd_add64 rfl rfl) rfl <| sy (yd_gtr rfl rfl) rfl <| sa rfl rfl <| st_end <| ?_
 refine st_condP rfl (fun hc => absurd hc (by omega)) (fun _ => ?_)
 refine st_skipc <| sR <| sm rfl rfl <| sa rfl rfl <| ?_
 refine sa rfl rfl <| st_end <| st_ret <| ?_
 exact st_done (.tmp rfl (.tmp rfl .nil)) ⟨p, rfl, hp.up⟩
theorem reduce_Reduce {k : Nat} (hk1 : 1 ≤ k) (hk : k ≤ 100000000) {A G : Gh} {x : SV} {t : Tr} (hx : IsNs k A x (t.wr 0)) [GL A G] (hok : t.all LnQ.ok) (hs : t.size ≤ 65536) (hd : t.depth ≤ 1024) (hsz : (t.restrict []).size ≤ 1000000) :
  Fn Tryz.prog 19 [.agg ⟨[.int .i64 (t.num 0), .slice x.a x.n x.c]⟩] G (fun v G' => ∃ y : SV, v = .tuple #[.agg ⟨[.int .i64 ((t.restrict []).num 0), .slice y.a y.n y.c]⟩, .nilIface] ∧ IsNs k G' y ((t.restrict []).wr 0)) := by
 refine Fn.intro Tryz.func19 rfl rfl Tryz.ntmps19 rfl ?_
 intro C _ _
 refine sR <| ?_
 refine sc (ch_box rfl rfl ?_)
 intro b1
 refine sc (ch_alloc rfl ?_)
 intro b2
 refine sa rfl rfl <| st_end <| sR <| slo rfl rfl rfl <| ?_
 refine sc (ch_call rfl rfl (reduce_read hk1 hk hx hok hs hd) rfl ?_)
 rintro _ G3 _ ⟨p, rfl, hp⟩
 refine sm rfl rfl <| sx rfl rfl rfl <| sx rfl rfl rfl <| sa rfl rfl <| sa rfl rfl <| st_end <| st_seq <| sR <| sm rfl rfl <| sy (yd_neN (by simp) rfl) rfl <| st_end <| st_condF rfl <| ?_
 refine st_skipc <| sR <| sm rfl rfl <| ?_
 refine sc (ch_call rfl rfl (T_Reduce hk hp (by omega)) rfl ?_)
 rintro _ G4 _ ⟨p2, rfl, hp2⟩
 refine sc (ch_call rfl rfl (T_API hk hp2 hsz) rfl ?_)
 rintro _ G5 _ ⟨y, rfl, hy⟩
 refine sc (chS rfl rfl rfl (nb rfl) rfl rfl ?_)
 refine sa rfl rfl <| st_end <| st_ret <| ?_
 exact st_done (.agg rfl ii ii rfl (.tmp rfl .nil)) ⟨y, rfl, hy⟩
end Go.Sx
end

section
set_option maxRecDepth 100000
namespace Go.Sx
open Go Go.Proofs
end Go.Sx
end

section
set_option maxRecDepth 100000
namespace Go.Sx
open Go Go.Proofs
theorem num_Trim {A G : Gh} {x : SV} {ds : List Nat} (hx : IsD A x ds) [GL A G] (hb : ds.length ≤ 1125899906842624) : Fn Tryz.prog 138 [.slice x.a x.n x.c] G (fun v _ => v = .slice x.a (trimD ds).length x.c) := by
 have hlen := hx.len
 have hcap := hx.sl.cap
 obtain ⟨xa, xn, xc⟩ := x
 simp only [] at hlen hcap
 subst hlen
 show Fn _ _ [.slice xa ds.length xc] _ _
 refine Fn.intro Tryz.func138 rfl rfl Tryz.ntmps138 rfl ?_
 intro C _ _
 refine sR <| sa rfl rfl <| st_end <| sR <| sm rfl rfl <| slen rfl rfl <| sa rfl rfl <| st_end <| st_seq <| st_block <| ?_
 refine st_loop (X := Nat) (fun k => [(3, .int .i64 k), (0, .slice xa ds.length xc)]) (fun _ => []) (fun k _ => k ≤ ds.length ∧ trimD ds = trimD (ds.take k)) (fun k => k) ds.length ⟨Nat.le_refl _, by simp⟩ (.cons rfl (.cons rfl .nil)) rfl ?_
 rintro k Gx _ ⟨hk, ht⟩
 refine st_seq <| sR <| sm rfl rfl <| sy (yd_gtr rfl rfl) rfl <| sm rfl rfl <| ?_
 refine st_caseP 8 rfl (fun hg => ?_) (fun hg => ?_)
 · have hk1 : k - 1 < ds.length := by omega
   have hkt : ((k : Int) - 1).toNat = k - 1 := by omega
   have hk2 : k = k - 1 + 1 := by omega
   refine syg rfl rfl (yd_move rfl) rfl <| syg rfl rfl (yd_move rfl) rfl <| syg rfl rfl (yd_sub64 rfl rfl) rfl <| syg rfl rfl (yd_ixD (z := ⟨xa, ds.length, xc⟩) hx rfl rfl (by omega) (by show _ < (ds.length : Int); omega)) rfl <| ?_
   refine syg rfl rfl (yd_ldD hx rfl (by omega)) rfl <| syg rfl rfl (yd_eql rfl rfl) rfl <| sy (yd_pickT rfl rfl) rfl <| st_end <| ?_
   rw [hkt]
   refine st_condE rfl (fun hc => ?_) (fun hc => ?_) -- slot 15
   · refine st_exit <| st_te <| st_te <| st_inBlock_eq <| sR <| sm rfl rfl <| sm rfl rfl <| sy (yd_slice_hi rfl rfl (by omega) (by omega)) rfl <| sa rfl rfl <| st_end <| st_ret <| ?_
     have hs := trimD_stop hk1 (hk2 ▸ ht) (fun e => hc (by rw [e]; rfl))
     refine st_done (.tmp rfl .nil) ?_
     rw [hs, ← hk2, List.length_take, Nat.min_eq_left hk]
     rfl
   refine st_skipc <| st_block <| st_region <| sm rfl rfl <| sy (yd_sub64 rfl rfl) rfl <| sa rfl rfl <| st_end <| ?_
   rw [show (k : Int) - 1 = ((k - 1 : Nat) : Int) by omega]
   exact st_again (k - 1) ⟨by omega, trimD_step hk1 (hk2 ▸ ht) (by omega)⟩ (by omega) (.cons rfl (.cons rfl .nil)) rfl
 refine ss rfl rfl rfl rfl <| ss rfl rfl rfl rfl <| ss rfl rfl rfl rfl <| ss rfl rfl rfl rfl <| ss rfl rfl rfl rfl <| ss rfl rfl rfl rfl <| sy (yd_pickF rfl rfl) rfl <| st_end <| st_condF rfl <| ?_
 refine st_exit <| st_te <| st_te <| st_inBlock_eq <| sR <| sm rfl rfl <| sm rfl rfl <| sy (yd_slice_hi rfl rfl (by omega) (by omega)) rfl <| sa rfl rfl <| st_end <| st_ret <| ?_
 have hk0 : k = 0 := by omega
 subst hk0
 refine st_done (.tmp rfl .nil) ?_
 rw [ht]
 rfl
theorem num_Word {G : Gh} {u : Nat} (hu : u < 18446744073709551616) : Fn Tryz.prog 114 [.int .u64 (u : Int)] G (fun v G' => ∃ z : SV, v = .slice z.a z.n z.c ∧ IsN 64 G' z u) := by
 refine Fn.intro Tryz.func114 rfl rfl Tryz.ntmps114 rfl ?_
 intro C _ _
 refine sR <| sa rfl rfl <| st_end <| sR <| sm rfl rfl <| sy (yd_toU32 rfl) rfl <| sm rfl rfl <| sy (yd_shr rfl rfl (by decide)) rfl <| sy (yd_toU32 rfl) rfl <| ?_
 refine sc (ch_slice (by rfl) (by rfl) (by rfl) (by rfl) rfl ?_)
 intro b1
 refine st_freeze b1 (.hd ..) (fun G1 _ hgb => ?_)
 have h1 : ((u : Int) % 4294967296) = ((u % 4294967296 : Nat) : Int) := by omega
 have h2 : ((u : Int).fdiv (2 ^ min (32 : Int).toNat IntKind.u64.bits) % 4294967296) = ((u / 4294967296 : Nat) : Int) := by
  have : (2 ^ min (32 : Int).toNat IntKind.u64.bits : Int) = 4294967296 := by decide
  rw [this, Int.fdiv_eq_ediv_of_nonneg _ (by omega)]
  omega
 have hok : DOk [u % 4294967296, u / 4294967296] := .cons (by omega) (.cons (by omega) .nil)
 have hd : IsD G1 ⟨some ⟨b1, 0, none⟩, 2, 2⟩ [u % 4294967296, u / 4294967296] := .of_block hok hgb.h rfl (Nat.le_refl _) (by rw [h1, h2]; rfl)
 have hv : dv [u % 4294967296, u / 4294967296] = u := by simp only [dv]; omega
 refine sc (ch_call rfl rfl (num_Trim hd (by simp)) rfl ?_)
 rintro _ G2 _ rfl
 refine sa rfl rfl <| st_end <| st_ret <| ?_
 refine st_done (.tmp rfl .nil) ⟨⟨some ⟨b1, 0, none⟩, (trimD [u % 4294967296, u / 4294967296]).length, 2⟩, rfl, ?_⟩
 have := hd.trim.up (G := G2)
 rw [← dg_trim hok, hv] at this
 exact ⟨by rw [← dg_trim hok, hv]; exact this, Nat.lt_of_lt_of_le hu (by decide)⟩
theorem num_Make {A G : Gh} {x : SV} {u k : Nat} {neg : Bool} (hx : IsN k A x u) [GL A G] : Fn Tryz.prog 93 [.bool neg, .slice x.a x.n x.c] G (fun v G' => ∃ z : IV, v = .agg ⟨[.bool z.neg, .slice z.a.a z.a.n z.a.c]⟩ ∧ IsI k G' z (zv neg u)) := by
 have hp := hx.pos
 cases neg
 case false =>
  refine Fn.intro Tryz.func93 rfl rfl Tryz.ntmps93 rfl ?_
  intro C _ _
  refine sR <| ?_
  refine sc (ch_alloc rfl ?_)
  intro b1
  refine st_end <| sR <| sm rfl rfl <| sm rfl rfl <| ss rfl rfl rfl rfl <| ss rfl rfl rfl rfl <| ss rfl rfl rfl rfl <| sy (yd_pickF rfl rfl) rfl <| sm rfl rfl <| sy (yd_build rfl) rfl <| ?_
  refine sc (chS rfl rfl rfl (nb rfl) rfl rfl ?_)
  refine st_end <| st_ret <| ?_
  exact st_done (.agg rfl ii ii rfl .nil) ⟨⟨false, x⟩, rfl, IsI.mk' (neg := false) hx.up⟩
 refine Fn.intro Tryz.func93 rfl rfl Tryz.ntmps93 rfl ?_
 intro C _ _
 refine sR <| ?_
 refine sc (ch_alloc rfl ?_)
 intro b1
 refine st_end <| sR <| sm rfl rfl <| sm rfl rfl <| syg rfl rfl (yd_move rfl) rfl <| syg rfl rfl (yd_len rfl) rfl <| syg rfl rfl (yd_gtr rfl rfl) rfl <| sy (yd_pickT rfl rfl) rfl <| ?_
 refine sm rfl rfl <| sy (yd_build rfl) rfl <| ?_
 refine sc (chS rfl rfl rfl (nb rfl) rfl rfl ?_)
 refine st_end <| st_ret <| ?_
 exact st_done (.agg rfl ii ii rfl .nil) ⟨⟨decide (0 < (x.n : Int)), x⟩, rfl, by rw [hp]; exact IsI.mk' (neg := true) hx.up⟩
theorem num_Int {G : Gh} {n : Int} (h0 : -1000000 ≤ n) (h1 : n ≤ 1000000) : Fn Tryz.prog 95 [.int .i64 n] G (fun v G' => ∃ z : IV, v = .agg ⟨[.bool z.neg, .slice z.a.a z.a.n z.a.c]⟩ ∧ IsI 32 G' z n) := by
 refine Fn.intro Tryz.func95 rfl rfl Tryz.ntmps95 rfl ?_
 intro C _ _
 refine sR <| ?_
 refine sc (ch_alloc rfl ?_)
 intro b1
 refine st_end <| st_seq <| sR <| sm rfl rfl <| sy (yd_lss rfl rfl) rfl <| st_end <| ?_
 refine st_condP rfl (fun hc => ?_) (fun hc => ?_) -- slot 4
 · have hw : IntKind.u64.wrap (0 - IntKind.u64.wrap n) = ((n.natAbs : Nat) : Int) := by
     rw [wrap_u64, wrap_u64]; omega
   refine sR <| sm rfl rfl <| sy (yd_conv (k := .i64) (k' := .u64) rfl) rfl <| sy (yd_neg rfl) rfl <| ?_
   rw [hw]
   refine sc (ch_call rfl rfl (num_Word (u := n.natAbs) (by omega)) rfl ?_)
   rintro _ G2 _ ⟨z, rfl, hz⟩
   refine sc (ch_call rfl rfl (num_Make (neg := true) (hz.mono (k' := 32) (by omega))) rfl ?_)
   rintro _ G3 _ ⟨w, rfl, hw2⟩
   refine sc (ch_storeN (cs' := [.bool w.neg, .slice w.a.a w.a.n w.a.c]) rfl rfl rfl (.hd ..) rfl (nb rfl) rfl rfl ?_)
   refine st_end <| st_ret <| ?_
   exact st_done (.agg rfl ii ii rfl .nil) ⟨w, rfl, by have e : zv true n.natAbs = n := (by simp only [zv, if_true]; omega); rw [e] at hw2; exact hw2⟩
 have hw : IntKind.u64.wrap n = ((n.natAbs : Nat) : Int) := by rw [wrap_u64]; omega
 refine st_skipc <| sR <| sm rfl rfl <| sy (yd_conv (k := .i64) (k' := .u64) rfl) rfl <| ?_
 rw [hw]
 refine sc (ch_call rfl rfl (num_Word (u := n.natAbs) (by omega)) rfl ?_)
 rintro _ G2 _ ⟨z, rfl, hz⟩
 refine sc (ch_call rfl rfl (num_Make (neg := false) (hz.mono (k' := 32) (by omega))) rfl ?_)
 rintro _ G3 _ ⟨w, rfl, hw2⟩
 refine sc (ch_storeN (cs' := [.bool w.neg, .slice w.a.a w.a.n w.a.c]) rfl rfl rfl (.hd ..) rfl (nb rfl) rfl rfl ?_)
 refine st_end <| st_ret <| ?_
 exact st_done (.agg rfl ii ii rfl .nil) ⟨w, rfl, by have e : zv false n.natAbs = n := (by simp only [zv]; split <;> first | contradiction | omega); rw [e] at hw2; exact hw2⟩
theorem num_Of {G : Gh} {n : Int} (h0 : -1000000 ≤ n) (h1 : n ≤ 1000000) : Fn Tryz.prog 43 [.int .i64 n] G (fun v G' => ∃ z : IV, v = .agg ⟨[.bool z.neg, .slice z.a.a z.a.n z.a.c, .slice none 0 0]⟩ ∧ IsI 32 G' z n) := by
 refine Fn.intro Tryz.func43 rfl rfl Tryz.ntmps43 rfl ?_
 intro C _ _
 refine sR <| ?_
 refine sc (ch_alloc rfl ?_)
 intro b1
 refine st_end <| sR <| sm rfl rfl <| ?_
 refine sc (ch_call rfl rfl (num_Int h0 h1) rfl ?_)
 rintro _ G2 _ ⟨z, rfl, hz⟩
 refine sy (yd_build rfl) rfl <| ?_
 refine sc (chS rfl rfl rfl (nb rfl) rfl rfl ?_)
 refine st_end <| st_ret <| ?_
 exact st_done (.agg rfl ii ii rfl .nil) ⟨z, rfl, hz.up⟩
theorem ref_Xy {G : Gh} {m n : Int} (h0 : -1000000 ≤ m) (h1 : m ≤ 1000000) (h2 : -1000000 ≤ n) (h3 : n ≤ 1000000) : Fn Tryz.prog 38 [.int .i64 m, .int .i64 n] G (fun v G' => ∃ z w : IV, v = .agg ⟨[.bool z.neg, .slice z.a.a z.a.n z.a.c, .slice none 0 0, .bool w.neg, .slice w.a.a w.a.n w.a.c, .slice none 0 0]⟩ ∧ IsI 32 G' z m ∧ IsI 32 G' w n) := by
 refine Fn.intro Tryz.func38 rfl rfl Tryz.ntmps38 rfl ?_
 intro C _ _
 refine sR <| ?_
 refine sc (ch_alloc rfl ?_)
 intro b1
 refine st_end <| sR <| sm rfl rfl <| ?_
 refine sc (ch_call rfl rfl (num_Of h0 h1) rfl ?_)
 rintro _ G2 _ ⟨z, rfl, hz⟩
 refine sm rfl rfl <| ?_
 refine sc (ch_call rfl rfl (num_Of h2 h3) rfl ?_)
 rintro _ G3 _ ⟨w, rfl, hw⟩
 refine sy (yd_build rfl) rfl <| ?_
 refine sc (chS rfl rfl rfl (nb rfl) rfl rfl ?_)
 refine st_end <| st_ret <| ?_
 exact st_done (.agg rfl ii ii rfl .nil) ⟨z, w, rfl, hz.up, hw.up⟩
end Go.Sx
end
