/-
  cap, copy, append with room, slices.overlaps; rows of values of several cells. Drawn regions that read few blocks. Drawn regions with several allocs that may come at any time. Rows that grow by append and are handed on from call to call. Deep values: what is told of a value without a word on where it lies; states over them. Operations over deep values.
-/
import Derived.Test.YtkijgpopaaknfaaGreatDoorMr2
import Derived.Laws.Externs
import Derived.Lib.Overlaps
set_option linter.unusedSimpArgs false
set_option linter.unusedVariables false
section
namespace Go.Sx
open Go
section
variable {P : Program} {C : Ctx} {n : Nat} {fr : Fr} {own own' own1 : List Own} {G : Gh} {Φ : Act → World → Prop}
variable {dst : Option Nat} {t t' ty' : TypeId} {pos : String} {af : Array Edge} {gd : Option (Nat × Bool)} {x y : Operand} {e s by_ : Nat}
theorem ch_storeN {v : Value} {b off k : Nat} {cs cs' : List Value} {ty : TypeId} {lo : Bool} (hx : opv fr x = some (.pointer (some ⟨b, off, none⟩))) (hy : opv fr y = some v) [hs : TyA P t k] [ho : OAt own b cs ty lo]
  (hc : ovw cs off (cellsL v) = cs') (hu : OUpd own b cs ty lo cs' own') (hk : (cellsL v).length = k) (hl : off + k ≤ cs.length) (hf : (cellsL v).all flat = true) (hd : dstOk n dst = true) (h : St C n (put fr dst undef) own' G Φ) :
  Ch P C n fr own G ⟨dst, .store t x y, ty', pos, af, gd⟩ Φ := ch_store hx hy (hc ▸ hu) hk hl hf hd h
theorem ch_storeN1 {v : Value} {b off : Nat} {cs cs' : List Value} {ty : TypeId} {lo : Bool} (hx : opv fr x = some (.pointer (some ⟨b, off, none⟩))) (hy : opv fr y = some v) [hs : TyS P t] [ho : OAt own b cs ty lo]
  (hc : cs.set off v = cs') (hu : OUpd own b cs ty lo cs' own') (hl : off < cs.length) (hf : flat v = true) (hd : dstOk n dst = true) (h : St C n (put fr dst undef) own' G Φ) :
  Ch P C n fr own G ⟨dst, .store t x y, ty', pos, af, gd⟩ Φ := ch_store1 hx hy (hc ▸ hu) hl hf hd h
theorem yd_cap [hT : TySl P t e s by_] {ad : Option Addr} {len cap : Nat} (hx : opv fr x = some (.slice ad len cap)) :
  Yd P C fr own G ⟨dst, .call ⟨.builtin .cap, #[x], #[t]⟩, ty', pos, af, gd⟩ (.int .i64 cap) := by
 intro a w hf hh
 simp only [execOp, resolve, List.map_toArray, List.map_cons, List.map_nil, opv_eval hf hx]
 have h1 : (Builtin.cap_ #[t] ty' #[.slice ad len cap]).run P w = .ok (.int .i64 cap) w := by
  simp only [Builtin.cap_]
  show (underlying t >>= _).run P w = _
  rw [run_ok_bind (hT.u w)]
  rfl
 exact value_of h1
theorem run_copy {w : World} [hT : TySl P t e s by_] {b off l c l2 c2 m : Nat} {ad2 : Option Addr} {cs ys : List Value} {ty : TypeId} (hm : Nat.min l2 l = m)
  (hb : w.heap[b]? = some (.cells ⟨cs⟩ ty (0, 0))) (hsy : (Builtin.firstCells s m (.slice ad2 l2 c2)).run P w = .ok ⟨ys⟩ w) (hf : ∀ v ∈ ys, flat v = true) (hl : off + ys.length ≤ cs.length) :
  (Builtin.copy_ #[t, t'] ty' #[.slice (some ⟨b, off, none⟩) l c, .slice ad2 l2 c2]).run P w =
   .ok (.int .i64 m) (setBlk w b (.cells ⟨ovw cs off ys⟩ ty (0, 0))) := by
 obtain ⟨i, hi, his, hib⟩ := hT.info
 subst his
 have hst := run_storeCells (P := P) ys w off 0 cs hf hb (by omega)
 rw [Nat.add_zero] at hst
 subst hm
 simp [Builtin.copy_, run_underlying hT.un, sizeOf, typeInfo, hi, Builtin.lenOf, hsy, hst]
 rfl
theorem ch_copy [hT : TySl P t e s by_] {b off l c l2 c2 m : Nat} {ad2 : Option Addr} {cs ys : List Value} {ty : TypeId} {lo : Bool} (hx : opv fr x = some (.slice (some ⟨b, off, none⟩) l c)) (hy : opv fr y = some (.slice ad2 l2 c2))
  (hm : Nat.min l2 l = m) (hsy : Src P C own G s m (.slice ad2 l2 c2) ys) (hf : ∀ v ∈ ys, flat v = true) (hl : off + ys.length ≤ cs.length) (hu : OUpd own b cs ty lo (ovw cs off ys) own') (hd : dstOk n dst = true)
  (h : St C n (put fr dst (.int .i64 m)) own' G Φ) : Ch P C n fr own G ⟨dst, .call ⟨.builtin .copy, #[x, y], #[t, t']⟩, ty', pos, af, gd⟩ Φ := by
 intro a w Q rl
 have hb := (rl.h.hown _ (hu.spec rl.h.nd).1).1
 refine ch_value (v := .int .i64 m) (w' := setBlk w b (.cells ⟨ovw cs off ys⟩ ty (0, 0))) ?_ (h _ _ ((rl.heap (rl.h.store hu)).put _ hd))
 simp only [execOp, resolve, List.map_toArray, List.map_cons, List.map_nil, opv_eval rl.fr hx, opv_eval rl.fr hy]
 exact value_of (run_copy hm hb (hsy w rl.h) hf hl)
theorem ch_append_room [hT : TySl P t e s by_] [hN : TyN P t'] {b len cap m cap2 : Nat} {ad2 : Option Addr} {cs ys : List Value} {lo : Bool}
  (hx : opv fr x = some (.slice (some ⟨b, 0, none⟩) len cap)) (hy : opv fr y = some (.slice ad2 m cap2)) (hu : OUpd own b cs e lo (ovw cs (len * s) ys) own') (hcs : cs.length = cap * s)
  (hsy : Src P C own G s m (.slice ad2 m cap2) ys) (hys : ys.length = m * s) (hf : ∀ v ∈ ys, flat v = true) (hneed : len + m ≤ cap) (hd : dstOk n dst = true)
  (h : St C n (put fr dst (.slice (some ⟨b, 0, none⟩) (len + m) cap)) own' G Φ) :
  Ch P C n fr own G ⟨dst, .call ⟨.builtin .append, #[x, y], #[t, t']⟩, ty', pos, af, gd⟩ Φ := by
 intro a w Q rl
 have hb := (rl.h.hown _ (hu.spec rl.h.nd).1).1
 refine ch_value (v := .slice (some ⟨b, 0, none⟩) (len + m) cap) (w' := setBlk w b (.cells ⟨ovw cs (len * s) ys⟩ e (0, 0))) ?_ (h _ _ ((rl.heap (rl.h.store hu)).put _ hd))
 simp only [execOp, resolve, List.map_toArray, List.map_cons, List.map_nil, opv_eval rl.fr hx, opv_eval rl.fr hy]
 exact value_of (run_append_room hb hcs (hsy w rl.h) hys hf hneed)
theorem ch_append_any [hT : TySl P t e s by_] [hN : TyN P t'] {z : Value} [hz : TyZ P e z] {b len cap m cap2 : Nat} {ad2 : Option Addr} {xs ys rest : List Value} {lo : Bool}
   (hx : opv fr x = some (.slice (some ⟨b, 0, none⟩) len cap)) (hy : opv fr y = some (.slice ad2 m cap2)) (hr : ORem own ⟨b, xs ++ rest, e, lo⟩ own1) (hxs : xs.length = len * s) (hcap : xs.length + rest.length = cap * s) (hlc : len ≤ cap)
   (hsy : Src P C own G s m (.slice ad2 m cap2) ys) (hys : ys.length = m * s) (hf : ∀ v ∈ ys, flat v = true)
   (hby : 0 < by_) (hb : (len + m) * by_ ≤ 140737488355328) (hzs : (cellsL z).length = s) (hd : dstOk n dst = true)
   (h : ∀ b lo' cap' rest', len + m ≤ cap' → rest'.length + (len + m) * s = cap' * s → St C n (put fr dst (.slice (some ⟨b, 0, none⟩) (len + m) cap')) (⟨b, xs ++ ys ++ rest', e, lo'⟩ :: own1) G Φ) :
   Ch P C n fr own G ⟨dst, .call ⟨.builtin .append, #[x, y], #[t, t']⟩, ty', pos, af, gd⟩ Φ := by
 intro a w Q rl
 have hp := rl.h.perm hr.perm
 have hblk := (hp.hown _ List.mem_cons_self).1
 simp only [] at hblk
 by_cases hneed : len + m ≤ cap
 · have hcs : (xs ++ rest).length = cap * s := by simp; omega
   have hrun := run_append_room (P := P) (t := t) (t' := t') (ty' := ty') (w := w) (len := len) hblk hcs (hsy w rl.h) hys hf hneed
   have hle : len * s + m * s ≤ cap * s := by rw [← Nat.add_mul]; exact Nat.mul_le_mul_right _ hneed
   have hov : ovw (xs ++ rest) (len * s) ys = xs ++ ys ++ rest.drop (m * s) := by
     rw [ovw_spec _ _ _ (by rw [hys]; omega), ← hxs]
     simp [hys, List.drop_append]
   refine ch_value (v := .slice (some ⟨b, 0, none⟩) (len + m) cap) (w' := setBlk w b (.cells ⟨ovw (xs ++ rest) (len * s) ys⟩ e (0, 0))) ?_ ?_
   · simp only [execOp, resolve, List.map_toArray, List.map_cons, List.map_nil, opv_eval rl.fr hx, opv_eval rl.fr hy]
     exact value_of hrun
   · rw [hov]
     refine h b lo cap (rest.drop (m * s)) hneed ?_ _ _ ((rl.heap (hp.store (.hd ..))).put _ hd)
     rw [List.length_drop, Nat.add_mul]
     omega
 · have hx' : Src P C own G s len (.slice (some ⟨b, 0, none⟩) len cap) xs := fun w' hw' => by
     have hb' := (((hw'.perm hr.perm).hown _ List.mem_cons_self).1)
     refine run_loadCells hb' ?_
     rw [takeL_of _ _ _ (by simp; omega), ← hxs]
     simp
   have hcap' : len + m ≤ grownCap w (len + m) cap e := by unfold grownCap; simp only [Question.cut]; omega
   have hrun := run_append_grow (P := P) (t := t) (t' := t') (ty' := ty') (w := w) (w' := w) (hx' _ rl.h.drew) (hsy _ rl.h.drew) (by omega) hby hb
   refine ch_value (v := .slice (some ⟨w.heap.size, 0, none⟩) (len + m) (grownCap w (len + m) cap e)) (w' := w.drew.alloc (.cells ⟨xs ++ ys ++ zeros z (grownCap w (len + m) cap e - (len + m))⟩ e)) ?_ ?_
   · simp only [execOp, resolve, List.map_toArray, List.map_cons, List.map_nil, opv_eval rl.fr hx, opv_eval rl.fr hy]
     exact value_of hrun
   · refine h w.heap.size _ _ _ hcap' ?_ _ _ ((rl.heap (((hp.drew).drop (List.sublist_cons_self _ _)).alloc _ _)).put _ hd)
     rw [zeros_len, hzs, ← Nat.add_mul]
     congr 1
     omega
theorem yd_overlaps {f : FuncId} {fn : Func} {tS tR : TypeId} (hf : P.funcs[f]? = some fn) (hname : (fn.name == "runtime.NumGoroutine") = false) (hb : fn.body.isNone = true) (hn : Extern.findNext fn = none)
  (he : Extern.find fn = some (Extern.SlicesOverlaps.overlaps #[tS, tS] #[tR])) [hT : TySl P tS e s by_] {args : Array Operand} {tys : Array TypeId} {fo : Operand}
  {b1 b2 o1 o2 l1 l2 c1 c2 : Nat} {cs1 cs2 : List Value} {t1 t2 : TypeId} {lo1 lo2 : Bool} (ho : opv fr fo = some (.func (.func f) #[] #[]))
  (hv : opvs fr args.toList = some [.slice (some ⟨b1, o1, none⟩) l1 c1, .slice (some ⟨b2, o2, none⟩) l2 c2]) [h1 : OAt own b1 cs1 t1 lo1] [h2 : OAt own b2 cs2 t2 lo2] (hne : b1 ≠ b2) (hc2 : cs2 ≠ []) :
  Yd P C fr own G ⟨dst, .call ⟨.value fo, args, tys⟩, ty', pos, af, gd⟩ (.bool false) := by
 intro a w hfr hh
 have e1 := (hh.hown _ h1.mem).1
 have e2 := (hh.hown _ h2.mem).1
 have ev : args.map a.eval = ⟨[.slice (some ⟨b1, o1, none⟩) l1 c1, .slice (some ⟨b2, o2, none⟩) l2 c2]⟩ := by apply Array.ext'; simpa using opvs_eval hfr hv
 simp only [] at e1 e2
 have hrun := Lib.run_overlaps_apart (P := P) w tS tR e hT.un s hT.siz ⟨b1, o1, none⟩ ⟨b2, o2, none⟩ l1 c1 l2 c2 hne t1 t2 cs1.length cs2.length
  (by simp [World.shape?, e1]) (by simp [World.shape?, e2]) (by simpa using hc2) (by simp [World.frozen?, e1]) (by simp [World.frozen?, e1])
 simp only [execOp, resolve, opv_eval hfr ho, ev, Deferred.ofValue]
 show (invoke (.fn (.func f) #[]) _).run P w = _
 simp only [invoke]
 have h3 := run_callFunc_extern (P := P) hf hname hb hn he
 rw [h3]
 simp [hrun, Result.andThen]
end
instance SubL.cons2 (l m : List Own) (o : Own) [h : SubL l m] : SubL (o :: l) (o :: m) := ⟨h.s.cons_cons o⟩
theorem dr0 {P : Program} {C : Ctx} {n : Nat} {fr : Fr} {own own0 : List Own} {G : Gh} {ops : Array Oper} {Q : Exit → Act → World → Prop} {b : Nat} {cs : List Value} {ty : TypeId} {lo : Bool} (fin : Nat → Bool) (π : List (Nat × Bool)) {id : Nat} (hm : P.follows .mixedOrders = true) (_hr : ORem own ⟨b, cs, ty, lo⟩ own0) (ho : (orderOk ops fin π (Array.replicate ops.size false) && Nat.ble π.length ops.size) = true)
  (h : St C n fr own G (dwL P ops (NoPan Q) (HS C own0 G) fin π)) : St C n fr own G ((Code.region id ops true).wp P Q) := by
 simp only [Bool.and_eq_true] at ho
 intro a w rl
 exact wp_mono (wp_region_any hm (wpAny_of_Z _ _ _ _ (wpAnyZ_of_order (fun _ _ _ _ _ h => h) π _ a _ ho.1 (h a _ (rl.heap rl.h.drew)) _ (by simpa using ho.2)))) NoPan.imp
/-! ### rows of values of several cells -/
def flatL (vs : List Value) : List Value := (vs.map cellsL).flatten
theorem flatL_len {s : Nat} : ∀ (vs : List Value), (∀ v ∈ vs, (cellsL v).length = s) → (flatL vs).length = vs.length * s
 | [], _ => by simp [flatL]
 | v :: vs, h => by
   have h1 := flatL_len vs (fun u hu => h u (List.mem_cons_of_mem _ hu))
   have h2 := h v List.mem_cons_self
   unfold flatL at *
   simp only [List.map_cons, List.flatten_cons, List.length_append, List.length_cons, h1, h2, Nat.succ_mul]
   omega
theorem flatL_app (us vs : List Value) : flatL (us ++ vs) = flatL us ++ flatL vs := by simp [flatL]
theorem flatL_one (v : Value) : flatL [v] = cellsL v := by simp [flatL]
theorem flatL_take {s : Nat} : ∀ (vs : List Value) (i : Nat), (∀ v ∈ vs, (cellsL v).length = s) → i ≤ vs.length → (flatL vs).take (i * s) = flatL (vs.take i)
 | vs, 0, _, _ => by simp [flatL]
 | [], i + 1, _, h => by simp at h
 | v :: vs, i + 1, h, hi => by
   have h1 := flatL_take vs i (fun u hu => h u (List.mem_cons_of_mem _ hu)) (by simpa using hi)
   have h2 := h v List.mem_cons_self
   unfold flatL at *
   simp only [List.map_cons, List.flatten_cons, List.take_succ_cons]
   rw [List.take_append, h2, List.take_of_length_le (by rw [h2, Nat.succ_mul]; omega), Nat.succ_mul, Nat.add_sub_cancel, h1]
theorem flatL_drop {s : Nat} : ∀ (vs : List Value) (i : Nat), (∀ v ∈ vs, (cellsL v).length = s) → i ≤ vs.length → (flatL vs).drop (i * s) = flatL (vs.drop i)
 | vs, 0, _, _ => by simp
 | [], i + 1, _, h => by simp at h
 | v :: vs, i + 1, h, hi => by
   have h1 := flatL_drop vs i (fun u hu => h u (List.mem_cons_of_mem _ hu)) (by simpa using hi)
   have h2 := h v List.mem_cons_self
   unfold flatL at *
   simp only [List.map_cons, List.flatten_cons, List.drop_succ_cons]
   rw [List.drop_append, h2, List.drop_eq_nil_of_le (by rw [h2, Nat.succ_mul]; omega), Nat.succ_mul, Nat.add_sub_cancel, h1, List.nil_append]
theorem takeL_flat {s : Nat} {vs rest : List Value} (h : ∀ v ∈ vs, (cellsL v).length = s) {i : Nat} (hi : i < vs.length) : takeL (flatL vs ++ rest) (i * s) s = some (cellsL vs[i]) := by
 have hl := flatL_len vs h
 have hle : i * s + s ≤ vs.length * s := by rw [← Nat.succ_mul]; exact Nat.mul_le_mul_right _ hi
 rw [takeL_of _ _ _ (by simp only [List.length_append]; omega)]
 congr 1
 rw [List.drop_append_of_le_length (by omega), flatL_drop vs i h (by omega), List.drop_eq_getElem_cons hi]
 have h2 := h vs[i] (List.getElem_mem hi)
 rw [show (vs[i] :: vs.drop (i + 1)) = [vs[i]] ++ vs.drop (i + 1) from rfl, flatL_app, flatL_one, List.append_assoc, List.take_append_of_le_length (by omega), List.take_of_length_le (by omega)]
theorem IsSl.of_flat {G : Gh} {b c s : Nat} {vs rest : List Value} (h : ∀ v ∈ vs, (cellsL v).length = s) (hg : G b = some (flatL vs ++ rest)) (hc : vs.length ≤ c) : IsSl G s ⟨some ⟨b, 0, none⟩, vs.length, c⟩ vs :=
 ⟨rfl, hc, .inr ⟨b, 0, _, rfl, hg, fun i hi => by rw [Nat.zero_add]; exact takeL_flat h hi⟩⟩
end Go.Sx
end

section
namespace Go.Sx
open Go
section
variable {P : Program} {C : Ctx} {n : Nat} {fr : Fr} {own own' : List Own} {G : Gh} {Φ : Act → World → Prop}
variable {dst : Option Nat} {ty' : TypeId} {pos : String} {af : Array Edge} {gd : Option (Nat × Bool)} {x y : Operand} {tys : Array TypeId}
theorem drS {ops : Array Oper} {Q : Exit → Act → World → Prop} (own0 : List Own) (fin : Nat → Bool) (π : List (Nat × Bool)) {id : Nat} (hm : P.follows .mixedOrders = true) (ho : (orderOk ops fin π (Array.replicate ops.size false) && Nat.ble π.length ops.size) = true)
  (h : St C n fr own G (dwL P ops (NoPan Q) (HS C own0 G) fin π)) : St C n fr own G ((Code.region id ops true).wp P Q) := by
 simp only [Bool.and_eq_true] at ho
 intro a w rl
 exact wp_mono (wp_region_any hm (wpAny_of_Z _ _ _ _ (wpAnyZ_of_order (fun _ _ _ _ _ h => h) π _ a _ ho.1 (h a _ (rl.heap rl.h.drew)) _ (by simpa using ho.2)))) NoPan.imp
end
end Go.Sx
end

section
set_option maxRecDepth 100000
namespace Go.Sx
open Go
section
variable {P : Program} {ops : Array Oper} {Q : Exit → Act → World → Prop} {S : World → Prop} {fin : Nat → Bool} {π₂ : List (Nat × Bool)}
def without (l : List Nat) (k : Nat) : List Nat := l.filter fun j => !Nat.beq j k
theorem without_lt {l : List Nat} {k : Nat} (h : k ∈ l) : (without l k).length < l.length := by
 unfold without
 rw [List.length_filter_lt_length_iff_exists]
 exact ⟨k, h, by simp⟩
def orderOkG (ops : Array Oper) (fin : Nat → Bool) (π₂ : List (Nat × Bool)) : Nat → List Nat → List (Nat × Bool) → Array Bool → Bool
 | 0, _, _, _ => false
 | _ + 1, [], [], listed => orderOk ops fin π₂ listed
 | n + 1, k :: ks, [], listed => !(Region.ready .any ops listed).isEmpty && (Region.ready .any ops listed).all (fun j => (k :: ks).contains j) && (k :: ks).all fun j => orderOkG ops fin π₂ n (without (k :: ks) j) [] (listed.setIfInBounds j true)
 | n + 1, ks, (i, true) :: r, listed => takeOk ops fin listed i && orderOkG ops fin π₂ n ks r (listed.setIfInBounds i true)
 | n + 1, ks, (i, false) :: r, listed => !(Region.ready .any ops listed).isEmpty && (Region.ready .any ops listed).all (fun j => Nat.beq j i || ks.contains j) && orderOkG ops fin π₂ n ks r (listed.setIfInBounds i true) && ks.all fun j => orderOkG ops fin π₂ n (without ks j) ((i, false) :: r) (listed.setIfInBounds j true)
def dwG (P : Program) (ops : Array Oper) (Q : Exit → Act → World → Prop) (S : World → Prop) (fin : Nat → Bool) (π₂ : List (Nat × Bool)) : List Nat → List (Nat × Bool) → Act → World → Prop
 | [], [], a, w => dwL P ops Q S fin π₂ a w
 | k :: ks, [], a, w => ∀ j, (h : j ∈ k :: ks) → wpOp P ops Q j (fun a' w' => (fin j = true ∨ S w') ∧ dwG P ops Q S fin π₂ (without (k :: ks) j) [] a' w') a w
 | ks, (i, true) :: r, a, w => ∃ o v, ops[i]? = some o ∧ S w ∧ YieldsIf P ops S o v a ∧ dwG P ops Q S fin π₂ ks r (a.put o.dst v) w
 | ks, (i, false) :: r, a, w => wpOp P ops Q i (fun a' w' => (fin i = true ∨ S w') ∧ dwG P ops Q S fin π₂ ks r a' w') a w ∧
     ∀ j, (h : j ∈ ks) → wpOp P ops Q j (fun a' w' => (fin j = true ∨ S w') ∧ dwG P ops Q S fin π₂ (without ks j) ((i, false) :: r) a' w') a w
termination_by ks π => ks.length + π.length
decreasing_by
 all_goals (first | (have := without_lt h; simp only [List.length_cons, List.length_nil] at *; omega) | (simp only [List.length_cons]; omega))
end
structure FD where
 k : Nat
 d : Nat
 t : TypeId
 z : Value
abbrev Fs := Nat → Option Nat
def fFs : List FD → Fs → Fr
 | [], _ => []
 | f :: r, fs => fF f.d (fs f.k) ++ fFs r fs
def fOs : List FD → Fs → List Own
 | [], _ => []
 | f :: r, fs => fO f.t f.z (fs f.k) ++ fOs r fs
def pend (fd : List FD) (fs : Fs) : List Nat := (fd.filter fun f => (fs f.k).isNone).map (·.k)
def updF (fs : Fs) (k b : Nat) : Fs := fun j => if j = k then some b else fs j
theorem look_app (x y : Fr) (j : Nat) : look (x ++ y) j = match look x j with | some v => some v | none => look y j := by
 induction x with
 | nil => rfl
 | cons e t ih =>
   obtain ⟨k, v⟩ := e
   rw [List.cons_append, look_cons, look_cons]
   split
   · rfl
   · exact ih
structure FDok (P : Program) (ops : Array Oper) (n : Nat) (fd : List FD) : Prop where
 op : ∀ f ∈ fd, ∃ ty' pos af, ops[f.k]? = some ⟨some f.d, .alloc f.t, ty', pos, af, none⟩ ∧ dstOk n (some f.d) = true
 z : ∀ f ∈ fd, TyZ P f.t f.z
 nd : (fd.map (·.k)).Nodup
 dd : ∀ f ∈ fd, ∀ g ∈ fd, f.d = g.d → f.k = g.k
section
variable {P : Program} {C : Ctx} {n : Nat} {fr : Fr} {own own0 : List Own} {G G0 : Gh} {ops : Array Oper} {Q : Exit → Act → World → Prop} {fin : Nat → Bool} {π π₂ : List (Nat × Bool)} {fd : List FD}
def dwH (P : Program) (ops : Array Oper) (Q : Exit → Act → World → Prop) (S : World → Prop) (fin : Nat → Bool) (π₂ : List (Nat × Bool)) (fd : List FD) (fs : Fs) (π : List (Nat × Bool)) : Act → World → Prop := dwG P ops Q S fin π₂ (pend fd fs) π
end
theorem FDok.o {P : Program} {ops : Array Oper} {n : Nat} {f : FD} (h : ∃ ty' pos af, ops[f.k]? = some ⟨some f.d, .alloc f.t, ty', pos, af, none⟩ ∧ dstOk n (some f.d) = true) (z : TyZ P f.t f.z) : FDok P ops n [f] :=
 ⟨List.forall_mem_cons.2 ⟨h, List.forall_mem_nil _⟩, List.forall_mem_cons.2 ⟨z, List.forall_mem_nil _⟩, by simp, by simp⟩
end Go.Sx
end

section
namespace Go.Sx
open Go
def Buf (s : Nat) (ty : TypeId) (x : SV) (vs : List Value) (B : List Own) : Prop :=
 (vs = [] ∧ x = ⟨none, 0, 0⟩ ∧ B = []) ∨
 ∃ b rest lo, x = ⟨some ⟨b, 0, none⟩, vs.length, x.c⟩ ∧ B = [⟨b, flatL vs ++ rest, ty, lo⟩] ∧ (flatL vs).length = vs.length * s ∧ (flatL vs).length + rest.length = x.c * s ∧ vs.length ≤ x.c
theorem Buf.nil (s : Nat) (ty : TypeId) : Buf s ty ⟨none, 0, 0⟩ [] [] := .inl ⟨rfl, rfl, rfl⟩
theorem Buf.relo {s : Nat} {ty : TypeId} {x : SV} {vs : List Value} {B : List Own} (h : Buf s ty x vs B) (fl : Nat → Bool) : Buf s ty x vs (B.map (Go.Sx.relo fl)) := by
 rcases h with ⟨h1, h2, h3⟩ | ⟨b, rest, lo, h1, h2, h3, h4, h5⟩
 · exact .inl ⟨h1, h2, by rw [h3]; rfl⟩
 · exact .inr ⟨b, rest, fl b, h1, by rw [h2]; rfl, h3, h4, h5⟩
theorem Buf.asB {s : Nat} {ty : TypeId} {x : SV} {vs : List Value} {B : List Own} (h : Buf s ty x vs B) : Buf s ty x vs (asB B) := by
 rcases h with ⟨h1, h2, h3⟩ | ⟨b, rest, lo, h1, h2, h3, h4, h5⟩
 · exact .inl ⟨h1, h2, by rw [h3]; rfl⟩
 · exact .inr ⟨b, rest, false, h1, by rw [h2]; rfl, h3, h4, h5⟩
theorem Buf.len {s : Nat} {ty : TypeId} {x : SV} {vs : List Value} {B : List Own} (h : Buf s ty x vs B) : x.n = vs.length := by
 rcases h with ⟨h1, h2, h3⟩ | ⟨b, rest, lo, h1, h2, h3, h4, h5⟩
 · rw [h2, h1]; rfl
 · rw [h1]
theorem flM_false {M : List Own} {m : Own} (h : m ∈ M) (hl : m.lo = false) : flM M m.b = false := by
 refine List.all_eq_false.2 ⟨m, h, ?_⟩
 simp [hl]
theorem flM_true {M : List Own} (b : Nat) (h : ∀ m ∈ M, m.lo = true) : flM M b = true := by
 refine List.all_eq_true.2 fun m hm => ?_
 simp [h m hm]
section
variable {P : Program} {C : Ctx} {n : Nat} {fr : Fr} {own own' : List Own} {G : Gh} {Φ : Act → World → Prop}
variable {dst : Option Nat} {t t' ty' : TypeId} {pos : String} {af : Array Edge} {gd : Option (Nat × Bool)} {x y : Operand} {e s by_ : Nat}
theorem ch_append_buf [hT : TySl P t e s by_] [hN : TyN P t'] {z : Value} [hz : TyZ P e z] {w : SV} {vs : List Value} {v : Value} {B : List Own} (L : List Own) {ad2 : Option Addr} {cap2 : Nat}
   (ho : own = L ++ B) (hB : Buf s e w vs B) (hx : opv fr x = some (.slice w.a w.n w.c)) (hy : opv fr y = some (.slice ad2 1 cap2))
   (hsy : Src P C own G s 1 (.slice ad2 1 cap2) (cellsL v)) (hv : (cellsL v).length = s) (hf : ∀ c ∈ cellsL v, flat c = true)
   (hby : 0 < by_) (hb : (vs.length + 1) * by_ ≤ 140737488355328) (hzs : (cellsL z).length = s) (hd : dstOk n dst = true)
   (h : ∀ w' B', Buf s e w' (vs ++ [v]) B' → St C n (put fr dst (.slice w'.a w'.n w'.c)) (L ++ B') G Φ) :
   Ch P C n fr own G ⟨dst, .call ⟨.builtin .append, #[x, y], #[t, t']⟩, ty', pos, af, gd⟩ Φ := by
 subst ho
 rcases hB with ⟨h1, h2, h3⟩ | ⟨b, rest, lo, h1, h2, h3, h4, h5⟩
 · subst h1 h2 h3
   rw [List.append_nil] at hsy ⊢
   refine ch_append_grow (z := z) (xs := []) (ys := cellsL v) hx hy (src_zero) hsy (by show 0 < 0 + 1; omega) hby (by simpa using hb) hd (fun b cap' hc => ?_)
   refine st_perm (L ++ [⟨b, [] ++ cellsL v ++ zeros z (cap' - (0 + 1)), e, true⟩]) ?_ (h ⟨some ⟨b, 0, none⟩, 1, cap'⟩ _ (.inr ⟨b, zeros z (cap' - (0 + 1)), true, rfl, ?_, ?_, ?_, by simpa using hc⟩))
   · exact (List.perm_append_comm (l₁ := [_]) (l₂ := L))
   · simp [flatL]
   · simp [flatL, hv]
   · simp only [List.nil_append, flatL_one, hv, zeros_len, hzs]
     obtain ⟨c, rfl⟩ : ∃ c, cap' = c + 1 := ⟨cap' - 1, by have : 0 + 1 ≤ cap' := hc; omega⟩
     rw [show c + 1 - (0 + 1) = c by omega, Nat.succ_mul, Nat.add_comm]
 · have hwc : w.a = some ⟨b, 0, none⟩ ∧ w.n = vs.length := by rw [h1]; exact ⟨rfl, rfl⟩
   rw [hwc.1, hwc.2] at hx
   subst h2
   have hsub : ORem (L ++ [⟨b, flatL vs ++ rest, e, lo⟩]) ⟨b, flatL vs ++ rest, e, lo⟩ L := by
     clear hsy h
     induction L with
     | nil => exact .hd ..
     | cons a l ih => exact .tl _ _ _ _ ih
   refine ch_append_any (z := z) (xs := flatL vs) (ys := cellsL v) (rest := rest) hx hy hsub h3 h4 h5 hsy (by rw [hv, Nat.one_mul]) hf hby hb hzs hd (fun b' lo' cap' rest' hc hr => ?_)
   refine st_perm (L ++ [⟨b', flatL vs ++ cellsL v ++ rest', e, lo'⟩]) ?_ (h ⟨some ⟨b', 0, none⟩, vs.length + 1, cap'⟩ _ (.inr ⟨b', rest', lo', by simp, ?_, ?_, ?_, by simpa using hc⟩))
   · exact (List.perm_append_comm (l₁ := [_]) (l₂ := L))
   · rw [flatL_app, flatL_one]
   · rw [flatL_app, flatL_one, List.length_append, h3, hv, List.length_append, List.length_singleton, Nat.succ_mul]
   · rw [flatL_app, flatL_one, List.length_append, h3, hv]
     rw [Nat.succ_mul] at hr
     show vs.length * s + s + rest'.length = cap' * s
     omega
end
instance SubL.nil (l : List Own) : SubL [] l := ⟨List.nil_sublist l⟩
theorem st_ownE {C : Ctx} {n : Nat} {fr : Fr} {own own' : List Own} {G : Gh} {Φ : Act → World → Prop} (e : own = own') (h : St C n fr own' G Φ) : St C n fr own G Φ := e ▸ h
theorem ch_callcO' {P : Program} {C : Ctx} {n : Nat} {fr : Fr} {own : List Own} {G : Gh} {Φ : Act → World → Prop} {dst : Option Nat} {ty' : TypeId} {pos : String} {af : Array Edge} {gd : Option (Nat × Bool)} {f : FuncId} {fo : Operand} {args : Array Operand} {tys : Array TypeId} {vs c1 c2 : List Value} {M rest : List Own} {K : Value → List Own → Gh → Prop} (ho : opv fr fo = some (.func (.func f) ⟨c1⟩ ⟨c2⟩)) (hv : opvs fr args.toList = some vs)
  (hp : own.Perm (M ++ rest)) (hF : FnO P f (c1 ++ vs ++ c2) M G K) (hd : dstOk n dst = true)
  (h : ∀ v own1 (G' : Gh) (fl : Nat → Bool), [GE G G'] → (∀ m ∈ M, m.lo = false → fl m.b = false) → ((∀ m ∈ M, m.lo = true) → ∀ b, fl b = true) → K v own1 G' → St C n (put fr dst v) (own1.map (relo fl) ++ rest) G' Φ) :
  Ch P C n fr own G ⟨dst, .call ⟨.value fo, args, tys⟩, ty', pos, af, gd⟩ Φ :=
 ch_callcO ho hv hp hF hd (fun v own1 G' _ hK => h v own1 G' (flM M) (fun _ hm hl => flM_false hm hl) (fun hl b => flM_true b hl) hK)
theorem flat_set {s : Nat} {rest : List Value} {x : Value} {j : Nat} (hj : j < s) : ∀ (vs : List Value) (n : Nat) (hn : n < vs.length), (∀ v ∈ vs, (cellsL v).length = s) →
   (flatL vs ++ rest).set (n * s + j) x = flatL (vs.take n) ++ ((cellsL vs[n]).set j x ++ (flatL (vs.drop (n + 1)) ++ rest))
 | [], n, hn, _ => by simp at hn
 | v :: vs, 0, hn, h => by
   have h2 := h v List.mem_cons_self
   have e : flatL (v :: vs) = cellsL v ++ flatL vs := by simp [flatL]
   rw [e, List.append_assoc, Nat.zero_mul, Nat.zero_add, List.set_append_left _ _ (by omega)]
   simp [flatL]
 | v :: vs, n + 1, hn, h => by
   have h2 := h v List.mem_cons_self
   have ih := flat_set (rest := rest) (x := x) hj vs n (by simpa using hn) (fun u hu => h u (List.mem_cons_of_mem _ hu))
   have e : flatL (v :: vs) = cellsL v ++ flatL vs := by simp [flatL]
   rw [e, List.append_assoc, List.set_append_right _ _ (by rw [h2, Nat.succ_mul]; omega), h2, show (n + 1) * s + j - s = n * s + j by rw [Nat.succ_mul]; omega, ih]
   simp [flatL]
theorem st_bufFreeze {C : Ctx} {n : Nat} {fr : Fr} {L B : List Own} {G : Gh} {Φ : Act → World → Prop} {s : Nat} {ty : TypeId} {x : SV} {vs : List Value} (hC : C.mb = []) (hB : Buf s ty x vs B) (hvs : ∀ v ∈ vs, (cellsL v).length = s)
   (h : ∀ G' : Gh, [GE G G'] → IsSl G' s x vs → St C n fr L G' Φ) : St C n fr (L ++ B) G Φ := by
 rcases hB with ⟨h1, h2, h3⟩ | ⟨b, rest, lo, h1, h2, h3, h4, h5⟩
 · subst h1 h2 h3
   rw [List.append_nil]
   exact @h G ⟨GLe.refl _⟩ (IsSl.nil _ _)
 · subst h2
   refine st_perm (⟨b, flatL vs ++ rest, ty, lo⟩ :: L) List.perm_append_comm ?_
   refine st_new hC ?_
   refine st_freeze b (.hd ..) ?_
   intro G' hG hg
   refine @h G' hG ?_
   rw [h1]
   exact IsSl.of_flat hvs hg.h h5
end Go.Sx
end

section
set_option maxRecDepth 100000
namespace Go.Sx
open Go
inductive DV where
 | v (x : Value)
 | ag (l : List DV)
 | tp (l : List DV)
 | pt (l : List DV)
 | op (b : Bool) (l : List DV)
 | sl (l : List DV)
mutual
def Is (G : Gh) : DV → Value → Prop
 | .v x, y => y = x
 | .ag l, y => ∃ m, y = .agg ⟨m⟩ ∧ IsLs G l m
 | .tp l, y => ∃ m, y = .tuple ⟨m⟩ ∧ IsLs G l m
 | .pt l, y => ∃ b m, y = .pointer (some ⟨b, 0, none⟩) ∧ G b = some m ∧ IsLs G l m
 | .op b l, y => (b = false ∧ y = .pointer none) ∨ (b = true ∧ ∃ b m, y = .pointer (some ⟨b, 0, none⟩) ∧ G b = some m ∧ IsLs G l m)
 | .sl l, y => ∃ (s : Nat) (x : SV) (es : List Value), y = .slice x.a x.n x.c ∧ IsSl G s x es ∧ IsLs G l es
def IsLs (G : Gh) : List DV → List Value → Prop
 | [], m => m = []
 | d :: t, m => ∃ y n, m = y :: n ∧ Is G d y ∧ IsLs G t n
end
mutual
theorem Is.up' {A G : Gh} (h : GLe A G) : ∀ (d : DV) (y : Value), Is A d y → Is G d y
 | .v x, y, k => by simp only [Is] at k ⊢; exact k
 | .ag l, y, k => by simp only [Is] at k ⊢; obtain ⟨m, e, k⟩ := k; exact ⟨m, e, IsLs.up' h l m k⟩
 | .tp l, y, k => by simp only [Is] at k ⊢; obtain ⟨m, e, k⟩ := k; exact ⟨m, e, IsLs.up' h l m k⟩
 | .pt l, y, k => by simp only [Is] at k ⊢; obtain ⟨b, m, e, hb, k⟩ := k; exact ⟨b, m, e, h _ _ hb, IsLs.up' h l m k⟩
 | .op _ l, y, k => by simp only [Is] at k ⊢; exact k.imp id fun ⟨e1, b, m, e, hb, k⟩ => ⟨e1, b, m, e, h _ _ hb, IsLs.up' h l m k⟩
 | .sl l, y, k => by simp only [Is] at k ⊢; obtain ⟨s, x, es, e, hs, k⟩ := k; exact ⟨s, x, es, e, hs.up' h, IsLs.up' h l es k⟩
theorem IsLs.up' {A G : Gh} (h : GLe A G) : ∀ (d : List DV) (y : List Value), IsLs A d y → IsLs G d y
 | [], y, k => by simp only [IsLs] at k ⊢; exact k
 | d :: t, y, k => by simp only [IsLs] at k ⊢; obtain ⟨u, n, e, h1, h2⟩ := k; exact ⟨u, n, e, Is.up' h d u h1, IsLs.up' h t n h2⟩
end
section
variable {G : Gh}
theorem Is.up {A : Gh} {d : DV} {y : Value} (k : Is A d y) (h : GLe A G) : Is G d y := Is.up' h d y k
theorem IsLs.up {A : Gh} {d : List DV} {y : List Value} (k : IsLs A d y) (h : GLe A G) : IsLs G d y := IsLs.up' h d y k
theorem is_v {x y : Value} : Is G (.v x) y ↔ y = x := by simp only [Is]
theorem is_ag {l : List DV} {y : Value} : Is G (.ag l) y ↔ ∃ m, y = .agg ⟨m⟩ ∧ IsLs G l m := by simp only [Is]
theorem is_tp {l : List DV} {y : Value} : Is G (.tp l) y ↔ ∃ m, y = .tuple ⟨m⟩ ∧ IsLs G l m := by simp only [Is]
theorem is_pt {l : List DV} {y : Value} : Is G (.pt l) y ↔ ∃ b m, y = .pointer (some ⟨b, 0, none⟩) ∧ G b = some m ∧ IsLs G l m := by simp only [Is]
theorem is_op {b : Bool} {l : List DV} {y : Value} : Is G (.op b l) y ↔ (b = false ∧ y = .pointer none) ∨ (b = true ∧ Is G (.pt l) y) := by simp only [Is]
theorem is_sl {l : List DV} {y : Value} : Is G (.sl l) y ↔ ∃ (s : Nat) (x : SV) (es : List Value), y = .slice x.a x.n x.c ∧ IsSl G s x es ∧ IsLs G l es := by simp only [Is]
theorem isl_nil {m : List Value} : IsLs G [] m ↔ m = [] := by simp only [IsLs]
theorem isl_cons {d : DV} {t : List DV} {m : List Value} : IsLs G (d :: t) m ↔ ∃ y n, m = y :: n ∧ Is G d y ∧ IsLs G t n := by simp only [IsLs]
theorem IsLs.nil : IsLs G [] [] := isl_nil.2 rfl
theorem IsLs.cons {d : DV} {t : List DV} {y : Value} {n : List Value} (h : Is G d y) (k : IsLs G t n) : IsLs G (d :: t) (y :: n) := isl_cons.2 ⟨y, n, rfl, h, k⟩
theorem IsLs.uncons {d : DV} {t : List DV} {y : Value} {n : List Value} (h : IsLs G (d :: t) (y :: n)) : Is G d y ∧ IsLs G t n := by
 obtain ⟨u, m, e, h1, h2⟩ := isl_cons.1 h
 cases e
 exact ⟨h1, h2⟩
theorem IsLs.len : ∀ {d : List DV} {m : List Value}, IsLs G d m → m.length = d.length
 | [], m, h => by rw [isl_nil.1 h]; rfl
 | d :: t, m, h => by
   obtain ⟨y, n, rfl, _, h2⟩ := isl_cons.1 h
   simp [h2.len]
theorem IsLs.get : ∀ {l : List DV} {m : List Value} {i : Nat} {d : DV}, IsLs G l m → l[i]? = some d → ∃ y, m[i]? = some y ∧ Is G d y
 | [], m, i, d, h, e => by simp at e
 | x :: t, m, 0, d, h, e => by
   obtain ⟨y, n, rfl, h1, h2⟩ := isl_cons.1 h
   simp at e; subst e; exact ⟨y, rfl, h1⟩
 | x :: t, m, i + 1, d, h, e => by
   obtain ⟨y, n, rfl, h1, h2⟩ := isl_cons.1 h
   simp at e; simpa using h2.get e
theorem IsLs.app : ∀ {a b : List DV} {m n : List Value}, IsLs G a m → IsLs G b n → IsLs G (a ++ b) (m ++ n)
 | [], b, m, n, h, k => by rw [isl_nil.1 h]; exact k
 | d :: t, b, m, n, h, k => by
   obtain ⟨y, m', rfl, h1, h2⟩ := isl_cons.1 h
   exact .cons h1 (h2.app k)
theorem IsLs.unapp : ∀ {a b : List DV} {m : List Value}, IsLs G (a ++ b) m → ∃ x y, m = x ++ y ∧ IsLs G a x ∧ IsLs G b y
 | [], b, m, h => ⟨[], m, rfl, .nil, h⟩
 | d :: t, b, m, h => by
   obtain ⟨y, m', rfl, h1, h2⟩ := isl_cons.1 h
   obtain ⟨u, v, rfl, h3, h4⟩ := h2.unapp
   exact ⟨y :: u, v, rfl, .cons h1 h3, h4⟩
theorem IsLs.drop : ∀ {a : List DV} {m : List Value} (k : Nat), IsLs G a m → IsLs G (a.drop k) (m.drop k)
 | _, _, 0, h => h
 | [], m, k + 1, h => by rw [isl_nil.1 h]; exact .nil
 | d :: t, m, k + 1, h => by
   obtain ⟨y, m', rfl, h1, h2⟩ := isl_cons.1 h
   exact h2.drop k
theorem IsLs.take : ∀ {a : List DV} {m : List Value} (k : Nat), IsLs G a m → IsLs G (a.take k) (m.take k)
 | _, _, 0, h => .nil
 | [], m, k + 1, h => by rw [isl_nil.1 h]; exact .nil
 | d :: t, m, k + 1, h => by
   obtain ⟨y, m', rfl, h1, h2⟩ := isl_cons.1 h
   exact .cons h1 (h2.take k)
theorem IsLs.set : ∀ {a : List DV} {m : List Value} (k : Nat) {d : DV} {y : Value}, IsLs G a m → Is G d y → IsLs G (a.set k d) (m.set k y)
 | [], m, k, d, y, h, _ => by rw [isl_nil.1 h]; exact .nil
 | x :: t, m, 0, d, y, h, k => by
   obtain ⟨u, m', rfl, h1, h2⟩ := isl_cons.1 h
   exact .cons k h2
 | x :: t, m, j + 1, d, y, h, k => by
   obtain ⟨u, m', rfl, h1, h2⟩ := isl_cons.1 h
   exact .cons h1 (h2.set j k)
end
def DV.flat : DV → Bool
 | .v x => Go.Sx.flat x
 | .ag _ => false
 | .tp _ => false
 | .pt _ => true
 | .op .. => true
 | .sl .. => true
def DV.okc : DV → Bool
 | .ag l => l.all DV.flat
 | d => d.flat
def DV.cells : DV → List DV
 | .ag l => l
 | d => [d]
section
variable {G : Gh}
theorem Is.flat {d : DV} {y : Value} (h : Is G d y) (k : d.flat = true) : Go.Sx.flat y = true := by
 cases d with
 | v x => rw [is_v.1 h]; exact k
 | ag l => cases k
 | tp l => cases k
 | pt l => obtain ⟨b, m, rfl, _⟩ := is_pt.1 h; rfl
 | op b l =>
   rcases is_op.1 h with ⟨_, rfl⟩ | ⟨_, h⟩
   · rfl
   · obtain ⟨b, m, rfl, _⟩ := is_pt.1 h; rfl
 | sl l => obtain ⟨s, x, es, rfl, _⟩ := is_sl.1 h; rfl
theorem cellsL_flat {y : Value} (h : Go.Sx.flat y = true) : cellsL y = [y] := by cases y <;> first | rfl | (simp [Go.Sx.flat] at h)
theorem IsLs.flat : ∀ {l : List DV} {m : List Value}, IsLs G l m → l.all DV.flat = true → ∀ v ∈ m, Go.Sx.flat v = true
 | [], m, h, _, v, hv => by rw [isl_nil.1 h] at hv; cases hv
 | d :: t, m, h, k, v, hv => by
   obtain ⟨y, n, rfl, h1, h2⟩ := isl_cons.1 h
   simp only [List.all_cons, Bool.and_eq_true] at k
   rcases List.mem_cons.1 hv with rfl | hv
   · exact h1.flat k.1
   · exact h2.flat k.2 v hv
theorem Is.cells {d : DV} {y : Value} (h : Is G d y) (k : d.okc = true) : IsLs G d.cells (cellsL y) ∧ ∀ v ∈ cellsL y, Go.Sx.flat v = true := by
 cases d with
 | ag l => obtain ⟨m, rfl, hm⟩ := is_ag.1 h; exact ⟨hm, hm.flat k⟩
 | _ =>
   have := h.flat k
   rw [cellsL_flat this]
   exact ⟨.cons h .nil, fun v hv => by rw [List.mem_singleton.1 hv]; exact this⟩
end
def takeD : List DV → Nat → Nat → Option (List DV)
 | _, 0, 0 => some []
 | [], 0, _ + 1 => none
 | v :: t, 0, k + 1 => match takeD t 0 k with | some l => some (v :: l) | none => none
 | [], _ + 1, _ => none
 | _ :: t, off + 1, k => takeD t off k
def ovD : List DV → Nat → List DV → List DV
 | cs, _, [] => cs
 | cs, off, v :: vs => ovD (cs.set off v) (off + 1) vs
section
variable {G : Gh}
theorem IsLs.takeD : ∀ {ds : List DV} {m : List Value} {off k : Nat} {l : List DV}, IsLs G ds m → takeD ds off k = some l → ∃ n, takeL m off k = some n ∧ IsLs G l n
 | [], m, 0, 0, l, h, e => by rw [isl_nil.1 h]; simp only [Sx.takeD] at e; cases e; exact ⟨[], rfl, .nil⟩
 | d :: t, m, 0, 0, l, h, e => by
   obtain ⟨y, m', rfl, h1, h2⟩ := isl_cons.1 h
   simp only [Sx.takeD] at e; cases e; exact ⟨[], rfl, .nil⟩
 | [], m, 0, k + 1, l, h, e => by simp [Sx.takeD] at e
 | d :: t, m, 0, k + 1, l, h, e => by
   obtain ⟨y, m', rfl, h1, h2⟩ := isl_cons.1 h
   simp only [Sx.takeD] at e
   split at e
   · rename_i l' hl'
     cases e
     obtain ⟨n, hn, hl⟩ := h2.takeD hl'
     exact ⟨y :: n, by simp only [takeL, hn], .cons h1 hl⟩
   · cases e
 | [], m, off + 1, k, l, h, e => by simp [Sx.takeD] at e
 | d :: t, m, off + 1, k, l, h, e => by
   obtain ⟨y, m', rfl, h1, h2⟩ := isl_cons.1 h
   exact h2.takeD (off := off) (k := k) e
theorem IsLs.ov : ∀ {vs ds : List DV} {n m : List Value} {off : Nat}, IsLs G ds m → IsLs G vs n → IsLs G (ovD ds off vs) (ovw m off n)
 | [], ds, n, m, off, h, k => by rw [isl_nil.1 k]; exact h
 | v :: vs, ds, n, m, off, h, k => by
   obtain ⟨y, n', rfl, h1, h2⟩ := isl_cons.1 k
   exact (h.set off h1).ov h2
end
/-! ### frames -/
inductive FV where
 | d (x : DV)
 /-- a pointer to cells that are written no more -/
 | ep (l : List DV)
 /-- a pointer to a cell of element i of a row of the call's own -/
 | be (x : SV) (s i j : Nat)
 /-- a slice without room behind it -/
 | ct (l : List DV)
abbrev FrF := List (Nat × FV)
def IsF (G : Gh) : FV → Value → Prop
 | .d x, y => Is G x y
 | .ep l, y => ∃ b off cs m, y = .pointer (some ⟨b, off, none⟩) ∧ G b = some cs ∧ takeL cs off l.length = some m ∧ IsLs G l m
 | .be x s i j, y => ∃ b, x.a = some ⟨b, 0, none⟩ ∧ y = .pointer (some ⟨b, i * s + j, none⟩)
 | .ct l, y => (∃ a n, y = .slice a n n) ∧ Is G (.sl l) y
theorem isF_v {G : Gh} {x y : Value} : IsF G (.d (.v x)) y ↔ y = x := is_v (G := G)
theorem IsF.up {A G : Gh} {f : FV} {y : Value} (h : IsF A f y) (k : GLe A G) : IsF G f y := by
 cases f with
 | d x => exact Is.up h k
 | ep l => obtain ⟨b, off, cs, m, e, hb, ht, hl⟩ := h; exact ⟨b, off, cs, m, e, k _ _ hb, ht, hl.up k⟩
 | be x s i j => exact h
 | ct l => exact ⟨h.1, h.2.up k⟩
def lookF : FrF → Nat → Option FV
 | [], _ => none
 | (k, v) :: t, j => bif Nat.beq k j then some v else lookF t j
def putF (fr : FrF) (dst : Option Nat) (v : FV) : FrF := match dst with | some d => (d, v) :: fr | none => fr
def FrIs (G : Gh) : FrF → Fr → Prop
 | [], m => m = []
 | (k, f) :: t, m => ∃ y n, m = (k, y) :: n ∧ IsF G f y ∧ FrIs G t n
theorem FrIs.up {A G : Gh} (h : GLe A G) : ∀ {fr : FrF} {m : Fr}, FrIs A fr m → FrIs G fr m
 | [], m, k => k
 | (k, f) :: t, m, ⟨y, n, e, h1, h2⟩ => ⟨y, n, e, h1.up h, FrIs.up h h2⟩
theorem FrIs.put {G : Gh} {fr : FrF} {m : Fr} (h : FrIs G fr m) {f : FV} {y : Value} (k : IsF G f y) (dst : Option Nat) : FrIs G (putF fr dst f) (put m dst y) := by
 cases dst with
 | none => exact h
 | some d => exact ⟨y, m, rfl, k, h⟩
theorem FrIs.look {G : Gh} : ∀ {fr : FrF} {m : Fr} {k : Nat} {f : FV}, FrIs G fr m → lookF fr k = some f → ∃ y, Sx.look m k = some y ∧ IsF G f y
 | [], m, k, f, h, e => by cases e
 | (j, g) :: t, m, k, f, h, e => by
   obtain ⟨y, n, rfl, h1, h2⟩ := h
   simp only [lookF] at e
   simp only [Sx.look]
   cases hb : Nat.beq j k with
   | true => rw [hb] at e; cases e; exact ⟨y, rfl, h1⟩
   | false => rw [hb] at e; exact FrIs.look h2 e
def opF (fr : FrF) : Operand → Option FV
 | .tmp k => lookF fr k
 | .const v => some (.d (.v v))
 | .global g => some (.d (.v (.pointer (some ⟨g, 0, none⟩))))
 | .func f => some (.d (.v (.func (.func f) #[] #[])))
def toD : FV → Option DV
 | .d (.v (.slice none 0 0)) => some (.sl [])
 | .d d => some d
 | .ct l => some (.sl l)
 | _ => none
def opD (fr : FrF) (x : Operand) : Option DV := (opF fr x).bind toD
def opFs (fr : FrF) : List Operand → Option (List DV)
 | [] => some []
 | x :: t => match opD fr x, opFs fr t with
   | some d, some l => some (d :: l)
   | _, _ => none
theorem toD_is {G : Gh} {f : FV} {d : DV} {y : Value} (h : IsF G f y) (e : toD f = some d) : Is G d y := by
 unfold toD at e
 split at e
 · cases e
   rw [isF_v.1 h]
   exact is_sl.2 ⟨0, ⟨none, 0, 0⟩, [], rfl, .nil G 0, .nil⟩
 · cases e; exact h
 · cases e; exact h.2
 · cases e
theorem FrIs.op {G : Gh} {fr : FrF} {m : Fr} (h : FrIs G fr m) {x : Operand} {f : FV} (e : opF fr x = some f) : ∃ y, opv m x = some y ∧ IsF G f y := by
 cases x with
 | tmp k => exact h.look e
 | const v => cases e; exact ⟨v, rfl, isF_v.2 rfl⟩
 | global g => cases e; exact ⟨_, rfl, isF_v.2 rfl⟩
 | func g => cases e; exact ⟨_, rfl, isF_v.2 rfl⟩
theorem FrIs.opv {G : Gh} {fr : FrF} {m : Fr} (h : FrIs G fr m) {x : Operand} {v : Value} (e : opF fr x = some (.d (.v v))) : Sx.opv m x = some v := by
 obtain ⟨y, h1, h2⟩ := h.op e
 rw [h1, isF_v.1 h2]
theorem FrIs.opD {G : Gh} {fr : FrF} {m : Fr} (h : FrIs G fr m) {x : Operand} {d : DV} (e : Sx.opD fr x = some d) : ∃ y, Sx.opv m x = some y ∧ Is G d y := by
 unfold Sx.opD at e
 cases ho : opF fr x with
 | none => rw [ho] at e; cases e
 | some f =>
   rw [ho] at e
   obtain ⟨y, h1, h2⟩ := h.op ho
   exact ⟨y, h1, toD_is h2 e⟩
theorem FrIs.ops {G : Gh} {fr : FrF} {m : Fr} (h : FrIs G fr m) : ∀ {x : List Operand} {l : List DV}, opFs fr x = some l → ∃ y, opvs m x = some y ∧ IsLs G l y
 | [], l, e => by simp only [opFs] at e; cases e; exact ⟨[], rfl, .nil⟩
 | x :: t, l, e => by
   simp only [opFs] at e
   split at e
   · rename_i d l' hd hl'
     cases e
     obtain ⟨y, h1, h2⟩ := h.opD hd
     obtain ⟨ys, h3, h4⟩ := h.ops hl'
     exact ⟨y :: ys, by simp only [opvs, h1, h3], .cons h2 h4⟩
   · cases e
/-! ### blocks of the call's own: variables, rows -/
structure OwnD where
 b : Nat
 cs : List DV
 ty : TypeId
 lo : Bool
structure BufD where
 x : SV
 s : Nat
 ty : TypeId
 ds : List DV
 lo : Bool
class OAtD (own : List OwnD) (b : Nat) (cs : outParam (List DV)) (ty : outParam TypeId) (lo : outParam Bool) : Prop where
 mem : ⟨b, cs, ty, lo⟩ ∈ own
instance OAtD.i1 (b : Nat) (cs : List DV) (ty : TypeId) (lo : Bool) (t : List OwnD) : OAtD (⟨b, cs, ty, lo⟩ :: t) b cs ty lo := ⟨List.mem_cons_self⟩
instance OAtD.i2 (o : OwnD) (t : List OwnD) (b : Nat) (cs : List DV) (ty : TypeId) (lo : Bool) [h : OAtD t b cs ty lo] : OAtD (o :: t) b cs ty lo := ⟨List.mem_cons_of_mem _ h.mem⟩
class BAtD (bs : List BufD) (x : SV) (s : outParam Nat) (ty : outParam TypeId) (ds : outParam (List DV)) (lo : outParam Bool) : Prop where
 mem : ⟨x, s, ty, ds, lo⟩ ∈ bs
instance BAtD.i1 (x : SV) (s : Nat) (ty : TypeId) (ds : List DV) (lo : Bool) (t : List BufD) : BAtD (⟨x, s, ty, ds, lo⟩ :: t) x s ty ds lo := ⟨List.mem_cons_self⟩
instance BAtD.i2 (o : BufD) (t : List BufD) (x : SV) (s : Nat) (ty : TypeId) (ds : List DV) (lo : Bool) [h : BAtD t x s ty ds lo] : BAtD (o :: t) x s ty ds lo := ⟨List.mem_cons_of_mem _ h.mem⟩
def OwnsIs (G : Gh) : List OwnD → List Own → Prop
 | [], m => m = []
 | o :: t, m => ∃ cs n, m = ⟨o.b, cs, o.ty, o.lo⟩ :: n ∧ IsLs G o.cs cs ∧ OwnsIs G t n
def BufIs (G : Gh) (β : BufD) (B : List Own) : Prop :=
 ∃ vs, Buf β.s β.ty β.x vs B ∧ IsLs G β.ds vs ∧ (∀ v ∈ vs, (cellsL v).length = β.s) ∧ (β.lo = true → ∀ o ∈ B, o.lo = true)
def BufsIs (G : Gh) : List BufD → List Own → Prop
 | [], m => m = []
 | β :: t, m => ∃ B n, m = B ++ n ∧ BufIs G β B ∧ BufsIs G t n
theorem OwnsIs.up {A G : Gh} (h : GLe A G) : ∀ {own : List OwnD} {m : List Own}, OwnsIs A own m → OwnsIs G own m
 | [], m, k => k
 | o :: t, m, ⟨cs, n, e, h1, h2⟩ => ⟨cs, n, e, h1.up h, OwnsIs.up h h2⟩
theorem BufsIs.up {A G : Gh} (h : GLe A G) : ∀ {bs : List BufD} {m : List Own}, BufsIs A bs m → BufsIs G bs m
 | [], m, k => k
 | o :: t, m, ⟨B, n, e, ⟨vs, h1, h2, h3, h4⟩, h5⟩ => ⟨B, n, e, ⟨vs, h1, h2.up h, h3, h4⟩, BufsIs.up h h5⟩
def OB (G : Gh) (own : List OwnD) (bs : List BufD) (ov : List Own) : Prop := ∃ a b, ov = a ++ b ∧ OwnsIs G own a ∧ BufsIs G bs b
theorem OB.up {A G : Gh} {own : List OwnD} {bs : List BufD} {ov : List Own} (k : OB A own bs ov) (h : GLe A G) : OB G own bs ov := by
 obtain ⟨a, b, e, h1, h2⟩ := k
 exact ⟨a, b, e, h1.up h, h2.up h⟩
structure Sr (GB G : Gh) (fr : FrF) (own : List OwnD) (bs : List BufD) (frv : Fr) (ov : List Own) : Prop where
 gb : GLe GB G
 fr : FrIs G fr frv
 ob : OB G own bs ov
structure Ext where
 fr : Fr
 own : List Own
def E0 : Ext := ⟨[], []⟩
structure SD (GB : Gh) (C : Ctx) (n : Nat) (E : Ext) (fr : FrF) (own : List OwnD) (bs : List BufD) (Φ : Act → World → Prop) : Prop where
 run : ∀ G frv ov, Sr GB G fr own bs frv ov → St C n (frv ++ E.fr) (ov ++ E.own) G Φ
instance {GB : Gh} {C : Ctx} {n : Nat} {E : Ext} {fr : FrF} {own : List OwnD} {bs : List BufD} {Φ : Act → World → Prop} : CoeFun (SD GB C n E fr own bs Φ) (fun _ => ∀ G frv ov, Sr GB G fr own bs frv ov → St C n (frv ++ E.fr) (ov ++ E.own) G Φ) := ⟨SD.run⟩
def YD (P : Program) (GB : Gh) (C : Ctx) (fr : FrF) (own : List OwnD) (bs : List BufD) (o : Oper) (f : FV) : Prop :=
 ∀ G frv ov, Sr GB G fr own bs frv ov → ∃ y, IsF G f y ∧ ∀ G', GLe G G' → Yd P C frv ov G' o y
def CD (P : Program) (GB : Gh) (C : Ctx) (n : Nat) (E : Ext) (fr : FrF) (own : List OwnD) (bs : List BufD) (o : Oper) (Φ : Act → World → Prop) : Prop :=
 ∀ G frv ov, Sr GB G fr own bs frv ov → Ch P C n (frv ++ E.fr) (ov ++ E.own) G o Φ
def TD (P : Program) (GB : Gh) (C : Ctx) (n : Nat) (fr : FrF) (own : List OwnD) (bs : List BufD) (o : Oper) (fr' : FrF) (own' : List OwnD) (bs' : List BufD) : Prop :=
 ∀ (GB' : Gh) (E : Ext) (Φ : Act → World → Prop), GLe GB GB' → SD GB' C n E fr' own' bs' Φ → CD P GB' C n E fr own bs o Φ
def TF (P : Program) (GB : Gh) (C : Ctx) (n : Nat) (fr : FrF) (own : List OwnD) (bs : List BufD) (o : Oper) (ι : Type) (fr' : ι → FrF) (own' : ι → List OwnD) (bs' : ι → List BufD) : Prop :=
 ∀ (GB' : Gh) (E : Ext) (Φ : Act → World → Prop), GLe GB GB' → (∀ x, SD GB' C n E (fr' x) (own' x) (bs' x) Φ) → CD P GB' C n E fr own bs o Φ
section
variable {P : Program} {GB : Gh} {C : Ctx} {n : Nat} {E : Ext} {fr fr' : FrF} {own own' : List OwnD} {bs bs' : List BufD} {ops : Array Oper} {Q : Exit → Act → World → Prop} {r : List Oper} {Φ : Act → World → Prop}
theorem FrOk.appL {x y : Fr} {a : Act} (h : FrOk (x ++ y) a) : FrOk x a := fun k v hk => h k v (by rw [look_app, hk])
theorem Yd.ext {o : Oper} {v : Value} {x y : Fr} {p q : List Own} {G : Gh} (h : Yd P C x p G o v) : Yd P C (x ++ y) (p ++ q) G o v :=
 fun a w hf hh => h a w hf.appL (hh.drop (List.sublist_append_left _ _))
theorem put_app (x y : Fr) (dst : Option Nat) (v : Value) : put (x ++ y) dst v = put x dst v ++ y := by cases dst <;> rfl
theorem look_appS {x y : Fr} {k : Nat} {v : Value} (h : look x k = some v) : look (x ++ y) k = some v := by rw [look_app, h]
theorem opv_app {x y : Fr} {o : Operand} {v : Value} (h : opv x o = some v) : opv (x ++ y) o = some v := by
 cases o with
 | tmp k => exact look_appS h
 | const u => exact h
 | global g => exact h
 | func f => exact h
theorem opvs_app {x y : Fr} : ∀ {l : List Operand} {vs : List Value}, opvs x l = some vs → opvs (x ++ y) l = some vs
 | [], vs, h => h
 | o :: t, vs, h => by
   simp only [opvs] at h ⊢
   split at h
   · rename_i v l hv hl
     cases h
     rw [opv_app hv, opvs_app hl]
   · cases h
theorem tY {dst : Option Nat} {ty' : TypeId} {pos : String} {af : Array Edge} {op : Op} {f : FV} (hy : YD P GB C fr own bs ⟨dst, op, ty', pos, af, none⟩ f) (hd : dstOk n dst = true)
  (h : SD GB C n E (putF fr dst f) own bs (wpL P ops Q r)) : SD GB C n E fr own bs (wpL P ops Q (⟨dst, op, ty', pos, af, none⟩ :: r)) := by
 refine ⟨fun G frv ov s => ?_⟩
 obtain ⟨y, h1, h2⟩ := hy G frv ov s
 refine st_y (h2 G (GLe.refl _)).ext rfl hd ?_
 show St _ _ (put _ dst _) _ _ _
 rw [put_app]
 exact h G _ ov ⟨s.gb, s.fr.put h1 _, s.ob⟩
theorem tS {dst : Option Nat} {ty' : TypeId} {pos : String} {af : Array Edge} {op : Op} {j d : Nat} {b c : Bool} (hj : (ops[j]?).bind (·.dst) = some d) (hl : lookF fr d = some (.d (.v (.bool c)))) (hbc : (c == b) = false) (hd : dstOk n dst = true)
  (h : SD GB C n E (putF fr dst (.d (.v undef))) own bs (wpL P ops Q r)) : SD GB C n E fr own bs (wpL P ops Q (⟨dst, op, ty', pos, af, some (j, b)⟩ :: r)) := by
 refine ⟨fun G frv ov s => ?_⟩
 obtain ⟨u, hu, hu'⟩ := s.fr.look hl
 rw [isF_v.1 hu'] at hu
 refine st_skip rfl hj (look_appS hu) hbc hd ?_
 show St _ _ (put _ dst _) _ _ _
 rw [put_app]
 exact h G _ ov ⟨s.gb, s.fr.put (isF_v.2 rfl) _, s.ob⟩
theorem tC {dst : Option Nat} {ty' : TypeId} {pos : String} {af : Array Edge} {op : Op} (h : TD P GB C n fr own bs ⟨dst, op, ty', pos, af, none⟩ fr' own' bs') (k : SD GB C n E fr' own' bs' (wpL P ops Q r)) : SD GB C n E fr own bs (wpL P ops Q (⟨dst, op, ty', pos, af, none⟩ :: r)) :=
 ⟨fun G frv ov s => st_ch rfl (h GB E _ (GLe.refl _) k G frv ov s)⟩
theorem tF {dst : Option Nat} {ty' : TypeId} {pos : String} {af : Array Edge} {op : Op} {ι : Type} {fr' : ι → FrF} {own' : ι → List OwnD} {bs' : ι → List BufD} (h : TF P GB C n fr own bs ⟨dst, op, ty', pos, af, none⟩ ι fr' own' bs') (k : ∀ x, SD GB C n E (fr' x) (own' x) (bs' x) (wpL P ops Q r)) : SD GB C n E fr own bs (wpL P ops Q (⟨dst, op, ty', pos, af, none⟩ :: r)) :=
 ⟨fun G frv ov s => st_ch rfl (h GB E _ (GLe.refl _) k G frv ov s)⟩
/-! ### code -/
theorem sd_end (h : SD GB C n E fr own bs (Q .normal)) : SD GB C n E fr own bs (wpL P ops Q []) := h
theorem sd_region {id : Nat} (h : SD GB C n E fr own bs (wpL P ops Q ops.toList)) : SD GB C n E fr own bs ((Code.region id ops false).wp P Q) := ⟨fun G frv ov s => st_region (h G frv ov s)⟩
def seqQ (P : Program) (y : Code) (Q : Exit → Act → World → Prop) : Exit → Act → World → Prop := Exit.then (y.wp P Q) Q
theorem sd_seq {x y : Code} (h : SD GB C n E fr own bs (x.wp P (seqQ P y Q))) : SD GB C n E fr own bs ((Code.seq x y).wp P Q) := ⟨fun G frv ov s => st_seq (h G frv ov s)⟩
theorem sd_skipc (h : SD GB C n E fr own bs (Q .normal)) : SD GB C n E fr own bs (Code.skip.wp P Q) := ⟨fun G frv ov s => zK (h G frv ov s)⟩
theorem sd_ret (h : SD GB C n E fr own bs (Q .ret)) : SD GB C n E fr own bs (Code.ret.wp P Q) := ⟨fun G frv ov s => st_ret (h G frv ov s)⟩
theorem sd_condT {c : Operand} {x y : Code} (hc : opF fr c = some (.d (.v (.bool true)))) (h : SD GB C n E fr own bs (x.wp P Q)) : SD GB C n E fr own bs ((Code.cond c x y).wp P Q) := ⟨fun G frv ov s => st_condT (opv_app (s.fr.opv hc)) (h G frv ov s)⟩
theorem sd_condF {c : Operand} {x y : Code} (hc : opF fr c = some (.d (.v (.bool false)))) (h : SD GB C n E fr own bs (y.wp P Q)) : SD GB C n E fr own bs ((Code.cond c x y).wp P Q) := ⟨fun G frv ov s => st_condF (opv_app (s.fr.opv hc)) (h G frv ov s)⟩
/-! ### another spelling of the state -/
def FrLF (fr' fr : FrF) : Prop := ∀ e ∈ fr', lookF fr e.1 = some e.2
/-! ### loops, and where ways meet again -/
def AgainD (GB : Gh) (C : Ctx) (n : Nat) {X : Type} (F : X → FrF) (O : X → List OwnD) (B : X → List BufD) (I : X → Prop) (μ : X → Nat) (m : Nat) (a : Act) (w : World) : Prop :=
 ∃ x G frv ov, I x ∧ μ x < m ∧ Sr GB G (F x) (O x) (B x) frv ov ∧ Rel C n frv ov G a w
def AtD (GB : Gh) (C : Ctx) (n : Nat) {X : Type} (F : X → FrF) (O : X → List OwnD) (B : X → List BufD) (I : X → Prop) (a : Act) (w : World) : Prop :=
 ∃ x G frv ov, I x ∧ Sr GB G (F x) (O x) (B x) frv ov ∧ Rel C n frv ov G a w
/-! ### calls and results -/
def PF (GB : Gh) (P : Program) (f : FuncId) (ds : List DV) (r : DV) : Prop :=
 ∀ G vs, GLe GB G → IsLs G ds vs → Fn P f vs G (fun v G' => Is G' r v)
def PM (GB : Gh) (P : Program) (f : FuncId) (ds : List DV) (b : Nat) (ty : TypeId) (cs : List DV) (r : DV) (cs' : List DV) : Prop :=
 ∀ G vs m lo, GLe GB G → IsLs G ds vs → IsLs G cs m → FnM P f vs [⟨b, m, ty, lo⟩] G (fun v css G' => Is G' r v ∧ ∃ m', css = [m'] ∧ IsLs G' cs' m')
def args0F : Nat → List DV → FrF
 | _, [] => []
 | i, v :: t => (i, .d v) :: args0F (i + 1) t
theorem FrIs.args0 {G : Gh} : ∀ {ds : List DV} {vs : List Value} (i : Nat), IsLs G ds vs → FrIs G (args0F i ds) (args0 i vs)
 | [], vs, i, h => by rw [isl_nil.1 h]; rfl
 | d :: t, vs, i, h => by
   obtain ⟨y, m, rfl, h1, h2⟩ := isl_cons.1 h
   exact ⟨y, _, rfl, h1, FrIs.args0 (i + 1) h2⟩
inductive RVD (P : Program) (fr : FrF) (own : List OwnD) : List ResultVar → List DV → Prop
 | nil : RVD P fr own [] []
 | tmp {t : Nat} {v : DV} {rs : List ResultVar} {vs : List DV} (h : (lookF fr t).bind toD = some v) (k : RVD P fr own rs vs) : RVD P fr own (.tmp t :: rs) (v :: vs)
 | agg {a b k : Nat} {t : TypeId} {cs l : List DV} {ty : TypeId} {lo : Bool} {rs : List ResultVar} {vs : List DV} (h : lookF fr a = some (.d (.v (.pointer (some ⟨b, 0, none⟩))))) (ho : OAtD own b cs ty lo) (ht : TyA P t k) (hl : takeD cs 0 k = some l) (h2 : RVD P fr own rs vs) :
     RVD P fr own (.cell a t :: rs) (.ag l :: vs)
 | sc {a b : Nat} {t : TypeId} {cs : List DV} {v : DV} {ty : TypeId} {lo : Bool} {rs : List ResultVar} {vs : List DV} (h : lookF fr a = some (.d (.v (.pointer (some ⟨b, 0, none⟩))))) (ho : OAtD own b cs ty lo) (ht : TyS P t) (hl : cs[0]? = some v) (h2 : RVD P fr own rs vs) :
     RVD P fr own (.cell a t :: rs) (v :: vs)
theorem OwnsIs.mem {G : Gh} : ∀ {own : List OwnD} {m : List Own} {o : OwnD}, OwnsIs G own m → o ∈ own → ∃ cs, ⟨o.b, cs, o.ty, o.lo⟩ ∈ m ∧ IsLs G o.cs cs
 | [], m, o, h, k => by cases k
 | x :: t, m, o, ⟨cs, n, e, h1, h2⟩, k => by
   subst e
   rcases List.mem_cons.1 k with rfl | k
   · exact ⟨cs, List.mem_cons_self, h1⟩
   · obtain ⟨cs', h3, h4⟩ := OwnsIs.mem h2 k
     exact ⟨cs', List.mem_cons_of_mem _ h3, h4⟩
theorem OB.mem {G : Gh} {ov : List Own} (h : OB G own bs ov) {o : OwnD} (k : o ∈ own) : ∃ cs, ⟨o.b, cs, o.ty, o.lo⟩ ∈ ov ∧ IsLs G o.cs cs := by
 obtain ⟨a, b, rfl, h1, h2⟩ := h
 obtain ⟨cs, h3, h4⟩ := OwnsIs.mem h1 k
 exact ⟨cs, List.mem_append_left _ h3, h4⟩
theorem RVD.rvs {G : Gh} {frv : Fr} {ov : List Own} {rs : List ResultVar} {ds : List DV} (h : RVD P fr own rs ds) (hf : FrIs G fr frv) (ho : OB G own bs ov) : ∃ vs, RVs P frv ov rs vs ∧ IsLs G ds vs := by
 induction h with
 | nil => exact ⟨[], .nil, .nil⟩
 | tmp h k ih =>
   obtain ⟨vs, h1, h2⟩ := ih
   obtain ⟨y, hy, hy'⟩ := hf.opD (x := .tmp _) h
   exact ⟨y :: vs, .tmp hy h1, .cons hy' h2⟩
 | agg h hm ht hl h2 ih =>
   obtain ⟨vs, h1, h2⟩ := ih
   obtain ⟨cs, h3, h4⟩ := ho.mem hm.mem
   obtain ⟨l', h5, h6⟩ := h4.takeD hl
   obtain ⟨y, hy, hy'⟩ := hf.look h
   rw [isF_v.1 hy'] at hy
   exact ⟨.agg ⟨l'⟩ :: vs, .agg hy ⟨h3⟩ ht h5 h1, .cons (is_ag.2 ⟨l', rfl, h6⟩) h2⟩
 | sc h hm ht hl h2 ih =>
   obtain ⟨vs, h1, h2⟩ := ih
   obtain ⟨cs, h3, h4⟩ := ho.mem hm.mem
   obtain ⟨l', h5, h6⟩ := h4.get hl
   obtain ⟨y, hy, hy'⟩ := hf.look h
   rw [isF_v.1 hy'] at hy
   exact ⟨l' :: vs, .sc hy ⟨h3⟩ ht h5 h1, .cons h6 h2⟩
def tupD : List DV → DV
 | [d] => d
 | l => .tp l
theorem tupD_is {G : Gh} {ds : List DV} {vs : List Value} (h : IsLs G ds vs) : Is G (tupD ds) (tupled vs) := by
 match ds, h with
 | [], h => rw [isl_nil.1 h]; exact is_tp.2 ⟨[], rfl, .nil⟩
 | [d], h =>
   obtain ⟨y, m, rfl, h1, h2⟩ := isl_cons.1 h
   rw [isl_nil.1 h2]
   exact h1
 | a :: b :: t, h =>
   obtain ⟨y, m, rfl, h1, h2⟩ := isl_cons.1 h
   obtain ⟨z, m', rfl, h3, h4⟩ := isl_cons.1 h2
   exact is_tp.2 ⟨_, rfl, h⟩
theorem sd_done {fn : Func} {r : DV} {ds : List DV} (hr : RVD P fr own fn.results.toList ds) (e : tupD ds = r) : SD GB C n E0 fr own bs (bodyPost P fn (RPost C (fun v G' => Is G' r v)) .ret) := by
 refine ⟨fun G frv ov s => ?_⟩
 obtain ⟨vs, h1, h2⟩ := hr.rvs s.fr s.ob
 simp only [E0, List.append_nil]
 exact zD h1 (e ▸ tupD_is h2)
theorem PF.intro {f : FuncId} {fn : Func} {c : Code} {m : Nat} {ds : List DV} {r : DV} (hf : P.funcs[f]? = some fn) (hb : fn.body = some c) (hn : (fn.name == "runtime.NumGoroutine") = false) (hm : fn.ntmps = m) (hlen : Nat.ble ds.length m = true)
  (h : ∀ C : Ctx, SD GB C m E0 (args0F 0 ds) [] [] (c.wp P (bodyPost P fn (RPost C (fun v G' => Is G' r v))))) : PF GB P f ds r := by
 intro G vs hg hv
 refine Fn.intro hf hb hn hm (by rw [hv.len]; exact hlen) fun C _ _ => ?_
 have := h C G _ [] ⟨hg, FrIs.args0 0 hv, [], [], rfl, rfl, rfl⟩
 simpa only [E0, List.append_nil] using this
end
theorem qR {P : Program} {GB : Gh} {C : Ctx} {n : Nat} {E : Ext} {fr : FrF} {own : List OwnD} {bs : List BufD} {Q : Exit → Act → World → Prop} {id : Nat} {ops : Array Oper} {y : Code} (h : SD GB C n E fr own bs (wpL P ops (seqQ P y Q) ops.toList)) : SD GB C n E fr own bs ((Code.seq (Code.region id ops false) y).wp P Q) := sd_seq (sd_region h)
end Go.Sx
end

section
set_option maxRecDepth 100000
namespace Go.Sx
open Go
theorem takeL_len {cs l : List Value} {o k : Nat} (h : takeL cs o k = some l) : l.length = k := (takeL_spec _ _ _ _ h).1
theorem takeL_dr : ∀ {cs m : List Value} {o k : Nat}, takeL cs o k = some m → ∀ {d : Nat}, d ≤ k → takeL cs (o + d) (k - d) = some (m.drop d)
 | cs, m, o, k, h, 0, _ => by simpa using h
 | [], m, 0, 0, h, d + 1, hd => by omega
 | v :: t, m, 0, 0, h, d + 1, hd => by omega
 | [], m, 0, k + 1, h, d + 1, hd => by simp [takeL] at h
 | v :: t, m, 0, k + 1, h, d + 1, hd => by
   simp only [takeL] at h
   split at h
   · rename_i l hl
     cases h
     have := takeL_dr hl (d := d) (by omega)
     rw [Nat.zero_add] at this
     rw [Nat.zero_add, Nat.add_sub_add_right, List.drop_succ_cons]
     exact this
   · cases h
 | [], m, o + 1, k, h, d + 1, hd => by simp [takeL] at h
 | v :: t, m, o + 1, k, h, d + 1, hd => by
   simp only [takeL] at h
   have := takeL_dr h (d := d + 1) hd
   rw [show o + 1 + (d + 1) = (o + (d + 1)) + 1 by omega]
   exact this
theorem takeL_pre : ∀ {cs m : List Value} {o k : Nat}, takeL cs o k = some m → ∀ {j : Nat}, j ≤ k → takeL cs o j = some (m.take j)
 | cs, m, 0, k, h, 0, _ => by cases cs <;> rfl
 | [], m, 0, 0, h, j + 1, hd => by omega
 | v :: t, m, 0, 0, h, j + 1, hd => by omega
 | [], m, 0, k + 1, h, j + 1, hd => by simp [takeL] at h
 | v :: t, m, 0, k + 1, h, j + 1, hd => by
   simp only [takeL] at h
   split at h
   · rename_i l hl
     cases h
     have := takeL_pre hl (j := j) (by omega)
     simp [takeL, this]
   · cases h
 | [], m, o + 1, k, h, j, hd => by simp [takeL] at h
 | v :: t, m, o + 1, k, h, j, hd => by
   simp only [takeL] at h ⊢
   exact takeL_pre h hd
theorem takeL_eq {m l : List Value} {j k : Nat} (h : takeL m j k = some l) : j + k ≤ m.length ∧ l = (m.drop j).take k := by
 obtain ⟨h1, h2⟩ := takeL_spec _ _ _ _ h
 have hle : j ≤ m.length := by
   clear h1 h2
   induction m generalizing j with
   | nil => cases j with
     | zero => exact Nat.le_refl _
     | succ j => simp [takeL] at h
   | cons v t ih => cases j with
     | zero => exact Nat.zero_le _
     | succ j => have := ih (j := j) h; simp; omega
 have hlen : j + k ≤ m.length := by
   rcases Nat.eq_zero_or_pos k with h0 | h0
   · omega
   · have h3 := h2 (k - 1) (by omega)
     rw [List.getElem?_eq_getElem (by omega : k - 1 < l.length)] at h3
     have := (List.getElem?_eq_some_iff.1 h3).1
     omega
 rw [takeL_of _ _ _ hlen] at h
 cases h
 exact ⟨hlen, rfl⟩
theorem takeL_sub {cs m l : List Value} {o s j k : Nat} (h : takeL cs o s = some m) (hm : takeL m j k = some l) : takeL cs (o + j) k = some l := by
 obtain ⟨h1, rfl⟩ := takeL_eq hm
 have hl := takeL_len h
 have h2 := takeL_dr h (d := j) (by omega)
 exact takeL_pre h2 (j := k) (by omega)
theorem get_of_takeL {m l : List Value} {j k i : Nat} (h : takeL m j k = some l) (hi : i < k) : m[j + i]? = l[i]? := (takeL_spec _ _ _ _ h).2 i hi
/-! ### lenses -/
inductive OUpdD : List OwnD → Nat → List DV → TypeId → Bool → List DV → List OwnD → Prop
 | hd (b : Nat) (cs cs' : List DV) (ty : TypeId) (lo : Bool) (t : List OwnD) : OUpdD (⟨b, cs, ty, lo⟩ :: t) b cs ty lo cs' (⟨b, cs', ty, lo⟩ :: t)
 | tl (o : OwnD) (t t' : List OwnD) (b : Nat) (cs cs' : List DV) (ty : TypeId) (lo : Bool) (h : OUpdD t b cs ty lo cs' t') : OUpdD (o :: t) b cs ty lo cs' (o :: t')
inductive ORemD : List OwnD → Nat → List DV → TypeId → Bool → List OwnD → Prop
 | hd (b : Nat) (cs : List DV) (ty : TypeId) (lo : Bool) (t : List OwnD) : ORemD (⟨b, cs, ty, lo⟩ :: t) b cs ty lo t
 | tl (o : OwnD) (t t' : List OwnD) (b : Nat) (cs : List DV) (ty : TypeId) (lo : Bool) (h : ORemD t b cs ty lo t') : ORemD (o :: t) b cs ty lo (o :: t')
inductive BRemD : List BufD → BufD → List BufD → Prop
 | hd (β : BufD) (t : List BufD) : BRemD (β :: t) β t
 | tl (o : BufD) (t t' : List BufD) (β : BufD) (h : BRemD t β t') : BRemD (o :: t) β (o :: t')
theorem OUpdD.lens {A : Gh} {own own' : List OwnD} {b : Nat} {cs cs' : List DV} {ty : TypeId} {lo : Bool} (h : OUpdD own b cs ty lo cs' own') : ∀ {a : List Own}, OwnsIs A own a →
   ∃ m a1 a2, a = a1 ++ ⟨b, m, ty, lo⟩ :: a2 ∧ IsLs A cs m ∧ ∀ G m', GLe A G → IsLs G cs' m' → OwnsIs G own' (a1 ++ ⟨b, m', ty, lo⟩ :: a2) := by
 induction h with
 | hd b cs cs' ty lo t =>
   rintro a ⟨m, n, rfl, h1, h2⟩
   exact ⟨m, [], n, rfl, h1, fun G m' hg hm => ⟨m', n, rfl, hm, h2.up hg⟩⟩
 | tl o t t' b cs cs' ty lo h ih =>
   rintro a ⟨m, n, rfl, h1, h2⟩
   obtain ⟨m2, a1, a2, rfl, h3, h4⟩ := ih h2
   exact ⟨m2, ⟨o.b, m, o.ty, o.lo⟩ :: a1, a2, rfl, h3, fun G m' hg hm => ⟨m, _, rfl, h1.up hg, h4 G m' hg hm⟩⟩
theorem BRemD.lens {A : Gh} {bs bs' : List BufD} {β : BufD} (h : BRemD bs β bs') : ∀ {a : List Own}, BufsIs A bs a →
   ∃ B a1 a2, a = a1 ++ (B ++ a2) ∧ BufIs A β B ∧ BufsIs A bs' (a1 ++ a2) := by
 induction h with
 | hd β t =>
   rintro a ⟨B, n, rfl, h1, h2⟩
   exact ⟨B, [], n, rfl, h1, h2⟩
 | tl o t t' β h ih =>
   rintro a ⟨B, n, rfl, h1, h2⟩
   obtain ⟨B2, a1, a2, rfl, h3, h4⟩ := ih h2
   exact ⟨B2, B ++ a1, a2, by rw [List.append_assoc], h3, by rw [List.append_assoc]; exact ⟨B, _, rfl, h1, h4⟩⟩
theorem BufsIs.mem {G : Gh} : ∀ {bs : List BufD} {m : List Own} {o : BufD}, BufsIs G bs m → o ∈ bs → ∃ B, BufIs G o B ∧ ∀ x ∈ B, x ∈ m
 | [], m, o, h, k => by cases k
 | x :: t, m, o, ⟨B, n, e, h1, h2⟩, k => by
   subst e
   rcases List.mem_cons.1 k with rfl | k
   · exact ⟨B, h1, fun x hx => List.mem_append_left _ hx⟩
   · obtain ⟨B', h3, h4⟩ := BufsIs.mem h2 k
     exact ⟨B', h3, fun x hx => List.mem_append_right _ (h4 x hx)⟩
theorem OUpd.mid {b : Nat} {cs cs' : List Value} {ty : TypeId} {lo : Bool} {r : List Own} : ∀ l : List Own, OUpd (l ++ ⟨b, cs, ty, lo⟩ :: r) b cs ty lo cs' (l ++ ⟨b, cs', ty, lo⟩ :: r)
 | [] => .hd ..
 | o :: l => .tl _ _ _ _ _ _ _ _ (OUpd.mid l)
theorem ORem.mid {o : Own} {r : List Own} : ∀ l : List Own, ORem (l ++ o :: r) o (l ++ r)
 | [] => .hd ..
 | x :: l => .tl _ _ _ _ (ORem.mid l)
section
variable {P : Program} {GB : Gh} {C : Ctx} {n : Nat} {E : Ext} {fr fr' : FrF} {own own' : List OwnD} {bs bs' : List BufD} {ops : Array Oper} {Q : Exit → Act → World → Prop} {r : List Oper} {Φ : Act → World → Prop}
variable {dst : Option Nat} {t t' ty' : TypeId} {pos : String} {af : Array Edge} {gd : Option (Nat × Bool)} {x y z : Operand} {e s by_ : Nat}
theorem YD.of1 {o : Oper} {v u : Value} (hx : opF fr x = some (.d (.v v))) (h : ∀ {frv : Fr} {ov : List Own} {G : Gh}, opv frv x = some v → Yd P C frv ov G o u) : YD P GB C fr own bs o (.d (.v u)) :=
 fun G frv ov s => ⟨u, isF_v.2 rfl, fun _ _ => h (s.fr.opv hx)⟩
theorem YD.same {o : Oper} {f : FV} (hx : opF fr x = some f) (h : ∀ {frv : Fr} {ov : List Own} {G : Gh} {v : Value}, opv frv x = some v → IsF G f v → Yd P C frv ov G o v) : YD P GB C fr own bs o f := by
 intro G frv ov s
 obtain ⟨u, h1, h2⟩ := s.fr.op hx
 exact ⟨u, h2, fun G' hg => h h1 (h2.up hg)⟩
theorem yq_move {f : FV} (hx : opF fr x = some f) : YD P GB C fr own bs ⟨dst, .move x, ty', pos, af, gd⟩ f := .same hx fun h _ => yd_move h
theorem yq_assign {f : FV} (hx : opF fr x = some f) : YD P GB C fr own bs ⟨dst, .assign x, ty', pos, af, gd⟩ f := .same hx fun h _ => yd_assign h
theorem yq_nilT {l : List DV} (hx : opF fr x = some (.d (.pt l))) : YD P GB C fr own bs ⟨dst, .nilCheck x, ty', pos, af, gd⟩ (.ep l) := by
 intro G frv ov s
 obtain ⟨u, h1, h2⟩ := s.fr.op hx
 obtain ⟨b, m, rfl, hb, hm⟩ := is_pt.1 h2
 refine ⟨_, ⟨b, 0, m, m, rfl, hb, ?_, hm⟩, fun G' hg => yd_nilCheck h1⟩
 rw [takeL_of _ _ _ (by rw [hm.len]; omega), List.drop_zero, List.take_of_length_le (by rw [hm.len]; omega)]
theorem yq_faP {b o f off : Nat} [hF : TyF P t f off] (hx : opF fr x = some (.d (.v (.pointer (some ⟨b, o, none⟩))))) :
  YD P GB C fr own bs ⟨dst, .fieldAddr t x f, ty', pos, af, gd⟩ (.d (.v (.pointer (some ⟨b, o + off, none⟩)))) := .of1 hx fun h => yd_fieldAddr h
theorem yq_faE {l : List DV} {f off : Nat} [hF : TyF P t f off] (hx : opF fr x = some (.ep l)) (ho : Nat.ble off l.length = true) :
  YD P GB C fr own bs ⟨dst, .fieldAddr t x f, ty', pos, af, gd⟩ (.ep (l.drop off)) := by
 intro G frv ov s
 obtain ⟨u, h1, b, o, cs, m, rfl, hb, ht, hm⟩ := s.fr.op hx
 refine ⟨_, ⟨b, o + off, cs, m.drop off, rfl, hb, ?_, hm.drop _⟩, fun G' hg => yd_fieldAddr h1⟩
 rw [List.length_drop]
 exact takeL_dr ht (by simpa using ho)
theorem yq_faB {w : SV} {s i j f off : Nat} [hF : TyF P t f off] (hx : opF fr x = some (.be w s i j)) : YD P GB C fr own bs ⟨dst, .fieldAddr t x f, ty', pos, af, gd⟩ (.be w s i (j + off)) := by
 intro G frv ov s
 obtain ⟨u, h1, b, hb, rfl⟩ := s.fr.op hx
 exact ⟨_, ⟨b, hb, rfl⟩, fun G' hg => by rw [← Nat.add_assoc]; exact yd_fieldAddr h1⟩
/-! loads -/
theorem yq_ldO {b off k : Nat} {cs l : List DV} {lo : Bool} {ty : TypeId} (hx : opF fr x = some (.d (.v (.pointer (some ⟨b, off, none⟩))))) [ho : OAtD own b cs ty lo] [TyA P t k] (hl : takeD cs off k = some l) :
  YD P GB C fr own bs ⟨dst, .load t x, ty', pos, af, gd⟩ (.d (.ag l)) := by
 intro G frv ov s
 obtain ⟨m, h1, h2⟩ := s.ob.mem ho.mem
 obtain ⟨l', h3, h4⟩ := h2.takeD hl
 have : OAt ov b m ty lo := ⟨h1⟩
 exact ⟨.agg ⟨l'⟩, is_ag.2 ⟨l', rfl, h4⟩, fun G' hg => yd_load_own (s.fr.opv hx) h3⟩
theorem yq_ldE {k : Nat} {cs l : List DV} (hx : opF fr x = some (.ep cs)) [TyA P t k] (hl : takeD cs 0 k = some l) : YD P GB C fr own bs ⟨dst, .load t x, ty', pos, af, gd⟩ (.d (.ag l)) := by
 intro G frv ov s
 obtain ⟨u, h1, b, o, ms, m, rfl, hb, ht, hm⟩ := s.fr.op hx
 obtain ⟨l', h3, h4⟩ := hm.takeD hl
 exact ⟨.agg ⟨l'⟩, is_ag.2 ⟨l', rfl, h4⟩, fun G' hg => yd_load_gh h1 (hg _ _ hb) (by simpa using takeL_sub ht h3)⟩
theorem yq_ldE1 {cs : List DV} {d : DV} (hx : opF fr x = some (.ep cs)) [TyS P t] (hl : cs[0]? = some d) : YD P GB C fr own bs ⟨dst, .load t x, ty', pos, af, gd⟩ (.d d) := by
 intro G frv ov s
 obtain ⟨u, h1, b, o, ms, m, rfl, hb, ht, hm⟩ := s.fr.op hx
 obtain ⟨l', h3, h4⟩ := hm.get hl
 have hlen : 0 < cs.length := (List.getElem?_eq_some_iff.1 hl).1
 have := get_of_takeL ht hlen
 rw [Nat.add_zero] at this
 exact ⟨l', h4, fun G' hg => yd_load_gh1 h1 (hg _ _ hb) (by rw [this]; exact h3)⟩
theorem BufIs.elem {G : Gh} {β : BufD} {B : List Own} (h : BufIs G β B) {i : Nat} {d : DV} (hi : β.ds[i]? = some d) (hd : d.okc = true) :
   ∃ b m rest lo l, β.x.a = some ⟨b, 0, none⟩ ∧ B = [⟨b, m ++ rest, β.ty, lo⟩] ∧ takeL (m ++ rest) (i * β.s) β.s = some l ∧ IsLs G d.cells l := by
 obtain ⟨vs, hB, hv, hs, _⟩ := h
 obtain ⟨v, h1, h2⟩ := hv.get hi
 rcases hB with ⟨e, _, _⟩ | ⟨b, rest, lo, h3, h4, h5, h6, h7⟩
 · rw [e] at h1; simp at h1
 · obtain ⟨h8, h9⟩ := List.getElem?_eq_some_iff.1 h1
   refine ⟨b, flatL vs, rest, lo, cellsL v, by rw [h3], h4, ?_, (h2.cells hd).1⟩
   have := takeL_flat (rest := rest) hs h8
   rw [h9] at this
   exact this
/-! structs, tuples -/
theorem yq_ext {ds : List DV} {i : Nat} {d : DV} (hx : opF fr x = some (.d (.tp ds))) (hv : ds[i]? = some d) : YD P GB C fr own bs ⟨dst, .extract x i, ty', pos, af, gd⟩ (.d d) := by
 intro G frv ov s
 obtain ⟨u, h1, h2⟩ := s.fr.op hx
 obtain ⟨m, rfl, hm⟩ := is_tp.1 h2
 obtain ⟨l', h3, h4⟩ := hm.get hv
 exact ⟨l', h4, fun G' hg => yd_extract h1 (by simpa using h3)⟩
def bldD (fr : FrF) (offs : List (Nat × Nat)) : List DV → List (Nat × Operand) → Option (List DV)
 | cs, [] => some cs
 | cs, (i, x) :: r => match offs[i]?, opD fr x with
   | some (off, k), some d => bif d.okc && (Nat.beq d.cells.length k && Nat.ble (off + k) cs.length) then bldD fr offs (ovD cs off d.cells) r else none
   | _, _ => none
theorem bldD_bld {G : Gh} {frv : Fr} (h : FrIs G fr frv) (offs : List (Nat × Nat)) : ∀ (ps : List (Nat × Operand)) (cs out : List DV) (m : List Value), bldD fr offs cs ps = some out → IsLs G cs m → ∃ l, bld frv offs m ps = some l ∧ IsLs G out l
 | [], cs, out, m, e, hm => by simp only [bldD] at e; cases e; exact ⟨m, rfl, hm⟩
 | (i, x) :: ps, cs, out, m, e, hm => by
   simp only [bldD] at e
   split at e
   · rename_i off k d ho hd
     cases hc : (d.okc && (Nat.beq d.cells.length k && Nat.ble (off + k) cs.length)) with
     | false => rw [hc] at e; cases e
     | true =>
       rw [hc] at e
       simp only [Bool.and_eq_true, Nat.beq_eq_true_eq, Nat.ble_eq] at hc
       obtain ⟨h1, h2, h3⟩ := hc
       replace h2 := Nat.eq_of_beq_eq_true h2
       obtain ⟨y, hy, hy'⟩ := h.opD hd
       obtain ⟨c1, _⟩ := hy'.cells h1
       have c2 := c1.len
       obtain ⟨l, hl1, hl2⟩ := bldD_bld h offs ps _ out _ e (hm.ov c1 (off := off))
       refine ⟨l, ?_, hl2⟩
       simp only [bld, ho, hy]
       rw [if_pos ⟨by rw [c2, h2], by rw [hm.len]; exact h3⟩]
       exact hl1
   · cases e
class TyZD (P : Program) (t : TypeId) (z : outParam Value) (cs : outParam (List DV)) : Prop where
 tz : TyZ P t z
 iz : IsLs (fun _ => none) cs (cellsL z)
theorem GLe.bot (G : Gh) : GLe (fun _ => none) G := fun _ _ h => by cases h
theorem yq_build {parts : Array (Nat × Operand)} {offs : List (Nat × Nat)} {z : Value} {cs out : List DV} [hT : TySt P t offs] [hz : TyZD P t z cs] (hb : bldD fr offs cs parts.toList = some out) : YD P GB C fr own bs ⟨dst, .build t parts, ty', pos, af, gd⟩ (.d (.ag out)) := by
 intro G frv ov s
 have hz1 := hz.tz
 obtain ⟨l, h1, h2⟩ := bldD_bld s.fr offs _ _ _ _ hb (hz.iz.up (GLe.bot G))
 exact ⟨.agg ⟨l⟩, is_ag.2 ⟨l, rfl, h2⟩, fun G' hg => yd_build h1⟩
/-! slices -/
theorem yq_lenB [hT : TySl P t e s by_] {w : SV} {sz : Nat} {ty : TypeId} {ds : List DV} {lo : Bool} (hx : opF fr x = some (.d (.v (.slice w.a w.n w.c)))) [hb : BAtD bs w sz ty ds lo] : YD P GB C fr own bs ⟨dst, .call ⟨.builtin .len, #[x], #[t]⟩, ty', pos, af, gd⟩ (.d (.v (.int .i64 (ds.length : Nat)))) := by
 intro G frv ov s
 obtain ⟨p, q, rfl, _, hq⟩ := s.ob
 obtain ⟨B, ⟨vs, hB, hv, _⟩, _⟩ := hq.mem hb.mem
 have := hB.len
 rw [hv.len] at this
 simp only [] at this
 exact ⟨_, isF_v.2 rfl, fun G' hg => by rw [← this]; exact yd_len (s.fr.opv hx)⟩
theorem yq_ixB [hT : TySl P t e s by_] {k : IntKind} {w : SV} {ty : TypeId} {ds : List DV} {lo : Bool} {i : Int} (hx : opF fr x = some (.d (.v (.slice w.a w.n w.c)))) [hb : BAtD bs w s ty ds lo] (hy : opF fr y = some (.d (.v (.int k i)))) (h0 : 0 ≤ i) (h1 : i < ds.length) :
   YD P GB C fr own bs ⟨dst, .indexAddr t x y, ty', pos, af, gd⟩ (.be w s i.toNat 0) := by
 intro G frv ov st
 obtain ⟨p, q, rfl, _, hq⟩ := st.ob
 obtain ⟨B, ⟨vs, hB, hv, _⟩, _⟩ := hq.mem hb.mem
 have hn := hB.len
 have hl := hv.len
 simp only [] at hn hl
 rcases hB with ⟨e1, _, _⟩ | ⟨b, rest, lo', h3, h4, h5, h6, h7⟩
 · rw [e1] at hl; simp at hl; omega
 · simp only [] at h3
   have ha : w.a = some ⟨b, 0, none⟩ := by rw [h3]
   refine ⟨_, ⟨b, ha, rfl⟩, fun G' hg => ?_⟩
   have hx' := st.fr.opv hx
   rw [ha] at hx'
   have := yd_index (P := P) (C := C) (own := p ++ q) (G := G') (t := t) (dst := dst) (ty' := ty') (pos := pos) (af := af) (gd := gd) (by_ := by_) hx' (st.fr.opv hy) h0 (by rw [hn, hl]; omega)
   simpa using this
theorem IsLs.all {G : Gh} : ∀ {l : List DV} {m : List Value}, IsLs G l m → ∀ v ∈ m, ∃ d ∈ l, Is G d v
 | [], m, h, v, hv => by rw [isl_nil.1 h] at hv; cases hv
 | d :: t, m, h, v, hv => by
   obtain ⟨y, n, rfl, h1, h2⟩ := isl_cons.1 h
   rcases List.mem_cons.1 hv with rfl | hv
   · exact ⟨d, List.mem_cons_self, h1⟩
   · obtain ⟨d', hd, h3⟩ := h2.all v hv
     exact ⟨d', List.mem_cons_of_mem _ hd, h3⟩
theorem IsSl.sub {G : Gh} {s : Nat} {x : SV} {es : List Value} (h : IsSl G s x es) (lo hi mx : Nat) (h1 : lo ≤ hi) (h2 : hi ≤ es.length) (h3 : hi ≤ mx) (_h4 : mx ≤ x.c) :
   IsSl G s ⟨if mx = lo then x.a else x.a.map (·.add (lo * s)), hi - lo, mx - lo⟩ ((es.take hi).drop lo) := by
 refine ⟨by simp; omega, by simp only []; omega, ?_⟩
 rcases h.mem with h0 | ⟨b, off, cs, ha, hg, hc⟩
 · left; simp [h0]
 · by_cases he : hi = lo
   · left; simp [he]
   · right
     refine ⟨b, off + lo * s, cs, ?_, hg, fun i hi' => ?_⟩
     · simp only []
       rw [if_neg (by omega), ha]
       simp [addr_add]
     · simp only [List.length_drop, List.length_take] at hi'
       have := hc (lo + i) (by omega)
       rw [Nat.add_assoc, ← Nat.add_mul, this]
       simp
def slOk (s : Nat) (l : List DV) : Prop := ∀ d ∈ l, d.okc = true ∧ d.cells.length = s
theorem sl_stride {G : Gh} {l : List DV} {s' s : Nat} {w : SV} {es : List Value} (hsl : IsSl G s' w es) (hl : IsLs G l es) (ho : slOk s l) : es = [] ∨ s' = s := by
 rcases hsl.mem with h | ⟨b, off, cs, ha, hg, hcs⟩
 · exact .inl h
 · cases es with
   | nil => exact .inl rfl
   | cons v t =>
     right
     have h1 := hcs 0 (by simp)
     have h2 := takeL_len h1
     obtain ⟨d, hd, h3⟩ := hl.all v List.mem_cons_self
     obtain ⟨h4, h5⟩ := ho d hd
     have := (h3.cells h4).1.len
     simp only [List.getElem_cons_zero] at h2
     omega
end
section
variable {P : Program} {GB : Gh} {C : Ctx} {n : Nat} {E : Ext} {fr : FrF} {own : List OwnD} {bs : List BufD} {ops : Array Oper} {Q : Exit → Act → World → Prop} {r : List Oper} {dst : Option Nat} {ty' : TypeId} {pos : String} {af : Array Edge} {x : Operand}
theorem tM {f : FV} (hx : opF fr x = some f) (hd : dstOk n dst = true) (h : SD GB C n E (putF fr dst f) own bs (wpL P ops Q r)) : SD GB C n E fr own bs (wpL P ops Q (⟨dst, .move x, ty', pos, af, none⟩ :: r)) := tY (yq_move hx) hd h
theorem tA {f : FV} (hx : opF fr x = some f) (hd : dstOk n dst = true) (h : SD GB C n E (putF fr dst f) own bs (wpL P ops Q r)) : SD GB C n E fr own bs (wpL P ops Q (⟨dst, .assign x, ty', pos, af, none⟩ :: r)) := tY (yq_assign hx) hd h
end
end Go.Sx
end
