/-
  Package bsp: Each with any visitor; Size. errors.Is, for what the laws hand it: an error and itself, no error. (After the worked contracts of the kit's example Sentry.) The abstract machine: what a named variable holds. Operations on regions. Trees of package api read back. Reference: points with integer coordinates, lines through them. Reference: what is drawn from the tape: numbers, points, lines, trees. Reference: trees written for package api. Law 19: the operations at trees of package api; the sanity check. Law 19, trees that are too deep: a long tree over one line.
-/
import Derived.Test.YtkijgpopaaknfaaGreatDoorMr14
import Derived.WalkKit
import Derived.LaidEql
import Derived.Stop.Asserts
import Derived.RowKitTokens
set_option linter.unusedSimpArgs false
set_option linter.unusedVariables false
section
set_option maxRecDepth 100000
namespace Go.Sx
open Go Go.Proofs
def Tr.pre : Tr → List Tr
 | .leaf b => [.leaf b]
 | .node l x y => .node l x y :: (x.pre ++ y.pre)
structure Vis (f : FuncId) (c2 : List Value) (σ : Type) (step : σ → Tr → σ) (ok : σ → Tr → Prop) (Inv : σ → List Own → Gh → Prop) : Prop where
 up : ∀ {s B G G'}, GLe G G' → Inv s B G → Inv s B G'
 re : ∀ {s B G} (fl : Nat → Bool), Inv s B G → Inv s (B.map (relo fl)) G
 go : ∀ {s t p B G}, ok s t → Inv s B G → Is G (eU t) (.pointer p) → FnO Tryz.prog f (.pointer p :: c2) B G (fun _ B' G' => Inv (step s t) B' G')
section
variable {P : Program} {C : Ctx} {n : Nat} {fr : Fr} {own : List Own} {G : Gh}
theorem st_doneON {fn : Func} {K : Value → List Own → Gh → Prop} {vs : List Value} (hr : RVs P fr own fn.results.toList vs) (own2 own3 : List Own) (hp : own.Perm own2) (hs : own3.Sublist own2) (hk : K (tupled vs) own3 G) : St C n fr own G (bodyPost P fn (RPostO C K) .normal) :=
 fun a w rl => ⟨rl.df, _, run_results hr rl.fr rl.h, _, own3, G, rfl, (rl.h.perm hp).drop hs, hk⟩
end
def okFold {σ : Type} (step : σ → Tr → σ) (ok : σ → Tr → Prop) : σ → List Tr → Prop
 | _, [] => True
 | s, t :: ts => ok s t ∧ okFold step ok (step s t) ts
structure EX (σ : Type) where
 ts : List Tr
 vs : List Value
 rest : List Value
 b : Nat
 cap : Nat
 lo : Bool
 s : σ
 B : List Own
def tsz (t : Tr) : Nat := 2 * t.size + 1
theorem tsz_len (ts : List Tr) : ts.length ≤ (ts.map tsz).sum := by
 induction ts with
 | nil => exact Nat.le_refl _
 | cons t ts ih => simp only [List.length_cons, List.map_cons, List.sum_cons, tsz]; omega
def stk (ts : List Tr) : List Tr := ts.reverse.flatMap Tr.pre
structure EI (A : Gh) {σ : Type} (step : σ → Tr → σ) (ok : σ → Tr → Prop) (Inv : σ → List Own → Gh → Prop) (N : Nat) (fin : σ) (x : EX σ) (G : Gh) : Prop where
 rel : All2 (fun v t => ∃ p, v = .pointer p ∧ Is A (eU t) (.pointer p)) x.vs x.ts
 cap : x.vs.length + x.rest.length = x.cap
 inv : Inv x.s x.B G
 mu : (x.ts.map tsz).sum ≤ N
 okf : okFold step ok x.s (stk x.ts)
 fin : (stk x.ts).foldl step x.s = fin
theorem all2_concat {α β : Type} {R : α → β → Prop} {v : α} {t : β} : ∀ {vs : List α} {ts : List β}, All2 R (vs ++ [v]) (ts ++ [t]) → All2 R vs ts ∧ R v t
 | [], [], .cons h .nil => ⟨.nil, h⟩
 | [], _ :: b, .cons _ h => by cases b <;> cases h
 | _ :: a, [], .cons _ h => by cases a <;> cases h
 | _ :: _, _ :: _, .cons h k => ⟨.cons h (all2_concat k).1, (all2_concat k).2⟩
set_option maxHeartbeats 1000000 in
theorem t_Each {f : FuncId} {c2 : List Value} {σ : Type} {step : σ → Tr → σ} {ok : σ → Tr → Prop} {Inv : σ → List Own → Gh → Prop} (V : Vis f c2 σ step ok Inv) {t : Tr} {p : Option Addr} {s : σ} {B : List Own} {G : Gh}
   (h : Is G (eU t) (.pointer p)) (hI : Inv s B G) (hok : okFold step ok s t.pre) (hs : t.size ≤ 1000000000000) :
   FnO Tryz.prog 207 [.pointer p, .func (.func f) #[] ⟨c2⟩] B G (fun _ B' G' => Inv (t.pre.foldl step s) B' G') := by
 refine FnO.intro Tryz.func207 rfl rfl Tryz.ntmps207 rfl ?_
 intro C _ _
 refine sR <| sm rfl rfl <| ?_
 refine sc (ch_slice1 rfl (by rfl) (by rfl) (by decide) (by decide) rfl ?_)
 intro b1
 refine sa rfl rfl <| zE <| st_block <| ?_
 refine st_loop (X := EX σ) (fun x => [(4, .slice (some ⟨x.b, 0, none⟩) x.vs.length x.cap), (1, .func (.func f) #[] ⟨c2⟩)]) (fun x => ⟨x.b, x.vs ++ x.rest, 108, x.lo⟩ :: x.B) (EI G step ok Inv (tsz t) (t.pre.foldl step s)) (fun x => (x.ts.map tsz).sum)
   ⟨[t], [.pointer p], [], b1, 1, true, s, asB B⟩ ⟨.cons ⟨p, rfl, h⟩ .nil, rfl, V.re (fun _ => false) hI, by simp, by simpa [stk] using hok, by simp [stk]⟩ (.cons rfl (.cons rfl .nil)) rfl ?_
 rintro ⟨ts, vs, rest, b, cap, lo, s1, B1⟩ Gx _ ⟨hrel, hcap, hinv, hmu, hokf, hfin⟩
 simp only at hrel hcap hinv hmu hokf hfin
 have hln := hrel.len
 have hlt := tsz_len ts
 unfold tsz at hmu hlt
 refine st_seq <| sR <| sm rfl rfl <| slen rfl rfl <| sy (yd_gtr rfl rfl) rfl <| zE <| ?_
 refine st_condE rfl (fun hc => ?_) (fun hc => ?_)
 · refine st_exit <| st_te <| st_te <| st_inBlock_eq <| ?_
   refine st_doneON .nil _ _ (List.Perm.refl _) (List.sublist_cons_self _ _) ?_
   obtain rfl : ts = [] := by
     cases ts with
     | nil => rfl
     | cons a l => simp only [List.length_cons] at hln; exfalso; apply hc; show (0 : Int) < (vs.length : Int); omega
   have : s1 = t.pre.foldl step s := hfin
   rw [← this]
   exact hinv
 refine zK <| ?_
 obtain ⟨vs, v, rfl⟩ : ∃ vs' v', vs = vs' ++ [v'] := by
   rcases List.eq_nil_or_concat vs with e | ⟨a, b, e⟩
   · subst e; simp at hc
   · exact ⟨a, b, by rw [e, List.concat_eq_append]⟩
 obtain ⟨ts, u, rfl⟩ : ∃ vs' v', ts = vs' ++ [v'] := by
   rcases List.eq_nil_or_concat ts with e | ⟨a, b, e⟩
   · subst e; simp at hln
   · exact ⟨a, b, by rw [e, List.concat_eq_append]⟩
 obtain ⟨hrel1, q, rfl, hq⟩ := all2_concat hrel
 have hl1 : (vs ++ [Value.pointer q]).length = vs.length + 1 := by simp
 have hst : stk (ts ++ [u]) = u.pre ++ stk ts := by simp [stk]
 rw [hst] at hokf hfin
 simp only [List.map_append, List.sum_append, List.map_cons, List.map_nil, List.sum_cons, List.sum_nil, Nat.add_zero, List.length_append, List.length_singleton] at hmu hlt hln hcap
 refine st_frame [(4, Value.slice (some ⟨b, 0, none⟩) (vs.length + 1 : Nat) cap), (1, .func (.func f) #[] ⟨c2⟩)] (.cons (by show some (Value.slice _ (vs ++ [Value.pointer q]).length _) = _; rw [hl1]) (.cons rfl .nil)) ?_
 refine st_block <| sR <| sm rfl rfl <| slen rfl rfl <| sy (yd_sub64 rfl rfl) rfl <| sa rfl rfl <| zE <| sR <| sm rfl rfl <| ?_
 rw [show ((vs.length + 1 : Nat) : Int) - 1 = (vs.length : Nat) by omega]
 refine sm rfl rfl <| sy (yd_ixO rfl rfl (by omega) (by omega)) rfl <| ?_
 refine sy (yd_load_own1 (v := Value.pointer q) rfl (by rw [Int.toNat_natCast, Nat.mul_one, List.append_assoc, List.getElem?_append_right (Nat.le_refl _), Nat.sub_self]; rfl)) rfl <| sa rfl rfl <| zE <| sR <| sm rfl rfl <| sm rfl rfl <| sy (yd_slice_hi rfl rfl (by omega) (by omega)) rfl <| ?_
 rw [Int.toNat_natCast]
 refine sa rfl rfl <| zE <| sR <| sm rfl rfl <| sm rfl rfl <| ?_
 have hokq : ok s1 u ∧ okFold step ok (step s1 u) (u.pre.tail ++ stk ts) := by cases u <;> exact hokf
 refine sc (ch_callcO' (c1 := []) (M := B1) (rest := [⟨b, vs ++ [Value.pointer q] ++ rest, 108, lo⟩]) rfl rfl (List.perm_append_comm (l₁ := [_])) (V.go hokq.1 hinv (hq.up GL.le)) rfl ?_)
 rintro _ B2 G2 fl _ _ _ hinv2
 replace hinv2 := V.re fl hinv2
 refine st_perm (⟨b, vs ++ Value.pointer q :: rest, 108, lo⟩ :: B2.map (relo fl)) (by rw [List.append_assoc]; exact (List.perm_append_comm (l₂ := [_]))) ?_
 generalize B2.map (relo fl) = B2 at *
 refine zE <| sR <| sm rfl rfl <| ?_
 cases u with
 | leaf bb =>
   refine sc (zC rfl rfl (PF.fn0 p_IsLeafL (.cons (hq.up GL.le) .nil)) rfl ?_)
   rintro _ G3 _ hv
   cases is_v.1 hv
   refine sy (yd_not rfl) rfl <| zE <| st_condF rfl <| zK <| ?_
   exact st_again ⟨ts, vs, Value.pointer q :: rest, b, cap, lo, step s1 (.leaf bb), B2⟩ ⟨hrel1, by simp only [List.length_cons]; omega, V.up GL.le hinv2, by simp only; unfold tsz; omega, hokq.2, hfin⟩ (by simp only [List.map_append, List.sum_append, List.map_cons, List.map_nil, List.sum_cons, List.sum_nil]; unfold tsz; omega) (.cons rfl (.cons rfl .nil)) rfl
 | node l x y =>
   obtain ⟨nbk, m, e, hg, hm⟩ := is_pt.1 (id hq)
   cases e
   obtain ⟨n1, d1, p1, n2, d2, p2, n3, d3, p3, q1, q2, rfl, _, hx, hy⟩ := cU_node hm
   have hgg : GHas G nbk _ := ⟨hg⟩
   refine sc (zC rfl rfl (PF.fn0 p_IsLeafN (.cons (hq.up GL.le) .nil)) rfl ?_)
   rintro _ G3 _ hv
   cases is_v.1 hv
   refine sy (yd_not rfl) rfl <| zE <| st_condT rfl <| ?_
   refine drS [] (fun _ => false) [(0, true), (1, true), (2, true), (3, true), (4, true), (5, true), (6, true), (7, true), (8, true), (9, false), (10, false), (11, true)] follows (by kernel_rfl) <| dM rfl rfl rfl <| ?_
   refine dM rfl rfl rfl <| dy rfl (fun _ => yd_nilCheck rfl) rfl rfl <| dF rfl rfl rfl <| dy rfl (fun _ => yd_load_gh1 rfl ghi rfl) rfl rfl <| ?_
   refine dM rfl rfl rfl <| dy rfl (fun _ => yd_nilCheck rfl) rfl rfl <| dF rfl rfl rfl <| dy rfl (fun _ => yd_load_gh1 rfl ghi rfl) rfl rfl <| ?_
   refine dc rfl rfl (ch_slice (by rfl) (by rfl) (by rfl) (by rfl) rfl ?_)
   intro b3
   refine dr_s <| ?_
   refine dc rfl rfl (ch_append_any (m := 2) (xs := vs) (ys := [Value.pointer q2, Value.pointer q1]) (rest := Value.pointer (some ⟨nbk, 0, none⟩) :: rest) rfl rfl (.tl _ _ _ _ (.hd ..)) (by omega) (by simp only [List.length_cons]; omega) (by omega) (src_own inferInstance rfl) rfl (by simp [Sx.flat]) (by decide) (by omega) (by rfl) rfl ?_)
   intro b4 lo4 cap4 rest4 h1 h2
   refine dr_s <| dA rfl rfl rfl <| dn <| ?_
   have hsz : (Tr.node l x y).size = 1 + x.size + y.size := rfl
   refine st_drop (⟨b4, vs ++ [Value.pointer q2, Value.pointer q1] ++ rest4, 108, lo4⟩ :: B2) (.cons_cons _ (List.sublist_cons_self _ _)) ?_
   have hs2 : stk (ts ++ [y, x]) = x.pre ++ y.pre ++ stk ts := by simp [stk]
   refine st_again ⟨ts ++ [y, x], vs ++ [Value.pointer q2, Value.pointer q1], rest4, b4, cap4, lo4, step s1 (.node l x y), B2⟩ ⟨hrel1.app (.cons ⟨_, rfl, hy⟩ (.cons ⟨_, rfl, hx⟩ .nil)), by simp only [List.length_append, List.length_cons, List.length_nil]; omega, V.up GL.le hinv2, ?_, ?_, ?_⟩ ?_ (.cons (by show some (Value.slice _ (vs.length + 2) _) = some (Value.slice _ (vs ++ [_, _]).length _); rw [List.length_append]; rfl) (.cons rfl .nil)) rfl
   · simp only [List.map_append, List.sum_append, List.map_cons, List.map_nil, List.sum_cons, List.sum_nil]; unfold tsz; omega
   · simp only; rw [hs2]; exact hokq.2
   · simp only; rw [hs2]; exact hfin
   · simp only [List.map_append, List.sum_append, List.map_cons, List.map_nil, List.sum_cons, List.sum_nil]; unfold tsz; omega
/-! ### Size -/
theorem ch_callO' {P : Program} {C : Ctx} {n : Nat} {fr : Fr} {own : List Own} {G : Gh} {Φ : Act → World → Prop} {dst : Option Nat} {ty' : TypeId} {pos : String} {af : Array Edge} {gd : Option (Nat × Bool)} {f : FuncId} {fo : Operand} {args : Array Operand} {tys : Array TypeId} {vs : List Value} {M rest : List Own} {K : Value → List Own → Gh → Prop} (ho : opv fr fo = some (.func (.func f) #[] #[])) (hv : opvs fr args.toList = some vs)
  (hp : own.Perm (M ++ rest)) (hF : FnO P f vs M G K) (hd : dstOk n dst = true)
  (h : ∀ v own1 (G' : Gh) (fl : Nat → Bool), [GE G G'] → (∀ m ∈ M, m.lo = false → fl m.b = false) → ((∀ m ∈ M, m.lo = true) → ∀ b, fl b = true) → K v own1 G' → St C n (put fr dst v) (own1.map (relo fl) ++ rest) G' Φ) :
  Ch P C n fr own G ⟨dst, .call ⟨.value fo, args, tys⟩, ty', pos, af, gd⟩ Φ :=
 ch_callcO' (c1 := []) (c2 := []) ho hv hp (by simpa using hF) hd h
def szI (nbk : Nat) (s : Nat) (B : List Own) (_ : Gh) : Prop := ∃ lo, B = [⟨nbk, [.int .i64 s], 3, lo⟩]
def szS (s : Nat) : Tr → Nat
 | .leaf _ => s
 | .node .. => s + 1
theorem vis_Size (nbk : Nat) : Vis 208 [.pointer (some ⟨nbk, 0, none⟩)] Nat szS (fun s _ => s < 1000000000000) (szI nbk) where
 up := fun _ h => h
 re := fun {s B G} fl h => by obtain ⟨lo, rfl⟩ := h; exact ⟨_, rfl⟩
 go := by
   intro s t p B G hs hI ht
   obtain ⟨lo, rfl⟩ := hI
   refine FnO.intro Tryz.func208 rfl rfl Tryz.ntmps208 rfl ?_
   intro C _ _
   show St C _ _ [⟨nbk, _, _, false⟩] _ _
   cases t with
   | node l x y =>
     refine sR <| sm rfl rfl <| ?_
     refine sc (zC rfl rfl (PF.fn0 p_IsLeafN (.cons ht .nil)) rfl ?_)
     rintro _ G1 _ hv
     cases is_v.1 hv
     refine sy (yd_not rfl) rfl <| zE <| st_condT rfl <| st_region <| slo1 rfl rfl rfl <| sy (yd_add64 rfl rfl) rfl <| ?_
     refine sc (ch_storeN1 rfl rfl rfl (.hd ..) (nb rfl) rfl rfl ?_)
     refine zE <| ?_
     exact st_doneON .nil _ _ (List.Perm.refl _) (List.Sublist.refl _) ⟨false, by show [_] = [_]; rfl⟩
   | leaf b =>
     refine sR <| sm rfl rfl <| ?_
     refine sc (zC rfl rfl (PF.fn0 p_IsLeafL (.cons ht .nil)) rfl ?_)
     rintro _ G1 _ hv
     cases is_v.1 hv
     refine sy (yd_not rfl) rfl <| zE <| st_condF rfl <| zK <| ?_
     exact st_doneON .nil _ _ (List.Perm.refl _) (List.Sublist.refl _) ⟨false, rfl⟩
theorem szS_fold : ∀ (t : Tr) (s : Nat), t.pre.foldl szS s = s + t.size
 | .leaf _, s => rfl
 | .node l x y, s => by
   simp only [Tr.pre, List.foldl_cons, List.foldl_append, szS, szS_fold x, szS_fold y, Tr.size]
   omega
theorem szS_ok : ∀ (t : Tr) (s : Nat) (L : List Tr), s + t.size < 1000000000000 → (∀ s', s' = s + t.size → okFold szS (fun s _ => s < 1000000000000) s' L) → okFold szS (fun s _ => s < 1000000000000) s (t.pre ++ L)
 | .leaf _, s, L, h, k => ⟨by simp only [Tr.size] at h; omega, k _ rfl⟩
 | .node l x y, s, L, h, k => by
   simp only [Tr.size] at h k
   simp only [Tr.pre, List.cons_append, List.append_assoc]
   exact ⟨by omega, szS_ok x _ _ (by simp only [szS]; omega) fun s1 e1 => szS_ok y _ _ (by subst e1; simp only [szS]; omega) fun s2 e2 => k _ (by subst e1 e2; simp only [szS]; omega)⟩
theorem p_Size {GB : Gh} {t : Tr} (hs : t.size < 1000000000000) : PF GB Tryz.prog 171 [eU t] (vI (t.size : Nat)) := by
 intro G vs _ hv
 obtain ⟨v0, m, rfl, h, hm⟩ := isl_cons.1 hv
 rw [isl_nil] at hm; subst hm
 obtain ⟨p, rfl⟩ := eU_ptr h
 refine Fn.intro Tryz.func171 rfl rfl Tryz.ntmps171 rfl ?_
 intro C _ _
 refine sR <| sa rfl rfl <| zE <| sR <| ?_
 refine sc (ch_alloc rfl ?_)
 intro b1
 refine sc (ch_storeN1 rfl rfl rfl (.hd ..) (nb rfl) rfl rfl ?_)
 refine zE <| sR <| sm rfl rfl <| sy (yd_makeFunc rfl rfl) rfl <| ?_
 have hok : okFold szS (fun s _ => s < 1000000000000) 0 t.pre := by
  have := szS_ok t 0 [] (by omega) (fun _ _ => trivial)
  rwa [List.append_nil] at this
 refine sc (ch_callO' (M := [⟨b1, [.int .i64 0], 3, true⟩]) (rest := []) rfl rfl (List.Perm.refl _) (t_Each (vis_Size b1) h ⟨true, rfl⟩ hok (by omega)) rfl ?_)
 rintro _ B G2 fl _ _ _ ⟨lo, rfl⟩
 rw [szS_fold, Nat.zero_add]
 show St C _ _ [⟨b1, [.int .i64 t.size], 3, _⟩] _ _
 refine zE <| sR <| slo1 rfl rfl rfl <| sa rfl rfl <| zE <| st_ret <| ?_
 exact zD (.tmp rfl .nil) (is_v.2 rfl)
end Go.Sx
end

section
set_option maxRecDepth 100000
namespace Go.Sx
open Go Go.Proofs Go.RowKit Go.Extern.Stop Go.Stop Go.Extern
theorem isTypeOf (v : Value) (w : World) : (Extern.ReflectliteType.typeOf #[.iface 309 v]).run Tryz.prog w = .ok (.iface 207 (.agg #[.pointer (some ⟨Tryz.prog.globals.size, 309, none⟩)])) w := by kernel_rfl
def cmpF : TypeId → Sem Value := fun t => do Go.Extern.Rtype.noPackHeld "Comparable" t; pure (.bool (← typeInfo t).comparable)
theorem isComparable (w : World) : ((Extern.ReflectliteType.method cmpF) #[.agg #[.pointer (some ⟨Tryz.prog.globals.size, 309, none⟩)]]).run Tryz.prog w = .ok (.bool true) w := by kernel_rfl
theorem isComp : (Tryz.prog.info? 309).map (·.comparable) = some true := by kernel_rfl
theorem isSize : (Tryz.prog.info? 334).map (·.size) = some 1 := by kernel_rfl
theorem is_nil (b : Addr) (w : World) : Calls Tryz.prog 24 #[.nilIface, .iface 309 (.pointer (some b))] w fun e w' => e = .returned (.bool false) ∧ w' = w := by
 have hn := run_eql_iface_nil_left (P := Tryz.prog) w 309 (.pointer (some b)) Tryz.underlying38
 go_enter Tryz.func24, Tryz.ntmps24
 go_wp2
 go_ret
 exact ⟨rfl, rfl⟩
theorem isMethodComparable (n : Nat) (v : Value) (w : World) : (Go.method (n + 1) 207 v "Comparable").run Tryz.prog w = .ok (260, v) w := by
 kernel_rfl
theorem is_same (a : Addr) (w : World) : Calls Tryz.prog 24 #[.iface 309 (.pointer (some a)), .iface 309 (.pointer (some a))] w fun e w' => e = .returned (.bool true) ∧ w' = w := by
 obtain ⟨i, hi, hcmp⟩ := Option.map_eq_some_iff.1 isComp
 obtain ⟨j, hj, hjs⟩ := Option.map_eq_some_iff.1 isSize
 have h8 := @run_callFunc_extern Tryz.prog 68 _ Extern.ReflectliteType.typeOf Tryz.func68 (by kernel_rfl) (by kernel_rfl) (by kernel_rfl) (by kernel_rfl)
 have h32 := @run_callFunc_extern Tryz.prog 260 _ (Extern.ReflectliteType.method cmpF) Tryz.func260 (by kernel_rfl) (by kernel_rfl) (by kernel_rfl) (by kernel_rfl)
 have tT := isTypeOf
 have cT := isComparable
 obtain ⟨g, hg⟩ : ∃ g, g = Tryz.prog.globals.size := ⟨_, rfl⟩
 simp only [← hg] at tT cT
 clear hg
 have mR := isMethodComparable
 have heq := run_eql_iface_ptr_same (P := Tryz.prog) w a Tryz.underlying38 Tryz.underlying309 hi hcmp hj
 go_enter Tryz.func24, Tryz.ntmps24
 go_wp2
 refine wp_loop_rounds 1 ?_
 rw [rounds_succ]
 go_wp2
 go_ret
 exact ⟨rfl, rfl⟩
theorem call_Is : Callable Tryz.prog 24 := ⟨_, Tryz.func24, by kernel_rfl, by kernel_rfl⟩
def eErr (a : Addr) : DV := .v (.iface 309 (.pointer (some a)))
theorem p_IsS {GB : Gh} {a : Addr} : PF GB Tryz.prog 24 [eErr a, eErr a] (.v (.bool true)) := by
 intro G vs _ hv
 obtain ⟨v1, m, rfl, h1, hm⟩ := isl_cons.1 hv
 obtain ⟨v2, m, rfl, h2, hm⟩ := isl_cons.1 hm
 rw [isl_nil] at hm; subst hm
 cases is_v.1 h1; cases is_v.1 h2
 exact (Fn.of_calls call_Is (is_same a)).mono fun v G' _ h => is_v.2 h
theorem p_IsN {GB : Gh} {a : Addr} : PF GB Tryz.prog 24 [.v .nilIface, eErr a] (.v (.bool false)) := by
 intro G vs _ hv
 obtain ⟨v1, m, rfl, h1, hm⟩ := isl_cons.1 hv
 obtain ⟨v2, m, rfl, h2, hm⟩ := isl_cons.1 hm
 rw [isl_nil] at hm; subst hm
 cases is_v.1 h1; cases is_v.1 h2
 exact (Fn.of_calls call_Is (is_nil a)).mono fun v G' _ h => is_v.2 h
end Go.Sx
end

section
set_option maxRecDepth 100000
namespace Go.Sx
open Go Go.Proofs
section
variable {GB : Gh} {C : Ctx} {n : Nat} {Q0 : Exit → Act → World → Prop} {fr fr' : FrX} {own own' : OwX} {cf cf' : Cf} {vc : List Prop}
def glA (fr : FrX) (cf : Cf) : Option Nat := match opC fr cf with
 | some ⟨_, .load t (.global g), _, _, _, _⟩ => (match lookT tt t with
   | some i => match i.ag with
     | some none => some g
     | _ => none
   | none => none)
 | _ => none
theorem gl [fu : Fu] {g : Nat} {v : Value} (h : glA fr cf = some g) (hg : GB g = some [v]) (hgo : goA tt n fu.n fr own cf (.d (.v v)) [] [] = ⟨vc, fr', own', cf'⟩) (k : CfS Tryz.prog GB C n Q0 fr' own' cf')
  (hv : allP vc := by first | exact trivial | (simp only [allP]; kernel_rfl) | (simp only [allP]; omega)) : CfS Tryz.prog GB C n Q0 fr own cf := by
 unfold glA at h
 split at h <;> try (cases h; done)
 rename_i hh
 split at h <;> try (cases h; done)
 rename_i i hT
 split at h <;> cases h
 rename_i ha
 haveI := ti_agS (tt_ok _ _ hT) ha
 refine us (f := .d (.v v)) hh (OpR.yd fun ρ G ov a w r => ⟨v, (is_v (G := G)).2 rfl, ?_⟩) hgo hv k
 haveI : GHas G g [v] := ⟨r.gb _ _ hg⟩
 exact yd_load_gh1 (b := g) (off := 0) rfl ghi rfl
theorem toDX_look {d : Nat} {f : FX} {x : DV} (hl : lookX fr d = some f) (e : toDX f = some x) {Φ : Act → World → Prop} (h : SX GB C n (lookX ((d, .d x) :: fr)) (lookO own) Φ) : SX GB C n (lookX fr) (lookO own) Φ := lookX_same (g := .d x) hl (fun _ _ _ k => toDX_is k e) h
theorem dvE (d : Nat) {f : FX} (x : DV) {e : Exit} {K : List Kt} (hl : lookX fr d = some f) (e1 : toDX f = some x) (k : CfS Tryz.prog GB C n Q0 ((d, .d x) :: fr) own (.ex e K)) : CfS Tryz.prog GB C n Q0 fr own (.ex e K) := toDX_look hl e1 k
theorem isXs_unapp {ρ : NE} {G : Gh} : ∀ {a b : List FX} {m : List Value}, IsXs ρ G (a ++ b) m → ∃ m1 m2, m = m1 ++ m2 ∧ IsXs ρ G a m1 ∧ IsXs ρ G b m2
 | [], b, m, h => ⟨[], m, rfl, rfl, h⟩
 | f :: t, b, m, ⟨y, n, e, h1, h2⟩ => by
   obtain ⟨m1, m2, rfl, k1, k2⟩ := isXs_unapp h2
   exact ⟨y :: m1, m2, e, ⟨y, m1, rfl, h1, k1⟩, k2⟩
theorem isXs_und {ρ : NE} {G : Gh} : ∀ {l : List DV} {m : List Value}, IsXs ρ G (l.map .d) m → IsLs G l m
 | [], m, h => isl_nil.2 h
 | d :: t, m, ⟨y, n, e, h1, h2⟩ => by subst e; exact .cons h1 (isXs_und h2)
theorem ok_bz {lk : LK} {bk : BM} {d s : Nat} {e t ty' : TypeId} {pos : String} {af : Array Edge} {gd : Option (Nat × Bool)} {fo : List (Nat × Nat × Nat)} {i : TI} {pre post : List DV} (hi : tiOf Tryz.prog t = some i) (hk : i.k = .st fo) (hz : i.z = some (pre.map .d ++ .nl :: post.map .d)) :
  OpR Tryz.prog GB C n lk bk ⟨some d, .build t ⟨[]⟩, ty', pos, af, gd⟩ (.bx false pre d post) [(d, some (.b e s [] true))] [d] := by
 intro hd tl tb K' s1 s2 hf hk'
 refine ⟨fun ρ G ov a w r Q => ?_⟩
 obtain ⟨v, hv, hv'⟩ := ti_zero hi hz
 have := ti_sty hi hk
 obtain ⟨l, h1, h2⟩ := bldX_bld (r.mono s1 s2) (fo := fo) [] _ _ _ rfl (hv' ρ G)
 obtain ⟨m1, m2', rfl, k1, y, m2, rfl, k2, k3⟩ := isXs_unapp h2
 cases (show y = .slice none 0 0 from k2)
 have hy : Yd Tryz.prog C (frA a) ov G ⟨some d, .build t ⟨[]⟩, ty', pos, af, gd⟩ (.agg ⟨m1 ++ Value.slice none 0 0 :: m2⟩) := yd_build h1
 have r3 := r.new' (x := ⟨none, 0, 0⟩) (B' := .b e s [] true) (os := []) (ov' := ov) (f := .bx false pre d post) (y := .agg ⟨m1 ++ Value.slice none 0 0 :: m2⟩) hf (GLe.refl G) r.h
  ⟨[], by simp only [if_true]; exact .inl ⟨rfl, rfl, rfl⟩, .nil, by simp, fun _ o ho => by cases ho⟩ (fun o ho => by cases ho) (fun m B _ _ o ho _ => ⟨ho, by simp⟩)
  ⟨m1, m2, by simp, isXs_und k1, isXs_und k3⟩ (r.putA _ hd)
 exact ch_value (hy a w (frA_ok a) r.h) (hk'.run _ G ov _ w r3)
def bzA (fr : FrX) (cf : Cf) : Option (Nat × List FX) := match opC fr cf with
 | some ⟨some d, .build t ⟨[]⟩, _, _, _, _⟩ => match lookT tt t with
   | some ⟨.st _, _, some zx, _⟩ => some (d, zx)
   | _ => none
 | _ => none
theorem bz [fu : Fu] {d : Nat} {zx : List FX} (e s : Nat) (pre post : List DV) (h : bzA fr cf = some (d, zx)) (hz : zx = pre.map .d ++ .nl :: post.map .d) (hgo : goA tt n fu.n fr own cf (.bx false pre d post) [(d, some (.b e s [] true))] [d] = ⟨vc, fr', own', cf'⟩) (k : CfS Tryz.prog GB C n Q0 fr' own' cf')
  (hv : allP vc := by first | exact trivial | (simp only [allP]; kernel_rfl) | (simp only [allP]; omega)) : CfS Tryz.prog GB C n Q0 fr own cf := by
 unfold bzA at h
 split at h <;> try (cases h; done)
 rename_i hh
 split at h <;> cases h
 rename_i hT
 subst hz
 exact us hh (ok_bz (tt_ok _ _ hT) rfl rfl) hgo hv k
end
end Go.Sx
end

section
set_option maxRecDepth 100000
namespace Go.Sx
open Go Go.Proofs
structure EG (GB : Gh) (ai al ae : Addr) : Prop where
 ErrInvalid : GB 1 = some [.iface 309 (.pointer (some ai))]
 ErrLimit : GB 2 = some [.iface 309 (.pointer (some al))]
 ErrEmpty : GB 0 = some [.iface 309 (.pointer (some ae))]
structure Tr.gd (t : Tr) : Prop where
 lb : t.all LB
 ok : t.all LnQ.ok
theorem Tr.restrict_size : ∀ (t : Tr) (c : CellQ), (t.restrict c).size ≤ t.size
 | .leaf _, _ => Nat.le_refl _
 | .node l x y, c => by
   rw [Tr.restrict]
   have hx := fun c => x.restrict_size c
   have hy := fun c => y.restrict_size c
   split
   · have := hx c; simp only [Tr.size]; omega
   · split
     · have := hy c; simp only [Tr.size]; omega
     · have h1 := hx (clipC c l)
       have h2 := hy (clipC c l.rev)
       rcases Tr.joinQ_cases l (x.restrict (clipC c l)) (y.restrict (clipC c l.rev)) with ⟨h, _⟩ | ⟨h, _⟩ <;> rw [h] <;> (try simp only [Tr.size]) <;> omega
theorem Tr.compl_size : ∀ t : Tr, t.compl.size = t.size
 | .leaf _ => rfl
 | .node l x y => by simp only [Tr.compl, Tr.size, x.compl_size, y.compl_size]
theorem Tr.compl_all (p : LnQ → Prop) : ∀ t : Tr, t.all p → t.compl.all p
 | .leaf _, h => h
 | .node l x y, ⟨h0, h1, h2⟩ => ⟨h0, x.compl_all p h1, y.compl_all p h2⟩
theorem Tr.chooseQ_all (p : LnQ → Prop) (op : Int) (b : Bool) (t : Tr) (c : CellQ) (h : t.all p) : (t.chooseQ op b c).all p := by
 have := t.restrict_all p c h
 unfold chooseQ
 split
 · split
   · trivial
   · exact this
 · split
   · trivial
   · split
     · exact (t.restrict c).compl_all p this
     · exact this
theorem Tr.chooseQ_size (op : Int) (b : Bool) (t : Tr) (c : CellQ) : (t.chooseQ op b c).size ≤ t.size := by
 have := t.restrict_size c
 unfold chooseQ
 split
 · split
   · exact Nat.zero_le _
   · exact this
 · split
   · exact Nat.zero_le _
   · split
     · rw [(t.restrict c).compl_size]; exact this
     · exact this
theorem Tr.mergeQ_all (p : LnQ → Prop) (op : Int) {u : Tr} (hu : u.all p) : ∀ (t : Tr) (c : CellQ), t.all p → (t.mergeQ op u c).all p
 | .leaf b, c, _ => u.chooseQ_all p op b c hu
 | .node l x y, c, ⟨h0, h1, h2⟩ => by
   rw [Tr.mergeQ]
   split
   · exact Tr.mergeQ_all p op hu x c h1
   · split
     · exact Tr.mergeQ_all p op hu y c h2
     · rcases Tr.joinQ_cases l (x.mergeQ op u (clipC c l)) (y.mergeQ op u (clipC c l.rev)) with ⟨h, _⟩ | ⟨h, _⟩
       · rw [h]; exact Tr.mergeQ_all p op hu x _ h1
       · rw [h]; exact ⟨h0, Tr.mergeQ_all p op hu x _ h1, Tr.mergeQ_all p op hu y _ h2⟩
theorem Tr.mergeQ_size (op : Int) (u : Tr) : ∀ (t : Tr) (c : CellQ), (t.mergeQ op u c).size + 1 ≤ (t.size + 1) * (u.size + 1)
 | .leaf b, c => by
   have := u.chooseQ_size op b c
   show (u.chooseQ op b c).size + 1 ≤ (0 + 1) * (u.size + 1)
   omega
 | .node l x y, c => by
   have hx := fun c => Tr.mergeQ_size op u x c
   have hy := fun c => Tr.mergeQ_size op u y c
   have e : ((Tr.node l x y).size + 1) * (u.size + 1) = (x.size + 1) * (u.size + 1) + (y.size + 1) * (u.size + 1) := by
     rw [← Nat.add_mul]; congr 1; simp only [Tr.size]; omega
   rw [e, Tr.mergeQ]
   split
   · have := hx c; omega
   · split
     · have := hy c; omega
     · have h1 := hx (clipC c l)
       have h2 := hy (clipC c l.rev)
       rcases Tr.joinQ_cases l (x.mergeQ op u (clipC c l)) (y.mergeQ op u (clipC c l.rev)) with ⟨h, _⟩ | ⟨h, _⟩ <;> rw [h] <;> (try simp only [Tr.size]) <;> omega
theorem Tr.depth_size : ∀ t : Tr, t.depth ≤ t.size
 | .leaf _ => Nat.le_refl _
 | .node l x y => by
   have h1 := x.depth_size
   have h2 := y.depth_size
   simp only [Tr.depth, Tr.size]
   omega
def limQ (op : Int) (a b : Tr) : Option Tr := if 1024 < a.depth + b.depth then none else if 65536 < (a.mergeQ op b []).size then none else some (a.mergeQ op b [])
def limD (al : Addr) : Option Tr → DV
 | some t => .tp [eU t, .v .nilIface]
 | none => .tp [.v (.pointer none), eErr al]
theorem limQ_gd {op : Int} {a b t : Tr} (ha : a.gd) (hb : b.gd) (h : limQ op a b = some t) : t.gd ∧ t.size ≤ 65536 := by
 unfold limQ at h
 split at h
 · cases h
 · split at h
   · cases h
   · cases h
     exact ⟨⟨Tr.mergeQ_all LB op hb.lb a [] ha.lb, Tr.mergeQ_all LnQ.ok op hb.ok a [] ha.ok⟩, by omega⟩
theorem p_limited {GB : Gh} {ai al ae : Addr} (hE : EG GB ai al ae) {op : Int} {a b : Tr} (ha : a.gd) (hb : b.gd) (hsa : a.size ≤ 65536) (hsb : b.size ≤ 65536) : PF GB Tryz.prog 135 [vI op, eU a, eU b] (limD al (limQ op a b)) := by
 have hda := a.depth_size
 have hdb := b.depth_size
 have hms := Tr.mergeQ_size op b a []
 have hmm : (a.size + 1) * (b.size + 1) ≤ 65537 * 65537 := Nat.mul_le_mul (by omega) (by omega)
 refine fn Tryz.func135 rfl rfl Tryz.ntmps135 rfl rfl (fun C => ?_)
 refine cl rfl (p_Depth (t := a) (by omega)) rfl <| cl rfl (p_Depth (t := b) (by omega)) rfl <| ?_
 refine br rfl rfl rfl (fun hc14 => ?_) (fun hc14 => ?_)
 ·
  refine gl rfl hE.ErrLimit rfl <| ?_
  exact rz rfl (by unfold limQ; rw [if_pos (by omega)]; rfl)
 ·
  refine cl rfl (p_Merge (op := op) (t := a) (u := b) (c := []) hb.lb hb.ok ha.lb ha.ok (fun s h => by cases h) (by simp only [List.length_nil]; omega)) rfl <| cl rfl (p_Size (t := a.mergeQ op b []) (by omega)) rfl <| ?_
  refine br rfl rfl rfl (fun hc22 => ?_) (fun hc22 => ?_)
  ·
   refine gl rfl hE.ErrLimit rfl <| ?_
   exact rz rfl (by unfold limQ; rw [if_neg (by omega), if_pos (by omega)]; rfl)
  ·
   exact rz rfl (by unfold limQ; rw [if_neg (by omega), if_neg (by omega)]; rfl)
theorem p_limS {GB : Gh} {ai al ae : Addr} (hE : EG GB ai al ae) {op : Int} {a b t : Tr} (ha : a.gd) (hb : b.gd) (hsa : a.size ≤ 65536) (hsb : b.size ≤ 65536) (h : limQ op a b = some t) : PF GB Tryz.prog 135 [vI op, eU a, eU b] (.tp [eU t, .v .nilIface]) := by
 have := p_limited hE (op := op) ha hb hsa hsb; rw [h] at this; exact this
theorem p_limN {GB : Gh} {ai al ae : Addr} (hE : EG GB ai al ae) {op : Int} {a b : Tr} (ha : a.gd) (hb : b.gd) (hsa : a.size ≤ 65536) (hsb : b.size ≤ 65536) (h : limQ op a b = none) : PF GB Tryz.prog 135 [vI op, eU a, eU b] (.tp [.v (.pointer none), eErr al]) := by
 have := p_limited hE (op := op) ha hb hsa hsb; rw [h] at this; exact this
theorem p_TwoS {GB : Gh} {ai al ae : Addr} (hE : EG GB ai al ae) {op : Int} {a b t : Tr} (ha : a.gd) (hb : b.gd) (hsa : a.size ≤ 65536) (hsb : b.size ≤ 65536) (h : limQ op a b = some t) : PF GB Tryz.prog 85 [vI op, eU a, eU b] (.tp [eU t, .v .nilIface]) := by
 refine fn Tryz.func85 rfl rfl Tryz.ntmps85 rfl rfl (fun C => ?_)
 refine cl rfl (p_limS hE ha hb hsa hsb h) rfl <| ?_
 exact rz rfl rfl
theorem p_TwoN {GB : Gh} {ai al ae : Addr} (hE : EG GB ai al ae) {op : Int} {a b : Tr} (ha : a.gd) (hb : b.gd) (hsa : a.size ≤ 65536) (hsb : b.size ≤ 65536) (h : limQ op a b = none) : PF GB Tryz.prog 85 [vI op, eU a, eU b] (.tp [.v (.pointer none), eErr al]) := by
 refine fn Tryz.func85 rfl rfl Tryz.ntmps85 rfl rfl (fun C => ?_)
 refine cl rfl (p_limN hE ha hb hsa hsb h) rfl <| ?_
 exact rz rfl rfl
def allQ (op : Int) : Tr → List Tr → Option Tr
 | t, [] => some t
 | t, u :: us => match limQ op t u with
   | none => none
   | some r => allQ op r us
theorem allQ_dr {op : Int} {t u : Tr} {us : List Tr} {k : Nat} (h : us[k]? = some u) : allQ op t (us.drop k) = match limQ op t u with | none => none | some r => allQ op r (us.drop (k + 1)) := by
 rw [drop_getS h]; rfl
theorem restrict_gd {t : Tr} (h : t.gd) (c : CellQ) : (t.restrict c).gd := ⟨t.restrict_all LB c h.lb, t.restrict_all LnQ.ok c h.ok⟩
set_option maxHeartbeats 1000000 in
theorem p_BAll {GB : Gh} {ai al ae : Addr} (hE : EG GB ai al ae) {op : Int} {a : Tr} {us : List Tr} (ha : a.gd) (hsa : a.size ≤ 65536) (hus : ∀ u ∈ us, u.gd ∧ u.size ≤ 65536) (hn : us.length ≤ 1000000) : PF GB Tryz.prog 86 [vI op, eU a, .sl (us.map eU)] (limD al (if 1024 < a.depth then none else allQ op (a.restrict []) us)) := by
 have hda := a.depth_size
 have hm := map_len eU us
 have hrs := a.restrict_size []
 have hrg := restrict_gd ha []
 refine fn Tryz.func86 rfl rfl Tryz.ntmps86 rfl rfl (fun C => ?_)
 refine cl rfl (p_Depth (t := a) (by omega)) rfl <| ?_
 refine br rfl rfl rfl (fun hc14 => ?_) (fun hc14 => ?_)
 ·
  refine gl rfl hE.ErrLimit rfl <| ?_
  exact rz rfl (by rw [if_pos (by omega)]; rfl)
 ·
  refine cl (fu := ⟨8⟩) rfl (p_Reduce (t := a) ha.lb ha.ok (by omega)) rfl <| ?_
  refine eqF 19 (.d (vI (us.length : Nat))) rfl (by rw [hm] <;> rfl) ?_
  refine gx rfl <| ?_
  refine lp (X := Tr × Nat) (fun ⟨t, k⟩ => [(20, .d (vI (k : Nat))), (8, .d (eU t))]) (fun ⟨t, k⟩ => []) (fun ⟨t, k⟩ => k ≤ us.length ∧ t.gd ∧ t.size ≤ 65536 ∧ allQ op t (us.drop k) = allQ op (a.restrict []) us) (fun ⟨t, k⟩ => us.length - k) (a.restrict [], 0) rfl ⟨Nat.zero_le _, hrg, by omega, rfl⟩ (fun _ => rfl) (fun ⟨t, k⟩ hk => ?_)
  dsimp only at hk ⊢
  obtain ⟨h1, h2, h3, h4⟩ := hk
  refine br rfl rfl rfl (fun hc21 => ?_) (fun hc21 => ?_)
  ·
   obtain ⟨u, hu0⟩ : ∃ s, us[k]? = some s := ⟨_, List.getElem?_eq_getElem (by omega)⟩
   have hu := hus u (List.mem_of_getElem? hu0)
   refine ix _ rfl (map_getS hu0) rfl <| ?_
   rcases hr : limQ op t u with _ | r
   ·
    refine cl rfl (p_limN hE h2 hu.1 h3 hu.2 hr) rfl <| ?_
    exact rz rfl (by rw [if_neg (by omega), ← h4, allQ_dr hu0, hr]; rfl)
   ·
    have hrr := limQ_gd h2 hu.1 hr
    refine cl rfl (p_limS hE h2 hu.1 h3 hu.2 hr) rfl <| ?_
    exact at_ (r, k + 1) (by dsimp only; exact ⟨⟨by omega, hrr.1, hrr.2, by rw [← h4, allQ_dr hu0, hr]⟩, (by omega)⟩)
  ·
   exact rz rfl (by rw [if_neg (by omega), ← h4, List.drop_of_length_le (by omega)]; rfl)
theorem p_oper {GB : Gh} {op : Int} : PF GB Tryz.prog 84 [vI op] (vB (decide (1 ≤ op ∧ op ≤ 4))) := by
 refine fn (fu := ⟨8⟩) Tryz.func84 rfl rfl Tryz.ntmps84 rfl rfl (fun C => ?_)
 refine csS (fu1 := ⟨2⟩) rfl rfl rfl rfl (fun hg4 => ?_) (fun hg4 => ?_)
 ·
  refine csS rfl rfl rfl rfl (fun hg7 => ?_) (fun hg7 => ?_)
  ·
   exact rz rfl (by show DV.v (.bool _) = .v (.bool _); congr 2; simp; omega)
  ·
   exact rz rfl (by show DV.v (.bool _) = .v (.bool _); congr 2; simp; omega)
 ·
  exact rz rfl (by show DV.v (.bool _) = .v (.bool _); congr 2; simp; omega)
theorem p_operT {GB : Gh} {op : Int} (h : 1 ≤ op ∧ op ≤ 4) : PF GB Tryz.prog 84 [vI op] (vB true) := by
 have := p_oper (GB := GB) (op := op); rw [decide_eq_true h] at this; exact this
theorem p_operF {GB : Gh} {op : Int} (h : ¬ (1 ≤ op ∧ op ≤ 4)) : PF GB Tryz.prog 84 [vI op] (vB false) := by
 have := p_oper (GB := GB) (op := op); rw [decide_eq_false h] at this; exact this
theorem p_OfS {GB : Gh} {ns : List RN} {rt : Int} {t : Tr} (hs : ∀ n ∈ ns, n.g.sm) (hn : ns.length ≤ 65536) (h : ofQ ns rt = some t) : PF GB Tryz.prog 63 [eRT rt ns] (.tp [eU t, vB true]) := by
 have := p_OfQ (GB := GB) (rt := rt) hs hn; rw [h] at this; exact this
theorem p_OfN {GB : Gh} {ns : List RN} {rt : Int} (hs : ∀ n ∈ ns, n.g.sm) (hn : ns.length ≤ 65536) (h : ofQ ns rt = none) : PF GB Tryz.prog 63 [eRT rt ns] (.tp [.v (.pointer none), vB false]) := by
 have := p_OfQ (GB := GB) (rt := rt) hs hn; rw [h] at this; exact this
def trZ : DV := .ag [vI 0, .sl []]
def resD : Tr ⊕ Addr → DV
 | .inl t => .tp [eA t, .v .nilIface]
 | .inr e => .tp [trZ, eErr e]
def compX (ai : Addr) : Option Tr → Tr ⊕ Addr
 | some t => .inl t.compl
 | none => .inr ai
def limX (al : Addr) : Option Tr → Tr ⊕ Addr
 | some t => .inl t
 | none => .inr al
def mergeX (ai al : Addr) (op : Int) : Option Tr → Option Tr → Tr ⊕ Addr
 | some a, some b => if 1 ≤ op ∧ op ≤ 4 then limX al (limQ op a b) else .inr ai
 | _, _ => .inr ai
theorem ofQ_gd {ns : List RN} {rt : Int} {t : Tr} (hs : ∀ n ∈ ns, n.g.sm) (hn : ns.length ≤ 65536) (h : ofQ ns rt = some t) : t.gd ∧ t.size ≤ 65536 := by
 obtain ⟨h1, h2, h3⟩ := ofQ_good hs h
 exact ⟨⟨h1, h2⟩, by omega⟩
theorem compl_gd {t : Tr} (h : t.gd) : t.compl.gd := ⟨t.compl_all LB h.lb, t.compl_all LnQ.ok h.ok⟩
theorem p_MCompl {GB : Gh} {ai al ae : Addr} (hE : EG GB ai al ae) {n1 : List RN} {r1 : Int} (hs1 : ∀ n ∈ n1, n.g.sm) (hn1 : n1.length ≤ 65536) : PF GB Tryz.prog 34 [eRT r1 n1] (resD (compX ai (ofQ n1 r1))) := by
 refine fn Tryz.func34 rfl rfl Tryz.ntmps34 rfl rfl (fun C => ?_)
 rcases h1 : ofQ n1 r1 with _ | t
 ·
  refine cl (fu := ⟨3⟩) rfl (p_OfN hs1 hn1 h1) rfl <| ?_
  refine kbF 10 rfl ?_
  refine gx rfl <| gl rfl hE.ErrInvalid rfl <| ?_
  exact rz rfl rfl
 ·
  have g1 := ofQ_gd hs1 hn1 h1
  refine cl (fu := ⟨3⟩) rfl (p_OfS hs1 hn1 h1) rfl <| ?_
  refine kbT 10 rfl ?_
  refine gx rfl <| cl rfl p_Compl rfl <| cl rfl (p_API (t := t.compl) (compl_gd g1.1).lb (by rw [t.compl_size]; omega)) rfl <| ?_
  exact rz rfl rfl
set_option maxHeartbeats 1000000 in
theorem p_MMerge {GB : Gh} {ai al ae : Addr} (hE : EG GB ai al ae) {op : Int} {n1 : List RN} {r1 : Int} (hs1 : ∀ n ∈ n1, n.g.sm) (hn1 : n1.length ≤ 65536) {n2 : List RN} {r2 : Int} (hs2 : ∀ n ∈ n2, n.g.sm) (hn2 : n2.length ≤ 65536) : PF GB Tryz.prog 35 [vI op, eRT r1 n1, eRT r2 n2] (resD (mergeX ai al op (ofQ n1 r1) (ofQ n2 r2))) := by
 refine fn Tryz.func35 rfl rfl Tryz.ntmps35 rfl rfl (fun C => ?_)
 rcases h1 : ofQ n1 r1 with _ | a
 ·
  refine cl (fu := ⟨3⟩) rfl (p_OfN hs1 hn1 h1) rfl <| ?_
  refine kbF 18 rfl ?_
  refine gx rfl <| ?_
  rcases h2 : ofQ n2 r2 with _ | b
  ·
   refine cl (fu := ⟨3⟩) rfl (p_OfN hs2 hn2 h2) rfl <| ?_
   refine kbF 23 rfl ?_
   refine gx rfl <| gl rfl hE.ErrInvalid rfl <| ?_
   exact rz rfl rfl
  ·
   have g2 := ofQ_gd hs2 hn2 h2
   refine cl (fu := ⟨3⟩) rfl (p_OfS hs2 hn2 h2) rfl <| ?_
   refine kbT 23 rfl ?_
   refine gx rfl <| gl rfl hE.ErrInvalid rfl <| ?_
   exact rz rfl rfl
 ·
  have g1 := ofQ_gd hs1 hn1 h1
  refine cl (fu := ⟨3⟩) rfl (p_OfS hs1 hn1 h1) rfl <| ?_
  refine kbT 18 rfl ?_
  refine gx rfl <| ?_
  rcases h2 : ofQ n2 r2 with _ | b
  ·
   refine cl (fu := ⟨3⟩) rfl (p_OfN hs2 hn2 h2) rfl <| ?_
   refine kbF 23 rfl ?_
   refine gx rfl <| gl rfl hE.ErrInvalid rfl <| ?_
   exact rz rfl rfl
  ·
   have g2 := ofQ_gd hs2 hn2 h2
   refine cl (fu := ⟨3⟩) rfl (p_OfS hs2 hn2 h2) rfl <| ?_
   refine kbT 23 rfl ?_
   refine gx rfl <| ?_
   by_cases ho : 1 ≤ op ∧ op ≤ 4
   ·
    refine cl (fu := ⟨0⟩) rfl (p_operT ho) rfl <| ?_
    refine kbT 32 rfl ?_
    refine gx rfl <| ?_
    rcases hm : limQ op a b with _ | t
    ·
     refine cl rfl (p_TwoN hE g1.1 g2.1 g1.2 g2.2 hm) rfl <| ?_
     exact rz rfl (by rw [mergeX, if_pos ho, hm]; rfl)
    ·
     have gt := limQ_gd g1.1 g2.1 hm
     refine cl rfl (p_TwoS hE g1.1 g2.1 g1.2 g2.2 hm) rfl <| cl rfl (p_API (t := t) gt.1.lb (by omega)) rfl <| ?_
     exact rz rfl (by rw [mergeX, if_pos ho, hm]; rfl)
   ·
    refine cl (fu := ⟨0⟩) rfl (p_operF ho) rfl <| ?_
    refine kbF 32 rfl ?_
    refine gx rfl <| gl rfl hE.ErrInvalid rfl <| ?_
    exact rz rfl (by rw [mergeX, if_neg ho]; rfl)
abbrev TIn := Int × List RN
def TIn.d (x : TIn) : DV := eRT x.1 x.2
def TIn.q (x : TIn) : Option Tr := ofQ x.2 x.1
def ofP : Option Tr → DV
 | some t => eU t
 | none => .v (.pointer none)
def goodK (op : Int) (ts : List TIn) : Bool := decide (1 ≤ op ∧ op ≤ 4) && ts.all fun x => x.q.isSome
theorem goodK_snoc {op : Int} {ts : List TIn} {x : TIn} {k : Nat} (h : ts[k]? = some x) : goodK op (ts.take (k + 1)) = (goodK op (ts.take k) && x.q.isSome) := by
 unfold goodK
 rw [List.take_add_one, h, List.all_append, Bool.and_assoc]
 simp
def allX (ai al ae : Addr) (op : Int) (ts : List TIn) : Tr ⊕ Addr :=
 if goodK op ts then (match ts.filterMap TIn.q with
   | [] => .inr ae
   | a :: us => if 1024 < a.depth then .inr al else limX al (allQ op (a.restrict []) us)) else .inr ai
def ofPs (ts : List TIn) : List DV := ts.map fun x => ofP x.q
theorem ofPs_len (ts : List TIn) : (ofPs ts).length = ts.length := by simp [ofPs]
theorem ofPs_snoc {ts : List TIn} {x : TIn} {k : Nat} (h : ts[k]? = some x) : ofPs (ts.take (k + 1)) = ofPs (ts.take k) ++ [ofP x.q] := by
 unfold ofPs
 rw [List.take_add_one, h, List.map_append]; rfl
theorem slOkUs : ∀ (us : List Tr), slOk 1 (us.map eU) := fun us d hd => by
 obtain ⟨u, _, rfl⟩ := List.mem_map.1 hd; exact ⟨rfl, rfl⟩
theorem map_ofP {ts : List TIn} (h : ts.all (fun x => x.q.isSome) = true) : ofPs ts = (ts.filterMap TIn.q).map eU := by
 unfold ofPs
 induction ts with
 | nil => rfl
 | cons x ts ih =>
   simp only [List.all_cons, Bool.and_eq_true] at h
   obtain ⟨t, ht⟩ := Option.isSome_iff_exists.1 h.1
   simp only [List.map_cons, List.filterMap_cons, ht, ih h.2]
   rfl
theorem filt_gd {ts : List TIn} (h : ∀ x ∈ ts, (∀ n ∈ x.2, n.g.sm) ∧ x.2.length ≤ 65536) : ∀ u ∈ ts.filterMap TIn.q, u.gd ∧ u.size ≤ 65536 := fun u hu => by
 obtain ⟨x, hx, hq⟩ := List.mem_filterMap.1 hu
 exact ofQ_gd (h x hx).1 (h x hx).2 hq
structure TIn.ok (x : TIn) : Prop where
 s : ∀ n ∈ x.2, n.g.sm
 n : x.2.length ≤ 65536
theorem allQ_gd {op : Int} : ∀ {us : List Tr} {a t : Tr}, a.gd → a.size ≤ 65536 → (∀ u ∈ us, u.gd ∧ u.size ≤ 65536) → allQ op a us = some t → t.gd ∧ t.size ≤ 65536
 | [], a, t, h1, h2, _, h => by cases h; exact ⟨h1, h2⟩
 | u :: us, a, t, h1, h2, h3, h => by
   rw [allQ] at h
   cases hr : limQ op a u with
   | none => rw [hr] at h; cases h
   | some r =>
     rw [hr] at h
     have hu := h3 u List.mem_cons_self
     have := limQ_gd h1 hu.1 hr
     exact allQ_gd this.1 this.2 (fun v hv => h3 v (List.mem_cons_of_mem _ hv)) h
theorem p_BAllS {GB : Gh} {ai al ae : Addr} (hE : EG GB ai al ae) {op : Int} {a t : Tr} {us : List Tr} (ha : a.gd) (hsa : a.size ≤ 65536) (hus : ∀ u ∈ us, u.gd ∧ u.size ≤ 65536) (hn : us.length ≤ 1000000) (h : (if 1024 < a.depth then none else allQ op (a.restrict []) us) = some t) : PF GB Tryz.prog 86 [vI op, eU a, .sl (us.map eU)] (.tp [eU t, .v .nilIface]) := by
 have := p_BAll hE (op := op) ha hsa hus hn; rw [h] at this; exact this
theorem p_BAllN {GB : Gh} {ai al ae : Addr} (hE : EG GB ai al ae) {op : Int} {a : Tr} {us : List Tr} (ha : a.gd) (hsa : a.size ≤ 65536) (hus : ∀ u ∈ us, u.gd ∧ u.size ≤ 65536) (hn : us.length ≤ 1000000) (h : (if 1024 < a.depth then none else allQ op (a.restrict []) us) = none) : PF GB Tryz.prog 86 [vI op, eU a, .sl (us.map eU)] (.tp [.v (.pointer none), eErr al]) := by
 have := p_BAll hE (op := op) ha hsa hus hn; rw [h] at this; exact this
set_option maxHeartbeats 1000000 in
theorem p_MAll {GB : Gh} {ai al ae : Addr} (hE : EG GB ai al ae) {op : Int} {ts : List TIn} (hts : ∀ x ∈ ts, TIn.ok x) (hn : ts.length ≤ 1000000) : PF GB Tryz.prog 36 [vI op, .sl (ts.map TIn.d)] (resD (allX ai al ae op ts)) := by
 have hm := map_len TIn.d ts
 refine fn Tryz.func36 rfl rfl Tryz.ntmps36 rfl rfl (fun C => ?_)
 refine cl (fu := ⟨0⟩) rfl p_oper rfl <| ?_
 refine eqF 15 (.d (vB (goodK op (ts.take 0)))) rfl (by unfold goodK; simp [vB]) ?_
 refine gx (fu := ⟨8⟩) rfl <| ?_
 refine eqF 17 (.d (vI (ts.length : Nat))) rfl (by rw [hm] <;> rfl) ?_
 refine gx rfl <| ?_
 refine nr 6 6 108 1 rfl rfl rfl ?_
 refine lp (X := Nat) (fun k => [(18, .d (vI (k : Nat))), (6, .rw 6), (7, .d (vB (goodK op (ts.take k))))]) (fun k => [(6, some (.b 108 1 (ofPs (ts.take k)) true))]) (fun k => k ≤ ts.length) (fun k => ts.length - k) 0 rfl (Nat.zero_le _) (fun _ => rfl) (fun k hk => ?_)
 refine br rfl rfl rfl (fun hc19 => ?_) (fun hc19 => ?_)
 ·
   obtain ⟨x, hx0⟩ : ∃ s, ts[k]? = some s := ⟨_, List.getElem?_eq_getElem (by omega)⟩
   have hx := hts x (List.mem_of_getElem? hx0)
   have hmt := ofPs_len (ts.take k)
   rw [List.length_take] at hmt
   refine ix _ rfl (map_getS hx0) rfl <| ?_
   rcases hq : ofQ x.2 x.1 with _ | t
   ·
     refine cl (fu := ⟨3⟩) rfl (p_OfN hx.s hx.n hq) rfl <| ?_
     refine kbF 26 rfl ?_
     refine gx rfl <| rf rfl rfl <| ap (ofPs (ts.take (k + 1))) rfl (by rw [ofPs_snoc hx0, show x.q = none from hq]; rfl) (okRow_spec rfl) rfl <| ?_
     refine csb 32 rfl rfl rfl (fun hg32 => ?_) (fun hg32 => ?_)
     ·
       refine dvE 7 _ rfl rfl ?_
       refine eqF 7 (.d (vB (goodK op (ts.take (k + 1))))) rfl (by rw [goodK_snoc hx0]; simp [vB, TIn.q, hq, hg32]) ?_
       refine rnE 30 6 rfl ?_
       exact at_ (k + 1) ⟨(by omega), (by omega)⟩
     ·
       refine dvE 7 _ rfl rfl ?_
       refine eqF 7 (.d (vB (goodK op (ts.take (k + 1))))) rfl (by rw [goodK_snoc hx0]; simp [vB, TIn.q, hq, hg32]) ?_
       refine rnE 30 6 rfl ?_
       exact at_ (k + 1) ⟨(by omega), (by omega)⟩
   ·
     refine cl (fu := ⟨3⟩) rfl (p_OfS hx.s hx.n hq) rfl <| ?_
     refine kbT 26 rfl ?_
     refine gx rfl <| rf rfl rfl <| ap (ofPs (ts.take (k + 1))) rfl (by rw [ofPs_snoc hx0, show x.q = some t from hq]; rfl) (okRow_spec rfl) rfl <| ?_
     refine csb 32 rfl rfl rfl (fun hg32 => ?_) (fun hg32 => ?_)
     ·
       refine dvE 7 _ rfl rfl ?_
       refine eqF 7 (.d (vB (goodK op (ts.take (k + 1))))) rfl (by rw [goodK_snoc hx0]; simp [vB, TIn.q, hq, hg32]) ?_
       refine rnE 30 6 rfl ?_
       exact at_ (k + 1) ⟨(by omega), (by omega)⟩
     ·
       refine dvE 7 _ rfl rfl ?_
       refine eqF 7 (.d (vB (goodK op (ts.take (k + 1))))) rfl (by rw [goodK_snoc hx0]; simp [vB, TIn.q, hq, hg32]) ?_
       refine rnE 30 6 rfl ?_
       exact at_ (k + 1) ⟨(by omega), (by omega)⟩
 ·
   obtain rfl : k = ts.length := by omega
   rw [List.take_length]
   have hal : ∃ us, us = ts.filterMap TIn.q := ⟨_, rfl⟩
   refine bb (fu2 := ⟨4⟩) rfl rfl rfl (fun hc36 => ?_) (fun hc36 => ?_)
   ·
     refine gl rfl hE.ErrInvalid rfl <| ?_
     exact rz rfl (by unfold allX; rw [if_neg (by simpa using hc36)]; rfl)
   ·
     have hg : goodK op ts = true := by simpa using hc36
     have hall : ts.all (fun x => x.q.isSome) = true := by unfold goodK at hg; simp only [Bool.and_eq_true] at hg; exact hg.2
     have hfg := filt_gd (fun x hx => ⟨(hts x hx).s, (hts x hx).n⟩)
     rw [map_ofP hall]
     have hlf := List.length_filterMap_le TIn.q ts
     have hX : allX ai al ae op ts = (match ts.filterMap TIn.q with | [] => .inr ae | a :: us => if 1024 < a.depth then .inr al else limX al (allQ op (a.restrict []) us)) := by unfold allX; rw [if_pos hg]
     generalize ts.filterMap TIn.q = us at *
     have hmo := map_len eU us
     refine eqF 43 (.d (vI (us.length : Nat))) rfl (by rw [hmo] <;> rfl) ?_
     refine gx rfl <| ?_
     refine br (fu2 := ⟨0⟩) rfl rfl rfl (fun hc41 => ?_) (fun hc41 => ?_)
     ·
       obtain rfl : us = [] := List.eq_nil_of_length_eq_zero (by omega)
       refine gl rfl hE.ErrEmpty rfl <| ?_
       exact rz rfl (by rw [hX]; rfl)
     ·
       rcases us with _ | ⟨a, us⟩
       · exact absurd rfl hc41
       refine fzC 6 rfl ?_
       refine gx rfl <| ix _ rfl rfl rfl <| sc' 1 (us.length + 1) (us.map eU) rfl rfl (by show ((((us.map eU).length + 1 : Nat) : Int)) = _; rw [List.length_map]) (by simp [List.take_of_length_le]) (slOkUs (a :: us)) (by omega) (by simp) rfl <| ?_
       rcases hr : (if 1024 < a.depth then none else allQ op (a.restrict []) us) with _ | t
       ·
         refine cl rfl (p_BAllN hE (hfg a List.mem_cons_self).1 (hfg a List.mem_cons_self).2 (fun u hu => hfg u (List.mem_cons_of_mem _ hu)) (by simp only [List.length_cons] at hlf; omega) hr) rfl <| ?_
         exact rz rfl (by rw [hX]; split at hr; (· rename_i hd; simp only [if_pos hd]; rfl); (· rename_i hd; simp only [if_neg hd, hr]; rfl))
       ·
         have gt : t.gd ∧ t.size ≤ 65536 := by
           split at hr
           · cases hr
           · exact allQ_gd (restrict_gd (hfg a List.mem_cons_self).1 []) (by have := a.restrict_size []; have := (hfg a List.mem_cons_self).2; omega) (fun u hu => hfg u (List.mem_cons_of_mem _ hu)) hr
         refine cl rfl (p_BAllS hE (hfg a List.mem_cons_self).1 (hfg a List.mem_cons_self).2 (fun u hu => hfg u (List.mem_cons_of_mem _ hu)) (by simp only [List.length_cons] at hlf; omega) hr) rfl <| ?_
         refine cl rfl (p_API (t := t) gt.1.lb (by omega)) rfl <| ?_
         exact rz rfl (by rw [hX]; split at hr; (· cases hr); (· rename_i hd; simp only [if_neg hd, hr]; rfl))
end Go.Sx
end

section
set_option maxRecDepth 100000
namespace Go.Sx
open Go Go.Proofs
def RN.of (n : NQ) : RN := ⟨⟨decide (n.l.a < 0), dg n.l.a.natAbs, decide (n.l.b < 0), dg n.l.b.natAbs, decide (n.l.c < 0), dg n.l.c.natAbs⟩, n.a, n.b⟩
theorem eN_of (ns : List NQ) : ns.map eN = (ns.map RN.of).map RN.d := by
 rw [List.map_map]; rfl
theorem eA_RT (t : Tr) : eA t = eRT (t.num 0) ((t.wr 0).map RN.of) := by
 unfold eA eRT
 rw [eN_of]; rfl
theorem ivalR_of (a : Int) : ivalR (decide (a < 0)) (dg a.natAbs) = a := by
 unfold ivalR
 rw [(dg_spec _).1]
 split
 · rename_i h; have := of_decide_eq_true h; omega
 · rename_i h; have : ¬ a < 0 := fun e => h (decide_eq_true e); omega
theorem NrmI_of (a : Int) : NrmI (decide (a < 0)) (dg a.natAbs) := ⟨(dg_spec _).2.2, fun h => dg_len0.2 (by have := of_decide_eq_true h; omega)⟩
theorem RN.of_l (n : NQ) : (RN.of n).g.l = n.l := by
 unfold RN.of RL.l
 simp only [ivalR_of]
theorem RN.of_ln {n : NQ} (h : n.l.ok) : (RN.of n).g.ln = some n.l := by
 unfold RL.ln
 rw [if_pos ⟨⟨NrmI_of _, NrmI_of _, NrmI_of _⟩, by rw [RN.of_l]; exact h⟩, RN.of_l]
theorem RN.of_sm {n : NQ} (h : LB n.l) : (RN.of n).g.sm := by
 have key : ∀ a : Int, a.natAbs < 2 ^ 96 → DOk (dg a.natAbs) ∧ (dg a.natAbs).length ≤ 3 := fun a ha => ⟨(dg_spec _).2.1, by have := dg_len_le ha; omega⟩
 exact ⟨key _ h.bl.a, key _ h.bl.b, key _ h.bl.c⟩
theorem leafCode_ne (b : Bool) (k : Nat) : leafCode b ≠ (k : Int) := by cases b <;> (unfold leafCode; simp)
theorem RR.det {ns : List RN} {rt : Int} {s s1 : RS} {t1 : Tr} (h : RR ns rt s t1 s1) : ∀ {s2 : RS} {t2 : Tr}, RR ns rt s t2 s2 → t1 = t2 ∧ s1 = s2 := by
 induction h with
 | leaf b s =>
   intro s2 t2 h
   generalize hr : leafCode b = r at h
   cases h with
   | leaf b' s =>
     have : b = b' := by cases b <;> cases b' <;> first | rfl | (simp [leafCode] at hr)
     subst this; exact ⟨rfl, rfl⟩
   | bad rt s h1 h2 h => cases b <;> simp [leafCode] at hr <;> omega
   | line k => exact absurd hr (leafCode_ne _ _)
   | node k => exact absurd hr (leafCode_ne _ _)
 | bad rt s h1 h2 h =>
   intro s2 t2 h'
   cases h' with
   | leaf b s => cases b <;> simp [leafCode] at h1 h2
   | bad => exact ⟨rfl, rfl⟩
   | line k n s hn hf => 
     have := (List.getElem?_eq_some_iff.1 hn).1
     rcases h with h | h | ⟨j, e, _, hj⟩
     · omega
     · omega
     · have : j = k := by omega
       subst this; rw [hf] at hj; cases hj
   | node k n l s s2 s3 x y hn hf =>
     have := (List.getElem?_eq_some_iff.1 hn).1
     rcases h with h | h | ⟨j, e, _, hj⟩
     · omega
     · omega
     · have : j = k := by omega
       subst this; rw [hf] at hj; cases hj
 | line k n s hn hf hl =>
   intro s2 t2 h'
   generalize hr : (k : Int) = r at h'
   cases h' with
   | leaf b s => exact absurd hr.symm (leafCode_ne _ _)
   | bad rt s h1 h2 h =>
     have := (List.getElem?_eq_some_iff.1 hn).1
     rcases h with h | h | ⟨j, e, _, hj⟩
     · omega
     · omega
     · have : j = k := by omega
       subst this; rw [hf] at hj; cases hj
   | line k' n' s hn' hf' hl' =>
     have : k = k' := by omega
     subst this; exact ⟨rfl, rfl⟩
   | node k' n' l s s2 s3 x y hn' hf' hl' =>
     have : k = k' := by omega
     subst this; rw [hn] at hn'; cases hn'; rw [hl] at hl'; cases hl'
 | node k n l s s2 s3 x y hn hf hl h1 h2 i1 i2 =>
   intro s4 t4 h'
   generalize hr : (k : Int) = r at h'
   cases h' with
   | leaf b s => exact absurd hr.symm (leafCode_ne _ _)
   | bad rt s h1 h2 h =>
     have := (List.getElem?_eq_some_iff.1 hn).1
     rcases h with h | h | ⟨j, e, _, hj⟩
     · omega
     · omega
     · have : j = k := by omega
       subst this; rw [hf] at hj; cases hj
   | line k' n' s hn' hf' hl' =>
     have : k = k' := by omega
     subst this; rw [hn] at hn'; cases hn'; rw [hl] at hl'; cases hl'
   | node k' n' l' s s2' s3' x' y' hn' hf' hl' h1' h2' =>
     have : k = k' := by omega
     subst this; rw [hn] at hn'; cases hn'; rw [hl] at hl'; cases hl'
     obtain ⟨rfl, rfl⟩ := i1 h1'
     obtain ⟨rfl, rfl⟩ := i2 h2'
     exact ⟨rfl, rfl⟩
def RT' (ns : List NQ) : Tr → Int → List Nat → Prop
 | .leaf b, rt, L => rt = leafCode b ∧ L = []
 | .node l x y, rt, L => ∃ (k : Nat) (a b : Int) (L1 L2 : List Nat), rt = (k : Int) ∧ ns[k]? = some ⟨l, a, b⟩ ∧ RT' ns x a L1 ∧ RT' ns y b L2 ∧ L = k :: (L1 ++ L2)
theorem RT'.rr {ns : List NQ} : ∀ {t : Tr} {rt : Int} {L : List Nat} {s : RS}, RT' ns t rt L → t.all LnQ.ok → L.Nodup → (∀ j ∈ L, s.f j = false) → ∃ f, RR (ns.map RN.of) rt s t ⟨f, s.c + t.size, s.b⟩ ∧ ∀ j, j ∉ L → f j = s.f j
 | .leaf b, rt, L, s, ⟨e, e2⟩, _, _, _ => by
   subst e e2
   exact ⟨s.f, .leaf b s, fun _ _ => rfl⟩
 | .node l x y, rt, L, s, ⟨k, a, b, L1, L2, e, hk, hx, hy, e2⟩, ⟨h0, h1, h2⟩, hnd, hf => by
   subst e e2
   obtain ⟨hkn, hnd⟩ := List.nodup_cons.1 hnd
   obtain ⟨hd1, hd2, hdis⟩ := List.nodup_append.1 hnd
   have hfk := hf k List.mem_cons_self
   have hn1 : ∀ j ∈ L1, j ≠ k := fun j hj e => hkn (e ▸ List.mem_append_left _ hj)
   have hn2 : ∀ j ∈ L2, j ≠ k := fun j hj e => hkn (e ▸ List.mem_append_right _ hj)
   obtain ⟨f1, r1, g1⟩ := RT'.rr (s := ⟨setF s.f k, s.c + 1, s.b⟩) hx h1 hd1 (fun j hj => by simp only; rw [setF_ne (hn1 j hj)]; exact hf j (List.mem_cons_of_mem _ (List.mem_append_left _ hj)))
   simp only at r1 g1
   obtain ⟨f2, r2, g2⟩ := RT'.rr (s := ⟨f1, s.c + 1 + x.size, s.b⟩) hy h2 hd2 (fun j hj => by
     simp only
     rw [g1 j (fun h => hdis _ h _ hj rfl), setF_ne (hn2 j hj)]
     exact hf j (List.mem_cons_of_mem _ (List.mem_append_right _ hj)))
   simp only at r2 g2
   have hc : s.c + (Tr.node l x y).size = s.c + 1 + x.size + y.size := by simp only [Tr.size]; omega
   rw [hc]
   refine ⟨f2, .node k (RN.of ⟨l, a, b⟩) l s _ _ x y (by rw [List.getElem?_map, hk]; rfl) hfk (RN.of_ln h0) r1 r2, fun j hj => ?_⟩
   simp only [List.mem_cons, List.mem_append, not_or] at hj
   rw [g2 j hj.2.2, g1 j hj.2.1, setF_ne hj.1]
theorem RT'.len {ns : List NQ} : ∀ {t : Tr} {rt : Int} {L : List Nat}, RT' ns t rt L → L.length = t.size
 | .leaf _, _, _, ⟨_, h⟩ => by rw [h]; rfl
 | .node l x y, _, _, ⟨k, a, b, L1, L2, _, _, h1, h2, h⟩ => by
   rw [h, List.length_cons, List.length_append, RT'.len h1, RT'.len h2]
   simp only [Tr.size]
   omega
def RD' (ns : List NQ) (t : Tr) (rt : Int) : Prop := ∃ L, RT' ns t rt L ∧ L.Nodup ∧ L.length = ns.length
theorem ofQ_RD {ns : List NQ} {t : Tr} {rt : Int} (h : RD' ns t rt) (ho : t.all LnQ.ok) : ofQ (ns.map RN.of) rt = some t := by
 obtain ⟨L, h1, h2, h3⟩ := h
 obtain ⟨f, r, _⟩ := h1.rr (s := rs0) ho h2 (fun _ _ => rfl)
 have hr := rdF_ok (ns := ns.map RN.of) (m := (ns.map RN.of).length + 1) (rt := rt) (s := rs0) (by have := unseen_le (ns.map RN.of).length rs0.f; omega)
 obtain ⟨e1, e2⟩ := hr.1.det r
 unfold ofQ
 simp only
 rw [e2, e1, if_pos ⟨rfl, by show rs0.c + t.size = _; rw [List.length_map, ← h3, h1.len]; show 0 + _ = _; omega⟩]
theorem wr_RT {ns : List NQ} : ∀ {t : Tr} {n : Nat}, (∀ i, i < t.size → ns[n + i]? = (t.wr n)[i]?) → RT' ns t (t.num n) (List.range' n t.size)
 | .leaf b, n, _ => ⟨rfl, rfl⟩
 | .node l x y, n, h => by
   have hsz : (Tr.node l x y).size = 1 + x.size + y.size := rfl
   have hw : (Tr.node l x y).wr n = ⟨l, x.num (n + 1), y.num (n + 1 + x.size)⟩ :: (x.wr (n + 1) ++ y.wr (n + 1 + x.size)) := by simp [Tr.wr]
   have hx := x.wr_len (n + 1)
   have hy := y.wr_len (n + 1 + x.size)
   refine ⟨n, x.num (n + 1), y.num (n + 1 + x.size), List.range' (n + 1) x.size, List.range' (n + 1 + x.size) y.size, rfl, ?_, wr_RT fun i hi => ?_, wr_RT fun i hi => ?_, ?_⟩
   · have := h 0 (by omega)
     rw [hw, Nat.add_zero] at this
     rw [this]; rfl
   · have := h (1 + i) (by omega)
     rw [hw, Nat.add_comm 1 i, List.getElem?_cons_succ, List.getElem?_append_left (by omega)] at this
     rw [show n + 1 + i = n + (i + 1) by omega]; exact this
   · have := h (1 + x.size + i) (by omega)
     rw [hw, show 1 + x.size + i = (x.size + i) + 1 by omega, List.getElem?_cons_succ, List.getElem?_append_right (by omega), hx, Nat.add_sub_cancel_left] at this
     rw [show n + 1 + x.size + i = n + (x.size + i + 1) by omega]; exact this
   · rw [hsz, show 1 + x.size + y.size = (x.size + y.size) + 1 by omega, List.range'_succ, List.range'_append_1]
theorem ofQ_wr {t : Tr} (ho : t.all LnQ.ok) : ofQ ((t.wr 0).map RN.of) (t.num 0) = some t :=
 ofQ_RD ⟨_, wr_RT (n := 0) (fun i _ => by rw [Nat.zero_add]), List.nodup_range', by rw [List.length_range', t.wr_len]⟩ ho
theorem wr_sm {t : Tr} (hb : t.all LB) : ∀ n ∈ (t.wr 0).map RN.of, n.g.sm := fun n hn => by
 obtain ⟨m, hm, rfl⟩ := List.mem_map.1 hn
 exact RN.of_sm (Tr.all_wr 0 hb m hm)
end Go.Sx
end

section
set_option maxRecDepth 100000
namespace Go.Sx
open Go Go.Proofs
theorem PF.eq {GB : Gh} {P : Program} {f : FuncId} {vs : List DV} {r r' : DV} (h : PF GB P f vs r) (e : r = r') : PF GB P f vs r' := e ▸ h
def iP (m n : Int) : PtQ := ⟨(m : Rat), (n : Rat)⟩
theorem biOf {m : Int} {k : Nat} (h : m.natAbs < 2 ^ k) : BI m k := ⟨h⟩
theorem biC {m : Int} {k : Nat} (h : m.natAbs ≤ 1000) (hk : 10 ≤ k) : BI m k := ⟨Nat.lt_of_lt_of_le (show m.natAbs < 2 ^ 10 by omega) (Nat.pow_le_pow_right (by decide) hk)⟩
instance BPt.int (m n : Int) (i : Nat) [h : BI m i] [k : BI n i] : BPt (iP m n) (i + 1) := ⟨inferInstanceAs (BQ (m : Rat) (i + 1)), inferInstanceAs (BQ (n : Rat) (i + 1))⟩
theorem eQI {q : Rat} {k : Int} (h : q = (k : Rat)) : eQ q = eQ (k : Rat) := by rw [h]
theorem ePI {p : PtQ} {m n : Int} (h1 : p.x = (m : Rat)) (h2 : p.y = (n : Rat)) : eP p = eP (iP m n) := by
 obtain ⟨x, y⟩ := p
 simp only at h1 h2
 subst h1 h2
 rfl
def mkL (a b c : Int) : LnQ :=
 ⟨zv (decide (a < 0)) (a.natAbs / Nat.gcd (Nat.gcd a.natAbs b.natAbs) c.natAbs), zv (decide (b < 0)) (b.natAbs / Nat.gcd (Nat.gcd a.natAbs b.natAbs) c.natAbs), zv (decide (c < 0)) (c.natAbs / Nat.gcd (Nat.gcd a.natAbs b.natAbs) c.natAbs)⟩
theorem q_Xy {GB : Gh} {m n : Int} (hm : m.natAbs ≤ 1000) (hn : n.natAbs ≤ 1000) : PF GB Tryz.prog 38 [.v (.int .i64 m), .v (.int .i64 n)] (eP (iP m n)) := by
 refine fn Tryz.func38 rfl rfl Tryz.ntmps38 rfl rfl (fun C => ?_)
 refine cl rfl (q_Of (n := m) (by omega) (by omega)) rfl <| cl rfl (q_Of (n := n) (by omega) (by omega)) rfl <| ?_
 exact rz rfl rfl
theorem q_AddI {GB : Gh} {m n m' n' k : Int} (hm : m.natAbs ≤ 1000) (hn : n.natAbs ≤ 1000) (hm' : m'.natAbs ≤ 1000) (hn' : n'.natAbs ≤ 1000) (hk : k.natAbs ≤ 1000) : PF GB Tryz.prog 42 [eP (iP m n), eQ (k : Rat), eP (iP m' n')] (eP (iP (m + k * m') (n + k * n'))) := by
 haveI := biC (k := 10) hm (by decide)
 haveI := biC (k := 10) hn (by decide)
 haveI := biC (k := 10) hm' (by decide)
 haveI := biC (k := 10) hn' (by decide)
 haveI := biC (k := 10) hk (by decide)
 exact PF.eq (q_PAdd (p := iP m n) (q := iP m' n') (c := (k : Rat))) (ePI (by show (m : Rat) + (k : Rat) * (m' : Rat) = _; push_cast; rfl) (by show (n : Rat) + (k : Rat) * (n' : Rat) = _; push_cast; rfl))
theorem q_SubI {GB : Gh} {m n m' n' : Int} (hm : m.natAbs ≤ 1000) (hn : n.natAbs ≤ 1000) (hm' : m'.natAbs ≤ 1000) (hn' : n'.natAbs ≤ 1000) : PF GB Tryz.prog 87 [eP (iP m n), eP (iP m' n')] (eP (iP (m - m') (n - n'))) := by
 refine fn Tryz.func87 rfl rfl Tryz.ntmps87 rfl rfl (fun C => ?_)
 refine cl rfl (q_Of (n := -1) (by decide) (by decide)) rfl <| cl rfl (q_AddI (m := m) (n := n) (m' := m') (n' := n') (k := -1) hm hn hm' hn' (by decide)) rfl <| ?_
 exact rz rfl (by rw [show m - m' = m + -1 * m' by omega, show n - n' = n + -1 * n' by omega]; rfl)
theorem gcd_ltk {a b k : Nat} (ha : a < k) (hb : b < k) : Nat.gcd a b < k := by
 rcases Nat.eq_zero_or_pos a with rfl | p
 · simpa using hb
 · exact Nat.lt_of_le_of_lt (Nat.gcd_le_left b p) ha
set_option maxHeartbeats 1000000 in
theorem q_MakeL {GB : Gh} {a b c : Int} {i : Nat} (ha : BI a i) (hb : BI b i) (hc : BI c i) (hi : i ≤ 100000000) (h0 : ¬ (a = 0 ∧ b = 0)) : PF GB Tryz.prog 94 [eI a, eI b, eI c] (.tp [eL (mkL a b c), .v (.bool true)]) := by
 have hgn : Nat.gcd a.natAbs b.natAbs ≠ 0 := fun h => h0 ⟨Int.natAbs_eq_zero.1 (Nat.eq_zero_of_gcd_eq_zero_left h), Int.natAbs_eq_zero.1 (Nat.eq_zero_of_gcd_eq_zero_right h)⟩
 have hgp : 0 < Nat.gcd (Nat.gcd a.natAbs b.natAbs) c.natAbs := Nat.gcd_pos_of_pos_left _ (Nat.pos_of_ne_zero hgn)
 haveI hb1 : BN (Nat.gcd a.natAbs b.natAbs) i := ⟨gcd_ltk ha.h hb.h⟩
 haveI hb2 : BN (Nat.gcd (Nat.gcd a.natAbs b.natAbs) c.natAbs) i := ⟨gcd_ltk hb1.h hc.h⟩
 refine fn Tryz.func94 rfl rfl Tryz.ntmps94 rfl rfl (fun C => ?_)
 refine cl rfl (q_Common (a := a.natAbs) (b := b.natAbs) (by omega) (by omega)) rfl <| ?_
 refine br rfl rfl rfl (fun hc22 => ?_) (fun hc22 => ?_)
 ·
  exact absurd hc22 (by rw [List.length_map]; intro h; exact hgn (dg_len_zero.1 (by omega)))
 ·
  refine cl rfl (q_Common (a := Nat.gcd a.natAbs b.natAbs) (b := c.natAbs) (by omega) (by omega)) rfl <| cl rfl (q_Divide (a := a.natAbs) (b := Nat.gcd (Nat.gcd a.natAbs b.natAbs) c.natAbs) hgp (by omega) (by omega)) rfl <| ?_
  refine cl rfl (q_Divide (a := b.natAbs) (b := Nat.gcd (Nat.gcd a.natAbs b.natAbs) c.natAbs) hgp (by omega) (by omega)) rfl <| cl rfl (q_Divide (a := c.natAbs) (b := Nat.gcd (Nat.gcd a.natAbs b.natAbs) c.natAbs) hgp (by omega) (by omega)) rfl <| ?_
  refine cl rfl (q_Make (m := a.natAbs / (Nat.gcd (Nat.gcd a.natAbs b.natAbs) c.natAbs)) (neg := decide (a < 0))) rfl <| cl rfl (q_Make (m := b.natAbs / (Nat.gcd (Nat.gcd a.natAbs b.natAbs) c.natAbs)) (neg := decide (b < 0))) rfl <| ?_
  refine cl rfl (q_Make (m := c.natAbs / (Nat.gcd (Nat.gcd a.natAbs b.natAbs) c.natAbs)) (neg := decide (c < 0))) rfl <| ?_
  exact rz rfl rfl
def thrA (n n' : Int) : Int := -(n' - n)
def thrB (m m' : Int) : Int := m' - m
def thrC (m n m' n' : Int) : Int := -(thrA n n' * m + thrB m m' * n)
def thrL (m n m' n' : Int) : LnQ := mkL (thrA n n') (thrB m m') (thrC m n m' n')
theorem mul_le_mil {a b : Int} (ha : a.natAbs ≤ 2000) (hb : b.natAbs ≤ 1000) : (a * b).natAbs ≤ 2000000 := by
 rw [Int.natAbs_mul]; exact Nat.mul_le_mul ha hb
set_option maxHeartbeats 2000000 in
theorem q_Through {GB : Gh} {m n m' n' : Int} (hm : m.natAbs ≤ 1000) (hn : n.natAbs ≤ 1000) (hm' : m'.natAbs ≤ 1000) (hn' : n'.natAbs ≤ 1000) (h0 : ¬ (m = m' ∧ n = n')) : PF GB Tryz.prog 37 [eP (iP m n), eP (iP m' n')] (.tp [eL (thrL m n m' n'), .v (.bool true)]) := by
 obtain ⟨a, hA⟩ : ∃ a, a = thrA n n' := ⟨_, rfl⟩
 obtain ⟨b, hB⟩ : ∃ b, b = thrB m m' := ⟨_, rfl⟩
 have hA' : a = -(n' - n) := hA
 have hB' : b = m' - m := hB
 obtain ⟨c, hC⟩ : ∃ c, c = -(a * m + b * n) := ⟨_, rfl⟩
 have e1 := mul_le_mil (a := a) (b := m) (by omega) hm
 have e2 := mul_le_mil (a := b) (b := n) (by omega) hn
 haveI hm0 := biC (k := 10) hm (by decide)
 haveI hn0 := biC (k := 10) hn (by decide)
 haveI ha : BI a 30 := biOf (by omega)
 haveI hb : BI b 30 := biOf (by omega)
 haveI hc : BI c 30 := biOf (by omega)
 have hthr : thrL m n m' n' = mkL a b c := by rw [hC, hA, hB]; rfl
 have hne : ¬ (a = 0 ∧ b = 0) := fun h => h0 (by omega)
 refine fn Tryz.func37 rfl rfl Tryz.ntmps37 rfl rfl (fun C => ?_)
 refine cl rfl (q_SubI (m := m') (n := n') (m' := m) (n' := n) hm' hn' hm hn) rfl <| cl rfl (PF.eq (q_Opp (q := (((n' - n) : Int) : Rat))) (eQI (k := a) (by rw [hA']; push_cast; rfl))) rfl <| ?_
 refine cl rfl (PF.eq (q_Times (a := (a : Rat)) (b := (m : Rat))) (eQI (k := a * m) (by push_cast; rfl))) rfl <| cl rfl (PF.eq (by haveI : BI (m' - m) 30 := (by rw [← hB']; exact hb); exact q_Times (a := (((m' - m) : Int) : Rat)) (b := (n : Rat))) (eQI (k := b * n) (by rw [hB']; push_cast; rfl))) rfl <| ?_
 refine cl rfl (PF.eq (q_Plus (a := ((a * m : Int) : Rat)) (b := ((b * n : Int) : Rat))) (eQI (k := a * m + b * n) (by push_cast; rfl))) rfl <| cl rfl (PF.eq (q_Opp (q := ((a * m + b * n : Int) : Rat))) (eQI (k := c) (by rw [hC]; push_cast; rfl))) rfl <| ?_
 refine cl rfl (q_Den (q := (a : Rat))) rfl <| cl rfl (q_Den (q := (((m' - m) : Int) : Rat))) rfl <| cl rfl (PF.eq (q_Product (a := 1) (b := 1)) rfl) rfl <| ?_
 refine cl rfl (q_Den (q := (c : Rat))) rfl <| cl rfl (PF.eq (q_Product (a := 1) (b := 1)) rfl) rfl <| cl (fu := ⟨1⟩) rfl (q_Make (neg := false) (m := 1)) rfl <| ?_
 refine eqF 40 (.d (eQ ((1 : Int) : Rat))) rfl rfl ?_
 refine gx rfl <| cl rfl (PF.eq (q_Times (a := (a : Rat)) (b := ((1 : Int) : Rat))) (eQI (k := a) (by push_cast; grind))) rfl <| cl rfl (PF.eq (by haveI : BI (m' - m) 30 := (by rw [← hB']; exact hb); exact q_Times (a := (((m' - m) : Int) : Rat)) (b := ((1 : Int) : Rat))) (eQI (k := b) (by rw [hB']; push_cast; grind))) rfl <| ?_
 refine cl rfl (PF.eq (q_Times (a := (c : Rat)) (b := ((1 : Int) : Rat))) (eQI (k := c) (by push_cast; grind))) rfl <| cl rfl (q_MakeL (a := a) (b := b) (c := c) ha hb hc (by decide) hne) rfl <| ?_
 exact rz rfl (by rw [hthr]; rfl)
end Go.Sx
end

section
set_option maxRecDepth 100000
namespace Go.Sx
open Go Go.Proofs
def nextF (es : List Int) (n : Int) (a : Nat) : Nat × Nat :=
 if h : a < es.length then ((if Int.tmod es[a] n < 0 then Int.tmod es[a] n + n else Int.tmod es[a] n).toNat, a + 1) else (0, a)
def pF (es : List Int) (a : Nat) : (Int × Int) × Nat := ((((nextF es 9 a).1 : Int) - 4, ((nextF es 9 (nextF es 9 a).2).1 : Int) - 4), (nextF es 9 (nextF es 9 a).2).2)
def vF (es : List Int) (a : Nat) : (Int × Int) × Nat := if (pF es a).1.1 = 0 ∧ (pF es a).1.2 = 0 then ((1, 0), (pF es a).2) else pF es a
def lF (es : List Int) (a : Nat) : LnQ × Nat := (thrL (pF es a).1.1 (pF es a).1.2 ((pF es a).1.1 + 1 * (vF es (pF es a).2).1.1) ((pF es a).1.2 + 1 * (vF es (pF es a).2).1.2), (vF es (pF es a).2).2)
def treeF (es : List Int) : Nat → Nat → Tr × Nat
 | 0, a => (.leaf (decide (((nextF es 2 a).1 : Int) = 1)), (nextF es 2 a).2)
 | d + 1, a => if ((nextF es 4 a).1 : Int) = 0 then (.leaf (decide (((nextF es 2 (nextF es 4 a).2).1 : Int) = 1)), (nextF es 2 (nextF es 4 a).2).2) else
   (.node (lF es (nextF es 4 a).2).1 (treeF es d (lF es (nextF es 4 a).2).2).1 (treeF es d (treeF es d (lF es (nextF es 4 a).2).2).2).1, (treeF es d (treeF es d (lF es (nextF es 4 a).2).2).2).2)
theorem q_CodeT {GB : Gh} {p : Bool} : PF GB Tryz.prog 40 [.v (.bool p)] (eT (.leaf p)) := by
 refine fn Tryz.func40 rfl rfl Tryz.ntmps40 rfl rfl (fun C => ?_)
 refine fzE 5 rfl ?_
 exact rz rfl rfl
end Go.Sx
end

section
set_option maxRecDepth 100000
namespace Go.Sx
open Go Go.Proofs
theorem eN_get (xs ys : List NQ) (n : NQ) : ((xs ++ (n :: ys)).map eN)[((xs.length : Nat) : Int).toNat]? = some (eN n) := by simp
theorem eN_set (xs ys : List NQ) (n m : NQ) (e : DV) (h : e = eN m) : ((xs ++ (n :: ys)).map eN).set ((xs.length : Nat) : Int).toNat e = (xs ++ (m :: ys)).map eN := by subst h; simp
theorem q_write_true {GB : Gh} {ns : List NQ} : PB GB Tryz.prog 50 (fun w => [eT (.leaf true), .v (.slice w.a w.n w.c)]) 8 60 (ns.map eN) (fun w => .tp [.v (.slice w.a w.n w.c), .v (.int .i64 (Tr.num (.leaf true) ns.length))]) ((ns ++ Tr.wr (.leaf true) ns.length).map eN) := by
 refine PB.intro Tryz.func50 rfl rfl Tryz.ntmps50 (fun _ => rfl) ?_
 intro C w0
 refine sd_bh ((ns ++ Tr.wr (.leaf true) ns.length).map eN) (by simp [Tr.wr]) ?_
 refine qR <| tA rfl rfl <| tA rfl rfl <| sd_end <| sd_seq <| qR <| tM rfl rfl <| tY (yq_nilT rfl) rfl <| tY (yq_faE rfl rfl) rfl <| ?_
 refine tY (yq_ldE1 rfl rfl) rfl <| sd_end <| sd_condT rfl <| sd_seq <| qR <| tM rfl rfl <| tY (yq_nilT rfl) rfl <| tY (yq_faE rfl rfl) rfl <| tY (yq_ldE1 rfl rfl) rfl <| ?_
 refine sd_end <| sd_condT rfl <| qR <| tM rfl rfl <| tA rfl rfl <| tA rfl rfl <| sd_end <| sd_ret <| ?_
 exact sd_doneB (w := w0) (.tmp rfl (.tmp rfl .nil)) rfl (by repeat (first | exact .hd .. | apply BRemD.tl))
theorem q_write_false {GB : Gh} {ns : List NQ} : PB GB Tryz.prog 50 (fun w => [eT (.leaf false), .v (.slice w.a w.n w.c)]) 8 60 (ns.map eN) (fun w => .tp [.v (.slice w.a w.n w.c), .v (.int .i64 (Tr.num (.leaf false) ns.length))]) ((ns ++ Tr.wr (.leaf false) ns.length).map eN) := by
 refine PB.intro Tryz.func50 rfl rfl Tryz.ntmps50 (fun _ => rfl) ?_
 intro C w0
 refine sd_bh ((ns ++ Tr.wr (.leaf false) ns.length).map eN) (by simp [Tr.wr]) ?_
 refine qR <| tA rfl rfl <| tA rfl rfl <| sd_end <| sd_seq <| qR <| tM rfl rfl <| tY (yq_nilT rfl) rfl <| tY (yq_faE rfl rfl) rfl <| ?_
 refine tY (yq_ldE1 rfl rfl) rfl <| sd_end <| sd_condT rfl <| sd_seq <| qR <| tM rfl rfl <| tY (yq_nilT rfl) rfl <| tY (yq_faE rfl rfl) rfl <| tY (yq_ldE1 rfl rfl) rfl <| ?_
 refine sd_end <| sd_condF rfl <| sd_skipc <| qR <| tM rfl rfl <| tA rfl rfl <| tA rfl rfl <| sd_end <| sd_ret <| ?_
 exact sd_doneB (w := w0) (.tmp rfl (.tmp rfl .nil)) rfl (by repeat (first | exact .hd .. | apply BRemD.tl))
theorem q_write_node {GB : Gh} {l : LnQ} {s u : Tr} {ns : List NQ} (hl : BL l 96) (hs : ns.length + (1 + s.size + u.size) ≤ 1000000) (ihs : ∀ {ns : List NQ}, ns.length + s.size ≤ 1000000 → PB GB Tryz.prog 50 (fun w => [eT s, .v (.slice w.a w.n w.c)]) 8 60 (ns.map eN) (fun w => .tp [.v (.slice w.a w.n w.c), .v (.int .i64 (Tr.num s ns.length))]) ((ns ++ Tr.wr s ns.length).map eN)) (ihu : ∀ {ns : List NQ}, ns.length + u.size ≤ 1000000 → PB GB Tryz.prog 50 (fun w => [eT u, .v (.slice w.a w.n w.c)]) 8 60 (ns.map eN) (fun w => .tp [.v (.slice w.a w.n w.c), .v (.int .i64 (Tr.num u ns.length))]) ((ns ++ Tr.wr u ns.length).map eN)) : PB GB Tryz.prog 50 (fun w => [eT (.node l s u), .v (.slice w.a w.n w.c)]) 8 60 (ns.map eN) (fun w => .tp [.v (.slice w.a w.n w.c), .v (.int .i64 (Tr.num (.node l s u) ns.length))]) ((ns ++ Tr.wr (.node l s u) ns.length).map eN) := by
 refine PB.intro Tryz.func50 rfl rfl Tryz.ntmps50 (fun _ => rfl) ?_
 intro C w0
 refine qR <| tA rfl rfl <| tA rfl rfl <| sd_end <| sd_seq <| qR <| tM rfl rfl <| tY (yq_nilT rfl) rfl <| tY (yq_faE rfl rfl) rfl <| ?_
 refine tY (yq_ldE1 rfl rfl) rfl <| sd_end <| sd_condF rfl <| sd_skipc <| qR <| tM rfl rfl <| tY (yq_lenB rfl) rfl <| ?_
 refine sd_eq 20 (.d (.v (.int .i64 (ns.length : Nat)))) rfl (by simp) ?_
 refine tA rfl rfl <| sd_end <| qR <| tM rfl rfl <| tM rfl rfl <| tY (yq_nilT rfl) rfl <| tY (yq_faE rfl rfl) rfl <| tY (yq_ldE rfl rfl) rfl <| ?_
 refine tC (td_call rfl rfl (q_ToL hl) rfl) <| tY (yq_build rfl) rfl <| tF (tf_row rfl rfl rfl rfl rfl rfl rfl) <| ?_
 intro w1
 refine tF (tf_appendF (w := w0) rfl (by repeat (first | exact .hd .. | apply BRemD.tl)) (.bf rfl (okRow_spec rfl)) rfl (by simp only [List.length_map, List.length_cons, List.length_nil]; omega) rfl rfl) <| ?_
 intro w2
 refine sd_bh ((ns ++ [(⟨l, 0, 0⟩ : NQ)]).map eN) (by rw [List.map_append]; rfl) ?_
 refine tA rfl rfl <| sd_end <| qR <| tA rfl rfl <| tA rfl rfl <| sd_end <| qR <| tM rfl rfl <| tY (yq_nilT rfl) rfl <| ?_
 refine tY (yq_faE rfl rfl) rfl <| tY (yq_ldE1 rfl rfl) rfl <| tM rfl rfl <| tF (tf_callB (w := w2) rfl rfl (ihs (ns := ns ++ [(⟨l, 0, 0⟩ : NQ)]) (by simp; omega)) (by repeat (first | exact .hd .. | apply BRemD.tl)) rfl) <| ?_
 intro w3
 refine tM rfl rfl <| tY (yq_ext rfl rfl) rfl <| tY (yq_ext rfl rfl) rfl <| tA rfl rfl <| tA rfl rfl <| sd_end <| qR <| tM rfl rfl <| ?_
 refine tY (yq_nilT rfl) rfl <| tY (yq_faE rfl rfl) rfl <| tY (yq_ldE1 rfl rfl) rfl <| tM rfl rfl <| tF (tf_callB (w := w3) rfl rfl (ihu (ns := ns ++ [(⟨l, 0, 0⟩ : NQ)] ++ s.wr (ns ++ [(⟨l, 0, 0⟩ : NQ)]).length) (by simp [Tr.wr_len]; omega)) (by repeat (first | exact .hd .. | apply BRemD.tl)) rfl) <| ?_
 intro w4
 refine sd_bh ((ns ++ ((⟨l, 0, 0⟩ : NQ) :: (s.wr (ns.length + 1) ++ u.wr (ns.length + 1 + s.size)))).map eN) (by simp [Tr.wr_len, Nat.add_assoc, Nat.add_comm 1]) ?_
 refine tM rfl rfl <| tY (yq_ext rfl rfl) rfl <| tY (yq_ext rfl rfl) rfl <| tA rfl rfl <| tA rfl rfl <| sd_end <| qR <| tM rfl rfl <| ?_
 refine tM rfl rfl <| tM rfl rfl <| tM rfl rfl <| tM rfl rfl <| tM rfl rfl <| tY (yq_ixB rfl rfl (by omega) (by simp; omega)) rfl <| ?_
 refine tY (yq_faB rfl) rfl <| tC (td_storeBs (d := eN ⟨l, 0, 0⟩) rfl rfl (by repeat (first | exact .hd .. | apply BRemD.tl)) (eN_get ns _ ⟨l, 0, 0⟩) rfl rfl rfl) <| ?_
 refine sd_bh ((ns ++ ((⟨l, s.num (ns.length + 1), 0⟩ : NQ) :: (s.wr (ns.length + 1) ++ u.wr (ns.length + 1 + s.size)))).map eN) (by rw [eN_set _ _ _ ⟨l, s.num (ns.length + 1), 0⟩ _ (by simp [eN, DV.cells])]) ?_
 refine tY (yq_ixB rfl rfl (by omega) (by simp; omega)) rfl <| tY (yq_faB rfl) rfl <| tC (td_storeBs (d := eN ⟨l, s.num (ns.length + 1), 0⟩) rfl rfl (by repeat (first | exact .hd .. | apply BRemD.tl)) (eN_get ns _ ⟨l, s.num (ns.length + 1), 0⟩) rfl rfl rfl) <| ?_
 refine sd_bh ((ns ++ Tr.wr (.node l s u) ns.length).map eN) (by rw [eN_set _ _ _ ⟨l, s.num (ns.length + 1), u.num (ns.length + 1 + s.size)⟩ _ (by simp [eN, DV.cells, Tr.wr_len, Nat.add_assoc, Nat.add_comm 1])]; simp [Tr.wr]) ?_
 refine sd_end <| qR <| tM rfl rfl <| tM rfl rfl <| tA rfl rfl <| tA rfl rfl <| sd_end <| sd_ret <| ?_
 exact sd_doneB (w := w4) (.tmp rfl (.tmp rfl .nil)) rfl (by repeat (first | exact .hd .. | apply BRemD.tl))
theorem q_write {GB : Gh} : ∀ {t : Tr} {ns : List NQ}, t.all (fun l => BL l 96) → ns.length + t.size ≤ 1000000 → PB GB Tryz.prog 50 (fun w => [eT t, .v (.slice w.a w.n w.c)]) 8 60 (ns.map eN) (fun w => .tp [.v (.slice w.a w.n w.c), .v (.int .i64 (Tr.num t ns.length))]) ((ns ++ Tr.wr t ns.length).map eN)
 | .leaf true, ns, _, _ => q_write_true
 | .leaf false, ns, _, _ => q_write_false
 | .node l s u, ns, hb, hs => q_write_node hb.1 hs (fun h => q_write hb.2.1 h) (fun h => q_write hb.2.2 h)
theorem q_Write {GB : Gh} {t : Tr} (hb : t.all (fun l => BL l 96)) (hs : t.size ≤ 1000000) : PF GB Tryz.prog 13 [eT t] (eA t) := by
 refine PF.intro Tryz.func13 rfl rfl Tryz.ntmps13 rfl ?_
 intro C
 refine qR <| tF (tf_alloc rfl) <| ?_
 intro b1
 refine sd_end <| qR <| tF (tf_alloc rfl) <| ?_
 intro b2
 refine sd_end <| qR <| tM rfl rfl <| ?_
 refine sd_newB 8 60 ?_
 refine tF (tf_callB (w := ⟨none, 0, 0⟩) rfl rfl (q_write (t := t) (ns := []) hb (by simpa using hs)) (by repeat (first | exact .hd .. | apply BRemD.tl)) rfl) <| ?_
 intro w3
 refine tM rfl rfl <| tY (yq_ext rfl rfl) rfl <| tY (yq_ext rfl rfl) rfl <| tY (yq_faP rfl) rfl <| ?_
 refine sd_freezeB [7] (w := w3) (by repeat (first | exact .hd .. | apply BRemD.tl)) (by simp only [List.forall_mem_cons, List.not_mem_nil, false_implies, implies_true, and_true]; exact rfl) ?_
 refine tC (td_store1 rfl rfl (by first | (dsimp only [DV.cells, ovD, zs1, zs2, Nat.reduceAdd, zs3, zs4]; done) | exact rfl) (by repeat (first | exact .hd .. | apply OUpdD.tl)) rfl rfl rfl) <| ?_
 refine tY (yq_faP rfl) rfl <| tC (td_store1 rfl rfl (by first | (dsimp only [DV.cells, ovD, zs1, zs2, Nat.reduceAdd, zs3, zs4]; done) | exact rfl) (by repeat (first | exact .hd .. | apply OUpdD.tl)) rfl rfl rfl) <| ?_
 refine sd_end <| qR <| tY (yq_ldO rfl rfl) rfl <| tC (tdS rfl rfl rfl rfl rfl rfl) <| ?_
 refine sd_end <| sd_ret <| ?_
 exact sd_done (.agg rfl ii ii rfl .nil) rfl
end Go.Sx
end

section
set_option maxRecDepth 100000
namespace Go.Sx
open Go Go.Proofs
theorem Tr.all_imp {p q : LnQ → Prop} (h : ∀ l, p l → q l) : ∀ {t : Tr}, t.all p → t.all q
 | .leaf _, _ => trivial
 | .node _ _ _, ⟨h0, h1, h2⟩ => ⟨h _ h0, Tr.all_imp h h1, Tr.all_imp h h2⟩
theorem Tr.gd.bl {t : Tr} (h : t.gd) : t.all (fun l => BL l 96) := Tr.all_imp (fun _ h => h.bl) h.lb
theorem wr_n {t : Tr} (hs : t.size ≤ 65536) : ((t.wr 0).map RN.of).length ≤ 65536 := by rw [List.length_map, t.wr_len]; exact hs
theorem p_MComplA {GB : Gh} {ai al ae : Addr} (hE : EG GB ai al ae) {t : Tr} (h : t.gd) (hs : t.size ≤ 65536) : PF GB Tryz.prog 34 [eA t] (.tp [eA t.compl, .v .nilIface]) := by
 have := p_MCompl hE (r1 := t.num 0) (wr_sm h.lb) (wr_n hs)
 rw [ofQ_wr h.ok, ← eA_RT] at this
 exact this
theorem p_MMergeA {GB : Gh} {ai al ae : Addr} (hE : EG GB ai al ae) {op : Int} {a b : Tr} (ho : 1 ≤ op ∧ op ≤ 4) (ha : a.gd) (hb : b.gd) (hsa : a.size ≤ 65536) (hsb : b.size ≤ 65536) : PF GB Tryz.prog 35 [vI op, eA a, eA b] (resD (limX al (limQ op a b))) := by
 have := p_MMerge hE (op := op) (r1 := a.num 0) (wr_sm ha.lb) (wr_n hsa) (r2 := b.num 0) (wr_sm hb.lb) (wr_n hsb)
 rw [ofQ_wr ha.ok, ofQ_wr hb.ok, ← eA_RT, ← eA_RT, mergeX, if_pos ho] at this
 exact this
theorem p_MMergeS {GB : Gh} {ai al ae : Addr} (hE : EG GB ai al ae) {op : Int} {a b t : Tr} (ho : 1 ≤ op ∧ op ≤ 4) (ha : a.gd) (hb : b.gd) (hsa : a.size ≤ 65536) (hsb : b.size ≤ 65536) (h : limQ op a b = some t) : PF GB Tryz.prog 35 [vI op, eA a, eA b] (.tp [eA t, .v .nilIface]) := by
 have := p_MMergeA hE ho ha hb hsa hsb; rw [h] at this; exact this
def l00 : LnQ := ⟨0, 1, 0⟩
def t00 : Tr := .node l00 (.leaf true) (.leaf false)
theorem l00_eq : thrL 0 0 1 0 = l00 := by kernel_rfl
theorem l00_lb : LB l00 := ⟨⟨by decide, by decide, by decide⟩⟩
theorem l00_ok : l00.ok := by decide
theorem t00_gd : t00.gd := ⟨⟨l00_lb, trivial, trivial⟩, ⟨l00_ok, trivial, trivial⟩⟩
theorem t00_u : limQ 1 t00 t00.compl = some (.leaf true) := by kernel_rfl
theorem t00_x : limQ 4 t00 t00 = some (.leaf false) := by kernel_rfl
theorem q19_u {GB : Gh} {ai al ae : Addr} (hE : EG GB ai al ae) : PF GB Tryz.prog 35 [vI 1, eA t00, eA t00.compl] (.tp [.ag [vI (-2), .sl []], .v .nilIface]) := p_MMergeS hE (by decide) t00_gd (compl_gd t00_gd) (by decide) (by decide) t00_u
theorem q19_x {GB : Gh} {ai al ae : Addr} (hE : EG GB ai al ae) : PF GB Tryz.prog 35 [vI 4, eA t00, eA t00] (.tp [.ag [vI (-1), .sl []], .v .nilIface]) := p_MMergeS hE (by decide) t00_gd t00_gd (by decide) (by decide) t00_x
set_option maxHeartbeats 1000000 in
theorem q_known19 {GB : Gh} {ai al ae : Addr} (hE : EG GB ai al ae) : PF GB Tryz.prog 32 [] (.v (.bool true)) := by
 refine fn Tryz.func32 rfl rfl Tryz.ntmps32 rfl rfl (fun C => ?_)
 refine cl rfl (q_Xy (m := 0) (n := 0) (by decide) (by decide)) rfl <| cl rfl (q_Xy (m := 1) (n := 0) (by decide) (by decide)) rfl <| cl (fu := ⟨2⟩) rfl (q_Through (m := 0) (n := 0) (m' := 1) (n' := 0) (by decide) (by decide) (by decide) (by decide) (by decide)) rfl <| ?_
 refine eqF 14 (.d (eL l00)) rfl (by rw [l00_eq]) ?_
 refine gx rfl <| cl rfl q_CodeT rfl <| cl (fu := ⟨1⟩) rfl q_CodeT rfl <| bxf rfl rfl <| cl rfl (q_Write (t := t00) t00_gd.bl (by decide)) rfl <| cl rfl (p_MComplA hE (t := t00) t00_gd (by decide)) rfl <| ?_
 refine cl rfl (q19_u hE) rfl <| cl (fu := ⟨23⟩) rfl (q19_x hE) rfl <| knT (fu := ⟨4⟩) rfl rfl rfl <| knT (fu := ⟨9⟩) (hv := by simp only [allP]; exact (by decide)) rfl rfl rfl <| knT rfl rfl rfl <| ?_
 exact rz rfl rfl
end Go.Sx
end

section
set_option maxRecDepth 100000
namespace Go.Sx
open Go Go.Proofs
def chain : Nat → Tr
 | 0 => .leaf true
 | n + 1 => .node l00 (chain n) (.leaf false)
def c00 : CellQ := [⟨l00, IvQ.all⟩]
def c01 : CellQ := [⟨l00.rev, IvQ.all⟩]
theorem cl_1 : clipB [] l00.rev = true := by kernel_rfl
theorem cl_2 : clipB [] l00 = true := by kernel_rfl
theorem cl_3 : clipC [] l00 = c00 := by kernel_rfl
theorem cl_4 : clipC [] l00.rev = c01 := by kernel_rfl
theorem cl_5 : clipB c00 l00.rev = false := by kernel_rfl
theorem cl_6 : clipB c01 l00.rev = true := by kernel_rfl
theorem cl_7 : clipB c01 l00 = false := by kernel_rfl
theorem chain_size : ∀ n, (chain n).size = n
 | 0 => rfl
 | n + 1 => by rw [chain, Tr.size, chain_size n]; simp [Tr.size]; omega
theorem chain_depth : ∀ n, (chain n).depth = n
 | 0 => rfl
 | n + 1 => by rw [chain, Tr.depth, chain_depth n]; simp [Tr.depth]; omega
theorem chain_gd : ∀ n, (chain n).gd
 | 0 => ⟨trivial, trivial⟩
 | n + 1 => ⟨⟨l00_lb, (chain_gd n).lb, trivial⟩, ⟨l00_ok, (chain_gd n).ok, trivial⟩⟩
theorem chain_r0 : ∀ n, (chain n).restrict c00 = .leaf true
 | 0 => rfl
 | n + 1 => by rw [chain, Tr.restrict, if_pos (by rw [cl_5]; rfl), chain_r0 n]
theorem chain_r1 (n : Nat) (h : 0 < n) : (chain n).restrict c01 = .leaf false := by
 obtain ⟨m, rfl⟩ : ∃ m, n = m + 1 := ⟨n - 1, by omega⟩
 rw [chain, Tr.restrict, if_neg (by rw [cl_6]; decide), if_pos (by rw [cl_7]; rfl)]
 rfl
theorem chain_m0 (op : Int) (u : Tr) : ∀ n, (chain n).mergeQ op u c00 = u.chooseQ op true c00
 | 0 => rfl
 | n + 1 => by rw [chain, Tr.mergeQ, if_pos (by rw [cl_5]; rfl), chain_m0 op u n]
theorem leaf_size0 {t : Tr} (h : ∃ b, t = .leaf b) : t.size = 0 := by obtain ⟨b, rfl⟩ := h; rfl
theorem choose_leaf {op : Int} {b p : Bool} {t : Tr} {c : CellQ} (h : t.restrict c = .leaf p) : ∃ q, t.chooseQ op b c = .leaf q := by
 unfold Tr.chooseQ
 rw [h]
 split
 · split
   · exact ⟨_, rfl⟩
   · exact ⟨_, rfl⟩
 · split
   · exact ⟨_, rfl⟩
   · split
     · exact ⟨_, rfl⟩
     · exact ⟨_, rfl⟩
theorem chain_merge (op : Int) {n : Nat} (h : 0 < n) : ((chain n).mergeQ op (chain n) []).size ≤ 1 := by
 obtain ⟨m, rfl⟩ : ∃ m, n = m + 1 := ⟨n - 1, by omega⟩
 have e : (chain (m + 1)).mergeQ op (chain (m + 1)) [] = Tr.joinQ l00 ((chain m).mergeQ op (chain (m + 1)) c00) ((Tr.leaf false).mergeQ op (chain (m + 1)) c01) := by
   conv => lhs; rw [show (chain (m + 1)).mergeQ op (chain (m + 1)) [] = (Tr.node l00 (chain m) (.leaf false)).mergeQ op (chain (m + 1)) [] from rfl, Tr.mergeQ, if_neg (by rw [cl_1]; decide), if_neg (by rw [cl_2]; decide), cl_3, cl_4]
 rw [e, chain_m0]
 have h1 := leaf_size0 (choose_leaf (op := op) (b := true) (chain_r0 (m + 1)))
 have h2 := leaf_size0 (choose_leaf (op := op) (b := false) (chain_r1 (m + 1) (by omega)))
 have h3 : ((Tr.leaf false).mergeQ op (chain (m + 1)) c01).size = 0 := h2
 rcases Tr.joinQ_cases l00 ((chain (m + 1)).chooseQ op true c00) ((Tr.leaf false).mergeQ op (chain (m + 1)) c01) with ⟨k, _⟩ | ⟨k, _⟩
 · rw [k]; omega
 · rw [k]; simp only [Tr.size]; omega
theorem chain_lim (op : Int) {n : Nat} (h : 0 < n) : limQ op (chain n) (chain n) = if 1024 < 2 * n then none else some ((chain n).mergeQ op (chain n) []) := by
 have := chain_merge op h
 unfold limQ
 rw [chain_depth, show n + n = 2 * n by omega]
 split
 · rfl
 · rw [if_neg (by omega)]
def lnN (i : Nat) : List NQ := (List.range i).map fun (j : Nat) => (⟨l00, (j : Int) + 1, -1⟩ : NQ)
theorem lnN_len (i : Nat) : (lnN i).length = i := by simp [lnN]
theorem lnN_succ (i : Nat) : lnN (i + 1) = lnN i ++ [⟨l00, (i : Int) + 1, -1⟩] := by simp [lnN, List.range_succ]
theorem chain_wr : ∀ (n k : Nat), (chain (n + 1)).wr k = ((List.range (n + 1)).map fun (j : Nat) => (⟨l00, (k : Int) + j + 1, -1⟩ : NQ)).set n ⟨l00, -2, -1⟩
 | 0, k => by simp [chain, Tr.wr, Tr.num, leafCode]
 | n + 1, k => by
   have ih := chain_wr n (k + 1)
   have e : (chain (n + 1 + 1)).wr k = ⟨l00, (chain (n + 1)).num (k + 1), (Tr.leaf false).num (k + 1 + (chain (n + 1)).size)⟩ :: ((chain (n + 1)).wr (k + 1) ++ []) := by
     simp [chain, Tr.wr, Tr.size]
   rw [e, List.append_nil, ih, List.range_succ_eq_map (n := n + 1), List.map_cons, List.set_cons_succ, List.map_map]
   have e2 : (⟨l00, (chain (n + 1)).num (k + 1), (Tr.leaf false).num (k + 1 + (chain (n + 1)).size)⟩ : NQ) = ⟨l00, (k : Int) + (0 : Nat) + 1, -1⟩ := by
     simp [chain, Tr.num, leafCode]
   rw [e2]
   refine congrArg (fun l => List.cons _ (List.set l n _)) ?_
   apply List.map_congr_left
   intro j _
   simp only [Function.comp_apply]
   congr 1
   omega
theorem long_eq {n : Nat} : (lnN (n + 1)).set n ⟨l00, -2, -1⟩ = (chain (n + 1)).wr 0 := by
 rw [chain_wr]
 unfold lnN
 congr 1
 apply List.map_congr_left
 intro j _
 simp
end Go.Sx
end
