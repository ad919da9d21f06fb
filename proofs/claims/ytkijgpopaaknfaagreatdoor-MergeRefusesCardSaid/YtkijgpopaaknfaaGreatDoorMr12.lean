/-
  The abstract machine: the steps for rows with room. The program's natural numbers as functions of deep values. The abstract machine: pointers that may be nil, numbers that wrap. The program's integers. The program's rational numbers. The program's rational numbers: sums, products, comparisons. Reference: the edge of a side of a cell. The program's points, lines and intervals. Reference: points near an edge; the interior of a cell; the place of a line.
-/
import Derived.Test.YtkijgpopaaknfaaGreatDoorMr11
set_option linter.unusedSimpArgs false
set_option linter.unusedVariables false
section
set_option maxRecDepth 100000
namespace Go.Sx
open Go Go.Proofs
section
variable {GB : Gh} {C : Ctx} {n : Nat} {Q0 : Exit → Act → World → Prop} {fr fr' : FrX} {own own' : OwX} {cf cf' : Cf} {vc : List Prop}
theorem mkc [fu : Fu] {d e s b : Nat} {z : DV} {k' : IntKind} (cap : Nat) (h : mkA fr cf = some ⟨d, e, s, b, z, 0⟩) (hy : (match opC fr cf with | some ⟨_, .makeSlice _ _ y, _, _, _, _⟩ => evX (lkC fr cf) y | _ => none) = some (.d (.v (.int k' (cap : Nat)))))
  (hgo : goA tt n fu.n fr own cf (.rw d) [(d, some (.c e s [] cap))] [d] = ⟨vc, fr', own', cf'⟩) (k : CfS Tryz.prog GB C n Q0 fr' own' cf') (hb : b * cap ≤ 140737488355328 := by omega) (hl : cap ≤ 1152921504606846976 := by omega)
  (hv : allP vc := by first | exact trivial | (simp only [allP]; kernel_rfl) | (simp only [allP]; omega)) : CfS Tryz.prog GB C n Q0 fr own cf := by
 unfold mkA at h
 split at h <;> try (cases h; done)
 rename_i hh
 split at h <;> try (cases h; done)
 rename_i hx
 split at h <;> try (cases h; done)
 rename_i hT
 split at h <;> try (cases h; done)
 rename_i hi
 split at h <;> try (cases h; done)
 rename_i hz
 rw [cond_eq_ite] at h
 split at h <;> cases h
 rename_i hs
 rw [hh] at hy
 have := ti_sl (tt_ok _ _ hT) rfl
 exact us hh (ok_mkc (tt_ok _ _ hi) hz hs hx hy hb hl) hgo hv k
structure ApcA where
 d : Nat
 nm : Nat
 e : Nat
 s : Nat
 ds : List DV
 ds2 : List DV
 cap : Nat
def apcA (fr : FrX) (own : OwX) (cf : Cf) : Option ApcA := match opC fr cf with
 | some ⟨some d, .call ⟨.builtin .append, ⟨[x, y]⟩, ⟨[t, t']⟩⟩, _, _, _, _⟩ => match lookT tt t, lookT tt t' with
   | some ⟨.sl e s _, _, _, _⟩, some ⟨.sl _ _ _, _, _, _⟩ => match evX (lkC fr cf) x with
     | some (.rw nm) => match bkC fr own cf nm, srcX (lkC fr cf) (bkC fr own cf) s y with
       | some (.c e' s' ds cap), some ds2 => bif (Nat.beq e' e && Nat.beq s' s) && !Nat.beq nm d then some ⟨d, nm, e, s, ds, ds2, cap⟩ else none
       | _, _ => none
     | _ => none
   | _, _ => none
 | _ => none
theorem apc [fu : Fu] {d nm e s cap : Nat} {ds ds2 : List DV} (ds' : List DV) (h : apcA fr own cf = some ⟨d, nm, e, s, ds, ds2, cap⟩) (hds : ds ++ ds2 = ds') (ho2 : slOk s ds2) (hc : ds.length + ds2.length ≤ cap) (hgo : goA tt n fu.n fr own cf (.rw d) [(nm, none), (d, some (.c e s ds' cap))] [d] = ⟨vc, fr', own', cf'⟩) (k : CfS Tryz.prog GB C n Q0 fr' own' cf')
  (hp : 0 < ds2.length := by simp) (hv : allP vc := by first | exact trivial | (simp only [allP]; kernel_rfl) | (simp only [allP]; omega)) : CfS Tryz.prog GB C n Q0 fr own cf := by
 subst hds
 unfold apcA at h
 split at h <;> try (cases h; done)
 rename_i hh
 split at h <;> try (cases h; done)
 rename_i hT hT'
 split at h <;> try (cases h; done)
 rename_i hx
 split at h <;> try (cases h; done)
 rename_i hb hy
 rw [cond_eq_ite] at h
 split at h <;> cases h
 rename_i h2
 simp only [Bool.and_eq_true, Bool.not_eq_true'] at h2
 cases Nat.eq_of_beq_eq_true h2.1.1
 cases Nat.eq_of_beq_eq_true h2.1.2
 have := ti_sl (tt_ok _ _ hT) rfl
 have hN : TyN Tryz.prog _ := ⟨_, (ti_sl (tt_ok _ _ hT') rfl).un⟩
 exact us hh (ok_apc hx hb hy ho2 hc hp h2.2) hgo hv k
def PI (GB : Gh) (P : Program) (f : FuncId) (i : Int) (s : Nat) (ty ty2 : TypeId) (ds : List DV) (x : DV) (cap : Nat) (dso : List DV) : Prop :=
 ∀ G w w2 B B2, GLe GB G → BufIs G ⟨w, s, ty, ds, false⟩ B → cap ≤ w.c → BufIs G ⟨w2, s, ty2, [x], false⟩ B2 → FnO P f [.slice w.a w.n w.c, .int .i64 i, .slice w2.a w2.n w2.c] (B ++ B2) G fun v own' G' => ∃ w', v = .slice w'.a w'.n w'.c ∧ BufIs G' ⟨w', s, ty, dso, false⟩ own'
structure CiA where
 f : FuncId
 nm : Nat
 nm2 : Nat
 i : Int
 ty : TypeId
 ty2 : TypeId
 s : Nat
 ds : List DV
 x : DV
 cap : Nat
 d : Nat
def calI (fr : FrX) (own : OwX) (cf : Cf) : Option CiA := match opC fr cf with
 | some ⟨some d, .call ⟨.value fo, ⟨[x1, x2, x3]⟩, _⟩, _, _, _, _⟩ => match evX (lkC fr cf) fo, evX (lkC fr cf) x1 with
   | some (.d (.v (.func (.func f) ⟨[]⟩ ⟨[]⟩))), some (.rw nm) => match evX (lkC fr cf) x2, evX (lkC fr cf) x3 with
     | some (.d (.v (.int .i64 i))), some (.rw nm2) => match bkC fr own cf nm, bkC fr own cf nm2 with
       | some (.c ty s ds cap), some (.b ty2 s2 [x] true) => bif (!Nat.beq nm d && !Nat.beq nm2 d) && (!Nat.beq nm nm2 && (Nat.beq s2 s && Nat.blt 0 cap)) then some ⟨f, nm, nm2, i, ty, ty2, s, ds, x, cap, d⟩ else none
       | _, _ => none
     | _, _ => none
   | _, _ => none
 | _ => none
theorem ok_callI {lk : LK} {bk : BM} {fo x1 x2 x3 : Operand} {tys : Array TypeId} {f : FuncId} {nm nm2 d cap s : Nat} {i : Int} {ty0 ty2 : TypeId} {ty : TypeId} {pos : String} {af : Array Edge} {gd : Option (Nat × Bool)} {ds dso : List DV} {x : DV} (hne : Nat.beq nm d = false) (hne2 : Nat.beq nm2 d = false) (hn2 : Nat.beq nm nm2 = false) (hcp : 0 < cap)
   (h0 : evX lk fo = some (.d (.v (.func (.func f) ⟨[]⟩ ⟨[]⟩)))) (h1 : evX lk x1 = some (.rw nm)) (h2 : evX lk x2 = some (.d (.v (.int .i64 i)))) (h3 : evX lk x3 = some (.rw nm2)) (hb : bk nm = some (.c ty0 s ds cap)) (hb2 : bk nm2 = some (.b ty2 s [x] true)) (hF : PI GB Tryz.prog f i s ty0 ty2 ds x cap dso) :
   OpR Tryz.prog GB C n lk bk ⟨some d, .call ⟨.value fo, ⟨[x1, x2, x3]⟩, tys⟩, ty, pos, af, gd⟩ (.rw d) [(nm, none), (nm2, none), (d, some (.b ty0 s dso true))] [d] := by
 intro hd tl tb K' s1 s2 hf hk
 refine ⟨fun ρ G ov a w r Q => ?_⟩
 have r1 := r.mono s1 s2
 obtain ⟨y, hy, hy'⟩ := r1.ev h0
 rw [(is_v (G := G)).1 hy'] at hy
 obtain ⟨y1, p1, p1'⟩ := r1.ev h1
 cases (show y1 = _ from p1')
 obtain ⟨y2, p2, p2'⟩ := r1.ev h2
 rw [isX_int] at p2'; subst p2'
 obtain ⟨y3, p3, p3'⟩ := r1.ev h3
 cases (show y3 = _ from p3')
 have hnn : nm ≠ d := fun e => by subst e; rw [Nat.beq_refl] at hne; cases hne
 have hnn2 : nm2 ≠ d := fun e => by subst e; rw [Nat.beq_refl] at hne2; cases hne2
 have hnm : nm ≠ nm2 := fun e => by subst e; rw [Nat.beq_refl] at hn2; cases hn2
 obtain ⟨B, g1, g2⟩ := r1.bx _ _ hb
 obtain ⟨B2, k1, k2⟩ := r1.bx _ _ hb2
 obtain ⟨vs, q1, q2, q3, q4, q5⟩ := g1
 have hB : BufIs G ⟨ρ nm, s, ty0, ds, false⟩ B := ⟨vs, q1, q2, q3, fun h => by cases h⟩
 have hB2 : BufIs G ⟨ρ nm2, s, ty2, [x], false⟩ B2 := BufIs.weak (lo := true) k1
 have e1 : ∃ o, B = [o] ∧ (ρ nm).a = some ⟨o.b, 0, none⟩ := by
   rcases q1 with ⟨_, e, _⟩ | ⟨b, rest, lo', e, rfl, _⟩
   · rw [e] at q5; simp at q5; omega
   · exact ⟨_, rfl, by rw [e]⟩
 have e2 : ∃ o, B2 = [o] ∧ (ρ nm2).a = some ⟨o.b, 0, none⟩ := by
   obtain ⟨vs2, c1, c2, _⟩ := k1
   rcases c1 with ⟨e, _, _⟩ | ⟨b, rest, lo', e, rfl, _⟩
   · subst e; have := c2.len; simp at this
   · exact ⟨_, rfl, by rw [e]⟩
 obtain ⟨o1, rfl, a1⟩ := e1
 obtain ⟨o2, rfl, a2⟩ := e2
 have hob : o1.b ≠ o2.b := fun e => r.dj nm nm2 _ _ (s2 _ _ hb) (s2 _ _ hb2) hnm _ a1 (by rw [a2, e])
 have hp : ∃ rest, ov.Perm ([o1] ++ [o2] ++ rest) := by
   obtain ⟨l1, l2, e3⟩ := List.append_of_mem (g2 _ List.mem_cons_self)
   have hm := k2 _ List.mem_cons_self
   rw [e3] at hm ⊢
   have hm2 : o2 ∈ l1 ++ l2 := by
     rcases List.mem_append.1 hm with h | h
     · exact List.mem_append_left _ h
     · rcases List.mem_cons.1 h with h | h
       · exact absurd (by rw [h]) hob
       · exact List.mem_append_right _ h
   obtain ⟨l3, l4, e4⟩ := List.append_of_mem hm2
   refine ⟨l3 ++ l4, List.perm_middle.trans ?_⟩
   rw [e4]
   exact (List.perm_middle (l₁ := l3) (l₂ := l4) (a := o2)).cons o1
 obtain ⟨rest, h5⟩ := hp
 have h6 : ∀ o ∈ ov, o.b ≠ o1.b → o.b ≠ o2.b → o ∈ rest := fun o ho n1 n2 => by
   have := h5.mem_iff.1 ho
   simp only [List.cons_append, List.nil_append, List.mem_cons] at this
   rcases this with rfl | rfl | h
   · exact absurd rfl n1
   · exact absurd rfl n2
   · exact h
 have hlo2 : ∀ o ∈ [o2], o.lo = true := by obtain ⟨_, _, _, _, h⟩ := k1; exact h rfl
 have hall : ∀ o ∈ [o1] ++ [o2], o.lo = true := fun o ho => by
   rcases List.mem_append.1 ho with h | h
   · exact q4 o h
   · exact hlo2 o h
 refine ch_callO (M := [o1] ++ [o2]) (rest := rest) (vs := [.slice (ρ nm).a (ρ nm).n (ρ nm).c, .int .i64 i, .slice (ρ nm2).a (ρ nm2).n (ρ nm2).c]) hy (by simp only [opvs, p1, p2, p3]) h5 (hF G (ρ nm) (ρ nm2) [o1] [o2] r.gb hB q5 hB2) hd (fun v own1 G' hG hK a' w' rl => ?_) a w Q ⟨r.h, r.sz, frA_ok a, r.df⟩
 obtain ⟨z, rfl, vs', k1', k2', k3', k4'⟩ := hK
 have hs1 := k1'.relo (flM ([o1] ++ [o2]))
 have e3 : ∀ o ∈ own1.map (relo (flM ([o1] ++ [o2]))), o.lo = true := fun o ho => by
   obtain ⟨o', _, rfl⟩ := List.mem_map.1 ho
   exact flM_true _ hall
 generalize own1.map (relo (flM ([o1] ++ [o2]))) = B' at rl e3 hs1
 have rl' : Rel C n (Sx.put (frA a) (some d) (.slice z.a z.n z.c)) (B' ++ rest) G' a' w' := rl
 have hdis := (List.pairwise_append.1 rl'.h.nd).2.2
 have rd := (r.dropB nm).dropB nm2
 have hin : ∀ q B0, Sx.upB (Sx.upB tb [(nm, none)]) [(nm2, none)] q = some B0 → q ≠ nm ∧ q ≠ nm2 ∧ tb q = some B0 := fun q B0 e => by
   simp only [Sx.upB] at e
   split at e
   · cases e
   · split at e
     · cases e
     · exact ⟨by assumption, by assumption, e⟩
 have hf2 : FreshX [d] (some d) tl (Sx.upB (Sx.upB tb [(nm, none)]) [(nm2, none)]) := fun q hq => by
   obtain ⟨f1, f2⟩ := hf q hq
   exact ⟨f1, fun k B e1 e => f2 k B e1 (hin k B e).2.2⟩
 have hsep : ∀ q B0, Sx.upB (Sx.upB tb [(nm, none)]) [(nm2, none)] q = some B0 → ∀ o ∈ ov, (ρ q).a = some ⟨o.b, 0, none⟩ → o ∈ rest := fun q B0 e o ho hbq => by
   obtain ⟨n1, n2, n3⟩ := hin q B0 e
   exact h6 o ho (fun e' => r.dj nm q _ _ (s2 _ _ hb) n3 (Ne.symm n1) _ a1 (by rw [hbq, e'])) (fun e' => r.dj nm2 q _ _ (s2 _ _ hb2) n3 (Ne.symm n2) _ a2 (by rw [hbq, e']))
 have r3 := rd.new' (x := z) (B' := .b ty0 s dso true) (os := B') (ov' := B' ++ rest) (f := .rw d) (y := .slice z.a z.n z.c) hf2 hG.le rl'.h ⟨vs', by simpa using hs1, k2', k3', fun _ => e3⟩ (fun o ho => List.mem_append_left _ ho)
   (fun q B0 hq e o ho hbq => ⟨List.mem_append_right _ (hsep q B0 e o ho hbq), fun hc => by
     have hx : ∃ o1 ∈ B', o1.b = o.b := by
       rcases hs1 with ⟨_, h, _⟩ | ⟨b0, rest0, lo0, h, hB, _⟩
       · rw [show z = _ from h] at hc; cases hc
       · rw [show z = _ from h] at hc; cases hc; exact ⟨⟨_, flatL vs' ++ rest0, _, lo0⟩, by rw [hB]; exact List.mem_cons_self, rfl⟩
     obtain ⟨o3, ho3, he3⟩ := hx
     exact hdis o3 ho3 o (hsep q B0 e o ho hbq) he3⟩) (by show _ = _; simp) (putA_rel rl')
 exact hk.run _ G' _ a' w' r3
theorem ci [fu : Fu] {f : FuncId} {nm nm2 d cap s : Nat} {i : Int} {ty ty2 : TypeId} {ds dso : List DV} {x : DV} (dso' : List DV) (ha : calI fr own cf = some ⟨f, nm, nm2, i, ty, ty2, s, ds, x, cap, d⟩) (hF : PI GB Tryz.prog f i s ty ty2 ds x cap dso) (he : dso = dso')
  (hgo : goA tt n fu.n fr own cf (.rw d) [(nm, none), (nm2, none), (d, some (.b ty s dso' true))] [d] = ⟨vc, fr', own', cf'⟩) (k : CfS Tryz.prog GB C n Q0 fr' own' cf')
  (hv : allP vc := by first | exact trivial | (simp only [allP]; kernel_rfl) | (simp only [allP]; omega)) : CfS Tryz.prog GB C n Q0 fr own cf := by
 subst he
 unfold calI at ha
 split at ha <;> try (cases ha; done)
 rename_i hh
 split at ha <;> try (cases ha; done)
 rename_i h0 h1
 split at ha <;> try (cases ha; done)
 rename_i h2 h3
 split at ha <;> try (cases ha; done)
 rename_i hb hb2
 rw [cond_eq_ite] at ha
 split at ha <;> cases ha
 rename_i hc
 simp only [Bool.and_eq_true, Bool.not_eq_true', Nat.blt_eq] at hc
 obtain ⟨⟨c1, c2⟩, c3, c4, c5⟩ := hc
 cases Nat.eq_of_beq_eq_true c4
 exact us hh (ok_callI c1 c2 c3 c5 h0 h1 h2 h3 hb hb2 hF) hgo hv k
theorem kbT (d : Nat) {ops : Array Oper} {r : List Oper} {K : List Kt} (hl : lookX fr d = some (.d (.v (.bool true)))) (k : CfS Tryz.prog GB C n Q0 ((d, .tt) :: fr) own (.ops ops r K)) : CfS Tryz.prog GB C n Q0 fr own (.ops ops r K) := lookX_same (g := .tt) hl (fun _ G _ e => (is_v (G := G)).1 e) k
theorem kbF (d : Nat) {ops : Array Oper} {r : List Oper} {K : List Kt} (hl : lookX fr d = some (.d (.v (.bool false)))) (k : CfS Tryz.prog GB C n Q0 ((d, .ff) :: fr) own (.ops ops r K)) : CfS Tryz.prog GB C n Q0 fr own (.ops ops r K) := lookX_same (g := .ff) hl (fun _ G _ e => (is_v (G := G)).1 e) k
end
end Go.Sx
end

section
set_option maxRecDepth 100000
namespace Go.Sx
open Go Go.Proofs
theorem is_SV {G : Gh} {ds : List Nat} {v : Value} (hd : DOk ds) (h : Is G (dLi ds) v) : ∃ x : SV, v = x.v ∧ IsD G x ds := by
 obtain ⟨x, rfl, h1⟩ := is_dL.1 h
 exact ⟨x, rfl, hd, h1⟩
theorem IsN.is {G : Gh} {k n : Nat} {z : SV} (h : IsN k G z n) : Is G (dN n) z.v := (is_dN h.lt).2 ⟨z, rfl, h⟩
theorem op1 {G : Gh} {ds : List Nat} {vs : List Value} (hd : DOk ds) (h : IsLs G [dLi ds] vs) : ∃ x : SV, vs = [x.v] ∧ IsD G x ds := by
 obtain ⟨v, m, rfl, h1, h2⟩ := isl_cons.1 h
 cases isl_nil.1 h2
 obtain ⟨x, rfl, h3⟩ := is_SV hd h1
 exact ⟨x, rfl, h3⟩
theorem op2 {G : Gh} {a b : Nat} {vs : List Value} (h : IsLs G [dN a, dN b] vs) : ∃ x y : SV, vs = [x.v, y.v] ∧ IsD G x (dg a) ∧ IsD G y (dg b) := by
 obtain ⟨v, m, rfl, h1, h2⟩ := isl_cons.1 h
 obtain ⟨y, rfl, h4⟩ := op1 (dg_spec b).2.1 h2
 obtain ⟨x, rfl, h3⟩ := is_SV (dg_spec a).2.1 h1
 exact ⟨x, y, rfl, h3, h4⟩
section
variable {GB : Gh} {a b i j : Nat}
theorem dg_bd [h : BN a i] (hi : i ≤ 1000000000) : (dg a).length ≤ 31250001 := by have := dg_len_le h.h; omega
theorem p_Normal {ds : List Nat} (hd : DOk ds) (hl : ds.length ≤ 1125899906842624) : PF GB Tryz.prog 139 [dLi ds] (vB (decide (Nrm ds))) := fun G vs _ hv => by
 obtain ⟨x, rfl, hx⟩ := op1 hd hv
 exact (nat_Normal hx hl).mono fun v G' _ h => is_v.2 h
theorem p_Bits [h : BN a i] (hi : i ≤ 1000000000 := by decide) : PF GB Tryz.prog 174 [dN a] (vI (bl a : Nat)) := fun G vs _ hv => by
 obtain ⟨x, rfl, hx⟩ := op1 (dg_spec a).2.1 hv
 have := dg_bd (a := a) hi
 exact (nat_Bits hx (by omega)).mono fun v G' _ h => is_v.2 (by rw [h, dv_dg])
theorem p_Norm [h : BN a i] (hi : i ≤ 1000000000 := by decide) : PF GB Tryz.prog 180 [dN a] (dN a) := fun G vs _ hv => by
 obtain ⟨x, rfl, hx⟩ := op1 (dg_spec a).2.1 hv
 have := dg_bd (a := a) hi
 refine (nat_Norm (k := i) hx (by rw [dv_dg]; exact h.h) (by omega)).mono fun v G' _ h => ?_
 obtain ⟨z, rfl, h⟩ := h
 rw [dv_dg] at h; exact h.is
theorem p_FromUint (h : a < 18446744073709551616) : PF GB Tryz.prog 182 [.v (.int .u64 (a : Nat))] (dN a) := fun G vs _ hv => by
 obtain ⟨v, m, rfl, h1, h2⟩ := isl_cons.1 hv
 cases isl_nil.1 h2
 rw [is_v.1 h1]
 refine (nat_FromUint h).mono fun v G' _ h => ?_
 obtain ⟨z, rfl, h⟩ := h
 exact h.is
theorem p_Uint (h : a < 18446744073709551616) : PF GB Tryz.prog 178 [dN a] (.tp [.v (.int .u64 (a : Nat)), vB true]) := fun G vs _ hv => by
 obtain ⟨x, rfl, hx⟩ := op1 (dg_spec a).2.1 hv
 have : BN a 64 := ⟨h⟩
 have := dg_bd (a := a) (i := 64) (by decide)
 refine (nat_Uint hx (by omega)).mono fun v G' _ e => ?_
 rw [dv_dg, if_pos h, decide_eq_true h] at e
 subst e
 exact is_tp.2 ⟨_, rfl, .cons (is_v.2 rfl) (.cons (is_v.2 rfl) .nil)⟩
theorem p_Add [h : BN a i] [k : BN b j] (hi : i ≤ 1000000000 := by decide) (hj : j ≤ 1000000000 := by decide) : PF GB Tryz.prog 235 [dN a, dN b] (dN (a + b)) := fun G vs _ hv => by
 obtain ⟨x, y, rfl, hx, hy⟩ := op2 hv
 have := dg_bd (a := a) hi
 have := dg_bd (a := b) hj
 refine (nat_Add (kk := i + j + 1) hx hy (by rw [dv_dg, dv_dg]; exact add_lt_pow h.h k.h) (by omega) (by omega)).mono fun v G' _ h => ?_
 obtain ⟨z, rfl, h⟩ := h
 rw [dv_dg, dv_dg] at h; exact h.is
theorem p_Sub [h : BN a i] [k : BN b j] (hi : i ≤ 1000000000 := by decide) (hj : j ≤ 1000000000 := by decide) : PF GB Tryz.prog 236 [dN a, dN b] (.tp [dN (a - b), vB (decide (b ≤ a))]) := fun G vs _ hv => by
 obtain ⟨x, y, rfl, hx, hy⟩ := op2 hv
 have := dg_bd (a := a) hi
 have := dg_bd (a := b) hj
 refine (nat_Sub (kk := i) hx hy (by rw [dv_dg]; exact h.h) (by omega) (by omega)).mono fun v G' _ h => ?_
 obtain ⟨z, rfl, h⟩ := h
 rw [dv_dg, dv_dg] at h ⊢
 exact is_tp.2 ⟨_, rfl, .cons h.is (.cons (is_v.2 rfl) .nil)⟩
theorem p_Mul [h : BN a i] [k : BN b j] (hi : i ≤ 1000000000 := by decide) (hj : j ≤ 1000000000 := by decide) : PF GB Tryz.prog 143 [dN a, dN b] (dN (a * b)) := fun G vs _ hv => by
 obtain ⟨x, y, rfl, hx, hy⟩ := op2 hv
 have := dg_bd (a := a) hi
 have := dg_bd (a := b) hj
 refine (nat_Mul (kk := i + j) hx hy (by rw [dv_dg, dv_dg]; exact mul_lt_pow h.h k.h) (by omega) (by omega)).mono fun v G' _ h => ?_
 obtain ⟨z, rfl, h⟩ := h
 rw [dv_dg, dv_dg] at h; exact h.is
theorem p_DivMod [h : BN a i] [k : BN b j] (hb : 0 < b) (hi : i ≤ 1000000000 := by decide) (hj : j ≤ 1000000000 := by decide) : PF GB Tryz.prog 176 [dN a, dN b] (.tp [dN (a / b), dN (a % b), vB true]) := fun G vs _ hv => by
 obtain ⟨x, y, rfl, hx, hy⟩ := op2 hv
 have := dg_bd (a := a) hi
 have := dg_bd (a := b) hj
 refine (nat_DivMod (k1 := i) (k2 := j) hx hy (by rw [dv_dg]; exact hb) (by rw [dv_dg, dv_dg]; exact Nat.lt_of_le_of_lt (Nat.div_le_self _ _) h.h) (by rw [dv_dg, dv_dg]; exact Nat.lt_trans (Nat.mod_lt _ hb) k.h) (by omega) (by omega)).mono fun v G' _ h => ?_
 obtain ⟨z, r, rfl, h, h'⟩ := h
 rw [dv_dg, dv_dg] at h h'
 exact is_tp.2 ⟨_, rfl, .cons h.is (.cons h'.is (.cons (is_v.2 rfl) .nil))⟩
theorem p_Gcd [h : BN a i] [k : BN b j] (hi : i ≤ 1000000000 := by decide) (hj : j ≤ 1000000000 := by decide) : PF GB Tryz.prog 145 [dN a, dN b] (dN (Nat.gcd a b)) := fun G vs _ hv => by
 obtain ⟨x, y, rfl, hx, hy⟩ := op2 hv
 have := dg_bd (a := a) hi
 have := dg_bd (a := b) hj
 have e : ∀ k', k' ≤ i + j → (2 : Nat) ^ k' ≤ 2 ^ (i + j) := fun k' h => Nat.pow_le_pow_right (by decide) h
 have := e i (by omega)
 have := e j (by omega)
 have := h.h
 have := k.h
 refine (nat_Gcd (k := i + j) (k0 := i + j) hx hy (by rw [dv_dg]; omega) (by rw [dv_dg]; omega) (by omega) (by rw [dv_dg, dv_dg]; exact gcd_lt' h.h k.h) (by omega) (by omega)).mono fun v G' _ h => ?_
 obtain ⟨z, rfl, h⟩ := h
 rw [dv_dg, dv_dg] at h; exact h.is
end
end Go.Sx
end

section
set_option maxRecDepth 100000
namespace Go.Sx
open Go Go.Proofs
section
variable {GB : Gh} {C : Ctx} {n : Nat} {Q0 : Exit → Act → World → Prop} {fr fr' fr1 fr2 : FrX} {own own' own1 own2 : OwX} {cf cf' cf1 cf2 : Cf} {vc vc1 vc2 : List Prop}
theorem rzI {fb : Func} {e : Exit} {ds : List DV} {rv : DV} (hr : resX tt fr own fb.results.toList = some ds) (hd : ∀ G y, Is G (tupD ds) y → Is G rv y) (he : isEnd e = true := by rfl) : CfS Tryz.prog GB C n (bodyPost Tryz.prog fb (RPost C (fun v G' => Is G' rv v))) fr own (.ex e []) := by
 refine ⟨fun ρ G ov a w r => ?_⟩
 obtain ⟨vs, h1, h2⟩ := resX_ok r hr
 have hk : Is G rv (tupled vs) := hd _ _ (tupD_is h2)
 cases e with
 | ret => exact zD (C := C) (n := n) (fr := frA a) (own := ov) (G := G) (K := fun v G' => Is G' rv v) h1 hk a w ⟨r.h, r.sz, frA_ok a, r.df⟩
 | normal => exact st_doneN (C := C) (n := n) (fr := frA a) (own := ov) (G := G) (K := fun v G' => Is G' rv v) h1 hk a w ⟨r.h, r.sz, frA_ok a, r.df⟩
 | _ => cases he
def cuA (fr : FrX) (cf : Cf) : Option (Int × IntKind) := match opC fr cf with
 | some ⟨_, .convert t t' x, _, _, _, _⟩ => match lookT tt t, lookT tt t', evX (lkC fr cf) x with
   | some ⟨.int k, _, _, _⟩, some ⟨.int k', _, _, _⟩, some (.d (.v (.int j p))) => bif kq k j then some (p, k') else none
   | _, _, _ => none
 | _ => none
theorem cu [fu : Fu] {p : Int} {k' : IntKind} (u : Int) (h : cuA fr cf = some (p, k')) (e : k'.wrap p = u) (hgo : goA tt n fu.n fr own cf (.d (.v (.int k' u))) [] [] = ⟨vc, fr', own', cf'⟩) (k : CfS Tryz.prog GB C n Q0 fr' own' cf')
   (hv : allP vc := by first | exact trivial | (simp only [allP]; kernel_rfl) | (simp only [allP]; omega)) : CfS Tryz.prog GB C n Q0 fr own cf := by
 unfold cuA at h
 split at h <;> try (cases h; done)
 rename_i hh
 split at h <;> try (cases h; done)
 rename_i k0 _ _ _ k1 _ _ _ j p0 hT hT' hx
 cases hk : kq k0 j with
 | false => rw [hk] at h; cases h
 | true =>
   rw [hk, cond_true] at h; cases h; cases kq_eq hk
   have := ti_int (tt_ok _ _ hT) rfl
   have := ti_int (tt_ok _ _ hT') rfl
   subst e
   refine us hh (.x1 hx fun ρ G ov a w y _ r h1 h2 => ?_) hgo hv k
   rw [isX_int] at h2; subst h2
   exact ⟨_, isX_int.2 rfl, yd_conv h1⟩
def nuA (fr : FrX) (cf : Cf) : Option (Int × IntKind) := match opC fr cf with
 | some ⟨_, .unOp .neg _ x, _, _, _, _⟩ => match evX (lkC fr cf) x with
   | some (.d (.v (.int j p))) => some (p, j)
   | _ => none
 | _ => none
theorem nu [fu : Fu] {p : Int} {k' : IntKind} (u : Int) (h : nuA fr cf = some (p, k')) (e : k'.wrap (0 - p) = u) (hgo : goA tt n fu.n fr own cf (.d (.v (.int k' u))) [] [] = ⟨vc, fr', own', cf'⟩) (k : CfS Tryz.prog GB C n Q0 fr' own' cf')
  (hv : allP vc := by first | exact trivial | (simp only [allP]; kernel_rfl) | (simp only [allP]; omega)) : CfS Tryz.prog GB C n Q0 fr own cf := by
 unfold nuA at h
 split at h <;> try (cases h; done)
 rename_i hh
 split at h <;> cases h
 rename_i hx
 subst e
 exact us hh (.x1 hx fun ρ G ov a w y _ r h1 h2 => by
  rw [isX_int] at h2; subst h2
  exact ⟨_, isX_int.2 rfl, yd_neg h1⟩) hgo hv k
end
end Go.Sx
end

section
set_option maxRecDepth 100000
namespace Go.Sx
open Go Go.Proofs
theorem bl_eq0 {x : Nat} : bl x = 0 ↔ x = 0 := by
 have := @bl_le x 0
 simp at this; omega
theorem dg_len0 {a : Nat} : 0 < (dg a).length ↔ 0 < a := by
 have := @dg_len_zero a
 omega
def eS (neg : Bool) (a : Nat) : DV := .ag [.v (.bool neg), dN a]
theorem eI_zvA (neg : Bool) (a : Nat) : eI (zv neg a) = .ag [.v (.bool (neg && decide (0 < a))), dN a] := by unfold eI; rw [zv_abs, zv_neg_lt]
theorem zv_sub1 {n : Bool} {u : Nat} {b : Int} (h : n ≠ decide (b < 0)) (hle : b.natAbs ≤ u) : zv n (u - b.natAbs) = zv n u + b := by cases n <;> simp [zv] at * <;> omega
theorem zv_sub2 {n : Bool} {u : Nat} {b : Int} (h : n ≠ decide (b < 0)) (hle : u ≤ b.natAbs) : zv (decide (b < 0)) (b.natAbs - u) = zv n u + b := by cases n <;> simp [zv] at * <;> (try rw [if_pos h]) <;> (try rw [if_neg (by omega)]) <;> omega
theorem p_INormal {GB : Gh} {neg : Bool} {ds : List Nat} (hd : DOk ds) (hl : ds.length ≤ 1125899906842624) : PF GB Tryz.prog 97 [.ag [.v (.bool neg), dLi ds]] (vB (decide (Nrm ds ∧ (neg = true → 0 < ds.length)))) := by
 refine fn Tryz.func97 rfl rfl Tryz.ntmps97 rfl rfl (fun C => ?_)
 refine cl rfl (p_Normal hd hl) rfl <| ?_
 refine csd 6 rfl rfl rfl (fun hg6 => ?_) (fun hg6 => ?_)
 ·
  refine csb 10 rfl rfl rfl (fun hg10 => ?_) (fun hg10 => ?_)
  ·
   exact rz rfl (by unfold vB; congr 2; simp_all [tupD])
  ·
   exact rz rfl (by unfold vB; congr 2; simp_all [tupD])
 ·
  exact rz rfl (by unfold vB; congr 2; simp_all [tupD])
theorem p_ISign {GB : Gh} {n : Bool} {a i : Nat} [h : BN a i] (hi : i ≤ 1000000000 := by decide) : PF GB Tryz.prog 175 [eS n a] (vI (zv n a).sign) := by
 refine fn Tryz.func175 rfl rfl Tryz.ntmps175 rfl rfl (fun C => ?_)
 refine cl rfl (p_Bits (a := a) hi) rfl <| ?_
 refine br rfl rfl rfl (fun hc3 => ?_) (fun hc3 => ?_)
 ·
  exact rz rfl (by have := bl_eq0.1 (Int.ofNat.inj hc3); subst this; cases n <;> rfl)
 ·
  refine bb rfl rfl rfl (fun hc8 => ?_) (fun hc8 => ?_)
  ·
   exact rz rfl (by subst hc8; rw [Int.sign_eq_neg_one_of_neg (by have : a ≠ 0 := (fun e => hc3 (by rw [e]; rfl)); simp [zv]; omega)]; rfl)
  ·
   exact rz rfl (by subst hc8; rw [Int.sign_eq_one_of_pos (by have : a ≠ 0 := (fun e => hc3 (by rw [e]; rfl)); simp [zv]; omega)]; rfl)
theorem p_FromInt {GB : Gh} {m : Int} (h0 : -9223372036854775808 ≤ m) (h1 : m ≤ 9223372036854775807) : PF GB Tryz.prog 148 [vI m] (eI m) := by
 refine fn (fu := ⟨8⟩) Tryz.func148 rfl rfl Tryz.ntmps148 rfl rfl (fun C => ?_)
 refine cu ((m % 18446744073709551616 : Int)) rfl (wrap_u64 _) rfl <| ?_
 refine br (fu1 := ⟨2⟩) (fu2 := ⟨0⟩) rfl rfl rfl (fun hc7 => ?_) (fun hc7 => ?_)
 ·
  refine nu ((m.natAbs : Nat)) rfl (by rw [wrap_u64]; omega) rfl <| cl rfl (p_FromUint (a := m.natAbs) (by omega)) rfl <| ?_
  exact rz rfl rfl
 ·
  refine eqF 3 (.d (.v (.int .u64 (m.natAbs : Nat)))) rfl (by congr 3; omega) ?_
  refine gx rfl <| cl rfl (p_FromUint (a := m.natAbs) (by omega)) rfl <| ?_
  exact rz rfl rfl
theorem p_Int64 {GB : Gh} {n : Bool} {a : Nat} (h : a < 4611686018427387904) : PF GB Tryz.prog 177 [eS n a] (.tp [vI (zv n a), vB true]) := by
 refine fn Tryz.func177 rfl rfl Tryz.ntmps177 rfl rfl (fun C => ?_)
 refine cl (fu := ⟨2⟩) rfl (p_Uint (a := a) (by omega)) rfl <| knT rfl rfl rfl <| ?_
 refine csb 18 rfl rfl rfl (fun hg18 => ?_) (fun hg18 => ?_)
 ·
  refine br (fu1 := ⟨3⟩) rfl rfl rfl (fun hc12 => ?_) (fun hc12 => ?_)
  ·
   refine nu (fu := ⟨0⟩) (((18446744073709551616 - a) % 18446744073709551616 : Int)) rfl (by rw [wrap_u64]; omega) rfl <| cu (zv n a) rfl (by subst hg18; rw [wrap_i64]; simp only [zv, if_true]; omega) rfl <| ?_
   exact rz rfl rfl
  ·
   exact absurd (by omega) hc12
 ·
  refine csb 32 rfl rfl rfl (fun hg32 => ?_) (fun hg32 => ?_)
  ·
   refine br rfl rfl rfl (fun hc25 => ?_) (fun hc25 => ?_)
   ·
    exact rz rfl (by subst hg18; rfl)
   ·
    exact absurd (by omega) hc25
  ·
   subst hg18; cases hg32
theorem p_INorm {GB : Gh} {neg : Bool} {a i : Nat} [h : BN a i] (hi : i ≤ 1000000000 := by decide) : PF GB Tryz.prog 179 [eS neg a] (eI (zv neg a)) := by
 refine fn Tryz.func179 rfl rfl Tryz.ntmps179 rfl rfl (fun C => ?_)
 refine cl rfl (p_Norm hi) rfl <| ?_
 refine csb 9 rfl rfl rfl (fun hg9 => ?_) (fun hg9 => ?_)
 ·
  exact rz rfl (by rw [eI_zvA]; simp [hg9, dg_len0, tupD])
 ·
  exact rz rfl (by rw [eI_zvA]; simp [hg9, dg_len0, tupD])
theorem p_signed {GB : Gh} {neg : Bool} {a : Nat} : PF GB Tryz.prog 234 [.v (.bool neg), dN a] (eI (zv neg a)) := by
 refine fn Tryz.func234 rfl rfl Tryz.ntmps234 rfl rfl (fun C => ?_)
 refine csb 6 rfl rfl rfl (fun hg6 => ?_) (fun hg6 => ?_)
 ·
  exact rz rfl (by rw [eI_zvA]; simp [hg6, dg_len0, tupD])
 ·
  exact rz rfl (by rw [eI_zvA]; simp [hg6, dg_len0, tupD])
theorem p_INeg {GB : Gh} {m : Int} {i : Nat} [h : BI m i] (hi : i ≤ 1000000000 := by decide) : PF GB Tryz.prog 199 [eI m] (eI (-m)) := by
 refine fn Tryz.func199 rfl rfl Tryz.ntmps199 rfl rfl (fun C => ?_)
 refine cl rfl (p_INorm (neg := !decide (m < 0)) (a := m.natAbs) hi) rfl <| ?_
 exact rz rfl (by rw [zv_neg, zv_eta]; rfl)
theorem p_IMul {GB : Gh} {a b : Int} {i j : Nat} [h : BI a i] [k : BI b j] (hi : i ≤ 1000000000 := by decide) (hj : j ≤ 1000000000 := by decide) : PF GB Tryz.prog 231 [eI a, eI b] (eI (a * b)) := by
 refine fn Tryz.func231 rfl rfl Tryz.ntmps231 rfl rfl (fun C => ?_)
 refine cl rfl (p_Mul (a := a.natAbs) (b := b.natAbs) hi hj) rfl <| cl rfl p_signed rfl <| ?_
 exact rz rfl (by rw [show (!(decide (a < 0) == decide (b < 0))) = (decide (a < 0) != decide (b < 0)) from rfl, zv_mul, zv_eta, zv_eta]; rfl)
theorem p_IAddS {GB : Gh} {n1 : Bool} {u : Nat} {b : Int} {i j : Nat} [h : BN u i] [k : BI b j] (hi : i ≤ 1000000000 := by decide) (hj : j ≤ 1000000000 := by decide) : PF GB Tryz.prog 230 [eS n1 u, eI b] (eI (zv n1 u + b)) := by
 refine fn Tryz.func230 rfl rfl Tryz.ntmps230 rfl rfl (fun C => ?_)
 refine bb rfl rfl rfl (fun hc13 => ?_) (fun hc13 => ?_)
 ·
  refine cl rfl (p_Add (b := b.natAbs) hi hj) rfl <| cl rfl p_signed rfl <| ?_
  exact rz rfl (by rw [zv_add_same, show n1 = decide (b < 0) from by simpa using hc13, zv_eta]; rfl)
 ·
  refine cl rfl (p_Sub (b := b.natAbs) hi hj) rfl <| ?_
  refine bd rfl rfl rfl (fun hc30 => ?_) (fun hc30 => ?_)
  ·
   refine cl rfl p_signed rfl <| ?_
   exact rz rfl (by rw [zv_sub1 (by simpa using hc13) hc30]; rfl)
  ·
   refine cl rfl (p_Sub (a := b.natAbs) hj hi) rfl <| cl rfl p_signed rfl <| ?_
   exact rz rfl (by rw [zv_sub2 (by simpa using hc13) (by omega)]; rfl)
theorem p_IAdd {GB : Gh} {a b : Int} {i j : Nat} [h : BI a i] [k : BI b j] (hi : i ≤ 1000000000 := by decide) (hj : j ≤ 1000000000 := by decide) : PF GB Tryz.prog 230 [eI a, eI b] (eI (a + b)) := (p_IAddS (n1 := decide (a < 0)) (u := a.natAbs) hi hj).to (by rw [zv_eta])
end Go.Sx
end

section
set_option maxRecDepth 100000
namespace Go.Sx
open Go Go.Proofs
def Big (q : Rat) : Prop := ¬ (q.num.natAbs < 4611686018427387904 ∧ q.den < 4611686018427387904)
instance (q : Rat) : Decidable (Big q) := inferInstanceAs (Decidable (¬ _))
def fn_ (q : Rat) : Int := if Big q then 0 else q.num
def fd_ (q : Rat) : Int := if Big q then 0 else (q.den : Int) - 1
def fp_ (q : Rat) : DV := .op (decide (Big q)) [.v (.bool (decide (q.num < 0))), dN q.num.natAbs, dN q.den]
def eF (q : Rat) : DV := .ag [vI (fn_ q), vI (fd_ q), fp_ q]
abbrev bgT {q : Rat} (h : decide (Big q) = true) : Big q := of_decide_eq_true h
abbrev bgF {q : Rat} (h : decide (Big q) = false) : ¬ Big q := of_decide_eq_false h
abbrev bgT' {q : Rat} (h : ¬ decide (Big q) = false) : Big q := by simpa using h
abbrev bgF' {q : Rat} (h : ¬ decide (Big q) = true) : ¬ Big q := by simpa using h
theorem fn_s {q : Rat} (h : ¬ Big q) : fn_ q = q.num := if_neg h
theorem fd_s {q : Rat} (h : ¬ Big q) : fd_ q = (q.den : Int) - 1 := if_neg h
theorem small_n {q : Rat} (h : ¬ Big q) : q.num.natAbs < 4611686018427387904 := (Decidable.not_not.1 h).1
theorem small_d {q : Rat} (h : ¬ Big q) : q.den < 4611686018427387904 := (Decidable.not_not.1 h).2
theorem big_ne {q : Rat} (h : Big q) : q ≠ 0 := fun e => by subst e; exact h ⟨by decide, by decide⟩
theorem is_s {q : Rat} {m d : Int} {r : DV} (h : ¬ Big q) (h1 : q.num = m) (h2 : (q.den : Int) - 1 = d) (e : r = .ag [vI m, vI d, .v (.pointer none)]) (G : Gh) (y : Value) (k : Is G r y) : Is G (eF q) y := by
 subst e h1 h2
 obtain ⟨l, rfl, g⟩ := is_ag.1 k
 obtain ⟨y1, l1, rfl, k1, g1⟩ := isl_cons.1 g
 obtain ⟨y2, l2, rfl, k2, g2⟩ := isl_cons.1 g1
 obtain ⟨y3, l3, rfl, k3, g3⟩ := isl_cons.1 g2
 exact is_ag.2 ⟨_, rfl, .cons (by rw [fn_s h]; exact k1) (.cons (by rw [fd_s h]; exact k2) (.cons (is_op.2 (.inl ⟨decide_eq_false h, is_v.1 k3⟩)) g3))⟩
theorem is_b {q : Rat} {n : Bool} {a d : Nat} {r : DV} (h : Big q) (h1 : decide (q.num < 0) = n) (h2 : q.num.natAbs = a) (h3 : q.den = d) (e : r = .ag [vI 0, vI 0, .pt [.v (.bool n), dN a, dN d]]) (G : Gh) (y : Value) (k : Is G r y) : Is G (eF q) y := by
 subst e h1 h2 h3
 obtain ⟨l, rfl, g⟩ := is_ag.1 k
 obtain ⟨y1, l1, rfl, k1, g1⟩ := isl_cons.1 g
 obtain ⟨y2, l2, rfl, k2, g2⟩ := isl_cons.1 g1
 obtain ⟨y3, l3, rfl, k3, g3⟩ := isl_cons.1 g2
 exact is_ag.2 ⟨_, rfl, .cons (by unfold fn_; rw [if_pos h]; exact k1) (.cons (by unfold fd_; rw [if_pos h]; exact k2) (.cons (is_op.2 (.inr ⟨decide_eq_true h, k3⟩)) g3))⟩
theorem is_0 (G : Gh) (y : Value) (k : Is G (.ag [vI 0, vI 0, .v (.pointer none)]) y) : Is G (eF 0) y := is_s (fun h => big_ne h rfl) rfl rfl rfl G y k
theorem is_m {m : Int} (h : m.natAbs < 4611686018427387904) (G : Gh) (y : Value) (k : Is G (.ag [vI m, vI 0, .v (.pointer none)]) y) : Is G (eF (m : Rat)) y :=
 is_s (fun k => k ⟨by simpa using h, by rw [Rat.den_intCast]; decide⟩) (Rat.num_intCast m) (by rw [Rat.den_intCast]; rfl) rfl G y k
theorem red_nd {n : Bool} {a d : Nat} (hd : 0 < d) : (mkRat (zv n a) d).num = zv n (a / Nat.gcd a d) ∧ (mkRat (zv n a) d).den = d / Nat.gcd a d := by
 obtain ⟨h1, h2⟩ := rat_num (m := zv n a) hd
 rw [zv_abs] at h1 h2
 exact ⟨by rw [h1, zv_div (Nat.gcd_dvd_left _ _)], h2⟩
theorem red_s {n : Bool} {a d a' d' : Nat} (hd : 0 < d) (ha : a' = a / Nat.gcd a d) (hd' : d' = d / Nat.gcd a d) (h1 : a' < 4611686018427387904) (h2 : d' < 4611686018427387904) (G : Gh) (y : Value) (k : Is G (.ag [vI (zv n a'), vI ((d' : Int) - 1), .v (.pointer none)]) y) : Is G (eF (mkRat (zv n a) d)) y := by
 obtain ⟨e1, e2⟩ := red_nd (n := n) (a := a) hd
 rw [← ha] at e1; rw [← hd'] at e2
 exact is_s (fun k => k ⟨by rw [e1, zv_abs]; exact h1, by rw [e2]; exact h2⟩) e1 (by rw [e2]) rfl G y k
theorem red_b {n : Bool} {a d a' d' : Nat} (hd : 0 < d) (ha : a' = a / Nat.gcd a d) (hd' : d' = d / Nat.gcd a d) (h : ¬ (a' < 4611686018427387904 ∧ d' < 4611686018427387904)) (G : Gh) (y : Value) (k : Is G (.ag [vI 0, vI 0, .pt [.v (.bool (decide (zv n a' < 0))), dN (zv n a').natAbs, dN d']]) y) : Is G (eF (mkRat (zv n a) d)) y := by
 obtain ⟨e1, e2⟩ := red_nd (n := n) (a := a) hd
 rw [← ha] at e1; rw [← hd'] at e2
 exact is_b (fun k => h ⟨by rw [e1, zv_abs] at k; exact k.1, by rw [e2] at k; exact k.2⟩) (by rw [e1]) (by rw [e1]) e2 rfl G y k
theorem gcd1 {a d : Nat} (hd : 0 < d) (h : ¬ (1 : Int) < (bl (Nat.gcd a d) : Nat)) : Nat.gcd a d = 1 := by
 have h1 : Nat.gcd a d ≠ 0 := fun e => by rw [Nat.gcd_eq_zero_iff] at e; omega
 have h2 : Nat.gcd a d < 2 ^ 1 := bl_le.1 (by omega)
 omega
theorem bl62 {x : Nat} : (((bl x : Nat) : Int) ≤ 62) ↔ x < 4611686018427387904 := bl_le62
theorem PF.ofI {GB : Gh} {P : Program} {f : FuncId} {ds ds' : List DV} {r : DV} (h : PF GB P f ds r) (k : ∀ G vs, IsLs G ds' vs → IsLs G ds vs) : PF GB P f ds' r := fun G vs hg hv => h G vs hg (k G vs hv)
theorem p_reduce {GB : Gh} {n : Bool} {a d i j : Nat} [h : BN a i] [k : BN d j] (hi : i ≤ 450000000 := by decide) (hj : j ≤ 450000000 := by decide) : PF GB Tryz.prog 140 [eS n a, dN d] (eF (mkRat (zv n a) d)) := by
 refine fn Tryz.func140 rfl rfl Tryz.ntmps140 rfl rfl (fun C => ?_)
 refine cl rfl (p_Bits (a := d) (by omega)) rfl <| ?_
 refine cs 13 rfl rfl rfl (fun hg13 => ?_) (fun hg13 => ?_)
 ·
  exact rzI rfl (by obtain rfl := bl_eq0.1 (Int.ofNat.inj hg13); rw [Rat.mkRat_zero]; exact is_0)
 ·
  have hd0 : 0 < d := by have := @bl_eq0 d; omega
  have hg0 : 0 < Nat.gcd a d := Nat.gcd_pos_of_pos_right _ hd0
  refine cl rfl (p_ISign (n := n) (a := a) (by omega)) rfl <| ?_
  refine br rfl rfl rfl (fun hc17 => ?_) (fun hc17 => ?_)
  ·
   exact rzI rfl (by rw [Int.sign_eq_zero_iff_zero.1 hc17, Rat.zero_mkRat]; exact is_0)
  ·
   refine cl rfl (p_Gcd (a := a) (b := d) (by omega) (by omega)) rfl <| cl rfl (p_Bits (a := Nat.gcd a d) (i := i + j) (by omega)) rfl <| ?_
   refine br rfl rfl rfl (fun hc25 => ?_) (fun hc25 => ?_)
   ·
    obtain ⟨a', ea⟩ : ∃ a', a' = a / Nat.gcd a d := ⟨_, rfl⟩
    obtain ⟨d', ed⟩ : ∃ d', d' = d / Nat.gcd a d := ⟨_, rfl⟩
    have hba : BN a' i := ea ▸ inferInstance
    have hbd : BN d' j := ed ▸ inferInstance
    refine cl (fu := ⟨2⟩) rfl (p_DivMod (a := a) (b := Nat.gcd a d) (j := i + j) hg0 (by omega) (by omega)) rfl <| ?_
    refine eqF 31 (.d (dN a')) rfl (by rw [ea]) ?_
    refine gx rfl <| cl (fu := ⟨2⟩) rfl (p_DivMod (a := d) (b := Nat.gcd a d) (j := i + j) hg0 (by omega) (by omega)) rfl <| ?_
    refine eqF 39 (.d (dN d')) rfl (by rw [ed]) ?_
    refine gx rfl <| cl rfl (p_Bits (h := hba) (by omega)) rfl <| ?_
    refine cs 46 rfl rfl rfl (fun hg46 => ?_) (fun hg46 => ?_)
    ·
     refine cl rfl (p_Bits (h := hbd) (by omega)) rfl <| ?_
     refine br rfl rfl rfl (fun hc50 => ?_) (fun hc50 => ?_)
     ·
      have hs2 := bl62.1 hc50
      refine cl rfl (p_Int64 (bl62.1 hg46)) rfl <| cl rfl (p_Uint (by have := bl62.1 hc50; omega)) rfl <| ?_
      exact rzI rfl (red_s hd0 ea ed (bl62.1 hg46) (bl62.1 hc50))
     ·
      refine cl rfl (p_INorm (neg := n) (h := hba) (by omega)) rfl <| cl rfl (p_Norm (h := hbd) (by omega)) rfl <| fz 71 rfl rfl <| ?_
      exact rzI rfl (red_b hd0 ea ed (fun e => hc50 (bl62.2 e.2)))
    ·
     refine cl rfl (p_INorm (neg := n) (h := hba) (by omega)) rfl <| cl rfl (p_Norm (h := hbd) (by omega)) rfl <| fz 71 rfl rfl <| ?_
     exact rzI rfl (red_b hd0 ea ed (fun e => hg46 (bl62.2 e.1)))
   ·
    have hg1 := gcd1 hd0 hc25
    have ea : a = a / Nat.gcd a d := by rw [hg1, Nat.div_one]
    have ed : d = d / Nat.gcd a d := by rw [hg1, Nat.div_one]
    have hba := h
    have hbd := k
    refine cl rfl (p_Bits (h := hba) (by omega)) rfl <| ?_
    refine cs 46 rfl rfl rfl (fun hg46 => ?_) (fun hg46 => ?_)
    ·
     refine cl rfl (p_Bits (h := hbd) (by omega)) rfl <| ?_
     refine br rfl rfl rfl (fun hc50 => ?_) (fun hc50 => ?_)
     ·
      have hs2 := bl62.1 hc50
      refine cl rfl (p_Int64 (bl62.1 hg46)) rfl <| cl rfl (p_Uint (by have := bl62.1 hc50; omega)) rfl <| ?_
      exact rzI rfl (red_s hd0 ea ed (bl62.1 hg46) (bl62.1 hc50))
     ·
      refine cl rfl (p_INorm (neg := n) (h := hba) (by omega)) rfl <| cl rfl (p_Norm (h := hbd) (by omega)) rfl <| fz 71 rfl rfl <| ?_
      exact rzI rfl (red_b hd0 ea ed (fun e => hc50 (bl62.2 e.2)))
    ·
     refine cl rfl (p_INorm (neg := n) (h := hba) (by omega)) rfl <| cl rfl (p_Norm (h := hbd) (by omega)) rfl <| fz 71 rfl rfl <| ?_
     exact rzI rfl (red_b hd0 ea ed (fun e => hg46 (bl62.2 e.1)))
theorem p_Whole {GB : Gh} {m : Int} {i : Nat} [h : BI m i] (hi : i ≤ 400000000 := by decide) : PF GB Tryz.prog 98 [eI m] (eF (m : Rat)) := by
 refine fn Tryz.func98 rfl rfl Tryz.ntmps98 rfl rfl (fun C => ?_)
 refine rf (fu := ⟨0⟩) rfl rfl <| ?_
 refine eqF 4 (.d (dN 1)) rfl (by unfold dN; rw [dg_one]; rfl) ?_
 refine gx rfl <| cl rfl (p_reduce (n := decide (m < 0)) (a := m.natAbs) (d := 1) (by omega)) rfl <| ?_
 exact rz rfl (by rw [zv_eta, show mkRat m 1 = (m : Rat) from Rat.mkRat_one ..]; rfl)
theorem p_Zero {GB : Gh} {q : Rat} : PF GB Tryz.prog 99 [eF q] (vB (decide (q = 0))) := by
 refine fn Tryz.func99 rfl rfl Tryz.ntmps99 rfl rfl (fun C => ?_)
 refine cs 6 rfl rfl rfl (fun hg6 => ?_) (fun hg6 => ?_)
 ·
  exact rz rfl (by rw [fn_s (bgF hg6)]; show DV.v (.bool (decide _)) = .v (.bool _); congr 2; exact decide_eq_decide.2 ⟨fun e => Rat.num_eq_zero.1 e, fun e => by rw [e]; rfl⟩)
 ·
  exact rz rfl (by rw [decide_eq_false (big_ne (bgT' hg6))]; rfl)
theorem p_abs {GB : Gh} {m : Int} (h : m.natAbs < 9223372036854775808) : PF GB Tryz.prog 142 [vI m] (.v (.int .u64 (m.natAbs : Nat))) := by
 refine fn Tryz.func142 rfl rfl Tryz.ntmps142 rfl rfl (fun C => ?_)
 refine br rfl rfl rfl (fun hc4 => ?_) (fun hc4 => ?_)
 ·
  exact rz rfl (by show DV.v (.int _ _) = _; congr 2; omega)
 ·
  exact rz rfl (by show DV.v (.int _ _) = _; congr 2; omega)
theorem p_Den {GB : Gh} {q : Rat} {i : Nat} [h : BQ q i] (hi : i ≤ 900000000 := by decide) : PF GB Tryz.prog 144 [eF q] (dN q.den) := by
 refine fn Tryz.func144 rfl rfl Tryz.ntmps144 rfl rfl (fun C => ?_)
 refine br (v1 := fun hc5 => by simp only [allP]; exact hc5) (fu2 := ⟨6⟩) rfl rfl rfl (fun hc5 => ?_) (fun hc5 => ?_)
 ·
  refine cl rfl (p_Norm (a := q.den) (by omega)) rfl <| ?_
  exact rz rfl rfl
 ·
  have hd := q.den_nz
  have hs := small_d (bgF' hc5)
  refine eqF 13 (.d (vI ((q.den : Int) - 1))) rfl (by rw [fd_s (bgF' hc5)]) ?_
  refine gx (fu := ⟨2⟩) rfl <| ?_
  refine eqF 15 (.d (.v (.int .u64 (q.den : Nat)))) rfl (by congr 3; omega) ?_
  refine gx rfl <| cl rfl (p_FromUint (a := q.den) (by omega)) rfl <| ?_
  exact rz rfl rfl
theorem p_Num {GB : Gh} {q : Rat} {i : Nat} [h : BQ q i] (hi : i ≤ 900000000 := by decide) : PF GB Tryz.prog 146 [eF q] (eI q.num) := by
 refine fn Tryz.func146 rfl rfl Tryz.ntmps146 rfl rfl (fun C => ?_)
 refine br (v1 := fun hc5 => by simp only [allP]; exact hc5) (fu2 := ⟨6⟩) rfl rfl rfl (fun hc5 => ?_) (fun hc5 => ?_)
 ·
  refine cl rfl (p_INorm (neg := decide (q.num < 0)) (a := q.num.natAbs) (by omega)) rfl <| ?_
  exact rz rfl (by rw [zv_eta]; rfl)
 ·
  have hs := small_n (bgF' hc5)
  refine eqF 13 (.d (vI q.num)) rfl (by rw [fn_s (bgF' hc5)]) ?_
  refine gx rfl <| cl rfl (p_FromInt (by omega) (by omega)) rfl <| ?_
  exact rz rfl rfl
theorem p_FNeg {GB : Gh} {q : Rat} {i : Nat} [h : BQ q i] (hi : i ≤ 900000000 := by decide) : PF GB Tryz.prog 157 [eF q] (eF (-q)) := by
 refine fn Tryz.func157 rfl rfl Tryz.ntmps157 rfl rfl (fun C => ?_)
 refine br (v1 := fun hc5 => by simp only [allP]; exact hc5) (fu2 := ⟨6⟩) rfl rfl rfl (fun hc5 => ?_) (fun hc5 => ?_)
 ·
  refine cl (fu := ⟨6⟩) (hv := by simp only [allP]; exact hc5) rfl (p_INeg (m := q.num) (by omega)) rfl <| bxf rfl rfl <| ?_
  exact rzI rfl (is_b (q := -q) (fun k => bgT hc5 (by rw [Rat.neg_num, Int.natAbs_neg, Rat.neg_den] at k; exact k)) (by rw [Rat.neg_num]) (by rw [Rat.neg_num]) (Rat.neg_den q) rfl)
 ·
  have hs := small_n (bgF' hc5)
  refine eqF 21 (.d (vI q.num)) rfl (by rw [fn_s (bgF' hc5)]) ?_
  refine gx rfl <| ?_
  exact rzI rfl (is_s (q := -q) (fun k => k (by rw [Rat.neg_num, Int.natAbs_neg, Rat.neg_den]; exact ⟨hs, small_d (bgF' hc5)⟩)) (by rw [Rat.neg_num]) (by rw [Rat.neg_den, fd_s (bgF' hc5)]) rfl)
theorem p_FSign {GB : Gh} {q : Rat} {i : Nat} [h : BQ q i] (hi : i ≤ 900000000 := by decide) : PF GB Tryz.prog 184 [eF q] (vI q.num.sign) := by
 refine fn Tryz.func184 rfl rfl Tryz.ntmps184 rfl rfl (fun C => ?_)
 refine br (v1 := fun hc3 => by simp only [allP]; exact hc3) rfl rfl rfl (fun hc3 => ?_) (fun hc3 => ?_)
 ·
  refine cl rfl (p_ISign (n := decide (q.num < 0)) (a := q.num.natAbs) (by omega)) rfl <| ?_
  exact rz rfl (by rw [zv_eta]; rfl)
 ·
  have hs := fn_s (bgF' hc3)
  refine br rfl rfl rfl (fun hc13 => ?_) (fun hc13 => ?_)
  ·
   exact rz rfl (by rw [Int.sign_eq_neg_one_of_neg (by omega)]; rfl)
  ·
   refine br rfl rfl rfl (fun hc17 => ?_) (fun hc17 => ?_)
   ·
    exact rz rfl (by rw [Int.sign_eq_one_of_pos (by omega)]; rfl)
   ·
    exact rz rfl (by rw [show q.num = 0 by omega]; rfl)
end Go.Sx
end

section
set_option maxRecDepth 100000
namespace Go.Sx
open Go Go.Proofs
theorem low_q {m : Int} {g : Nat} (hg : (g : Int) ∣ m) (hb : m.natAbs < 4611686018427387904) : IntKind.i64.wrap (m.tdiv g) = m / g := by
 rw [Int.tdiv_eq_ediv_of_dvd hg]
 have := Int.natAbs_ediv_le_natAbs m g
 exact i64_small (by omega)
def tm (a b : Int) : Int := if (a * b).natAbs < 4611686018427387904 then a * b else 0
theorem tm_lt (a b : Int) : (tm a b).natAbs < 4611686018427387904 := by unfold tm; split <;> omega
theorem tm_eq {a b : Int} (h : (a * b).natAbs < 4611686018427387904) : tm a b = a * b := if_pos h
theorem tm_no {a b : Int} (h : ¬ (a * b).natAbs < 4611686018427387904) : DV.tp [vI 0, .v (.bool false)] = .tp [vI (tm a b), vB (decide ((a * b).natAbs < 4611686018427387904))] := by unfold tm; rw [if_neg h, decide_eq_false h]; rfl
theorem tm_yes {a b : Int} {x : Int} (h : (a * b).natAbs < 4611686018427387904) (e : x = a * b) : DV.tp [vI x, .v (.bool true)] = .tp [vI (tm a b), vB (decide ((a * b).natAbs < 4611686018427387904))] := by unfold tm; rw [if_pos h, decide_eq_true h, e]; rfl
theorem eI_nat (n : Nat) : eI (n : Int) = .ag [.v (.bool false), dN n] := by unfold eI; rw [decide_eq_false (by omega), Int.natAbs_natCast]
theorem rgcd_s {p q : Rat} (hp : p.den = 1) (hq : q.den = 1) : rgcd p q = ((Nat.gcd p.num.natAbs q.num.natAbs : Nat) : Int) := by
 conv => lhs; rw [rat_int hp, rat_int hq]
 exact rgcd_int _ _
theorem inv_red (q : Rat) : mkRat (zv (decide (q.num < 0)) q.den) q.num.natAbs = q⁻¹ := by
 rw [Rat.inv_def]
 by_cases h : q.num < 0
 · rw [decide_eq_true h]; exact mkRat_neg_abs h
 · rw [decide_eq_false h, ← Rat.divInt_ofNat, Int.natAbs_of_nonneg (by omega)]; rfl
instance BQ.inv (q : Rat) (i : Nat) [h : BQ q i] : BQ q⁻¹ i := by
 have h1 := h.hn
 have h2 := h.hd
 have h3 := q.den_nz
 rcases Int.lt_trichotomy q.num 0 with k | k | k
 · obtain ⟨e1, e2⟩ := rat_inv_num k; exact ⟨by omega, by omega⟩
 · have e : q = 0 := Rat.num_eq_zero.1 k
   have e0 : (0 : Rat)⁻¹ = 0 := Rat.inv_zero
   rw [e] at h1 h2 ⊢; rw [e0]; exact ⟨h1, h2⟩
 · obtain ⟨e1, e2⟩ := rat_inv_pos k; exact ⟨by omega, by omega⟩
instance BQ.half : BQ (mkRat 1 2) 2 := ⟨by decide, by decide⟩
theorem p_Mul64 {GB : Gh} {x y : Nat} (hx : x < 18446744073709551616) (hy : y < 18446744073709551616) : PF GB Tryz.prog 233 [.v (.int .u64 (x : Nat)), .v (.int .u64 (y : Nat))] (.tp [.v (.int .u64 ((x * y / 18446744073709551616 : Nat) : Int)), .v (.int .u64 ((x * y % 18446744073709551616 : Nat) : Int))]) := fun G vs _ hv => by
 obtain ⟨v, m, rfl, h1, h2⟩ := isl_cons.1 hv
 obtain ⟨u, m', rfl, h3, h4⟩ := isl_cons.1 h2
 cases isl_nil.1 h4
 rw [is_v.1 h1, is_v.1 h3]
 exact (bits_Mul64' hx hy).mono fun v G' _ h => by subst h; exact is_tp.2 ⟨_, rfl, .cons (is_v.2 rfl) (.cons (is_v.2 rfl) .nil)⟩
theorem p_gcd {GB : Gh} {a b : Nat} (ha : a < 18446744073709551616) (hb : b < 18446744073709551616) : PF GB Tryz.prog 141 [.v (.int .u64 (a : Nat)), .v (.int .u64 (b : Nat))] (.v (.int .u64 (Nat.gcd a b : Nat))) := by
 refine fn Tryz.func141 rfl rfl Tryz.ntmps141 rfl rfl (fun C => ?_)
 refine lp (X := Nat × Nat) (fun ⟨u, v⟩ => [(1, .d (.v (.int .u64 (v : Nat)))), (0, .d (.v (.int .u64 (u : Nat))))]) (fun ⟨u, v⟩ => []) (fun ⟨u, v⟩ => u < 18446744073709551616 ∧ v < 18446744073709551616 ∧ Nat.gcd u v = Nat.gcd a b) (fun ⟨u, v⟩ => v) (a, b) rfl ⟨ha, hb, rfl⟩ (fun _ => rfl) (fun ⟨u, v⟩ hk => ?_)
 dsimp only at hk ⊢
 obtain ⟨h1, h2, h3⟩ := hk
 refine br (v1 := fun hc6 => by simp only [allP]; exact ⟨by omega, by kernel_rfl⟩) rfl rfl rfl (fun hc6 => ?_) (fun hc6 => ?_)
 ·
  have hm := Nat.mod_lt u (show 0 < v by omega)
  exact at_ (v, u % v) (by dsimp only; exact ⟨⟨h2, by omega, by rw [← h3, Nat.gcd_comm u v, Nat.gcd_rec v u, Nat.gcd_comm]⟩, hm⟩)
 ·
  exact rz rfl (by rw [← h3, show v = 0 by omega, Nat.gcd_zero_right]; rfl)
theorem p_Int {GB : Gh} {m : Int} (h : m.natAbs < 9223372036854775808) : PF GB Tryz.prog 102 [vI m] (eF (m : Rat)) := by
 refine fn Tryz.func102 rfl rfl Tryz.ntmps102 rfl rfl (fun C => ?_)
 refine cs 5 rfl rfl rfl (fun hg5 => ?_) (fun hg5 => ?_)
 ·
  refine cl rfl (p_FromInt (m := m) (by omega) (by omega)) rfl <| rf (fu := ⟨0⟩) rfl rfl <| ?_
  refine eqF 11 (.d (dN 1)) rfl (by unfold dN; rw [dg_one]; rfl) ?_
  refine gx rfl <| cl rfl (p_reduce (n := decide (m < 0)) (a := m.natAbs) (i := 63) (h := ⟨h⟩) (d := 1)) rfl <| ?_
  exact rz rfl (by rw [zv_eta, show mkRat m 1 = (m : Rat) from Rat.mkRat_one ..]; rfl)
 ·
  refine br rfl rfl rfl (fun hc8 => ?_) (fun hc8 => ?_)
  ·
   refine cl rfl (p_FromInt (m := m) (by omega) (by omega)) rfl <| rf (fu := ⟨0⟩) rfl rfl <| ?_
   refine eqF 11 (.d (dN 1)) rfl (by unfold dN; rw [dg_one]; rfl) ?_
   refine gx rfl <| cl rfl (p_reduce (n := decide (m < 0)) (a := m.natAbs) (i := 63) (h := ⟨h⟩) (d := 1)) rfl <| ?_
   exact rz rfl (by rw [zv_eta, show mkRat m 1 = (m : Rat) from Rat.mkRat_one ..]; rfl)
  ·
   exact rzI rfl (is_m (by omega))
theorem p_times {GB : Gh} {a b : Int} (ha : a.natAbs < 4611686018427387904) (hb : b.natAbs < 4611686018427387904) : PF GB Tryz.prog 228 [vI a, vI b] (.tp [vI (tm a b), vB (decide ((a * b).natAbs < 4611686018427387904))]) := by
 have hab := Int.natAbs_mul a b
 refine fn Tryz.func228 rfl rfl Tryz.ntmps228 rfl rfl (fun C => ?_)
 refine cl rfl (p_abs (m := a) (by omega)) rfl <| cl rfl (p_abs (m := b) (by omega)) rfl <| cl rfl (p_Mul64 (x := a.natAbs) (y := b.natAbs) (by omega) (by omega)) rfl <| ?_
 refine cs 18 rfl rfl rfl (fun hg18 => ?_) (fun hg18 => ?_)
 ·
  exact rz rfl (tm_no (by omega))
 ·
  refine br rfl rfl rfl (fun hc21 => ?_) (fun hc21 => ?_)
  ·
   exact rz rfl (tm_no (by omega))
  ·
   refine bb rfl rfl rfl (fun hc26 => ?_) (fun hc26 => ?_)
   ·
    have hs := mul_signs a b
    rw [if_neg (by simpa using hc26)] at hs
    exact rz rfl (tm_yes (by omega) (by rw [hs, ← hab]; omega))
   ·
    have hs := mul_signs a b
    rw [if_pos (by simpa using hc26)] at hs
    exact rz rfl (tm_yes (by omega) (by rw [hs, ← hab]; omega))
theorem p_lowest {GB : Gh} {m : Int} {d : Nat} (h : m.natAbs < 4611686018427387904) (h0 : 0 < d) (hd : d < 4611686018427387904) : PF GB Tryz.prog 229 [vI m, vI (d : Nat)] (eF (mkRat m d)) := by
 have hg : Nat.gcd m.natAbs d ≤ d := Nat.gcd_le_right _ h0
 have hg0 : 0 < Nat.gcd m.natAbs d := Nat.gcd_pos_of_pos_right _ h0
 obtain ⟨e1, e2⟩ := rat_num (m := m) h0
 have e3 := Int.natAbs_ediv_le_natAbs m (Nat.gcd m.natAbs d : Nat)
 have e4 := Nat.div_le_self d (Nat.gcd m.natAbs d)
 have e5 := Nat.div_pos hg hg0
 refine fn Tryz.func229 rfl rfl Tryz.ntmps229 rfl rfl (fun C => ?_)
 refine cl rfl (p_abs (m := m) (by omega)) rfl <| cl rfl (p_gcd (a := m.natAbs) (b := d) (by omega) (by omega)) rfl <| ?_
 refine br (fu1 := ⟨4⟩) rfl rfl rfl (fun hc13 => ?_) (fun hc13 => ?_)
 ·
  refine eqF 16 (.d (vI (m / (Nat.gcd m.natAbs d : Nat)))) rfl (by rw [low_q (Int.dvd_natAbs.1 (Int.natCast_dvd_natCast.2 (Nat.gcd_dvd_left _ _))) h]; rfl) ?_
  refine gx (fu := ⟨3⟩) rfl <| ?_
  refine eqF 19 (.d (vI ((d / Nat.gcd m.natAbs d : Nat)))) rfl (by rw [low_q (Int.natCast_dvd_natCast.2 (Nat.gcd_dvd_right _ _)) (by rw [Int.natAbs_natCast]; exact hd)]; rfl) ?_
  refine gx (hv := by simp only [allP]; exact ⟨by kernel_rfl, by omega⟩) rfl <| ?_
  exact rzI rfl (is_s (fun k => k ⟨by rw [e1]; omega, by rw [e2]; omega⟩) e1 (by rw [e2]) rfl)
 ·
  exact rzI rfl (by have h1 : Nat.gcd m.natAbs d = 1 := (by omega); rw [h1, Nat.div_one] at e2; rw [h1, Int.natCast_one, Int.ediv_one] at e1; exact is_s (fun k => k ⟨by rw [e1]; omega, by rw [e2]; omega⟩) e1 (by rw [e2]) rfl)
theorem p_FMul {GB : Gh} {p q : Rat} {i j : Nat} [h : BQ p i] [k : BQ q j] (hi : i ≤ 100000000 := by decide) (hj : j ≤ 100000000 := by decide) : PF GB Tryz.prog 219 [eF p, eF q] (eF (p * q)) := by
 refine fn (fu := ⟨8⟩) Tryz.func219 rfl rfl Tryz.ntmps219 rfl rfl (fun C => ?_)
 refine mg (X := Unit) (fun _ => [(2, .ov 2 0), (3, .ov 3 0), (4, .ov 4 0)]) (fun _ => [(2, some (.o 103 [.d (vI (fn_ p)), .d (vI (fd_ p)), .d (fp_ p)] true)), (3, some (.o 103 [.d (vI (fn_ q)), .d (vI (fd_ q)), .d (fp_ q)] true)), (4, some (.o 103 [.d (.v (.int .i64 0)), .d (.v (.int .i64 0)), .d (.v (.pointer none))] true))]) (fun _ => True) [2, 3, 4] [2, 3, 4] rfl ?_ (fun _ => rfl) (fun _ _ => ?_)
 ·
  refine gx rfl <| ?_
  refine cs 12 rfl rfl rfl (fun hg12 => ?_) (fun hg12 => ?_)
  ·
   refine br (fu1 := ⟨4⟩) rfl rfl rfl (fun hc16 => ?_) (fun hc16 => ?_)
   ·
    have hp := bgF hg12
    have hq := bgF hc16
    have p1 := fn_s hp
    have p2 := fd_s hp
    have p3 := small_n hp
    have p4 := small_d hp
    have p5 := p.den_nz
    have q1 := fn_s hq
    have q2 := fd_s hq
    have q3 := small_n hq
    have q4 := small_d hq
    have q5 := q.den_nz
    refine eqF 19 (.d (vI p.num)) rfl (by rw [p1]) ?_
    refine gx (fu := ⟨2⟩) rfl <| ?_
    refine eqF 21 (.d (vI q.num)) rfl (by rw [q1]) ?_
    refine gx rfl <| cl (fu := ⟨12⟩) rfl (p_times (a := p.num) (b := q.num) (by omega) (by omega)) rfl <| ?_
    refine eqF 28 (.d (vI (p.den : Nat))) rfl (by congr 3; omega) ?_
    refine gx (fu := ⟨3⟩) rfl <| ?_
    refine eqF 31 (.d (vI (q.den : Nat))) rfl (by congr 3; omega) ?_
    refine gx rfl <| cl rfl (p_times (a := (p.den : Nat)) (b := (q.den : Nat)) (by omega) (by omega)) rfl <| ?_
    refine csd 36 rfl rfl rfl (fun hg36 => ?_) (fun hg36 => ?_)
    ·
     refine bd (fu1 := ⟨3⟩) rfl rfl rfl (fun hc38 => ?_) (fun hc38 => ?_)
     ·
      have hd1 : p.den * q.den < 4611686018427387904 := by omega
      refine eqF 39 (.d (vI (p.num * q.num))) rfl (by rw [tm_eq hg36]) ?_
      refine gx (fu := ⟨1⟩) rfl <| ?_
      refine eqF 40 (.d (vI ((p.den * q.den : Nat)))) rfl (by rw [tm_eq hc38]; rfl) ?_
      refine gx rfl <| cl rfl (p_lowest (m := p.num * q.num) (d := p.den * q.den) hg36 (Nat.mul_pos (by omega) (by omega)) hd1) rfl <| ?_
      exact rz rfl (by rw [← rat_mul_mk]; rfl)
     ·
      exact at_ () trivial
    ·
     exact at_ () trivial
   ·
    exact at_ () trivial
  ·
   exact at_ () trivial
 ·
  refine cl rfl (p_Num (q := p) (by omega)) rfl <| cl rfl (p_Num (q := q) (by omega)) rfl <| cl rfl (p_IMul (a := p.num) (b := q.num) (by omega) (by omega)) rfl <| ?_
  refine cl rfl (p_Den (q := p) (by omega)) rfl <| cl rfl (p_Den (q := q) (by omega)) rfl <| cl rfl (p_Mul (a := p.den) (b := q.den) (by omega) (by omega)) rfl <| ?_
  refine cl rfl (p_reduce (n := decide (p.num * q.num < 0)) (a := (p.num * q.num).natAbs) (d := p.den * q.den) (i := i + j) (j := i + j) (by omega) (by omega)) rfl <| ?_
  exact rz rfl (by rw [zv_eta, ← rat_mul_mk]; rfl)
theorem p_FAdd {GB : Gh} {p q : Rat} {i j : Nat} [h : BQ p i] [k : BQ q j] (hi : i ≤ 100000000 := by decide) (hj : j ≤ 100000000 := by decide) : PF GB Tryz.prog 215 [eF p, eF q] (eF (p + q)) := by
 refine fn (fu := ⟨8⟩) Tryz.func215 rfl rfl Tryz.ntmps215 rfl rfl (fun C => ?_)
 refine mg (X := Unit) (fun _ => [(2, .ov 2 0), (3, .ov 3 0), (4, .ov 4 0)]) (fun _ => [(2, some (.o 103 [.d (vI (fn_ p)), .d (vI (fd_ p)), .d (fp_ p)] true)), (3, some (.o 103 [.d (vI (fn_ q)), .d (vI (fd_ q)), .d (fp_ q)] true)), (4, some (.o 103 [.d (.v (.int .i64 0)), .d (.v (.int .i64 0)), .d (.v (.pointer none))] true))]) (fun _ => True) [2, 3, 4] [2, 3, 4] rfl ?_ (fun _ => rfl) (fun _ _ => ?_)
 ·
  refine gx rfl <| ?_
  refine cs 16 rfl rfl rfl (fun hg16 => ?_) (fun hg16 => ?_)
  ·
   refine br (fu1 := ⟨1⟩) rfl rfl rfl (fun hc20 => ?_) (fun hc20 => ?_)
   ·
    have hp := bgF hg16
    have hq := bgF hc20
    have p1 := fn_s hp
    have p2 := fd_s hp
    have p3 := small_n hp
    have p4 := small_d hp
    have p5 := p.den_nz
    have q1 := fn_s hq
    have q2 := fd_s hq
    have q3 := small_n hq
    have q4 := small_d hq
    have q5 := q.den_nz
    refine mg (fu := ⟨4⟩) (X := Unit) (fun _ => [(2, .ov 2 0), (3, .ov 3 0), (4, .ov 4 0)]) (fun _ => [(2, some (.o 103 [.d (vI (fn_ p)), .d (vI (fd_ p)), .d (fp_ p)] true)), (3, some (.o 103 [.d (vI (fn_ q)), .d (vI (fd_ q)), .d (fp_ q)] true)), (4, some (.o 103 [.d (.v (.int .i64 0)), .d (.v (.int .i64 0)), .d (.v (.pointer none))] true))]) (fun _ => True) [2, 3, 4] [2, 3, 4] rfl ?_ (fun _ => rfl) (fun _ _ => ?_)
    ·
     refine gx rfl <| ?_
     refine cs 24 rfl rfl rfl (fun hg24 => ?_) (fun hg24 => ?_)
     ·
      refine br (fu1 := ⟨4⟩) rfl rfl rfl (fun hc28 => ?_) (fun hc28 => ?_)
      ·
       refine eqF 30 (.d (vI p.num)) rfl (by rw [p1]) ?_
       refine gx (fu := ⟨2⟩) rfl <| ?_
       refine eqF 32 (.d (vI q.num)) rfl (by rw [q1]) ?_
       refine gx rfl <| cl rfl (p_Int (m := p.num + q.num) (by omega)) rfl <| ?_
       exact rz rfl (by rw [rat_int (q := p) (by omega), rat_int (q := q) (by omega), ← Rat.intCast_add]; rfl)
      ·
       exact at_ () trivial
     ·
      exact at_ () trivial
    ·
     refine eqF 37 (.d (vI p.num)) rfl (by rw [p1]) ?_
     refine gx (fu := ⟨3⟩) rfl <| ?_
     refine eqF 40 (.d (vI (q.den : Nat))) rfl (by congr 3; omega) ?_
     refine gx rfl <| cl (fu := ⟨11⟩) rfl (p_times (a := p.num) (b := (q.den : Nat)) (by omega) (by omega)) rfl <| ?_
     refine eqF 46 (.d (vI q.num)) rfl (by rw [q1]) ?_
     refine gx (fu := ⟨3⟩) rfl <| ?_
     refine eqF 49 (.d (vI (p.den : Nat))) rfl (by congr 3; omega) ?_
     refine gx rfl <| cl (fu := ⟨12⟩) rfl (p_times (a := q.num) (b := (p.den : Nat)) (by omega) (by omega)) rfl <| ?_
     refine eqF 56 (.d (vI (p.den : Nat))) rfl (by congr 3; omega) ?_
     refine gx (fu := ⟨3⟩) rfl <| ?_
     refine eqF 59 (.d (vI (q.den : Nat))) rfl (by congr 3; omega) ?_
     refine gx rfl <| cl (fu := ⟨3⟩) rfl (p_times (a := (p.den : Nat)) (b := (q.den : Nat)) (by omega) (by omega)) rfl <| ?_
     have t1 := tm_lt p.num (q.den : Nat)
     have t2 := tm_lt q.num (p.den : Nat)
     have t3 := tm_lt (p.den : Nat) (q.den : Nat)
     refine gx rfl <| ?_
     refine csd 67 rfl rfl rfl (fun hg67 => ?_) (fun hg67 => ?_)
     ·
      refine csd 70 rfl rfl rfl (fun hg70 => ?_) (fun hg70 => ?_)
      ·
       refine csd 73 rfl rfl rfl (fun hg73 => ?_) (fun hg73 => ?_)
       ·
        refine cs 77 rfl rfl rfl (fun hg77 => ?_) (fun hg77 => ?_)
        ·
         refine br (fu1 := ⟨3⟩) rfl rfl rfl (fun hc80 => ?_) (fun hc80 => ?_)
         ·
          have u1 := tm_eq hg67
          have u2 := tm_eq hg70
          have u3 := tm_eq hg73
          have hd1 : p.den * q.den < 4611686018427387904 := by omega
          refine eqF 81 (.d (vI (p.num * (q.den : Nat) + q.num * (p.den : Nat)))) rfl (by rw [u1, u2]; rfl) ?_
          refine gx (fu := ⟨1⟩) rfl <| ?_
          refine eqF 82 (.d (vI ((p.den * q.den : Nat)))) rfl (by rw [u3]; rfl) ?_
          refine gx rfl <| cl rfl (p_lowest (m := p.num * (q.den : Nat) + q.num * (p.den : Nat)) (d := p.den * q.den) (by omega) (Nat.mul_pos (by omega) (by omega)) hd1) rfl <| ?_
          exact rz rfl (by rw [← rat_add_mk]; rfl)
         ·
          exact at_ () trivial
        ·
         exact at_ () trivial
       ·
        exact at_ () trivial
      ·
       exact at_ () trivial
     ·
      exact at_ () trivial
   ·
    exact at_ () trivial
  ·
   exact at_ () trivial
 ·
  refine cl rfl (p_Num (q := p) (by omega)) rfl <| cl (fu := ⟨1⟩) rfl (p_Den (q := q) (by omega)) rfl <| ?_
  refine eqF 88 (.d (eI (q.den : Nat))) rfl (by rw [eI_nat]) ?_
  refine gx rfl <| cl rfl (p_IMul (a := p.num) (b := (q.den : Nat)) (by omega) (by omega)) rfl <| cl rfl (p_Num (q := q) (by omega)) rfl <| cl (fu := ⟨1⟩) rfl (p_Den (q := p) (by omega)) rfl <| ?_
  refine eqF 94 (.d (eI (p.den : Nat))) rfl (by rw [eI_nat]) ?_
  refine gx rfl <| cl rfl (p_IMul (a := q.num) (b := (p.den : Nat)) (by omega) (by omega)) rfl <| cl rfl (p_IAdd (a := p.num * (q.den : Nat)) (b := q.num * (p.den : Nat)) (i := i + j) (j := j + i) (by omega) (by omega)) rfl <| ?_
  refine cl rfl (p_Den (q := p) (by omega)) rfl <| cl rfl (p_Den (q := q) (by omega)) rfl <| cl rfl (p_Mul (a := p.den) (b := q.den) (by omega) (by omega)) rfl <| ?_
  refine cl rfl (p_reduce (n := decide (p.num * (q.den : Nat) + q.num * (p.den : Nat) < 0)) (a := (p.num * (q.den : Nat) + q.num * (p.den : Nat)).natAbs) (d := p.den * q.den) (i := i + j + (j + i) + 1) (j := i + j) (by omega) (by omega)) rfl <| ?_
  exact rz rfl (by rw [zv_eta, ← rat_add_mk]; rfl)
theorem p_FSub {GB : Gh} {p q : Rat} {i j : Nat} [h : BQ p i] [k : BQ q j] (hi : i ≤ 100000000 := by decide) (hj : j ≤ 100000000 := by decide) : PF GB Tryz.prog 183 [eF p, eF q] (eF (p - q)) := by
 refine fn Tryz.func183 rfl rfl Tryz.ntmps183 rfl rfl (fun C => ?_)
 refine cl rfl (p_FNeg (q := q) (by omega)) rfl <| cl rfl (p_FAdd (p := p) (q := -q) (by omega) (by omega)) rfl <| ?_
 exact rz rfl (by rw [← Rat.sub_eq_add_neg]; rfl)
theorem p_FInv {GB : Gh} {q : Rat} {i : Nat} [h : BQ q i] (hi : i ≤ 400000000 := by decide) : PF GB Tryz.prog 223 [eF q] (eF q⁻¹) := by
 refine fn Tryz.func223 rfl rfl Tryz.ntmps223 rfl rfl (fun C => ?_)
 refine br (v1 := fun hc3 => by simp only [allP]; exact ⟨⟨hc3, hc3⟩, hc3⟩) rfl rfl rfl (fun hc3 => ?_) (fun hc3 => ?_)
 ·
  refine cl rfl (p_reduce (n := decide (q.num < 0)) (a := q.den) (d := q.num.natAbs) (by omega) (by omega)) rfl <| ?_
  exact rz rfl (by rw [inv_red]; rfl)
 ·
  have q1 := fn_s (bgF' hc3)
  have q2 := fd_s (bgF' hc3)
  have q3 := small_n (bgF' hc3)
  have q4 := small_d (bgF' hc3)
  have q5 := q.den_nz
  refine br rfl rfl rfl (fun hc26 => ?_) (fun hc26 => ?_)
  ·
   exact rzI rfl (by obtain ⟨e1, e2⟩ := rat_inv_num (q := q) (by omega); exact is_s (fun k => k ⟨by omega, by omega⟩) (by omega) (by omega) rfl)
  ·
   refine br rfl rfl rfl (fun hc39 => ?_) (fun hc39 => ?_)
   ·
    exact rzI rfl (by rw [Rat.num_eq_zero.1 (show q.num = 0 by omega), Rat.inv_zero]; exact is_0)
   ·
    exact rzI rfl (by obtain ⟨e1, e2⟩ := rat_inv_pos (q := q) (by omega); exact is_s (fun k => k ⟨by omega, by omega⟩) (by omega) (by omega) rfl)
theorem p_FQuo {GB : Gh} {p q : Rat} {i j : Nat} [h : BQ p i] [k : BQ q j] (hi : i ≤ 100000000 := by decide) (hj : j ≤ 100000000 := by decide) : PF GB Tryz.prog 194 [eF p, eF q] (eF (p / q)) := by
 refine fn Tryz.func194 rfl rfl Tryz.ntmps194 rfl rfl (fun C => ?_)
 refine cl rfl (p_FInv (q := q) (by omega)) rfl <| cl rfl (p_FMul (p := p) (q := q⁻¹) (by omega) (by omega)) rfl <| ?_
 exact rz rfl (by rw [Rat.div_def]; rfl)
theorem isl_F {G : Gh} {q r : DV} {t : List DV} {vs : List Value} (h : ∀ y, Is G r y → Is G q y) (hv : IsLs G (r :: t) vs) : IsLs G (q :: t) vs := by
 obtain ⟨y, m, rfl, h1, h2⟩ := isl_cons.1 hv
 exact .cons (h _ h1) h2
theorem isl_F2 {G : Gh} {a q r : DV} {t : List DV} {vs : List Value} (h : ∀ y, Is G r y → Is G q y) (hv : IsLs G (a :: r :: t) vs) : IsLs G (a :: q :: t) vs := by
 obtain ⟨y, m, rfl, h1, h2⟩ := isl_cons.1 hv
 exact .cons h1 (isl_F h h2)
theorem p_FMulH {GB : Gh} {q : Rat} {i : Nat} [h : BQ q i] (hi : i ≤ 100000000 := by decide) : PF GB Tryz.prog 219 [eF q, .ag [vI 1, vI 1, .v (.pointer none)]] (eF (q * mkRat 1 2)) :=
 (p_FMul (p := q) (q := mkRat 1 2) hi).ofI fun G vs hv => isl_F2 (fun y hy => is_s (q := mkRat 1 2) (fun k => k ⟨by decide, by decide⟩) (by decide) (by decide) rfl G y hy) hv
theorem p_FHalf {GB : Gh} {q : Rat} {i : Nat} [h : BQ q i] (hi : i ≤ 100000000 := by decide) : PF GB Tryz.prog 218 [eF q] (eF (q * mkRat 1 2)) := by
 refine fn Tryz.func218 rfl rfl Tryz.ntmps218 rfl rfl (fun C => ?_)
 refine cl rfl (p_FMulH (q := q) (by omega)) rfl <| ?_
 exact rz rfl rfl
theorem p_FCmp {GB : Gh} {p q : Rat} {i j : Nat} [h : BQ p i] [k : BQ q j] (hi : i ≤ 100000000 := by decide) (hj : j ≤ 100000000 := by decide) : PF GB Tryz.prog 147 [eF p, eF q] (vI (rcmp p q)) := by
 refine fn Tryz.func147 rfl rfl Tryz.ntmps147 rfl rfl (fun C => ?_)
 refine cs 8 rfl rfl rfl (fun hg8 => ?_) (fun hg8 => ?_)
 ·
  refine cs 13 rfl rfl rfl (fun hg13 => ?_) (fun hg13 => ?_)
  ·
   refine br rfl rfl rfl (fun hc19 => ?_) (fun hc19 => ?_)
   ·
    have hp := bgF hg8
    have hq := bgF hg13
    have p1 := fn_s hp
    have p2 := fd_s hp
    have p3 := small_n hp
    have p4 := small_d hp
    have p5 := p.den_nz
    have q1 := fn_s hq
    have q2 := fd_s hq
    have q3 := small_n hq
    have q4 := small_d hq
    have q5 := q.den_nz
    have hl := lt_same (a := p) (b := q) (by omega)
    have hr := lt_same (a := q) (b := p) (by omega)
    unfold rcmp
    refine br rfl rfl rfl (fun hc20 => ?_) (fun hc20 => ?_)
    ·
     exact rz rfl (by rw [if_pos (hl.2 (by omega))]; rfl)
    ·
     refine br rfl rfl rfl (fun hc26 => ?_) (fun hc26 => ?_)
     ·
      exact rz rfl (by rw [if_neg (fun e => by have := hl.1 e; omega), if_pos (hr.2 (by omega))]; rfl)
     ·
      exact rz rfl (by rw [if_neg (fun e => by have := hl.1 e; omega), if_neg (fun e => by have := hr.1 e; omega)]; rfl)
   ·
    refine cl rfl (p_FSub (p := p) (q := q) (by omega) (by omega)) rfl <| cl rfl (p_FSign (q := p - q) (by omega)) rfl <| ?_
    exact rz rfl (by rw [sign_sub]; rfl)
  ·
   refine cl rfl (p_FSub (p := p) (q := q) (by omega) (by omega)) rfl <| cl rfl (p_FSign (q := p - q) (by omega)) rfl <| ?_
   exact rz rfl (by rw [sign_sub]; rfl)
 ·
  refine cl rfl (p_FSub (p := p) (q := q) (by omega) (by omega)) rfl <| cl rfl (p_FSign (q := p - q) (by omega)) rfl <| ?_
  exact rz rfl (by rw [sign_sub]; rfl)
theorem p_FEqual {GB : Gh} {p q : Rat} {i j : Nat} [h : BQ p i] [k : BQ q j] (hi : i ≤ 100000000 := by decide) (hj : j ≤ 100000000 := by decide) : PF GB Tryz.prog 101 [eF p, eF q] (vB (decide (p = q))) := by
 refine fn Tryz.func101 rfl rfl Tryz.ntmps101 rfl rfl (fun C => ?_)
 refine cl rfl (p_FCmp (p := p) (q := q) hi hj) rfl <| ?_
 exact rz rfl (by show DV.v (.bool (decide _)) = .v (.bool _); congr 2; exact decide_eq_decide.2 (rcmp_eq p q))
theorem p_FMax {GB : Gh} {p q : Rat} {i j : Nat} [h : BQ p i] [k : BQ q j] (hi : i ≤ 100000000 := by decide) (hj : j ≤ 100000000 := by decide) : PF GB Tryz.prog 220 [eF p, eF q] (eF (if p < q then q else p)) := by
 refine fn Tryz.func220 rfl rfl Tryz.ntmps220 rfl rfl (fun C => ?_)
 refine cl rfl (p_FCmp (p := q) (q := p) hj hi) rfl <| ?_
 refine br rfl rfl rfl (fun hc8 => ?_) (fun hc8 => ?_)
 ·
  exact rz rfl (by rw [if_pos ((rcmp_pos q p).1 hc8)]; rfl)
 ·
  exact rz rfl (by rw [if_neg (fun e => hc8 ((rcmp_pos q p).2 e))]; rfl)
theorem p_FMin {GB : Gh} {p q : Rat} {i j : Nat} [h : BQ p i] [k : BQ q j] (hi : i ≤ 100000000 := by decide) (hj : j ≤ 100000000 := by decide) : PF GB Tryz.prog 221 [eF p, eF q] (eF (if q < p then q else p)) := by
 refine fn Tryz.func221 rfl rfl Tryz.ntmps221 rfl rfl (fun C => ?_)
 refine cl rfl (p_FCmp (p := q) (q := p) hj hi) rfl <| ?_
 refine br rfl rfl rfl (fun hc8 => ?_) (fun hc8 => ?_)
 ·
  exact rz rfl (by rw [if_pos ((rcmp_neg q p).1 hc8)]; rfl)
 ·
  exact rz rfl (by rw [if_neg (fun e => hc8 ((rcmp_neg q p).2 e))]; rfl)
theorem p_FGcd {GB : Gh} {p q : Rat} {i j : Nat} [h : BQ p i] [k : BQ q j] (hi : i ≤ 100000000 := by decide) (hj : j ≤ 100000000 := by decide) : PF GB Tryz.prog 100 [eF p, eF q] (eF (rgcd p q)) := by
 refine fn (fu := ⟨8⟩) Tryz.func100 rfl rfl Tryz.ntmps100 rfl rfl (fun C => ?_)
 refine mg (X := Unit) (fun _ => [(2, .ov 2 0), (3, .ov 3 0), (4, .ov 4 0)]) (fun _ => [(2, some (.o 103 [.d (vI (fn_ p)), .d (vI (fd_ p)), .d (fp_ p)] true)), (3, some (.o 103 [.d (vI (fn_ q)), .d (vI (fd_ q)), .d (fp_ q)] true)), (4, some (.o 103 [.d (.v (.int .i64 0)), .d (.v (.int .i64 0)), .d (.v (.pointer none))] true))]) (fun _ => True) [2, 3, 4] [2, 3, 4] rfl ?_ (fun _ => rfl) (fun _ _ => ?_)
 ·
  refine gx rfl <| ?_
  refine cs 10 rfl rfl rfl (fun hg10 => ?_) (fun hg10 => ?_)
  ·
   refine cs 15 rfl rfl rfl (fun hg15 => ?_) (fun hg15 => ?_)
   ·
    have hp := bgF hg10
    have hq := bgF hg15
    have p1 := fn_s hp
    have p2 := fd_s hp
    have p3 := small_n hp
    have p4 := small_d hp
    have p5 := p.den_nz
    have q1 := fn_s hq
    have q2 := fd_s hq
    have q3 := small_n hq
    have q4 := small_d hq
    have q5 := q.den_nz
    refine cs 20 rfl rfl rfl (fun hg20 => ?_) (fun hg20 => ?_)
    ·
     refine br (fu1 := ⟨4⟩) rfl rfl rfl (fun hc24 => ?_) (fun hc24 => ?_)
     ·
      have hg := gcd_lt p3 q3
      refine eqF 26 (.d (vI p.num)) rfl (by rw [p1]) ?_
      refine gx rfl <| cl (fu := ⟨2⟩) rfl (p_abs (m := p.num) (by omega)) rfl <| ?_
      refine eqF 29 (.d (vI q.num)) rfl (by rw [q1]) ?_
      refine gx rfl <| cl rfl (p_abs (m := q.num) (by omega)) rfl <| cl (hv := by simp only [allP]; exact ⟨by omega, by kernel_rfl⟩) rfl (p_gcd (a := p.num.natAbs) (b := q.num.natAbs) (by omega) (by omega)) rfl <| ?_
      exact rzI rfl (by rw [rgcd_s (p := p) (q := q) (by omega) (by omega)]; exact is_m (by rw [Int.natAbs_natCast]; exact hg))
     ·
      exact at_ () trivial
    ·
     exact at_ () trivial
   ·
    exact at_ () trivial
  ·
   exact at_ () trivial
 ·
  refine cl rfl (p_Den (q := p) (by omega)) rfl <| cl rfl (p_Den (q := q) (by omega)) rfl <| cl rfl (p_Mul (a := p.den) (b := q.den) (by omega) (by omega)) rfl <| ?_
  refine cl rfl (p_Num (q := p) (by omega)) rfl <| cl rfl (p_Den (q := q) (by omega)) rfl <| cl rfl (p_Mul (a := p.num.natAbs) (b := q.den) (by omega) (by omega)) rfl <| ?_
  refine cl rfl (p_Num (q := q) (by omega)) rfl <| cl rfl (p_Den (q := p) (by omega)) rfl <| cl rfl (p_Mul (a := q.num.natAbs) (b := p.den) (by omega) (by omega)) rfl <| ?_
  refine cl rfl (p_Gcd (a := p.num.natAbs * q.den) (b := q.num.natAbs * p.den) (i := i + j) (j := j + i) (by omega) (by omega)) rfl <| cl rfl (p_reduce (n := false) (a := Nat.gcd (p.num.natAbs * q.den) (q.num.natAbs * p.den)) (d := p.den * q.den) (i := i + j + (j + i)) (j := i + j) (by omega) (by omega)) rfl <| ?_
  exact rz rfl rfl
end Go.Sx
end

section
set_option maxRecDepth 100000
namespace Go.Sx
open Go Go.Proofs
theorem BQ.of_fracI {q : Rat} {n D : Int} {i : Nat} (hd : 0 < D.natAbs) (h : q * ((D.natAbs : Nat) : Rat) = (n : Rat)) (hn : BI n i) (hD : BI D i) : BQ q i := BQ.of_frac hd h hn.h hD.h
theorem biMono {m : Int} {i j : Nat} (h : BI m i) (hij : i ≤ j) : BI m j := ⟨Nat.lt_of_lt_of_le h.h (Nat.pow_le_pow_right (by decide) hij)⟩
theorem param_bd {l m : LnQ} [LB l] [LB m] (hn : l.Ne) (h : crossI l m ≠ 0) : BQ (paramQ l (meetP l m)) 1200 := by
 have e := param_frac hn h
 have hA : BI (crossI l m * (l.a * l.a + l.b * l.b)) _ := inferInstance
 have hB : BI (meetX l m * l.b - meetY l m * l.a) _ := inferInstance
 have hne : crossI l m * (l.a * l.a + l.b * l.b) ≠ 0 := by
   intro q
   rcases Int.mul_eq_zero.1 q with q | q
   · exact h q
   · have h1 := dd_pos hn
     simp only [LnQ.dir, PtQ.dot] at h1
     have h2 : ((l.a * l.a + l.b * l.b : Int) : Rat) = ((0 : Int) : Rat) := by rw [q]
     rw [Rat.intCast_add, Rat.intCast_mul, Rat.intCast_mul] at h2
     have h3 : ((0 : Int) : Rat) = 0 := rfl
     rw [h3] at h2
     grind
 have hA' := biMono (j := 1200) hA (by decide)
 have hB' := biMono (j := 1200) hB (by decide)
 generalize crossI l m * (l.a * l.a + l.b * l.b) = D at *
 generalize meetX l m * l.b - meetY l m * l.a = M at *
 by_cases hD : 0 < D
 · refine BQ.of_fracI (n := M) (D := D) (by omega) ?_ hB' hA'
   rw [← e]
   congr 1
   have : ((D.natAbs : Nat) : Int) = D := by omega
   rw [← this]; rfl
 · refine BQ.of_fracI (n := -M) (D := D) (by omega) ?_ (BI.neg M 1200 (h := hB')) hA'
   rw [Rat.intCast_neg, ← e]
   have : ((D.natAbs : Nat) : Rat) = -(D : Rat) := by
     have h1 : ((D.natAbs : Nat) : Int) = -D := by omega
     rw [← Rat.intCast_neg, ← h1]; rfl
   rw [this]; grind
def edgeV (l : LnQ) : List LnQ → IvQ → IvQ × Bool
 | [], v => (v, true)
 | m :: t, v => if m = l then edgeV l t v else if l.cutB v m = true then edgeV l t (l.cutV v m) else (l.cutV v m, false)
structure Stp (l : LnQ) (c : List LnQ) (k : Nat) (v : IvQ) : Prop where
 le : k ≤ c.length
 p : partL l (c.drop k) v = partL l c IvQ.all
 e : edgeV l (c.drop k) v = edgeV l c IvQ.all
 z : IvZ v
 lo : BQ v.lo 1200
 hi : BQ v.hi 1200
def updB (l m : LnQ) (v : IvQ) : IvQ := if 0 < (m.dir.cross l.dir).num.sign then updLo v (paramQ l (meetP l m)) else updHi v (paramQ l (meetP l m))
theorem updB_spec {l m : LnQ} {v : IvQ} [LB l] [LB m] (hn : l.Ne) (hz : IvZ v) (hlo : BQ v.lo 1200) (hhi : BQ v.hi 1200) (h0 : crossI l m ≠ 0) : l.cutV v m = updB l m v ∧ l.cutB v m = !(updB l m v).empty ∧ IvZ (updB l m v) ∧ BQ (updB l m v).lo 1200 ∧ BQ (updB l m v).hi 1200 := by
 have hb := param_bd (l := l) (m := m) hn h0
 unfold updB
 split
 · rename_i h
   obtain ⟨_, h1, h2⟩ := step_lo hn hz ((sgn_pos _).1 h)
   refine ⟨h1, h2, hz.lo' _, ?_⟩
   unfold updLo; split
   · exact ⟨hb, hhi⟩
   · exact ⟨hlo, hhi⟩
 · rename_i h
   obtain ⟨h1, h2⟩ := step_hi hn hz h0 (fun e => h ((sgn_pos _).2 e))
   refine ⟨h1, h2, hz.hi' _, ?_⟩
   unfold updHi; split
   · exact ⟨hlo, hb⟩
   · exact ⟨hlo, hhi⟩
end Go.Sx
end

section
set_option maxRecDepth 100000
namespace Go.Sx
open Go Go.Proofs
def eLn (l : LnQ) : DV := .ag [vI (fn_ (l.a : Rat)), vI (fd_ (l.a : Rat)), fp_ (l.a : Rat), vI (fn_ (l.b : Rat)), vI (fd_ (l.b : Rat)), fp_ (l.b : Rat), vI (fn_ (l.c : Rat)), vI (fd_ (l.c : Rat)), fp_ (l.c : Rat)]
def eZ (p : PtQ) : DV := .ag [vI (fn_ p.x), vI (fd_ p.x), fp_ p.x, vI (fn_ p.y), vI (fd_ p.y), fp_ p.y]
def eW (v : IvQ) : DV := .ag [vI (fn_ v.lo), vI (fd_ v.lo), fp_ v.lo, vI (fn_ v.hi), vI (fd_ v.hi), fp_ v.hi, .v (.bool v.nl), .v (.bool v.nh)]
theorem isl_z {G : Gh} {t : List DV} {vs : List Value} (h : IsLs G (vI 0 :: vI 0 :: .v (.pointer none) :: t) vs) : IsLs G (vI (fn_ 0) :: vI (fd_ 0) :: fp_ 0 :: t) vs := by
 obtain ⟨y1, l1, rfl, k1, g1⟩ := isl_cons.1 h
 obtain ⟨y2, l2, rfl, k2, g2⟩ := isl_cons.1 g1
 obtain ⟨y3, l3, rfl, k3, g3⟩ := isl_cons.1 g2
 have e : decide (Big 0) = false := decide_eq_false fun h => big_ne h rfl
 exact .cons k1 (.cons k2 (.cons (is_op.2 (.inl ⟨e, is_v.1 k3⟩)) g3))
theorem isl_z' {G : Gh} (a : List DV) {t : List DV} {vs : List Value} (h : IsLs G (a ++ vI 0 :: vI 0 :: .v (.pointer none) :: t) vs) : IsLs G (a ++ vI (fn_ 0) :: vI (fd_ 0) :: fp_ 0 :: t) vs := by
 obtain ⟨x, y, rfl, h1, h2⟩ := h.unapp
 exact h1.app (isl_z h2)
theorem is_all (G : Gh) (y : Value) (k : Is G (.ag [vI 0, vI 0, .v (.pointer none), vI 0, vI 0, .v (.pointer none), .v (.bool true), .v (.bool true)]) y) : Is G (eW IvQ.all) y := by
 obtain ⟨l, rfl, g⟩ := is_ag.1 k
 exact is_ag.2 ⟨l, rfl, isl_z (isl_z' [vI 0, vI 0, .v (.pointer none)] g)⟩
def orI : List Int → Int
 | [] => 0
 | a :: t => if a ≠ 0 then a else orI t
theorem BPt.nor (l : LnQ) [LB l] : BPt l.nor 97 := ⟨inferInstanceAs (BQ (l.a : Rat) 97), inferInstanceAs (BQ (l.b : Rat) 97)⟩
attribute [instance] BPt.nor
instance BPt.scale (p : PtQ) (c : Rat) (i k : Nat) [BPt p i] [BQ c k] : BPt (p.scale c) (i + k) := ⟨inferInstanceAs (BQ (p.x * c) _), inferInstanceAs (BQ (p.y * c) _)⟩
instance BPt.add (p q : PtQ) (i j : Nat) [BPt p i] [BPt q j] : BPt (p.add q) (i + j + 1) := ⟨inferInstanceAs (BQ (p.x + q.x) _), inferInstanceAs (BQ (p.y + q.y) _)⟩
instance LB.revA (l : LnQ) [h : LB l] : LB l.rev := ⟨⟨by rw [show l.rev.a = -l.a from rfl, Int.natAbs_neg]; exact h.bl.a, by rw [show l.rev.b = -l.b from rfl, Int.natAbs_neg]; exact h.bl.b, by rw [show l.rev.c = -l.c from rfl, Int.natAbs_neg]; exact h.bl.c⟩⟩
theorem p_All {GB : Gh}  : PF GB Tryz.prog 185 [] (eW IvQ.all) := by
 refine fn Tryz.func185 rfl rfl Tryz.ntmps185 rfl rfl (fun C => ?_)
 exact rzI rfl is_all
theorem p_LNor {GB : Gh} {l : LnQ} : PF GB Tryz.prog 189 [eLn l] (eZ l.nor) := by
 refine fn Tryz.func189 rfl rfl Tryz.ntmps189 rfl rfl (fun C => ?_)
 exact rz rfl rfl
theorem p_LDir {GB : Gh} {l : LnQ} [hl : LB l] : PF GB Tryz.prog 155 [eLn l] (eZ l.dir) := by
 refine fn Tryz.func155 rfl rfl Tryz.ntmps155 rfl rfl (fun C => ?_)
 refine cl rfl (p_FNeg (q := (l.a : Rat))) rfl <| ?_
 exact rz rfl rfl
theorem p_PDot {GB : Gh} {p q : PtQ} {i j : Nat} [hp : BPt p i] [hq : BPt q j] (hi : i ≤ 40000000 := by decide) (hj : j ≤ 40000000 := by decide) : PF GB Tryz.prog 190 [eZ p, eZ q] (eF (p.dot q)) := by
 refine fn Tryz.func190 rfl rfl Tryz.ntmps190 rfl rfl (fun C => ?_)
 refine cl rfl (p_FMul (p := p.x) (q := q.x) (by omega) (by omega)) rfl <| cl rfl (p_FMul (p := p.y) (q := q.y) (by omega) (by omega)) rfl <| cl rfl (p_FAdd (p := p.x * q.x) (q := p.y * q.y) (by omega) (by omega)) rfl <| ?_
 exact rz rfl rfl
theorem p_PCross {GB : Gh} {p q : PtQ} {i j : Nat} [hp : BPt p i] [hq : BPt q j] (hi : i ≤ 40000000 := by decide) (hj : j ≤ 40000000 := by decide) : PF GB Tryz.prog 196 [eZ p, eZ q] (eF (p.cross q)) := by
 refine fn Tryz.func196 rfl rfl Tryz.ntmps196 rfl rfl (fun C => ?_)
 refine cl rfl (p_FMul (p := p.x) (q := q.y) (by omega) (by omega)) rfl <| cl rfl (p_FMul (p := p.y) (q := q.x) (by omega) (by omega)) rfl <| cl rfl (p_FSub (p := p.x * q.y) (q := p.y * q.x) (by omega) (by omega)) rfl <| ?_
 exact rz rfl rfl
theorem p_PScale {GB : Gh} {p : PtQ} {c : Rat} {i j : Nat} [hp : BPt p i] [hc : BQ c j] (hi : i ≤ 40000000 := by decide) (hj : j ≤ 40000000 := by decide) : PF GB Tryz.prog 217 [eZ p, eF c] (eZ (p.scale c)) := by
 refine fn Tryz.func217 rfl rfl Tryz.ntmps217 rfl rfl (fun C => ?_)
 refine cl rfl (p_FMul (p := p.x) (q := c) (by omega) (by omega)) rfl <| cl rfl (p_FMul (p := p.y) (q := c) (by omega) (by omega)) rfl <| ?_
 exact rz rfl rfl
theorem p_PAdd {GB : Gh} {p q : PtQ} {i j : Nat} [hp : BPt p i] [hq : BPt q j] (hi : i ≤ 40000000 := by decide) (hj : j ≤ 40000000 := by decide) : PF GB Tryz.prog 216 [eZ p, eZ q] (eZ (p.add q)) := by
 refine fn Tryz.func216 rfl rfl Tryz.ntmps216 rfl rfl (fun C => ?_)
 refine cl rfl (p_FAdd (by omega) (by omega)) rfl <| cl rfl (p_FAdd (by omega) (by omega)) rfl <| ?_
 exact rz rfl rfl
theorem p_LBase {GB : Gh} {l : LnQ} [hl : LB l] : PF GB Tryz.prog 192 [eLn l] (eZ l.base) := by
 refine fn Tryz.func192 rfl rfl Tryz.ntmps192 rfl rfl (fun C => ?_)
 refine cl rfl p_LNor rfl <| cl rfl (p_FNeg (q := (l.c : Rat))) rfl <| cl rfl (p_PDot (p := l.nor) (q := l.nor)) rfl <| cl rfl (p_FQuo (p := -(l.c : Rat)) (q := l.nor.dot l.nor)) rfl <| ?_
 refine cl rfl (p_PScale (p := l.nor)) rfl <| ?_
 exact rz rfl rfl
theorem p_LValue {GB : Gh} {l : LnQ} {p : PtQ} {i : Nat} [hl : LB l] [hp : BPt p i] (hi : i ≤ 10000000 := by decide) : PF GB Tryz.prog 191 [eLn l, eZ p] (eF (l.value p)) := by
 refine fn Tryz.func191 rfl rfl Tryz.ntmps191 rfl rfl (fun C => ?_)
 refine cl rfl (p_LNor (l := l)) rfl <| cl rfl (p_PDot (p := l.nor) (q := p) (by omega) (by omega)) rfl <| cl rfl (p_FAdd (p := l.nor.dot p) (q := (l.c : Rat)) (by omega) (by omega)) rfl <| ?_
 exact rz rfl rfl
theorem p_LSide {GB : Gh} {l : LnQ} {p : PtQ} {i : Nat} [hl : LB l] [hp : BPt p i] (hi : i ≤ 10000000 := by decide) : PF GB Tryz.prog 186 [eLn l, eZ p] (vI (l.value p).num.sign) := by
 refine fn Tryz.func186 rfl rfl Tryz.ntmps186 rfl rfl (fun C => ?_)
 refine cl rfl (p_LValue (l := l) (p := p) hi) rfl <| cl rfl (p_FSign (q := l.value p) (by omega)) rfl <| ?_
 exact rz rfl rfl
theorem p_LAt {GB : Gh} {l : LnQ} {t : Rat} {i : Nat} [hl : LB l] [ht : BQ t i] (hi : i ≤ 10000000 := by decide) : PF GB Tryz.prog 187 [eLn l, eF t] (eZ (l.at t)) := by
 refine fn Tryz.func187 rfl rfl Tryz.ntmps187 rfl rfl (fun C => ?_)
 refine cl rfl (p_LBase (l := l)) rfl <| cl rfl (p_LDir (l := l)) rfl <| cl rfl (p_PScale (p := l.dir) (c := t) (by omega) (by omega)) rfl <| cl rfl (p_PAdd (p := l.base) (q := l.dir.scale t) (by omega) (by omega)) rfl <| ?_
 exact rz rfl rfl
theorem p_empty {GB : Gh} {v : IvQ} {i j : Nat} [h1 : BQ v.lo i] [h2 : BQ v.hi j] (hi : i ≤ 40000000 := by decide) (hj : j ≤ 40000000 := by decide) : PF GB Tryz.prog 222 [eW v] (vB v.empty) := by
 refine fn Tryz.func222 rfl rfl Tryz.ntmps222 rfl rfl (fun C => ?_)
 refine csb 6 rfl rfl rfl (fun hg6 => ?_) (fun hg6 => ?_)
 ·
  refine csb 11 rfl rfl rfl (fun hg11 => ?_) (fun hg11 => ?_)
  ·
   refine cl rfl (p_FCmp (p := v.lo) (q := v.hi) (by omega) (by omega)) rfl <| ?_
   exact rz rfl (by unfold IvQ.empty; simp_all [vB, tupD])
  ·
   exact rz rfl (by unfold IvQ.empty; simp_all [vB, tupD])
 ·
  exact rz rfl (by unfold IvQ.empty; simp_all [vB, tupD])
instance IvQ.meet_lo (v w : IvQ) (i j : Nat) [h1 : BQ v.lo i] [h3 : BQ w.lo j] : BQ (v.meet w).lo (i + j) := by
 have a := h1.mono (Nat.le_add_right i j)
 have b := h3.mono (Nat.le_add_left j i)
 unfold IvQ.meet; dsimp only; (repeat' split) <;> assumption
instance IvQ.meet_hi (v w : IvQ) (i j : Nat) [h1 : BQ v.hi i] [h3 : BQ w.hi j] : BQ (v.meet w).hi (i + j) := by
 have a := h1.mono (Nat.le_add_right i j)
 have b := h3.mono (Nat.le_add_left j i)
 unfold IvQ.meet; dsimp only; (repeat' split) <;> assumption
theorem p_Meet {GB : Gh} {v w : IvQ} {i j : Nat} [h1 : BQ v.lo i] [h2 : BQ v.hi i] [h3 : BQ w.lo j] [h4 : BQ w.hi j] (hi : i ≤ 10000000 := by decide) (hj : j ≤ 10000000 := by decide) : PF GB Tryz.prog 193 [eW v, eW w] (.tp [eW (v.meet w), vB (!(v.meet w).empty)]) := by
 refine fn (fu := ⟨16⟩) Tryz.func193 rfl rfl Tryz.ntmps193 rfl rfl (fun C => ?_)
 refine mg (fu := ⟨1⟩) (X := Unit) (fun _ => [(6, .ov 6 0)]) (fun _ => [(6, some (.o 194 [.d (vI (fn_ (v.meet w).lo)), .d (vI (fd_ (v.meet w).lo)), .d (fp_ (v.meet w).lo), .d (vI (fn_ v.hi)), .d (vI (fd_ v.hi)), .d (fp_ v.hi), .d (.v (.bool (v.nl && w.nl))), .d (.v (.bool (v.nh)))] true))]) (fun _ => True) [6] [6] rfl ?_ (fun _ => rfl) (fun _ _ => ?_)
 ·
  refine gx rfl <| ?_
  refine bb (v1 := fun hc8 => by simp only [allP]; kernel_rfl) rfl rfl rfl (fun hc8 => ?_) (fun hc8 => ?_)
  ·
   have em : (v.meet w).lo = w.lo := by unfold IvQ.meet; simp_all
   have eb : (v.nl && w.nl) = w.nl := by simp_all
   exact at_ () trivial (hO := ⟨by rw [em, eb] <;> rfl, by repeat (first | exact trivial | refine And.intro rfl ?_)⟩)
  ·
   refine bb rfl rfl rfl (fun hc17 => ?_) (fun hc17 => ?_)
   ·
    refine cl rfl (p_FMax (p := v.lo) (q := w.lo) (by omega) (by omega)) rfl <| ?_
    have em : (v.meet w).lo = (if v.lo < w.lo then w.lo else v.lo) := by unfold IvQ.meet; simp_all
    have eb : (v.nl && w.nl) = v.nl := by simp_all
    exact at_ () trivial (hO := ⟨by rw [em, eb] <;> rfl, by repeat (first | exact trivial | refine And.intro rfl ?_)⟩)
   ·
    have em : (v.meet w).lo = v.lo := by unfold IvQ.meet; simp_all
    have eb : (v.nl && w.nl) = v.nl := by simp_all
    exact at_ () trivial (hO := ⟨by rw [em, eb] <;> rfl, by repeat (first | exact trivial | refine And.intro rfl ?_)⟩)
 ·
  refine mg (X := Unit) (fun _ => [(6, .ov 6 0)]) (fun _ => [(6, some (.o 194 [.d (vI (fn_ (v.meet w).lo)), .d (vI (fd_ (v.meet w).lo)), .d (fp_ (v.meet w).lo), .d (vI (fn_ (v.meet w).hi)), .d (vI (fd_ (v.meet w).hi)), .d (fp_ (v.meet w).hi), .d (.v (.bool (v.nl && w.nl))), .d (.v (.bool (v.nh && w.nh)))] true))]) (fun _ => True) [6] [6] rfl ?_ (fun _ => rfl) (fun _ _ => ?_)
  ·
   refine gx rfl <| ?_
   refine bb (v1 := fun hc27 => by simp only [allP]; kernel_rfl) rfl rfl rfl (fun hc27 => ?_) (fun hc27 => ?_)
   ·
    have em : (v.meet w).hi = w.hi := by unfold IvQ.meet; simp_all
    have eb : (v.nh && w.nh) = w.nh := by simp_all
    exact at_ () trivial (hO := ⟨by rw [em, eb] <;> rfl, by repeat (first | exact trivial | refine And.intro rfl ?_)⟩)
   ·
    refine bb rfl rfl rfl (fun hc36 => ?_) (fun hc36 => ?_)
    ·
     refine cl rfl (p_FMin (p := v.hi) (q := w.hi) (by omega) (by omega)) rfl <| ?_
     have em : (v.meet w).hi = (if w.hi < v.hi then w.hi else v.hi) := by unfold IvQ.meet; simp_all
     have eb : (v.nh && w.nh) = v.nh := by simp_all
     exact at_ () trivial (hO := ⟨by rw [em, eb] <;> rfl, by repeat (first | exact trivial | refine And.intro rfl ?_)⟩)
    ·
     have em : (v.meet w).hi = v.hi := by unfold IvQ.meet; simp_all
     have eb : (v.nh && w.nh) = v.nh := by simp_all
     exact at_ () trivial (hO := ⟨by rw [em, eb] <;> rfl, by repeat (first | exact trivial | refine And.intro rfl ?_)⟩)
  ·
   refine cl rfl (p_empty (v := v.meet w) (i := i + j) (j := i + j) (by omega) (by omega)) rfl <| ?_
   exact rz rfl rfl
theorem BQ.z1 : BQ (0 : Rat) 1 := ⟨by decide, by decide⟩
theorem p_MeetLo {GB : Gh} {v : IvQ} {t : Rat} {i j : Nat} [h1 : BQ v.lo i] [h2 : BQ v.hi i] [h3 : BQ t j] (hi : i ≤ 10000000 := by decide) (hj : j ≤ 9999999 := by decide) : PF GB Tryz.prog 193 [eW v, .ag [vI (fn_ t), vI (fd_ t), fp_ t, vI 0, vI 0, .v (.pointer none), .v (.bool false), .v (.bool true)]] (.tp [eW (v.meet ⟨t, 0, false, true⟩), vB (!(v.meet ⟨t, 0, false, true⟩).empty)]) :=
 (p_Meet (v := v) (w := ⟨t, 0, false, true⟩) (j := j + 1) (h3 := h3.mono (by omega)) (h4 := BQ.z1.mono (by omega)) hi (by omega)).ofI fun G vs hv => isl_F2 (fun y hy => by
  obtain ⟨l, rfl, g⟩ := is_ag.1 hy
  exact is_ag.2 ⟨l, rfl, isl_z' [_, _, _] g⟩) hv
theorem p_MeetHi {GB : Gh} {v : IvQ} {t : Rat} {i j : Nat} [h1 : BQ v.lo i] [h2 : BQ v.hi i] [h3 : BQ t j] (hi : i ≤ 10000000 := by decide) (hj : j ≤ 9999999 := by decide) : PF GB Tryz.prog 193 [eW v, .ag [vI 0, vI 0, .v (.pointer none), vI (fn_ t), vI (fd_ t), fp_ t, .v (.bool true), .v (.bool false)]] (.tp [eW (v.meet ⟨0, t, true, false⟩), vB (!(v.meet ⟨0, t, true, false⟩).empty)]) :=
 (p_Meet (v := v) (w := ⟨0, t, true, false⟩) (j := j + 1) (h4 := h3.mono (by omega)) (h3 := BQ.z1.mono (by omega)) hi (by omega)).ofI fun G vs hv => isl_F2 (fun y hy => by
  obtain ⟨l, rfl, g⟩ := is_ag.1 hy
  exact is_ag.2 ⟨l, rfl, isl_z g⟩) hv
instance BQ.cutK (l m : LnQ) [LB l] [LB m] : BQ (l.cutK m) 400 := BQ.mono (inferInstance : BQ (m.nor.dot l.dir) _) (by decide)
instance BQ.cutC (l m : LnQ) [LB l] [LB m] : BQ (l.cutC m) 2500 := BQ.mono (inferInstance : BQ (m.value l.base) _) (by decide)
theorem p_Cut {GB : Gh} {l m : LnQ} {v : IvQ} {i : Nat} [hl : LB l] [hm : LB m] [h1 : BQ v.lo i] [h2 : BQ v.hi i] (hi : i ≤ 10000000 := by decide) : PF GB Tryz.prog 151 [eLn l, eW v, eLn m] (.tp [eW (l.cutV v m), vB (l.cutB v m)]) := by
 refine fn Tryz.func151 rfl rfl Tryz.ntmps151 rfl rfl (fun C => ?_)
 refine cl rfl (p_LNor (l := m)) rfl <| cl rfl (p_LDir (l := l)) rfl <| cl rfl (p_PDot (p := m.nor) (q := l.dir)) rfl <| cl rfl (p_LBase (l := l)) rfl <| ?_
 refine cl rfl (p_LValue (l := m) (p := l.base)) rfl <| cl rfl (p_FSign (q := l.cutK m)) rfl <| ?_
 refine br rfl rfl rfl (fun hc21 => ?_) (fun hc21 => ?_)
 ·
  refine cl rfl (p_FSign (q := l.cutC m)) rfl <| ?_
  exact rz rfl (by unfold LnQ.cutV LnQ.cutB; rw [if_pos hc21, if_pos hc21]; rfl)
 ·
  refine br rfl rfl rfl (fun hc27 => ?_) (fun hc27 => ?_)
  ·
   refine cl rfl (p_FQuo (p := l.cutC m) (q := l.cutK m)) rfl <| cl rfl (p_FNeg (q := l.cutC m / l.cutK m)) rfl <| cl rfl (p_MeetLo (v := v) (t := -(l.cutC m / l.cutK m)) hi) rfl <| ?_
   exact rz rfl (by unfold LnQ.cutB LnQ.cutV; rw [if_neg hc21, if_neg hc21, if_pos hc27]; rfl)
  ·
   refine cl rfl (p_FQuo (p := l.cutC m) (q := l.cutK m)) rfl <| cl rfl (p_FNeg (q := l.cutC m / l.cutK m)) rfl <| cl rfl (p_MeetHi (v := v) (t := -(l.cutC m / l.cutK m)) hi) rfl <| ?_
   exact rz rfl (by unfold LnQ.cutB LnQ.cutV; rw [if_neg hc21, if_neg hc21, if_neg hc27]; rfl)
theorem p_Sample {GB : Gh} {v : IvQ} {i : Nat} [h1 : BQ v.lo i] [h2 : BQ v.hi i] (hi : i ≤ 10000000 := by decide) : PF GB Tryz.prog 188 [eW v] (eF v.sample) := by
 refine fn Tryz.func188 rfl rfl Tryz.ntmps188 rfl rfl (fun C => ?_)
 refine csb 6 rfl rfl rfl (fun hg6 => ?_) (fun hg6 => ?_)
 ·
  refine bb rfl rfl rfl (fun hc3 => ?_) (fun hc3 => ?_)
  ·
   exact rzI rfl (by unfold IvQ.sample; rw [hg6, hc3]; exact is_0)
  ·
   refine bb rfl rfl rfl (fun hc11 => ?_) (fun hc11 => ?_)
   ·
    refine cl rfl (p_Int (m := 1) (by decide)) rfl <| cl rfl (p_FSub (p := v.hi) (q := ((1 : Int) : Rat)) (by omega) (by decide)) rfl <| ?_
    exact rz rfl (by unfold IvQ.sample; simp_all [tupD] <;> rfl)
   ·
    refine bb rfl rfl rfl (fun hc18 => ?_) (fun hc18 => ?_)
    ·
     refine cl rfl (p_Int (m := 1) (by decide)) rfl <| cl rfl (p_FAdd (p := v.lo) (q := ((1 : Int) : Rat)) (by omega) (by decide)) rfl <| ?_
     exact rz rfl (by unfold IvQ.sample; simp_all [tupD] <;> rfl)
    ·
     refine cl rfl (p_FAdd (p := v.lo) (q := v.hi) (by omega) (by omega)) rfl <| cl rfl (p_FHalf (q := v.lo + v.hi) (by omega)) rfl <| ?_
     exact rz rfl (by unfold IvQ.sample; simp_all [tupD] <;> rfl)
 ·
  refine bb rfl rfl rfl (fun hc11 => ?_) (fun hc11 => ?_)
  ·
   refine cl rfl (p_Int (m := 1) (by decide)) rfl <| cl rfl (p_FSub (p := v.hi) (q := ((1 : Int) : Rat)) (by omega) (by decide)) rfl <| ?_
   exact rz rfl (by unfold IvQ.sample; simp_all [tupD] <;> rfl)
  ·
   refine bb rfl rfl rfl (fun hc18 => ?_) (fun hc18 => ?_)
   ·
    refine cl rfl (p_Int (m := 1) (by decide)) rfl <| cl rfl (p_FAdd (p := v.lo) (q := ((1 : Int) : Rat)) (by omega) (by decide)) rfl <| ?_
    exact rz rfl (by unfold IvQ.sample; simp_all [tupD] <;> rfl)
   ·
    refine cl rfl (p_FAdd (p := v.lo) (q := v.hi) (by omega) (by omega)) rfl <| cl rfl (p_FHalf (q := v.lo + v.hi) (by omega)) rfl <| ?_
    exact rz rfl (by unfold IvQ.sample; simp_all [tupD] <;> rfl)
end Go.Sx
end

section
set_option maxRecDepth 100000
namespace Go.Sx
open Go Go.Proofs
instance BQ.i1' : BQ (1 : Rat) 2 := ⟨by decide, by decide⟩
instance BQ.i2' : BQ (2 : Rat) 2 := ⟨by decide, by decide⟩
instance BPt.at (l : LnQ) (t : Rat) (k : Nat) [LB l] [BQ t k] : BPt (l.at t) (900 + (k + 97) + 1) := by
 rw [← at_ref]; infer_instance
def turnP (d : PtQ) : PtQ := ⟨-d.y, d.x⟩
instance BPt.turn (d : PtQ) (k : Nat) [BPt d k] : BPt (turnP d) k := ⟨inferInstanceAs (BQ (-d.y) k), inferInstanceAs (BQ d.x k)⟩
def nearT (p v : PtQ) (m : LnQ) : Rat := -(m.value p / (m.value (movQ p v ((1 : Int) : Rat)) - m.value p))
def nearStep (p v : PtQ) (m : LnQ) (s : Rat) : Rat := if (m.value (movQ p v ((1 : Int) : Rat)) - m.value p).num.sign = 0 then s else if (m.value p).num.sign = 0 then s else if 0 < (nearT p v m).num.sign then (if rcmp (nearT p v m / 2) s < 0 then nearT p v m / 2 else s) else s
def nearS (p v : PtQ) : List LnQ → Rat → Rat
 | [], s => s
 | m :: t, s => nearS p v t (nearStep p v m s)
def nearP (c : List LnQ) (p v : PtQ) : PtQ := movQ p v (nearS p v c ((1 : Int) : Rat))
def innerP (c : List LnQ) : List LnQ → PtQ
 | [] => ⟨0, 0⟩
 | m :: t => if (edgeV m c IvQ.all).2 = true then nearP c (m.at (sampleR (edgeV m c IvQ.all).1)) (turnP m.dir) else innerP c t
end Go.Sx
end
