/-
  Plain law: the nodes of a tree in another order stand for the same tree; what is written tells the tree. Reference: the nodes of a tree in another order. The abstract machine: words of 32 bits. Reference: digits (over deep values). Reference: natural numbers of any size: sign, Word, Cmp, Sum, Less. Reference: natural numbers of any size: Product, Left, Right, word.
-/
import Derived.Test.YtkijgpopaaknfaaGreatDoorMd14
set_option linter.unusedSimpArgs false
set_option linter.unusedVariables false
section
set_option maxRecDepth 100000
namespace Go.Sx
open Go Go.Proofs
def mvN (n d i : Nat) : Nat := n - 1 - (i + d) % n
def mvI (n d : Nat) (i : Int) : Int := if i < 0 then i else ((mvN n d i.toNat : Nat) : Int)
def ivN (n d p : Nat) : Nat := (n - 1 - p + (n - d)) % n
theorem mvN_lt {n d i : Nat} (h : 0 < n) : mvN n d i < n := by unfold mvN; omega
theorem mod_back {n a : Nat} (h : a < n) (k : Nat) : (a + n * k) % n = a := by rw [Nat.add_mul_mod_self_left, Nat.mod_eq_of_lt h]
theorem iv_mv {n d i : Nat} (hi : i < n) (hd : d < n) : ivN n d (mvN n d i) = i := by
 unfold ivN mvN
 have h1 := Nat.mod_lt (i + d) (show 0 < n by omega)
 rw [show n - 1 - (n - 1 - (i + d) % n) = (i + d) % n by omega, Nat.mod_add_mod, show i + d + (n - d) = i + n * 1 by omega, mod_back hi]
theorem mv_iv {n d p : Nat} (hp : p < n) (hd : d < n) : mvN n d (ivN n d p) = p := by
 unfold ivN mvN
 rw [Nat.mod_add_mod, show n - 1 - p + (n - d) + d = (n - 1 - p) + n * 1 by omega, mod_back (by omega)]
 omega
theorem iv_lt {n d p : Nat} (h : 0 < n) : ivN n d p < n := Nat.mod_lt _ h
def zNQ : NQ := ⟨⟨0, 0, 0⟩, 0, 0⟩
def shN (n d : Nat) (x : NQ) : NQ := ⟨x.l, mvI n d x.a, mvI n d x.b⟩
def shRow (ns : List NQ) (d i : Nat) : List NQ := (List.range ns.length).map fun p => if ivN ns.length d p < i then ((ns[ivN ns.length d p]?).map (shN ns.length d)).getD zNQ else zNQ
def shuf (ns : List NQ) (d : Nat) : List NQ := shRow ns d ns.length
theorem shRow_len (ns : List NQ) (d i : Nat) : (shRow ns d i).length = ns.length := by simp [shRow]
theorem shRow_zero (ns : List NQ) (d : Nat) : shRow ns d 0 = List.replicate ns.length zNQ := by
 apply List.ext_getElem?
 intro p
 unfold shRow
 by_cases h : p < ns.length
 · simp [h]
 · rw [List.getElem?_eq_none (by simpa using h), List.getElem?_eq_none (by simpa using h)]
theorem shRow_set {ns : List NQ} {d i : Nat} (hi : i < ns.length) (hd : d < ns.length) : (shRow ns d i).set (mvN ns.length d i) (shN ns.length d ns[i]) = shRow ns d (i + 1) := by
 apply List.ext_getElem?
 intro p
 rw [List.getElem?_set]
 by_cases hp : p < ns.length
 · by_cases e : mvN ns.length d i = p
   · subst e
     have := iv_mv hi hd
     simp [shRow, mvN_lt (show 0 < ns.length by omega), this, hi]
   · have hne : ivN ns.length d p ≠ i := fun h => e (by rw [← h, mv_iv hp hd])
     rw [if_neg e]
     unfold shRow
     simp only [List.getElem?_map, List.getElem?_range hp, Option.map_some]
     by_cases h : ivN ns.length d p < i
     · rw [if_pos h, if_pos (by omega)]
     · rw [if_neg h, if_neg (by omega)]
 · have e : mvN ns.length d i ≠ p := fun h => hp (h ▸ mvN_lt (by omega))
   rw [if_neg e, List.getElem?_eq_none (by rw [shRow_len]; omega), List.getElem?_eq_none (by rw [shRow_len]; omega)]
theorem shuf_get {ns : List NQ} {d k : Nat} {x : NQ} (h : ns[k]? = some x) (hd : d < ns.length) : (shuf ns d)[mvN ns.length d k]? = some (shN ns.length d x) := by
 have hk : k < ns.length := (List.getElem?_eq_some_iff.1 h).1
 unfold shuf shRow
 rw [List.getElem?_map, List.getElem?_range (mvN_lt (by omega)), Option.map_some, iv_mv hk hd, if_pos hk, h]
 rfl
theorem leafCode_neg (b : Bool) : leafCode b < 0 := by cases b <;> decide
theorem RT.shuf {ns : List NQ} {d : Nat} (hd : d < ns.length) : ∀ {t : Tr} {rt : Int} {L : List Nat}, RT ns t rt L → RT (shuf ns d) t (mvI ns.length d rt) (L.map (mvN ns.length d)) ∧ ∀ k ∈ L, k < ns.length
 | .leaf b, _, _, ⟨h1, h2⟩ => by
   subst h1 h2
   exact ⟨⟨by unfold mvI; rw [if_pos (leafCode_neg b)], rfl⟩, fun k hk => absurd hk (by simp)⟩
 | .node l x y, _, _, ⟨k, a, b, L1, L2, h1, h2, h3, h4, h5⟩ => by
   subst h1 h5
   obtain ⟨u1, u2⟩ := RT.shuf hd h3
   obtain ⟨v1, v2⟩ := RT.shuf hd h4
   have hk : k < ns.length := (List.getElem?_eq_some_iff.1 h2).1
   refine ⟨⟨mvN ns.length d k, _, _, _, _, ?_, shuf_get h2 hd, u1, v1, by simp⟩, ?_⟩
   · unfold mvI; rw [if_neg (by omega), Int.toNat_natCast]
   · intro j hj
     rcases List.mem_cons.1 hj with rfl | hj
     · exact hk
     · rcases List.mem_append.1 hj with hj | hj
       · exact u2 j hj
       · exact v2 j hj
theorem RD.shuf {ns : List NQ} {t : Tr} {rt : Int} {d : Nat} (h : RD ns t rt) (hd : d < ns.length) : RD (shuf ns d) t (mvI ns.length d rt) := by
 obtain ⟨L, h1, h2, h3⟩ := h
 obtain ⟨k1, k2⟩ := h1.shuf hd
 refine ⟨_, k1, ?_, by rw [List.length_map, h3]; exact (shRow_len ..).symm⟩
 rw [List.nodup_iff_pairwise_ne, List.pairwise_map]
 refine List.Pairwise.imp_of_mem ?_ h2
 intro a b ha hb hne he
 have := congrArg (ivN ns.length d) he
 rw [iv_mv (k2 a ha) hd, iv_mv (k2 b hb) hd] at this
 exact hne this
theorem RT.wr {ns : List NQ} : ∀ {t : Tr} {base : Nat}, (∀ i, i < t.size → ns[base + i]? = (t.wr base)[i]?) → RT ns t (t.num base) (List.range' base t.size)
 | .leaf b, base, _ => ⟨rfl, rfl⟩
 | .node l x y, base, h => by
   have h0 : ns[base]? = some ⟨l, x.num (base + 1), y.num (base + 1 + x.size)⟩ := by
     have := h 0 (by simp only [Tr.size]; omega)
     simpa [Tr.wr] using this
   have hx : ∀ i, i < x.size → ns[base + 1 + i]? = (x.wr (base + 1))[i]? := fun i hi => by
     have := h (i + 1) (by simp only [Tr.size]; omega)
     rw [show base + (i + 1) = base + 1 + i by omega] at this
     rw [this]
     simp only [Tr.wr, List.cons_append, List.getElem?_cons_succ]
     rw [List.getElem?_append_left (by rw [Tr.wr_len]; exact hi)]
   have hy : ∀ i, i < y.size → ns[base + 1 + x.size + i]? = (y.wr (base + 1 + x.size))[i]? := fun i hi => by
     have := h (i + 1 + x.size) (by simp only [Tr.size]; omega)
     rw [show base + (i + 1 + x.size) = base + 1 + x.size + i by omega] at this
     rw [this, show i + 1 + x.size = x.size + i + 1 by omega]
     simp only [Tr.wr, List.cons_append, List.getElem?_cons_succ]
     rw [List.getElem?_append_right (by rw [Tr.wr_len]; omega), Tr.wr_len]
     congr 1
     omega
   refine ⟨base, _, _, _, _, rfl, h0, RT.wr hx, RT.wr hy, ?_⟩
   simp only [Tr.size]
   rw [show 1 + x.size + y.size = (x.size + y.size) + 1 by omega, List.range'_succ, ← List.range'_append_1]
theorem RD.wr (t : Tr) : RD (t.wr 0) t (t.num 0) :=
 ⟨_, RT.wr fun i _ => by rw [Nat.zero_add], List.nodup_range', by rw [List.length_range', Tr.wr_len]⟩
theorem RT.det {ns : List NQ} : ∀ {t u : Tr} {rt : Int} {L M : List Nat}, RT ns t rt L → RT ns u rt M → t = u
 | .leaf b, .leaf c, _, _, _, ⟨h1, _⟩, ⟨h2, _⟩ => by
   rw [h1] at h2
   cases b <;> cases c <;> first | rfl | exact absurd h2 (by decide)
 | .leaf b, .node .., _, _, _, ⟨h1, _⟩, ⟨k, _, _, _, _, h2, _⟩ => by have := leafCode_neg b; omega
 | .node .., .leaf b, _, _, _, ⟨k, _, _, _, _, h2, _⟩, ⟨h1, _⟩ => by have := leafCode_neg b; omega
 | .node l x y, .node m u v, _, _, _, ⟨k, a, b, _, _, h1, h2, h3, h4, _⟩, ⟨j, c, d, _, _, k1, k2, k3, k4, _⟩ => by
   obtain rfl : k = j := by omega
   rw [h2] at k2
   injection k2 with e
   injection e with e1 e2 e3
   subst e1 e2 e3
   rw [RT.det h3 k3, RT.det h4 k4]
theorem wr_inj {t u : Tr} (h1 : t.num 0 = u.num 0) (h2 : t.wr 0 = u.wr 0) : t = u := by
 obtain ⟨_, a, _⟩ := RD.wr t
 obtain ⟨_, b, _⟩ := RD.wr u
 rw [h1, h2] at a
 exact RT.det a b
end Go.Sx
end

section
set_option maxRecDepth 100000
namespace Go.Sx
open Go Go.Proofs
theorem tmod_mv {n d : Nat} {i : Int} (h : ¬ i < 0) (hd : d < n) : Int.tmod (i + (d : Int)) n = (((i.toNat + d) % n : Nat) : Int) ∧ (i.toNat + d) % n < n := by
 obtain ⟨k, rfl⟩ := Int.eq_ofNat_of_zero_le (by omega : 0 ≤ i)
 exact ⟨by rw [Int.toNat_natCast, ← Int.natCast_add, Int.ofNat_tmod], Nat.mod_lt _ (by omega)⟩
theorem mv_int {n d : Nat} {i : Int} (h : ¬ i < 0) (hd : d < n) : (n : Int) - 1 - (((i.toNat + d) % n : Nat) : Int) = mvI n d i := by
 unfold mvI mvN
 rw [if_neg h]
 have := (tmod_mv h hd).2
 omega
def byN (n : Nat) (b : Int) : Nat := (b % (n : Int)).toNat
theorem byN_lt {n : Nat} {b : Int} (h : 0 < n) : byN n b < n := by
 unfold byN
 have h1 := Int.emod_nonneg b (show (n : Int) ≠ 0 by omega)
 have h2 := Int.emod_lt_of_pos b (show (0 : Int) < n by omega)
 omega
theorem byN_eq {n : Nat} {b : Int} (h : 0 < n) : Int.tmod (Int.tmod b n + n) n = ((byN n b : Nat) : Int) ∧ -(n : Int) < Int.tmod b n ∧ Int.tmod b n < n := by
 have hn : (n : Int) ≠ 0 := by omega
 have e1 : -(n : Int) < Int.tmod b n := by
  have := Int.lt_tmod_of_pos b (show (0 : Int) < n by omega); omega
 have e2 : Int.tmod b n < n := Int.tmod_lt_of_pos b (by omega)
 refine ⟨?_, e1, e2⟩
 rw [Int.tmod_eq_emod_of_nonneg (by omega)]
 have h3 : (Int.tmod b n + n) % (n : Int) = b % n := by
  rw [Int.add_emod_right, Int.tmod_def, Int.sub_mul_emod_self_left]
 rw [h3]
 unfold byN
 rw [Int.toNat_of_nonneg (Int.emod_nonneg b hn)]
theorem rowN_get {ns : List NQ} {d i j : Nat} (h : j < ns.length) : ((shRow ns d i).map eN)[j]? = some (eN ((shRow ns d i)[j]'(by rw [shRow_len]; exact h))) := by simp [shRow_len, h]
theorem nsN_get {ns : List NQ} {j : Nat} (h : j < ns.length) : (ns.map eN)[j]? = some (eN ns[j]) := by simp [h]
theorem shRow_setE {ns : List NQ} {d i j : Nat} {e : DV} (hi : i < ns.length) (hd : d < ns.length) (hj : j = mvN ns.length d i) (he : e = eN (shN ns.length d ns[i])) : ((shRow ns d i).map eN).set j e = (shRow ns d (i + 1)).map eN := by
 subst hj he
 rw [← List.map_set, shRow_set hi hd]
theorem q_moved {GB : Gh} {n d : Nat} {i : Int} (hn : n ≤ 1000000) (hd : d < n) (hi : i ≤ 1000000) : PF GB Tryz.prog 80 [.v (.int .i64 i), .v (.int .i64 (n : Nat)), .v (.int .i64 (d : Nat))] (.v (.int .i64 (mvI n d i))) := by
 refine fn Tryz.func80 rfl rfl Tryz.ntmps80 rfl rfl (fun C => ?_)
 refine br (fu2 := ⟨11⟩) rfl rfl rfl (fun hc8 => ?_) (fun hc8 => ?_)
 ·
  exact rz rfl (by show DV.v (.int .i64 i) = _; unfold mvI; rw [if_pos hc8])
 ·
  obtain ⟨ht, htl⟩ := tmod_mv hc8 hd
  refine eqF 16 (.d (vI (((i.toNat + d) % n : Nat) : Int))) rfl (by rw [ht] <;> rfl) ?_
  refine gx rfl <| ?_
  exact rz rfl (by rw [← mv_int hc8 hd]; rfl)
theorem q_movedN {GB : Gh} {n d k : Nat} (hn : n ≤ 1000000) (hd : d < n) (hk : k ≤ 1000000) : PF GB Tryz.prog 80 [.v (.int .i64 (k : Nat)), .v (.int .i64 (n : Nat)), .v (.int .i64 (d : Nat))] (.v (.int .i64 (mvN n d k : Nat))) := by
 have := q_moved (GB := GB) (i := (k : Int)) hn hd (by omega)
 rw [show mvI n d (k : Int) = ((mvN n d k : Nat) : Int) by unfold mvI; rw [if_neg (by omega), Int.toNat_natCast]] at this
 exact this
def shufA (ns : List NQ) (rt b : Int) : DV := if ns.length = 0 then .ag [.v (.int .i64 rt), .sl (ns.map eN)] else .ag [.v (.int .i64 (mvI ns.length (byN ns.length b) rt)), .sl ((shuf ns (byN ns.length b)).map eN)]
set_option maxHeartbeats 2000000 in
theorem q_Shuffled {GB : Gh} {ns : List NQ} {rt b : Int} (hn : ns.length ≤ 1000000) (hns : ∀ x ∈ ns, x.a ≤ 1000000 ∧ x.b ≤ 1000000) (hrt : rt ≤ 1000000) : PF GB Tryz.prog 29 [.ag [.v (.int .i64 rt), .sl (ns.map eN)], .v (.int .i64 b)] (shufA ns rt b) := by
 have hnl : (ns.map eN).length = ns.length := by simp
 refine fn (fu := ⟨11⟩) Tryz.func29 rfl rfl Tryz.ntmps29 rfl rfl (fun C => ?_)
 refine eqF 11 (.d (vI (ns.length : Nat))) rfl (by rw [hnl] <;> rfl) ?_
 refine gx rfl <| ?_
 refine br (fu2 := ⟨11⟩) (v2 := fun hc13 => by simp only [allP]; exact ⟨⟨by omega, (by obtain ⟨_, q2, q3⟩ := byN_eq (b := b) (n := ns.length) (by omega); omega)⟩, by omega⟩) rfl rfl rfl (fun hc13 => ?_) (fun hc13 => ?_)
 ·
  exact rz rfl (by unfold shufA; rw [if_pos (by omega)]; rfl)
 ·
  have hpos : 0 < ns.length := by omega
  obtain ⟨q1, q2, q3⟩ := byN_eq (b := b) hpos
  obtain ⟨d, hdd⟩ : ∃ d, d = byN ns.length b := ⟨_, rfl⟩
  have hd : d < ns.length := by rw [hdd]; exact byN_lt hpos
  rw [← hdd] at q1
  refine eqF 21 (.d (vI (d : Nat))) rfl (by rw [q1] <;> rfl) ?_
  refine gx rfl <| cl rfl (q_moved (n := ns.length) (d := d) hn hd hrt) rfl <| mk (fu := ⟨11⟩) ((shRow ns d 0).map eN) rfl rfl (by rw [shRow_zero]; simp [eN, zNQ, dN_zero]) rfl <| ?_
  refine eqF 32 (.d (vI (ns.length : Nat))) rfl (by rw [hnl] <;> rfl) ?_
  refine gx rfl <| ?_
  refine lp (X := Nat) (fun k => [(33, .d (vI (k : Nat)))]) (fun k => [(28, some (.b 60 8 ((shRow ns d k).map eN) true))]) (fun k => k ≤ ns.length) (fun k => ns.length - k) 0 rfl (Nat.zero_le _) (fun _ => rfl) (fun k hk => ?_)
  refine br rfl rfl rfl (fun hc34 => ?_) (fun hc34 => ?_)
  ·
   have hkl : k < ns.length := by omega
   have hmv := mvN_lt (d := d) (i := k) hpos
   have hab := hns _ (List.getElem_mem hkl)
   have hrl : ((shRow ns d k).map eN).length = ns.length := by simp [shRow_len]
   refine ix (fu := ⟨1⟩) _ rfl (nsN_get hkl) rfl <| ?_
   refine eqF 37 (.d (eN ns[k])) rfl rfl ?_
   refine gx rfl <| cl rfl (q_movedN (n := ns.length) (d := d) (k := k) hn hd (by omega)) rfl <| cl rfl (q_moved (n := ns.length) (d := d) hn hd hab.1) rfl <| ?_
   refine cl rfl (q_moved (n := ns.length) (d := d) hn hd hab.2) rfl <| sb (hv := by simp only [allP]; exact ⟨by kernel_rfl, by omega⟩) _ ((shRow ns d (k + 1)).map eN) rfl (rowN_get (by simpa using hmv)) rfl (shRow_setE hkl hd (by simp) rfl) rfl <| ?_
   exact at_ (k + 1) ⟨(by omega), (by omega)⟩
  ·
   have hkn : k = ns.length := by omega
   refine fzE 28 rfl ?_
   exact rz rfl (by unfold shufA; rw [if_neg (by omega), ← hdd, hkn]; rfl)
end Go.Sx
end

section
set_option maxRecDepth 100000
namespace Go.Sx
open Go Go.Proofs
section
variable {GB : Gh} {C : Ctx} {n : Nat} {Q0 : Exit → Act → World → Prop} {fr fr' : FrX} {own own' : OwX} {cf cf' : Cf} {vc : List Prop}
def xrA (fr : FrX) (cf : Cf) : Option (Int × Int) := match opC fr cf with
 | some ⟨_, .binOp .xor _ x y _, _, _, _, _⟩ => match evX (lkC fr cf) x, evX (lkC fr cf) y with
   | some (.d (.v (.int .u32 p))), some (.d (.v (.int .u32 q))) => some (p, q)
   | _, _ => none
 | _ => none
theorem xr [fu : Fu] {p q : Int} (u : Int) (h : xrA fr cf = some (p, q)) (e : (((BitVec.ofInt 32 p ^^^ BitVec.ofInt 32 q).toNat : Nat) : Int) = u) (hgo : goA tt n fu.n fr own cf (.d (.v (.int .u32 u))) [] [] = ⟨vc, fr', own', cf'⟩) (k : CfS Tryz.prog GB C n Q0 fr' own' cf')
  (hv : allP vc := by first | exact trivial | (simp only [allP]; kernel_rfl) | (simp only [allP]; omega)) : CfS Tryz.prog GB C n Q0 fr own cf := by
 unfold xrA at h
 split at h <;> try (cases h; done)
 rename_i hh
 split at h <;> cases h
 rename_i h1 h2
 subst e
 exact us hh (.yd fun ρ G ov a w r => by
  obtain ⟨y1, h3, h4⟩ := r.ev h1
  obtain ⟨y2, h5, h6⟩ := r.ev h2
  rw [isX_int] at h4 h6; subst h4 h6
  exact ⟨_, isX_int.2 rfl, yd_int h3 h5 fun w => by
   show (pure (Value.int .u32 (IntKind.u32.wrap ((BitVec.ofInt 32 p ^^^ BitVec.ofInt 32 q).toNat : Int))) : Sem Value).run Tryz.prog w = _
   rw [wrapB32]; rfl⟩) hgo hv k
def swA (fr : FrX) (cf : Cf) : Option (Int × Int) := match opC fr cf with
 | some ⟨_, .binOp .sub _ x y _, _, _, _, _⟩ => match evX (lkC fr cf) x, evX (lkC fr cf) y with
   | some (.d (.v (.int .u32 p))), some (.d (.v (.int .u32 q))) => some (p, q)
   | _, _ => none
 | _ => none
theorem sw [fu : Fu] {p q : Int} (u : Int) (h : swA fr cf = some (p, q)) (e : (p - q) % 4294967296 = u) (hgo : goA tt n fu.n fr own cf (.d (.v (.int .u32 u))) [] [] = ⟨vc, fr', own', cf'⟩) (k : CfS Tryz.prog GB C n Q0 fr' own' cf')
  (hv : allP vc := by first | exact trivial | (simp only [allP]; kernel_rfl) | (simp only [allP]; omega)) : CfS Tryz.prog GB C n Q0 fr own cf := by
 unfold swA at h
 split at h <;> try (cases h; done)
 rename_i hh
 split at h <;> cases h
 rename_i h1 h2
 subst e
 exact us hh (.yd fun ρ G ov a w r => by
  obtain ⟨y1, h3, h4⟩ := r.ev h1
  obtain ⟨y2, h5, h6⟩ := r.ev h2
  rw [isX_int] at h4 h6; subst h4 h6
  exact ⟨_, isX_int.2 rfl, by rw [← wrap_u32]; exact yd_subw h3 h5⟩) hgo hv k
def ntA (fr : FrX) (cf : Cf) : Option Int := match opC fr cf with
 | some ⟨_, .unOp .xor _ x, _, _, _, _⟩ => match evX (lkC fr cf) x with
   | some (.d (.v (.int .u32 p))) => some p
   | _ => none
 | _ => none
theorem nt [fu : Fu] {p : Int} (u : Int) (h : ntA fr cf = some p) (e : (((BitVec.ofInt 32 IntKind.u32.max ^^^ BitVec.ofInt 32 p).toNat : Nat) : Int) = u) (hgo : goA tt n fu.n fr own cf (.d (.v (.int .u32 u))) [] [] = ⟨vc, fr', own', cf'⟩) (k : CfS Tryz.prog GB C n Q0 fr' own' cf')
  (hv : allP vc := by first | exact trivial | (simp only [allP]; kernel_rfl) | (simp only [allP]; omega)) : CfS Tryz.prog GB C n Q0 fr own cf := by
 unfold ntA at h
 split at h <;> try (cases h; done)
 rename_i hh
 split at h <;> cases h
 rename_i hx
 subst e
 refine us hh (.x1 hx fun ρ G ov a w y _ r h1 h2 => ?_) hgo hv k
 rw [isX_int] at h2; subst h2
 refine ⟨_, isX_int.2 rfl, fun a w hf hh => ?_⟩
 simp only [execOp, opv_eval hf h1]
 refine value_of (w' := w) ?_
 show (pure (Value.int .u32 (IntKind.u32.wrap ((BitVec.ofInt 32 IntKind.u32.max ^^^ BitVec.ofInt 32 p).toNat : Int))) : Sem Value).run Tryz.prog w = _
 rw [wrapB32]; rfl
end
end Go.Sx
end

section
set_option maxRecDepth 100000
namespace Go.Sx
open Go Go.Proofs
def andN (p q : Int) : Nat := (BitVec.ofInt 32 p &&& BitVec.ofInt 32 q).toNat
def orN (p q : Int) : Nat := (BitVec.ofInt 32 p ||| BitVec.ofInt 32 q).toNat
def xorN (p q : Int) : Nat := (BitVec.ofInt 32 p ^^^ BitVec.ofInt 32 q).toNat
theorem trim_zero {ds : List Nat} {n : Nat} (h : 0 < n ∧ n ≤ ds.length) (hz : ds.getD (n - 1) 0 = 0) : trimD (ds.take n) = trimD (ds.take (n - 1)) := by
 obtain ⟨m, rfl⟩ : ∃ m, n = m + 1 := ⟨n - 1, by omega⟩
 rw [List.take_succ_eq_append_getElem (by omega), Nat.add_sub_cancel]
 rw [Nat.add_sub_cancel, List.getD_eq_getElem?_getD, List.getElem?_eq_getElem (by omega)] at hz
 simp only [Option.getD_some] at hz
 rw [hz, trimD_snoc0]
theorem trim_stop {ds : List Nat} {n : Nat} (h : n ≤ ds.length) (hz : 0 < n → ds.getD (n - 1) 0 ≠ 0) : trimD (ds.take n) = ds.take n := by
 rcases Nat.eq_zero_or_pos n with h0 | h0
 · subst h0; simp [trimD]
 · obtain ⟨m, rfl⟩ : ∃ m, n = m + 1 := ⟨n - 1, by omega⟩
   have hz := hz h0
   rw [List.take_succ_eq_append_getElem (by omega)]
   rw [Nat.add_sub_cancel, List.getD_eq_getElem?_getD, List.getElem?_eq_getElem (by omega)] at hz
   exact trimD_snoc (by simpa using hz)
theorem q_Add32 {GB : Gh} {x y c : Nat} (hx : x < 4294967296) (hy : y < 4294967296) (hc : c ≤ 1) : PF GB Tryz.prog 209 [.v (.int .u32 (x : Int)), .v (.int .u32 (y : Int)), .v (.int .u32 (c : Int))] (.tp [.v (.int .u32 (((x + y + c) % 4294967296 : Nat) : Int)), .v (.int .u32 (((x + y + c) / 4294967296 : Nat) : Int))]) := by
 refine fn (hv := by simp only [allP]; exact ⟨⟨⟨⟨⟨by omega, by omega⟩, by omega⟩, by omega⟩, by omega⟩, (by decide)⟩) Tryz.func209 rfl rfl Tryz.ntmps209 rfl rfl (fun C => ?_)
 exact rz rfl (by
  have e1 : ((x : Int) + y + c) % 4294967296 = (((x + y + c) % 4294967296 : Nat) : Int) := by omega
  have e2 : ((x : Int) + y + c).fdiv (2 ^ min (32 : Int).toNat IntKind.u64.bits) % 4294967296 = (((x + y + c) / 4294967296 : Nat) : Int) := by
   rw [show (2 : Int) ^ min (32 : Int).toNat IntKind.u64.bits = ((4294967296 : Nat) : Int) from rfl, Int.fdiv_eq_ediv_of_nonneg _ (by decide)]
   omega
  show DV.tp [.v (.int _ _), .v (.int _ _)] = _
  rw [e1, e2])
theorem msb_ofInt (n : Nat) (h : n < 4294967296) : (BitVec.ofInt 32 (n : Int)).msb = decide (2147483648 ≤ n) := by
 rw [show BitVec.ofInt 32 (n : Int) = BitVec.ofNat 32 n from BitVec.ofInt_natCast ..]
 rw [BitVec.msb_eq_decide, BitVec.toNat_ofNat, Nat.mod_eq_of_lt (by simpa using h)]
theorem toNat_msb (b : BitVec 32) : b.toNat / 2147483648 = if b.msb then 1 else 0 := by
 have := b.isLt
 rw [BitVec.msb_eq_decide]
 simp only [decide_eq_true_eq, Nat.reduceSub, Nat.reducePow] at *
 split <;> omega
theorem bv_toNat_ofInt (b : BitVec 32) : BitVec.ofInt 32 (b.toNat : Int) = b := by rw [BitVec.ofInt_natCast, BitVec.ofNat_toNat, BitVec.setWidth_eq]
theorem sub_borrow {x y c : Nat} (hx : x < 4294967296) (hy : y < 4294967296) (hc : c ≤ 1) :
  ((orN (andN (xorN IntKind.u32.max x : Nat) y : Nat) (andN (xorN IntKind.u32.max (xorN x y : Nat) : Nat) (IntKind.u32.wrap (IntKind.u32.wrap ((x : Int) - y) - c)) : Nat) : Nat) : Int).fdiv (2 ^ min (31 : Int).toNat IntKind.u32.bits) = (((if x < y + c then 1 else 0) : Nat) : Int) := by
 rw [show ((2 : Int) ^ min (31 : Int).toNat IntKind.u32.bits) = ((2147483648 : Nat) : Int) from rfl, Int.fdiv_eq_ediv_of_nonneg _ (by decide), ← Int.natCast_ediv]
 congr 1
 have hd : ∃ d : Nat, d < 4294967296 ∧ IntKind.u32.wrap (IntKind.u32.wrap ((x : Int) - y) - c) = (d : Int) ∧ ((x ≥ y + c ∧ d = x - (y + c)) ∨ (x < y + c ∧ d = x + 4294967296 - (y + c))) := by
  rw [wrap_u32, wrap_u32]
  refine ⟨((((x : Int) - y) % 4294967296 - c) % 4294967296).toNat, by omega, by omega, by omega⟩
 obtain ⟨d, hd1, hd2, hd3⟩ := hd
 rw [hd2]
 unfold orN andN xorN
 simp only [bv_toNat_ofInt]
 rw [toNat_msb]
 simp only [BitVec.msb_or, BitVec.msb_and, BitVec.msb_xor, msb_ofInt x hx, msb_ofInt y hy, msb_ofInt d hd1]
 have h1 : (BitVec.ofInt 32 IntKind.u32.max).msb = true := by decide
 rw [h1]
 rcases Nat.lt_or_ge x 2147483648 with a | a <;> rcases Nat.lt_or_ge y 2147483648 with b | b <;> rcases Nat.lt_or_ge d 2147483648 with e | e <;>
  simp [Nat.not_le.2, *] <;> (first | omega | (split <;> omega))
theorem sub_diff {x y c : Nat} (hx : x < 4294967296) (hy : y < 4294967296) (hc : c ≤ 1) : IntKind.u32.wrap (IntKind.u32.wrap ((x : Int) - y) - c) = (((if x < y + c then x + 4294967296 - (y + c) else x - (y + c)) : Nat) : Int) := by
 rw [wrap_u32, wrap_u32]
 split <;> omega
theorem q_Sub32 {GB : Gh} {x y c : Nat} (hx : x < 4294967296) (hy : y < 4294967296) (hc : c ≤ 1) : PF GB Tryz.prog 210 [.v (.int .u32 (x : Int)), .v (.int .u32 (y : Int)), .v (.int .u32 (c : Int))] (.tp [.v (.int .u32 (((if x < y + c then x + 4294967296 - (y + c) else x - (y + c)) : Nat) : Int)), .v (.int .u32 (((if x < y + c then 1 else 0) : Nat) : Int))]) := by
 refine fn (fu := ⟨10⟩) Tryz.func210 rfl rfl Tryz.ntmps210 rfl rfl (fun C => ?_)
 refine sw (fu := ⟨1⟩) _ rfl (wrap_u32 _).symm rfl <| sw (fu := ⟨6⟩) _ rfl (wrap_u32 _).symm rfl <| nt (fu := ⟨4⟩) _ rfl rfl rfl <| xr (fu := ⟨0⟩) _ rfl rfl rfl <| nt _ rfl rfl rfl <| ?_
 exact rz rfl (by have h1 := sub_borrow hx hy hc; unfold orN andN xorN at h1; show DV.tp [.v (.int _ _), .v (.int _ _)] = _; rw [h1, sub_diff hx hy hc])
theorem q_Trim {GB : Gh} {ds : List Nat} (hl : ds.length ≤ 1125899906842624) : PF GB Tryz.prog 138 [dLi ds] (dLi (trimD ds)) := by
 refine fn Tryz.func138 rfl rfl Tryz.ntmps138 rfl rfl (fun C => ?_)
 refine lp (X := Nat) (fun n => [(0, .d (dLi ds)), (3, .d (vI (n : Nat)))]) (fun n => []) (fun n => n ≤ ds.length ∧ trimD ds = trimD (ds.take n)) (fun n => n) ds.length rfl ⟨Nat.le_refl _, by rw [List.take_length]⟩ (fun _ => rfl) (fun n hk => ?_)
 obtain ⟨h1, h2⟩ := hk
 refine cs 8 rfl rfl rfl (fun hg8 => ?_) (fun hg8 => ?_)
 ·
  refine ix _ rfl (mapU_getZ (k := n - 1) (by omega) (by omega)) rfl <| ?_
  refine br rfl rfl rfl (fun hc15 => ?_) (fun hc15 => ?_)
  ·
   have hz : ds.getD (n - 1) 0 = 0 := by omega
   exact at_ (n - 1) ⟨⟨by omega, by rw [h2, trim_zero (by omega) hz]⟩, (by omega)⟩
  ·
   refine sc' 0 n _ rfl rfl rfl rfl (slOkU _) (by omega) (by simp; omega) rfl <| ?_
   exact rz rfl (by have := trim_stop h1 (fun _ h => hc15 (by omega)); rw [← h2] at this; show DV.sl _ = _; simp [dLi, this])
 ·
  refine sc' 0 n _ rfl rfl rfl rfl (slOkU _) (by omega) (by simp; omega) rfl <| ?_
  exact rz rfl (by obtain rfl : n = 0 := (by omega); show DV.sl _ = _; simp [dLi, h2, trimD])
end Go.Sx
end

section
set_option maxRecDepth 100000
namespace Go.Sx
open Go Go.Proofs
theorem dg_len_bd {a k : Nat} (h : a < 2 ^ k) (hk : k ≤ 1000000000) : (dg a).length ≤ 100000000 := by have := dg_len_le h; omega
theorem dv_dg (a : Nat) : dv (dg a) = a := (dg_spec a).1
theorem dg_ok (a : Nat) : DOk (dg a) := (dg_spec a).2.1
theorem mapU_len (ds : List Nat) : (ds.map dU).length = ds.length := List.length_map ..
theorem take_all {ds : List Nat} {n : Nat} (h : ds.length ≤ n) : ds.take n = ds := List.take_of_length_le h
theorem getD_out {ds : List Nat} {i : Nat} (h : ds.length ≤ i) : ds.getD i 0 = 0 := by
 rw [List.getD_eq_getElem?_getD, List.getElem?_eq_none h]; rfl
theorem dL_trim {ds : List Nat} {n : Nat} (h : DOk ds) (e : dv ds = n) : dLi (trimD ds) = dN n := by rw [dL_dv h, e]
theorem cmpN_lt {a b : Nat} (h : a < b) : cmpN a b = -1 := by unfold cmpN; rw [if_pos h]
theorem cmpN_gt {a b : Nat} (h : b < a) : cmpN a b = 1 := by unfold cmpN; rw [if_neg (by omega), if_neg (by omega)]
theorem cmpN_eq {a b : Nat} (h : a = b) : cmpN a b = 0 := by unfold cmpN; rw [if_neg (by omega), if_pos h]
theorem sign_subN (m n : Nat) : Int.sign ((m : Int) - n) = cmpN m n := by
 unfold cmpN
 split
 · exact Int.sign_eq_neg_one_of_neg (by omega)
 · split
   · rw [show (m : Int) - n = 0 by omega]; rfl
   · exact Int.sign_eq_one_of_pos (by omega)
theorem cmpN_len {a b : Nat} (h : (dg a).length ≠ (dg b).length) : cmpN (dg a).length (dg b).length = cmpN a b := by
 rcases Nat.lt_or_gt_of_ne h with h | h
 · have := dv_len_lt (dg_ok a) (dg_spec b).2.2 h
   rw [dv_dg, dv_dg] at this
   rw [cmpN_lt h, cmpN_lt this]
 · have := dv_len_lt (dg_ok b) (dg_spec a).2.2 h
   rw [dv_dg, dv_dg] at this
   rw [cmpN_gt h, cmpN_gt this]
theorem cmp_dig {a b i : Nat} (hl : (dg a).length = (dg b).length) (hi : i < (dg a).length) (hs : (dg a).drop (i + 1) = (dg b).drop (i + 1)) :
   ((dg a).getD i 0 < (dg b).getD i 0 → a < b) ∧ ((dg b).getD i 0 < (dg a).getD i 0 → b < a) ∧ ((dg a).getD i 0 = (dg b).getD i 0 → (dg a).drop i = (dg b).drop i) := by
 refine ⟨fun h => ?_, fun h => ?_, fun h => ?_⟩
 · have := dv_cmp (dg_ok a) (dg_ok b) i hi (by omega) hl hs h
   rwa [dv_dg, dv_dg] at this
 · have := dv_cmp (dg_ok b) (dg_ok a) i (by omega) hi hl.symm hs.symm h
   rwa [dv_dg, dv_dg] at this
 · rw [List.drop_eq_getElem_cons hi, List.drop_eq_getElem_cons (by omega : i < (dg b).length), hs]
   rw [List.getD_eq_getElem?_getD, List.getD_eq_getElem?_getD, List.getElem?_eq_getElem hi, List.getElem?_eq_getElem (by omega : i < (dg b).length)] at h
   simp only [Option.getD_some] at h
   rw [h]
theorem q_sign {GB : Gh} {z : Int} : PF GB Tryz.prog 122 [vI z] (vI z.sign) := by
 refine fn Tryz.func122 rfl rfl Tryz.ntmps122 rfl rfl (fun C => ?_)
 refine br rfl rfl rfl (fun hc4 => ?_) (fun hc4 => ?_)
 ·
  exact rz rfl (by show DV.v (.int _ 1) = DV.v (.int _ _); rw [Int.sign_eq_one_of_pos (by omega)])
 ·
  refine br rfl rfl rfl (fun hc6 => ?_) (fun hc6 => ?_)
  ·
   exact rz rfl (by show DV.v (.int _ (-1)) = DV.v (.int _ _); rw [Int.sign_eq_neg_one_of_neg (by omega)])
  ·
   exact rz rfl (by show DV.v (.int _ 0) = DV.v (.int _ _); rw [show z = 0 by omega]; rfl)
theorem u64_split (u : Nat) : dv [u % 4294967296, u / 4294967296] = u := by simp only [dv]; omega
theorem u64_ok {u : Nat} (h : u < 18446744073709551616) : DOk [u % 4294967296, u / 4294967296] := .cons (by omega) (.cons (by omega) .nil)
theorem fdiv32 (u : Nat) : (u : Int).fdiv (2 ^ min (32 : Int).toNat IntKind.u64.bits) = ((u / 4294967296 : Nat) : Int) := by
 rw [show (2 : Int) ^ min (32 : Int).toNat IntKind.u64.bits = ((4294967296 : Nat) : Int) from rfl, Int.fdiv_eq_ediv_of_nonneg _ (by decide)]; rfl
theorem q_Word {GB : Gh} {u : Nat} (hu : u < 18446744073709551616) : PF GB Tryz.prog 114 [.v (.int .u64 (u : Int))] (dN u) := by
 refine fn (fu := ⟨11⟩) (hv := by simp only [allP]; exact (by decide)) Tryz.func114 rfl rfl Tryz.ntmps114 rfl rfl (fun C => ?_)
 refine eqF 6 (.d (.v (.int .u64 (u / 4294967296 : Nat)))) rfl (by rw [fdiv32]) ?_
 refine gx rfl <| rf (fu := ⟨0⟩) rfl rfl <| ?_
 refine eqF 8 (.d (dLi [u % 4294967296, u / 4294967296])) rfl (by show FX.d (.sl [.v (.int _ _), .v (.int _ _)]) = .d (.sl [.v (.int _ _), .v (.int _ _)]); congr 6; omega) ?_
 refine gx rfl <| cl rfl (q_Trim (ds := [u % 4294967296, u / 4294967296]) (by simp)) rfl <| ?_
 exact rz rfl (dL_trim (u64_ok hu) (u64_split u))
theorem q_One {GB : Gh}  : PF GB Tryz.prog 75 [] (dN 1) := by
 refine fn Tryz.func75 rfl rfl Tryz.ntmps75 rfl rfl (fun C => ?_)
 refine rf rfl rfl <| ?_
 exact rz rfl (by unfold dN; rw [dg_one]; rfl)
theorem q_Cmp {GB : Gh} {a b : Nat} (ha : (dg a).length ≤ 100000000) (hb : (dg b).length ≤ 100000000) : PF GB Tryz.prog 74 [dN a, dN b] (vI (cmpN a b)) := by
 have hla := mapU_len (dg a)
 have hlb := mapU_len (dg b)
 refine fn Tryz.func74 rfl rfl Tryz.ntmps74 rfl rfl (fun C => ?_)
 refine br rfl rfl rfl (fun hc10 => ?_) (fun hc10 => ?_)
 ·
  refine cl rfl q_sign rfl <| ?_
  exact rz rfl (by show DV.v (.int _ _) = DV.v (.int _ _); rw [hla, hlb, sign_subN, cmpN_len (by omega)])
 ·
  have hl : (dg a).length = (dg b).length := by omega
  refine lp (X := Nat) (fun k => [(0, .d (dN a)), (1, .d (dN b)), (5, .d (vI ((k : Nat) - 1)))]) (fun k => []) (fun k => k ≤ (dg a).length ∧ (dg a).drop k = (dg b).drop k) (fun k => k) (dg a).length rfl ⟨Nat.le_refl _, by rw [List.drop_length, hl, List.drop_length]⟩ (fun _ => rfl) (fun k hk => ?_)
  obtain ⟨h1, h2⟩ := hk
  refine br rfl rfl rfl (fun hc21 => ?_) (fun hc21 => ?_)
  ·
   obtain ⟨k, rfl⟩ : ∃ m, k = m + 1 := ⟨k - 1, by omega⟩
   refine ix _ rfl (mapU_getZ (k := k) (by omega) (by omega)) rfl <| ix _ rfl (mapU_getZ (k := k) (by omega) (by omega)) rfl <| ?_
   refine br rfl rfl rfl (fun hc32 => ?_) (fun hc32 => ?_)
   ·
    exact rz rfl (by show DV.v (.int _ 1) = DV.v (.int _ _); rw [cmpN_gt ((cmp_dig hl (by omega) h2).2.1 (by omega))])
   ·
    refine ix _ rfl (mapU_getZ (k := k) (by omega) (by omega)) rfl <| ix _ rfl (mapU_getZ (k := k) (by omega) (by omega)) rfl <| ?_
    refine br rfl rfl rfl (fun hc41 => ?_) (fun hc41 => ?_)
    ·
     exact rz rfl (by show DV.v (.int _ (-1)) = DV.v (.int _ _); rw [cmpN_lt ((cmp_dig hl (by omega) h2).1 (by omega))])
    ·
     exact at_ k ⟨⟨by omega, (cmp_dig (i := k) hl (by omega) h2).2.2 (by omega)⟩, (by omega)⟩
  ·
   exact rz rfl (by show DV.v (.int _ 0) = DV.v (.int _ _); rw [cmpN_eq]; obtain rfl : k = 0 := (by omega); rw [List.drop_zero, List.drop_zero] at h2; rw [← dv_dg a, h2, dv_dg])
theorem sum_inv {A B W : List Nat} {i c : Nat} (hi : i < W.length) (h : dv (W.take i) + 4294967296 ^ i * c = dv (A.take i) + dv (B.take i)) :
  dv ((W.set i ((A.getD i 0 + B.getD i 0 + c) % 4294967296)).take (i + 1)) + 4294967296 ^ (i + 1) * ((A.getD i 0 + B.getD i 0 + c) / 4294967296) = dv (A.take (i + 1)) + dv (B.take (i + 1)) := by
 rw [dv_set_take hi, dv_take_succ A, dv_take_succ B, Nat.pow_succ, show A.getD i 0 + B.getD i 0 + c = c + A.getD i 0 + B.getD i 0 by omega]
 exact add_step h
theorem sum_end {a b n : Nat} {W : List Nat} {c : Nat} (hn : n = max (dg a).length (dg b).length) (hl : W.length = n + 1) (h : dv (W.take n) + 4294967296 ^ n * c = dv ((dg a).take n) + dv ((dg b).take n)) : dv (W.set n c) = a + b := by
 have e := dv_set_take (ws := W) (k := n) (d := c) (by omega)
 rw [take_all (by rw [List.length_set]; omega)] at e
 rw [e, h, take_all (by omega), take_all (by omega), dv_dg, dv_dg]
set_option maxHeartbeats 1000000 in
theorem q_Sum {GB : Gh} {a b ia ib : Nat} [ha : BN a ia] [hb : BN b ib] (hi : ia ≤ 1000000000 := by decide) (hj : ib ≤ 1000000000 := by decide) : PF GB Tryz.prog 172 [dN a, dN b] (dN (a + b)) := by
 have hla := mapU_len (dg a)
 have hlb := mapU_len (dg b)
 have hba := dg_len_bd ha.h hi
 have hbb := dg_len_bd hb.h hj
 refine fn (fu := ⟨12⟩) Tryz.func172 rfl rfl Tryz.ntmps172 rfl rfl (fun C => ?_)
 obtain ⟨n, hn⟩ : ∃ n, n = max (dg a).length (dg b).length := ⟨_, rfl⟩
 refine eqF 15 (.d (vI (n : Nat))) rfl (by show FX.d (.v (.int _ _)) = .d (.v (.int _ _)); congr 3; split <;> omega) ?_
 refine gx rfl <| mk ((List.replicate (n + 1) 0).map dU) rfl rfl (by rw [← mapU_rep]; rfl) rfl <| ?_
 refine lp (X := List Nat × Nat × Nat) (fun ⟨W, c, i⟩ => [(0, .d (dN a)), (1, .d (dN b)), (5, .d (vI (n : Nat))), (6, .rw 18), (7, .d (.v (.int .u32 (c : Nat)))), (8, .d (vI (i : Nat)))]) (fun ⟨W, c, i⟩ => [(18, some (.b 224 1 (W.map dU) true))]) (fun ⟨W, c, i⟩ => W.length = n + 1 ∧ DOk W ∧ c ≤ 1 ∧ i ≤ n ∧ dv (W.take i) + 4294967296 ^ i * c = dv ((dg a).take i) + dv ((dg b).take i)) (fun ⟨W, c, i⟩ => n - i) ⟨List.replicate (n + 1) 0, 0, 0⟩ rfl ⟨by simp, .replicate _, by omega, by omega, by simp [dv]⟩ (fun _ => rfl) (fun ⟨W, c, i⟩ hk => ?_)
 dsimp only at hk ⊢
 obtain ⟨h1, h2, h3, h4, h5⟩ := hk
 have hlw := mapU_len W
 have hda := dg_lt a i
 have hdb := dg_lt b i
 refine br (fu1 := ⟨11⟩) rfl rfl rfl (fun hc21 => ?_) (fun hc21 => ?_)
 ·
  refine mg (fu := ⟨1⟩) (X := Unit) (fun _ => [(0, .d (dN a)), (1, .d (dN b)), (5, .d (vI (n : Nat))), (6, .rw 18), (7, .d (.v (.int .u32 (c : Nat)))), (8, .d (vI (i : Nat))), (9, .d (dU ((dg a).getD i 0))), (10, .d (.v (.int .u32 0)))]) (fun _ => [(18, some (.b 224 1 (W.map dU) true))]) (fun _ => True) [0, 1, 5, 6, 7, 8, 9, 10] [18] rfl ?_ (fun _ => rfl) (fun _ hm => ?_)
  ·
   refine gx rfl <| ?_
   refine br rfl rfl rfl (fun hc27 => ?_) (fun hc27 => ?_)
   ·
    refine ix _ rfl (mapU_getI (by omega)) rfl <| ?_
    exact at_ () trivial
   ·
    refine eqF 9 (.d (dU ((dg a).getD i 0))) rfl (by rw [getD_out (by omega)]; rfl) ?_
    exact at_ () trivial
  ·
   refine mg (X := Unit) (fun _ => [(0, .d (dN a)), (1, .d (dN b)), (5, .d (vI (n : Nat))), (6, .rw 18), (7, .d (.v (.int .u32 (c : Nat)))), (8, .d (vI (i : Nat))), (9, .d (dU ((dg a).getD i 0))), (10, .d (dU ((dg b).getD i 0)))]) (fun _ => [(18, some (.b 224 1 (W.map dU) true))]) (fun _ => True) [0, 1, 5, 6, 7, 8, 9, 10] [18] rfl ?_ (fun _ => rfl) (fun _ hm => ?_)
   ·
    refine gx rfl <| ?_
    refine br rfl rfl rfl (fun hc35 => ?_) (fun hc35 => ?_)
    ·
     refine ix _ rfl (mapU_getI (by omega)) rfl <| ?_
     exact at_ () trivial
    ·
     refine eqF 10 (.d (dU ((dg b).getD i 0))) rfl (by rw [getD_out (by omega)]; rfl) ?_
     exact at_ () trivial
   ·
    refine cl rfl (q_Add32 (by omega) (by omega) (by omega)) rfl <| sb _ ((W.set i (((dg a).getD i 0 + (dg b).getD i 0 + c) % 4294967296)).map dU) rfl (mapU_getI (by omega)) rfl (by rw [← mapU_set]; rfl) rfl <| ?_
    exact at_ ⟨W.set i (((dg a).getD i 0 + (dg b).getD i 0 + c) % 4294967296), ((dg a).getD i 0 + (dg b).getD i 0 + c) / 4294967296, i + 1⟩ (by dsimp only; exact ⟨⟨by simpa using h1, h2.set _ (by omega), by omega, by omega, sum_inv (by omega) h5⟩, (by omega)⟩)
 ·
  obtain rfl : i = n := by omega
  refine sb _ ((W.set i c).map dU) rfl (mapU_getI (by omega)) rfl (by rw [← mapU_set]; rfl) rfl <| fz 18 rfl rfl <| cl rfl (q_Trim (ds := W.set i c) (by simp; omega)) rfl <| ?_
  exact rz rfl (dL_trim (h2.set _ (by omega)) (sum_end hn h1 h5))
theorem less_inv {A B W : List Nat} {i c d c2 : Nat} (hA : DOk A) (hB : DOk B) (hi : i < W.length) (hc : c ≤ 1) (h : dv (W.take i) + dv (B.take i) = dv (A.take i) + 4294967296 ^ i * c)
   (hd : d = if A.getD i 0 < B.getD i 0 + c then A.getD i 0 + 4294967296 - (B.getD i 0 + c) else A.getD i 0 - (B.getD i 0 + c)) (hc2 : c2 = if A.getD i 0 < B.getD i 0 + c then 1 else 0) :
   dv ((W.set i d).take (i + 1)) + dv (B.take (i + 1)) = dv (A.take (i + 1)) + 4294967296 ^ (i + 1) * c2 := by
 have h1 := hA.get i
 have h2 := hB.get i
 rw [dv_set_take hi, dv_take_succ A, dv_take_succ B, Nat.pow_succ]
 split at hd
 · rename_i q
   rw [if_pos q] at hc2
   subst hc2 hd
   rw [Nat.add_comm (B.getD i 0) c]
   exact sub_yes h (by omega) (by omega)
 · rename_i q
   rw [if_neg q] at hc2
   subst hc2 hd
   rw [Nat.add_comm (B.getD i 0) c]
   exact sub_no h (by omega)
theorem less_end {a b c : Nat} {W : List Nat} (hw : DOk W) (hl : W.length = (dg a).length) (hb : b ≤ a) (h : dv (W.take (dg a).length) + dv ((dg b).take (dg a).length) = dv ((dg a).take (dg a).length) + 4294967296 ^ (dg a).length * c) : dv W = a - b := by
 have hlb : (dg b).length ≤ (dg a).length := by
   rcases Nat.lt_or_ge (dg a).length (dg b).length with q | q
   · have := dv_len_lt (dg_ok a) (dg_spec b).2.2 q
     rw [dv_dg, dv_dg] at this
     omega
   · exact q
 rw [take_all (by omega), take_all hlb, take_all (Nat.le_refl _), dv_dg, dv_dg] at h
 have h2 := dv_lt hw
 rw [hl] at h2
 rcases Nat.eq_zero_or_pos c with q | q
 · subst q; omega
 · have : 4294967296 ^ (dg a).length * 1 ≤ 4294967296 ^ (dg a).length * c := Nat.mul_le_mul_left _ q
   omega
set_option maxHeartbeats 1000000 in
theorem q_Less {GB : Gh} {a b ia : Nat} [ha : BN a ia] (hb : b ≤ a) (hi : ia ≤ 1000000000 := by decide) : PF GB Tryz.prog 173 [dN a, dN b] (dN (a - b)) := by
 have hla := mapU_len (dg a)
 have hlb := mapU_len (dg b)
 have hba := dg_len_bd ha.h hi
 refine fn (fu := ⟨9⟩) Tryz.func173 rfl rfl Tryz.ntmps173 rfl rfl (fun C => ?_)
 refine eqF 10 (.d (vI ((dg a).length : Nat))) rfl (by rw [hla]; rfl) ?_
 refine gx rfl <| mk (fu := ⟨13⟩) ((List.replicate (dg a).length 0).map dU) rfl rfl (by rw [← mapU_rep]; rfl) rfl <| ?_
 refine eqF 13 (.d (vI ((dg a).length : Nat))) rfl (by rw [hla]; rfl) ?_
 refine gx rfl <| ?_
 refine lp (X := List Nat × Nat × Nat) (fun ⟨W, c, i⟩ => [(0, .d (dN a)), (1, .d (dN b)), (5, .rw 11), (6, .d (.v (.int .u32 (c : Nat)))), (13, .d (vI ((dg a).length : Nat))), (14, .d (vI (i : Nat)))]) (fun ⟨W, c, i⟩ => [(11, some (.b 224 1 (W.map dU) true))]) (fun ⟨W, c, i⟩ => W.length = (dg a).length ∧ DOk W ∧ c ≤ 1 ∧ i ≤ (dg a).length ∧ dv (W.take i) + dv ((dg b).take i) = dv ((dg a).take i) + 4294967296 ^ i * c) (fun ⟨W, c, i⟩ => (dg a).length - i) ⟨List.replicate (dg a).length 0, 0, 0⟩ rfl ⟨by simp, .replicate _, by omega, by omega, by simp [dv]⟩ (fun _ => rfl) (fun ⟨W, c, i⟩ hk => ?_)
 dsimp only at hk ⊢
 obtain ⟨h1, h2, h3, h4, h5⟩ := hk
 have hlw := mapU_len W
 have hda := dg_lt a i
 have hdb := dg_lt b i
 refine br (fu1 := ⟨16⟩) rfl rfl rfl (fun hc15 => ?_) (fun hc15 => ?_)
 ·
  refine mg (X := Unit) (fun _ => [(0, .d (dN a)), (1, .d (dN b)), (5, .rw 11), (6, .d (.v (.int .u32 (c : Nat)))), (13, .d (vI ((dg a).length : Nat))), (14, .d (vI (i : Nat))), (7, .d (vI (i : Nat))), (8, .d (dU ((dg b).getD i 0)))]) (fun _ => [(11, some (.b 224 1 (W.map dU) true))]) (fun _ => True) [0, 1, 5, 6, 13, 14, 7, 8] [11] rfl ?_ (fun _ => rfl) (fun _ hm => ?_)
  ·
   refine gx rfl <| ?_
   refine br rfl rfl rfl (fun hc20 => ?_) (fun hc20 => ?_)
   ·
    refine ix _ rfl (mapU_getI (by omega)) rfl <| ?_
    exact at_ () trivial
   ·
    refine eqF 8 (.d (dU ((dg b).getD i 0))) rfl (by rw [getD_out (by omega)]; rfl) ?_
    exact at_ () trivial
  ·
   refine ix _ rfl (mapU_getI (by omega)) rfl <| cl rfl (q_Sub32 (by omega) (by omega) (by omega)) rfl <| sb _ ((W.set i (if (dg a).getD i 0 < (dg b).getD i 0 + c then (dg a).getD i 0 + 4294967296 - ((dg b).getD i 0 + c) else (dg a).getD i 0 - ((dg b).getD i 0 + c))).map dU) rfl (mapU_getI (by omega)) rfl (by rw [← mapU_set]; rfl) rfl <| ?_
   exact at_ ⟨W.set i (if (dg a).getD i 0 < (dg b).getD i 0 + c then (dg a).getD i 0 + 4294967296 - ((dg b).getD i 0 + c) else (dg a).getD i 0 - ((dg b).getD i 0 + c)), (if (dg a).getD i 0 < (dg b).getD i 0 + c then 1 else 0), i + 1⟩ (by dsimp only; exact ⟨⟨by simpa using h1, h2.set _ (by split <;> omega), by split <;> omega, by omega, less_inv (dg_ok a) (dg_ok b) (by omega) h3 h5 rfl rfl⟩, (by omega)⟩)
 ·
  obtain rfl : i = (dg a).length := by omega
  refine fz 11 rfl rfl <| cl rfl (q_Trim (ds := W) (by omega)) rfl <| ?_
  exact rz rfl (dL_trim h2 (less_end h2 h1 hb h5))
end Go.Sx
end

section
set_option maxRecDepth 100000
namespace Go.Sx
open Go Go.Proofs
theorem bv_or (n : Nat) (a b k : Nat) (ha : a < 2 ^ k) (h : a + b * 2 ^ k < 2 ^ n) : (BitVec.ofInt n (a : Int) ||| BitVec.ofInt n ((b * 2 ^ k : Nat) : Int)).toNat = a + b * 2 ^ k := by
 rw [BitVec.toNat_or, BitVec.ofInt_natCast, BitVec.ofInt_natCast, BitVec.toNat_ofNat, BitVec.toNat_ofNat, Nat.mod_eq_of_lt (by omega), Nat.mod_eq_of_lt (by omega)]
 rw [← Nat.shiftLeft_eq, Nat.or_comm, ← Nat.shiftLeft_add_eq_or_of_lt ha, Nat.shiftLeft_eq]
 omega
theorem mul_bd {x y : Nat} (hx : x < 4294967296) (hy : y < 4294967296) : x * y ≤ 18446744065119617025 := by
 have := Nat.mul_le_mul (by omega : x ≤ 4294967295) (by omega : y ≤ 4294967295)
 exact this
theorem mul_lo (x y : Nat) : (0 : Int) ≤ (x : Int) * (y : Int) := by rw [← Int.natCast_mul]; omega
theorem mul_hi {x y : Nat} (hx : x < 4294967296) (hy : y < 4294967296) : (x : Int) * (y : Int) ≤ 18446744073709551615 := by
 have := mul_bd hx hy
 rw [← Int.natCast_mul]; omega
theorem dv_one {ds : List Nat} (h : ds.length = 1) : dv ds = ds.getD 0 0 := by
 match ds, h with
 | [d], _ => simp [dv]
theorem dg_one_digit {a : Nat} (h : (dg a).length = 1) : (dg a).getD 0 0 = a := by rw [← dv_one h, dv_dg]
theorem getD_take {ds : List Nat} {j m : Nat} (h : j < m) : (ds.take m).getD j 0 = ds.getD j 0 := by
 rw [List.getD_eq_getElem?_getD, List.getD_eq_getElem?_getD, List.getElem?_take, if_pos h]
theorem dv_set_in {W : List Nat} {j m d : Nat} (hj : j < m) (hm : m ≤ W.length) : dv ((W.set j d).take m) + 4294967296 ^ j * W.getD j 0 = dv (W.take m) + 4294967296 ^ j * d := by
 rw [List.take_set, ← getD_take (ds := W) hj]
 exact dv_set _ _ _ (by rw [List.length_take]; omega)
theorem prod_inv {W : List Nat} {P X Y m i k c y t S : Nat} (hk : i + k < m) (hm : m ≤ W.length) (h : dv (W.take m) + 4294967296 ^ (i + k) * c = P + X * (4294967296 ^ i * S)) (ht : t = Y + W.getD (i + k) 0 + c) (hY : Y = X * y) :
  dv ((W.set (i + k) (t % 4294967296)).take m) + 4294967296 ^ (i + (k + 1)) * (t / 4294967296) = P + X * (4294967296 ^ i * (S + 4294967296 ^ k * y)) := by
 have h1 := dv_set_in (W := W) (d := t % 4294967296) hk hm
 rw [ht, show Y + W.getD (i + k) 0 + c = c + Y + W.getD (i + k) 0 by omega] at h1 ⊢
 have h2 := mul_step h1 h
 rw [← Nat.add_assoc, Nat.pow_succ, h2, hY, Nat.pow_add]
 simp only [Nat.mul_add, Nat.mul_assoc, Nat.mul_left_comm, Nat.mul_comm, Nat.add_assoc]
theorem prod_end {a b : Nat} {W : List Nat} {i c lb : Nat} (hlb : lb = (dg b).length) (hl : i + lb < W.length) (h : dv (W.take (i + lb)) + 4294967296 ^ (i + lb) * c = dv ((dg a).take i) * b + (dg a).getD i 0 * (4294967296 ^ i * dv ((dg b).take lb))) :
  dv ((W.set (i + lb) c).take (i + 1 + lb)) = dv ((dg a).take (i + 1)) * b := by
 rw [show i + 1 + lb = i + lb + 1 by omega, dv_set_take hl, h, dv_take_succ, take_all (ds := dg b) (by omega), dv_dg b, Nat.add_mul]
 simp only [Nat.mul_assoc, Nat.mul_left_comm, Nat.mul_comm]
theorem rep_getD (n j : Nat) : (List.replicate n 0).getD j 0 = 0 := by
 rw [List.getD_eq_getElem?_getD, List.getElem?_replicate]
 split <;> rfl
theorem quo32 {k : Nat} (h : k ≤ 1000000000) : IntKind.i64.wrap ((k : Int).tdiv 32) = ((k / 32 : Nat) : Int) := by
 rw [show (k : Int).tdiv 32 = ((k / 32 : Nat) : Int) from rfl, wrap_i64]; omega
theorem rem32 (k : Nat) : (k : Int).tmod 32 = ((k % 32 : Nat) : Int) := rfl
set_option maxHeartbeats 2000000 in
theorem q_Product {GB : Gh} {a b ia ib : Nat} [ha : BN a ia] [hb : BN b ib] (hi : ia ≤ 1000000000 := by decide) (hj : ib ≤ 1000000000 := by decide) : PF GB Tryz.prog 91 [dN a, dN b] (dN (a * b)) := by
 have hla := mapU_len (dg a)
 have hlb := mapU_len (dg b)
 have hba := dg_len_bd ha.h hi
 have hbb := dg_len_bd hb.h hj
 refine fn (fu := ⟨6⟩) Tryz.func91 rfl rfl Tryz.ntmps91 rfl rfl (fun C => ?_)
 refine mg (fu := ⟨4⟩) (X := Unit) (fun _ => [(0, .d (dN a)), (1, .d (dN b))]) (fun _ => []) (fun _ => True) [0, 1] [] rfl ?_ (fun _ => rfl) (fun _ hm => ?_)
 ·
  refine gx rfl <| ?_
  refine cs 15 rfl rfl rfl (fun hg15 => ?_) (fun hg15 => ?_)
  ·
   refine br rfl rfl rfl (fun hc19 => ?_) (fun hc19 => ?_)
   ·
    have hd0 := dg_lt a 0
    have hd1 := dg_lt b 0
    refine ix _ rfl (mapU_getZ (k := 0) rfl (by omega)) rfl <| ix (hv := by simp only [allP]; exact ⟨by omega, ⟨(mul_lo _ _), (mul_hi (dg_lt _ _) (dg_lt _ _))⟩⟩) _ rfl (mapU_getZ (k := 0) rfl (by omega)) rfl <| cl rfl (q_Word (u := (dg a).getD 0 0 * (dg b).getD 0 0) (by have := mul_bd (dg_lt a 0) (dg_lt b 0); omega)) rfl <| ?_
    exact rz rfl (by rw [dg_one_digit (by omega), dg_one_digit (by omega)]; rfl)
   ·
    exact at_ () trivial
  ·
   exact at_ () trivial
 ·
  refine eqF 31 (.d (vI ((dg a).length : Nat))) rfl (by rw [hla]; rfl) ?_
  refine gx (fu := ⟨2⟩) rfl <| ?_
  refine eqF 33 (.d (vI ((dg b).length : Nat))) rfl (by rw [hlb]; rfl) ?_
  refine gx rfl <| mk (fu := ⟨8⟩) ((List.replicate ((dg a).length + (dg b).length) 0).map dU) rfl rfl (by rw [← mapU_rep]; rfl) rfl <| ?_
  refine eqF 37 (.d (vI ((dg a).length : Nat))) rfl (by rw [hla]; rfl) ?_
  refine gx rfl <| ?_
  refine lp (X := List Nat × Nat) (fun ⟨W, i⟩ => [(0, .d (dN a)), (1, .d (dN b)), (5, .rw 35), (36, .d (dN a)), (37, .d (vI ((dg a).length : Nat))), (38, .d (vI (i : Nat)))]) (fun ⟨W, i⟩ => [(35, some (.b 224 1 (W.map dU) true))]) (fun ⟨W, i⟩ => W.length = (dg a).length + (dg b).length ∧ DOk W ∧ i ≤ (dg a).length ∧ dv (W.take (i + (dg b).length)) = dv ((dg a).take i) * b) (fun ⟨W, i⟩ => (dg a).length - i) ⟨List.replicate ((dg a).length + (dg b).length) 0, 0⟩ rfl ⟨by simp, .replicate _, by omega, by rw [List.take_replicate, dv_replicate]; simp [dv]⟩ (fun _ => rfl) (fun ⟨W, i⟩ hk => ?_)
  dsimp only at hk ⊢
  obtain ⟨h1, h2, h3, h4⟩ := hk
  refine br rfl rfl rfl (fun hc39 => ?_) (fun hc39 => ?_)
  ·
   refine ix (fu := ⟨15⟩) _ rfl (mapU_getI (by omega)) rfl <| ?_
   refine eqF 44 (.d (vI ((dg b).length : Nat))) rfl (by rw [hlb]; rfl) ?_
   refine gx rfl <| ?_
   refine lp (X := List Nat × Nat × Nat) (fun ⟨W2, c, k⟩ => [(0, .d (dN a)), (1, .d (dN b)), (5, .rw 35), (6, .d (vI (i : Nat))), (7, .d (dU ((dg a).getD i 0))), (8, .d (.v (.int .u64 (c : Nat)))), (36, .d (dN a)), (37, .d (vI ((dg a).length : Nat))), (38, .d (vI (i : Nat))), (43, .d (dN b)), (44, .d (vI ((dg b).length : Nat))), (45, .d (vI (k : Nat)))]) (fun ⟨W2, c, k⟩ => [(35, some (.b 224 1 (W2.map dU) true))]) (fun ⟨W2, c, k⟩ => W2.length = (dg a).length + (dg b).length ∧ DOk W2 ∧ c < 4294967296 ∧ k ≤ (dg b).length ∧ dv (W2.take (i + (dg b).length)) + 4294967296 ^ (i + k) * c = dv ((dg a).take i) * b + (dg a).getD i 0 * (4294967296 ^ i * dv ((dg b).take k))) (fun ⟨W2, c, k⟩ => (dg b).length - k) ⟨W, 0, 0⟩ rfl ⟨h1, h2, by omega, by omega, by rw [h4]; simp [dv]⟩ (fun _ => rfl) (fun ⟨W2, c, k⟩ hk => ?_)
   dsimp only at hk ⊢
   obtain ⟨g1, g2, g3, g4, g5⟩ := hk
   have hlw := mapU_len W2
   have hw := g2.get (i + k)
   have hda := dg_lt a i
   have hdb := dg_lt b k
   refine br (fu2 := ⟨10⟩) rfl rfl rfl (fun hc46 => ?_) (fun hc46 => ?_)
   ·
    refine ix (fu := ⟨12⟩) (hv := by simp only [allP]; exact ⟨⟨by omega, by omega⟩, ⟨(mul_lo _ _), (mul_hi (dg_lt _ _) (dg_lt _ _))⟩⟩) _ rfl (mapU_getI (by omega)) rfl <| ?_
    obtain ⟨p, hp⟩ : ∃ p, p = (dg a).getD i 0 * (dg b).getD k 0 := ⟨_, rfl⟩
    have hp1 : p ≤ 18446744065119617025 := hp ▸ mul_bd hda hdb
    refine eqF 54 (.d (.v (.int .u64 (p : Nat)))) rfl (by rw [hp, Int.natCast_mul]) ?_
    refine gx rfl <| lb (fu := ⟨4⟩) _ rfl (mapU_getZ (k := i + k) (by omega) (by omega)) rfl <| ?_
    obtain ⟨t, ht⟩ : ∃ t, t = p + W2.getD (i + k) 0 + c := ⟨_, rfl⟩
    refine eqF 64 (.d (.v (.int .u64 (t : Nat)))) rfl (by congr 3; omega) ?_
    refine gx (fu := ⟨11⟩) rfl <| ?_
    refine eqF 70 (.d (dU (t % 4294967296))) rfl (by show FX.d (.v (.int _ _)) = .d (.v (.int _ _)); congr 3) ?_
    refine gx rfl <| sb (fu := ⟨5⟩) (hv := by simp only [allP]; exact (by decide)) _ ((W2.set (i + k) (t % 4294967296)).map dU) rfl (mapU_getZ (k := i + k) (by omega) (by omega)) rfl (by (rw [show ((i : Int) + k).toNat = i + k by omega, ← mapU_set]) <;> rfl) rfl <| ?_
    refine eqF 73 (.d (.v (.int .u64 (t / 4294967296 : Nat)))) rfl (by rw [fdiv32]) ?_
    refine gx rfl <| ?_
    exact at_ ⟨W2.set (i + k) (t % 4294967296), t / 4294967296, k + 1⟩ (by dsimp only; exact ⟨⟨by simpa using g1, g2.set _ (by omega), by omega, by omega, by rw [dv_take_succ]; exact prod_inv (by omega) (by omega) g5 ht hp⟩, (by omega)⟩)
   ·
    obtain rfl : k = (dg b).length := by omega
    refine eqF 78 (.d (vI ((dg b).length : Nat))) rfl (by rw [hlb]; rfl) ?_
    refine gx (fu := ⟨3⟩) rfl <| ?_
    refine eqF 81 (.d (dU c)) rfl (by show FX.d (.v (.int _ _)) = .d (.v (.int _ _)); congr 3; omega) ?_
    refine gx rfl <| sb _ ((W2.set (i + (dg b).length) c).map dU) rfl (mapU_getZ (k := i + (dg b).length) (by omega) (by omega)) rfl (by (rw [show ((i : Int) + ((dg b).length : Nat)).toNat = i + (dg b).length by omega, ← mapU_set]) <;> rfl) rfl <| ?_
    exact at_ ⟨W2.set (i + (dg b).length) c, i + 1⟩ (by dsimp only; exact ⟨⟨by simpa using g1, g2.set _ g3, by omega, prod_end rfl (by omega) g5⟩, (by omega)⟩)
  ·
   obtain rfl : i = (dg a).length := by omega
   refine fz 35 rfl rfl <| cl rfl (q_Trim (ds := W) (by omega)) rfl <| ?_
   exact rz rfl (dL_trim h2 (by have := h4; rw [take_all (by omega), take_all (by omega), dv_dg] at this; exact this))
theorem left_parts (x s : Nat) : x * 2 ^ s = x * 2 ^ s % 4294967296 + 4294967296 * (x * 2 ^ s / 4294967296) := by omega
theorem left_hi {x s : Nat} (hx : x < 4294967296) (hs : s < 32) : x * 2 ^ s / 4294967296 < 2 ^ s := by
 rw [Nat.div_lt_iff_lt_mul (by decide), Nat.mul_comm (2 ^ s)]
 exact Nat.mul_lt_mul_of_lt_of_le hx (Nat.le_refl _) (Nat.pow_pos (by decide))
theorem pow32s {s : Nat} (hs : s < 32) : 2 ^ s * 2 ^ (32 - s) = 4294967296 := by rw [← Nat.pow_add, show s + (32 - s) = 32 by omega]
theorem left_lo (x s : Nat) (hs : s < 32) : x * 2 ^ s % 4294967296 = x % 2 ^ (32 - s) * 2 ^ s := by
 rw [← pow32s hs, Nat.mul_comm (2 ^ s), Nat.mul_mod_mul_right]
theorem left_fit {x s : Nat} (hx : x < 4294967296) (hs : s < 32) : x * 2 ^ s < 18446744073709551616 := by
 have h1 : 2 ^ s ≤ 2 ^ 31 := Nat.pow_le_pow_right (by decide) (by omega)
 have := Nat.mul_lt_mul_of_lt_of_le hx h1 (by decide)
 omega
theorem left_or {w x s : Nat} (hw : w < 2 ^ s) (hs : s < 32) : (BitVec.ofInt 32 (w : Int) ||| BitVec.ofInt 32 ((x * 2 ^ s % 4294967296 : Nat) : Int)).toNat = w + x * 2 ^ s % 4294967296 := by
 rw [left_lo x s hs]
 refine bv_or 32 _ _ _ hw ?_
 have h1 : x % 2 ^ (32 - s) + 1 ≤ 2 ^ (32 - s) := Nat.mod_lt _ (Nat.pow_pos (by decide))
 have h2 := Nat.mul_le_mul_right (2 ^ s) h1
 rw [Nat.mul_comm (2 ^ (32 - s)), pow32s hs, Nat.add_mul, Nat.one_mul] at h2
 show _ < 4294967296
 omega
theorem or_zero32 {h : Nat} (hh : h < 4294967296) : (BitVec.ofInt 32 ((0 : Nat) : Int) ||| BitVec.ofInt 32 (h : Int)).toNat = h := by
 have := bv_or 32 0 h 0 (by decide) (by simpa using hh)
 simpa using this
theorem pow32k (k : Nat) : 2 ^ k = 4294967296 ^ (k / 32) * 2 ^ (k % 32) := by
 rw [show (4294967296 : Nat) = 2 ^ 32 from rfl, ← Nat.pow_mul, ← Nat.pow_add, Nat.div_add_mod]
theorem getD_set_ne {W : List Nat} {i j d : Nat} (h : i ≠ j) : (W.set i d).getD j 0 = W.getD j 0 := by
 rw [List.getD_eq_getElem?_getD, List.getD_eq_getElem?_getD, List.getElem?_set_ne h]
theorem getD_set_eq {W : List Nat} {i d : Nat} (h : i < W.length) : (W.set i d).getD i 0 = d := by
 rw [List.getD_eq_getElem?_getD, List.getElem?_set_self h]; rfl
theorem left_inv {A W : List Nat} {k q s i x : Nat} (hq : q = k / 32) (hs : s = k % 32) (hl : q + i + 1 < W.length) (hx : x = A.getD i 0)
  (h : dv (W.take (q + i + 1)) = dv (A.take i) * 2 ^ k) :
  dv (((W.set (q + i) (W.getD (q + i) 0 + x * 2 ^ s % 4294967296)).set (q + i + 1) (x * 2 ^ s / 4294967296)).take (q + (i + 1) + 1)) = dv (A.take (i + 1)) * 2 ^ k := by
 have e1 := dv_set_in (W := W) (j := q + i) (m := q + i + 1) (d := W.getD (q + i) 0 + x * 2 ^ s % 4294967296) (by omega) (by omega)
 rw [show q + (i + 1) + 1 = q + i + 1 + 1 by omega, dv_set_take (by rw [List.length_set]; omega), dv_take_succ A, ← hx]
 have e2 : dv ((W.set (q + i) (W.getD (q + i) 0 + x * 2 ^ s % 4294967296)).take (q + i + 1)) = dv (A.take i) * 2 ^ k + 4294967296 ^ (q + i) * (x * 2 ^ s % 4294967296) := by
  rw [Nat.mul_add, h] at e1; omega
 rw [e2, Nat.pow_succ, Nat.mul_assoc, Nat.add_assoc, ← Nat.mul_add, ← left_parts, Nat.add_mul, pow32k k, ← hq, ← hs, Nat.pow_add]
 simp only [Nat.mul_assoc, Nat.mul_left_comm, Nat.mul_comm]
set_option maxHeartbeats 2000000 in
theorem q_Left {GB : Gh} {a k ia : Nat} [ha : BN a ia] (hk : k ≤ 1000000000) (hi : ia ≤ 1000000000 := by decide) : PF GB Tryz.prog 203 [dN a, vI (k : Nat)] (dN (a * 2 ^ k)) := by
 have hla := mapU_len (dg a)
 have hba := dg_len_bd ha.h hi
 refine fn (fu := ⟨9⟩) Tryz.func203 rfl rfl Tryz.ntmps203 rfl rfl (fun C => ?_)
 refine eqF 11 (.d (vI (k / 32 : Nat))) rfl (by show FX.d (.v (.int _ _)) = .d (.v (.int _ _)); rw [quo32 hk]) ?_
 refine gx (fu := ⟨2⟩) rfl <| ?_
 refine eqF 13 (.d (vI ((dg a).length : Nat))) rfl (by rw [hla]; rfl) ?_
 refine gx (fu := ⟨2⟩) rfl <| ?_
 refine eqF 15 (.d (vI (k / 32 + (dg a).length + 1 : Nat))) rfl (by show FX.d (.v (.int _ _)) = .d (.v (.int _ _)); congr 3) ?_
 refine gx rfl <| mk (fu := ⟨7⟩) (hv := by simp only [allP]; exact (by decide)) ((List.replicate (k / 32 + (dg a).length + 1) 0).map dU) rfl rfl (by rw [← mapU_rep]; rfl) rfl <| ?_
 refine eqF 18 (.d (vI (k % 32 : Nat))) rfl (by show FX.d (.v (.int _ _)) = .d (.v (.int _ _)); rw [rem32]) ?_
 refine gx (fu := ⟨9⟩) rfl <| ?_
 refine eqF 21 (.d (vI ((dg a).length : Nat))) rfl (by rw [hla]; rfl) ?_
 refine gx rfl <| ?_
 refine lp (X := List Nat × Nat) (fun ⟨W, i⟩ => [(0, .d (dN a)), (1, .d (vI (k : Nat))), (5, .rw 16), (6, .d (.v (.int .u64 (k % 32 : Nat)))), (20, .d (dN a)), (21, .d (vI ((dg a).length : Nat))), (22, .d (vI (i : Nat)))]) (fun ⟨W, i⟩ => [(16, some (.b 224 1 (W.map dU) true))]) (fun ⟨W, i⟩ => W.length = k / 32 + (dg a).length + 1 ∧ DOk W ∧ i ≤ (dg a).length ∧ dv (W.take (k / 32 + i + 1)) = dv ((dg a).take i) * 2 ^ k ∧ W.getD (k / 32 + i) 0 < 2 ^ (k % 32) ∧ ∀ j, k / 32 + i < j → W.getD j 0 = 0) (fun ⟨W, i⟩ => (dg a).length - i) ⟨List.replicate (k / 32 + (dg a).length + 1) 0, 0⟩ rfl ⟨by simp, .replicate _, by omega, by rw [List.take_replicate, dv_replicate]; simp [dv], by rw [rep_getD]; exact Nat.pow_pos (by decide), fun j _ => rep_getD _ _⟩ (fun _ => rfl) (fun ⟨W, i⟩ hk => ?_)
 dsimp only at hk ⊢
 obtain ⟨h1, h2, h3, h4, h5, h6⟩ := hk
 have hlw := mapU_len W
 have hda := dg_lt a i
 have hsk : k % 32 < 32 := Nat.mod_lt _ (by decide)
 have hpp : 2 ^ (k % 32) ≤ 2 ^ 31 := Nat.pow_le_pow_right (by decide) (by omega)
 refine br rfl rfl rfl (fun hc23 => ?_) (fun hc23 => ?_)
 ·
  refine ix (fu := ⟨11⟩) (hv := by simp only [allP]; exact ⟨by omega, (by omega)⟩) _ rfl (mapU_getI (by omega)) rfl <| ?_
  have hhi := left_hi hda hsk
  have hfit0 := left_fit hda hsk
  have hor := left_or (x := (dg a).getD i 0) h5 hsk
  have hfit : W.getD (k / 32 + i) 0 + (dg a).getD i 0 * 2 ^ (k % 32) % 4294967296 < 4294967296 := by rw [← hor]; exact BitVec.isLt _
  have hlp := left_parts ((dg a).getD i 0) (k % 32)
  refine eqF 30 (.d (.v (.int .u64 ((dg a).getD i 0 * 2 ^ (k % 32) : Nat)))) rfl (by show FX.d (.v (.int _ _)) = .d (.v (.int _ _)); rw [shl_u64 _ (k % 32) (by omega) hfit0 (by omega)]) ?_
  obtain ⟨t, ht⟩ : ∃ t, t = (dg a).getD i 0 * 2 ^ (k % 32) := ⟨_, rfl⟩
  simp only [← ht] at hhi hfit0 hor hfit hlp
  rw [← ht]
  refine gx (fu := ⟨8⟩) rfl <| ?_
  refine eqF 33 (.d (vI (k / 32 : Nat))) rfl (by show FX.d (.v (.int _ _)) = .d (.v (.int _ _)); rw [quo32 hk]) ?_
  refine gx rfl <| lb (fu := ⟨2⟩) _ rfl (mapU_getZ (k := k / 32 + i) (by omega) (by omega)) rfl <| ?_
  refine eqF 39 (.d (dU (t % 4294967296))) rfl (by show FX.d (.v (.int _ _)) = .d (.v (.int _ _)); congr 3) ?_
  refine gx (fu := ⟨1⟩) rfl <| ?_
  refine eqF 40 _ rfl (congrArg (fun z : Nat => FX.d (.v (.int .u32 (z : Int)))) hor) ?_
  refine gx rfl <| sb (fu := ⟨6⟩) _ ((W.set (k / 32 + i) (W.getD (k / 32 + i) 0 + t % 4294967296)).map dU) rfl (mapU_getZ (k := k / 32 + i) (by omega) (by omega)) rfl (by (rw [show (((k / 32 : Nat) : Int) + i).toNat = k / 32 + i by omega]; simp only [List.map_set]; rfl) <;> rfl) rfl <| ?_
  refine eqF 44 (.d (vI (k / 32 : Nat))) rfl (by show FX.d (.v (.int _ _)) = .d (.v (.int _ _)); rw [quo32 hk]) ?_
  refine gx rfl <| lb (fu := ⟨0⟩) _ rfl (mapU_getZ (k := k / 32 + i + 1) (by omega) (by rw [List.length_set]; omega)) rfl <| ?_
  refine eqF 49 (.d (dU 0)) rfl (by rw [getD_set_ne (by omega), h6 _ (by omega)]) ?_
  refine gx (fu := ⟨2⟩) (hv := by simp only [allP]; exact (by decide)) rfl <| ?_
  refine eqF 51 (.d (.v (.int .u64 (t / 4294967296 : Nat)))) rfl (by rw [fdiv32]) ?_
  refine gx (fu := ⟨1⟩) rfl <| ?_
  refine eqF 52 (.d (dU (t / 4294967296))) rfl (by show FX.d (.v (.int _ _)) = .d (.v (.int _ _)); congr 3; omega) ?_
  refine gx (fu := ⟨1⟩) rfl <| ?_
  refine eqF 53 _ rfl (congrArg (fun z : Nat => FX.d (.v (.int .u32 (z : Int)))) (or_zero32 (by omega))) ?_
  refine gx rfl <| sb _ (((W.set (k / 32 + i) (W.getD (k / 32 + i) 0 + t % 4294967296)).set (k / 32 + i + 1) (t / 4294967296)).map dU) rfl (mapU_getZ (k := k / 32 + i + 1) (by omega) (by rw [List.length_set]; omega)) rfl (by (rw [show (((k / 32 : Nat) : Int) + i + 1).toNat = k / 32 + i + 1 by omega]; simp only [List.map_set]; rfl) <;> rfl) rfl <| ?_
  exact at_ ⟨(W.set (k / 32 + i) (W.getD (k / 32 + i) 0 + t % 4294967296)).set (k / 32 + i + 1) (t / 4294967296), i + 1⟩ (by dsimp only; exact ⟨⟨by simpa using h1, (h2.set _ hfit).set _ (by omega), by omega, by have q := left_inv (x := (dg a).getD i 0) rfl rfl (by omega) rfl h4; rw [← ht] at q; exact q, by rw [show k / 32 + (i + 1) = k / 32 + i + 1 by omega, getD_set_eq (by simp; omega)]; exact hhi, fun j hj => by rw [getD_set_ne (by omega), getD_set_ne (by omega)]; exact h6 j (by omega)⟩, (by omega)⟩)
 ·
  obtain rfl : i = (dg a).length := by omega
  refine fz 16 rfl rfl <| cl rfl (q_Trim (ds := W) (by omega)) rfl <| ?_
  exact rz rfl (dL_trim h2 (by have := h4; rw [take_all (by omega), take_all (by omega), dv_dg] at this; exact this))
theorem right_zero {a k : Nat} (h : (dg a).length ≤ k / 32) : a / 2 ^ k = 0 := by
 refine Nat.div_eq_of_lt ?_
 have h1 := dv_lt (dg_ok a)
 rw [dv_dg] at h1
 have h2 : 4294967296 ^ (dg a).length ≤ 4294967296 ^ (k / 32) := Nat.pow_le_pow_right (by decide) h
 have h3 : 4294967296 ^ (k / 32) * 1 ≤ 4294967296 ^ (k / 32) * 2 ^ (k % 32) := Nat.mul_le_mul_left _ (Nat.pow_pos (by decide))
 rw [pow32k k]
 omega
theorem dv_dropD {ds : List Nat} (h : DOk ds) (q : Nat) : dv (ds.drop q) = dv ds / 4294967296 ^ q := by
 rcases Nat.lt_or_ge ds.length q with hq | hq
 · rw [List.drop_eq_nil_of_le (by omega)]
   have h1 := dv_lt h
   have h2 : 4294967296 ^ ds.length ≤ 4294967296 ^ q := Nat.pow_le_pow_right (by decide) (by omega)
   rw [Nat.div_eq_of_lt (by omega)]; rfl
 · have e := dv_split ds q hq
   have h1 := dv_lt (h.take q)
   rw [List.length_take, Nat.min_eq_left hq] at h1
   rw [e, Nat.add_mul_div_left _ _ (Nat.pow_pos (by decide)), Nat.div_eq_of_lt h1, Nat.zero_add]
theorem dv_two {ds : List Nat} (h : DOk ds) (i : Nat) : dv ds / 4294967296 ^ i = ds.getD i 0 + 4294967296 * ds.getD (i + 1) 0 + 18446744073709551616 * (dv ds / 4294967296 ^ (i + 2)) := by
 have e0 := dv_dropD h i
 have e2 := dv_dropD h (i + 2)
 rw [← e0, ← e2]
 have g0 : ds.getD i 0 = (ds.drop i).getD 0 0 := by rw [List.getD_eq_getElem?_getD, List.getD_eq_getElem?_getD, List.getElem?_drop]; rfl
 have g1 : ds.getD (i + 1) 0 = (ds.drop i).getD 1 0 := by rw [List.getD_eq_getElem?_getD, List.getD_eq_getElem?_getD, List.getElem?_drop]
 have g2 : ds.drop (i + 2) = (ds.drop i).drop 2 := by rw [List.drop_drop]
 rw [g0, g1, g2]
 match ds.drop i with
 | [] => rfl
 | [u] => simp [dv]
 | u :: v :: t => simp only [dv, List.getD_cons_zero, List.getD_cons_succ, List.drop_succ_cons, List.drop_zero]; omega
theorem right_step {D s i u v w Z : Nat} (hs : s < 32) (hZ : D / 4294967296 ^ i = u + 4294967296 * v + 18446744073709551616 * Z) (hw : w = (u + v * 4294967296) / 2 ^ s % 4294967296) : (D / 2 ^ s) % 4294967296 ^ (i + 1) = (D / 2 ^ s) % 4294967296 ^ i + 4294967296 ^ i * w := by
 rw [Nat.pow_succ, Nat.mod_mul]
 congr 2
 rw [Nat.div_div_eq_div_mul, Nat.mul_comm (2 ^ s), ← Nat.div_div_eq_div_mul, hZ, hw]
 have h1 : 18446744073709551616 = 2 ^ s * (2 ^ (32 - s) * 4294967296) := by rw [← Nat.mul_assoc, pow32s hs]
 rw [h1, Nat.mul_assoc (2 ^ s), Nat.add_mul_div_left _ _ (Nat.pow_pos (by decide)), Nat.mul_comm v]
 rw [Nat.mul_comm (2 ^ (32 - s)), Nat.mul_assoc, Nat.add_mul_mod_self_left]
theorem right_end {a k : Nat} {W : List Nat} {q s : Nat} (hq : q = k / 32) (hs : s = k % 32) (hl : W.length = (dg a).length - q) (h : dv (W.take ((dg a).length - q)) = (dv ((dg a).drop q) / 2 ^ s) % 4294967296 ^ ((dg a).length - q)) : dv W = a / 2 ^ k := by
 rw [take_all (by omega)] at h
 have h1 := dv_lt ((dg_ok a).drop q)
 rw [List.length_drop] at h1
 have h2 := Nat.div_le_self (dv ((dg a).drop q)) (2 ^ s)
 rw [h, Nat.mod_eq_of_lt (by omega), dv_dropD (dg_ok a), dv_dg, pow32k k, ← hq, ← hs, Nat.div_div_eq_div_mul]
set_option maxHeartbeats 2000000 in
theorem q_Right {GB : Gh} {a k ia : Nat} [ha : BN a ia] (hk : k ≤ 1000000000) (hi : ia ≤ 1000000000 := by decide) : PF GB Tryz.prog 204 [dN a, vI (k : Nat)] (dN (a / 2 ^ k)) := by
 have hla := mapU_len (dg a)
 have hba := dg_len_bd ha.h hi
 refine fn (fu := ⟨10⟩) Tryz.func204 rfl rfl Tryz.ntmps204 rfl rfl (fun C => ?_)
 refine eqF 12 (.d (vI (k / 32 : Nat))) rfl (by show FX.d (.v (.int _ _)) = .d (.v (.int _ _)); rw [quo32 hk]) ?_
 refine gx (fu := ⟨2⟩) rfl <| ?_
 refine eqF 14 (.d (vI ((dg a).length : Nat))) rfl (by rw [hla]; rfl) ?_
 refine gx rfl <| ?_
 refine br (fu2 := ⟨6⟩) (v2 := fun _ => by simp only [allP]; exact (by decide)) rfl rfl rfl (fun hc15 => ?_) (fun hc15 => ?_)
 ·
  exact rz rfl (by rw [right_zero (by omega), dN_zero]; rfl)
 ·
  refine eqF 17 (.d (vI (k % 32 : Nat))) rfl (by show FX.d (.v (.int _ _)) = .d (.v (.int _ _)); rw [rem32]) ?_
  refine gx (fu := ⟨9⟩) rfl <| ?_
  refine eqF 21 (.d (vI (k / 32 : Nat))) rfl (by show FX.d (.v (.int _ _)) = .d (.v (.int _ _)); rw [quo32 hk]) ?_
  refine gx rfl <| sc' (fu := ⟨0⟩) (k / 32) (dg a).length _ rfl rfl (by rw [hla]) rfl (slOkU _) (by omega) (by omega) rfl <| ?_
  obtain ⟨I, hI⟩ : ∃ I, I = (dg a).drop (k / 32) := ⟨_, rfl⟩
  have hIl : I.length = (dg a).length - k / 32 := by rw [hI, List.length_drop]
  have hIm := mapU_len I
  have hIo : DOk I := hI ▸ (dg_ok a).drop _
  refine eqF 22 (.d (dLi I)) rfl (by show FX.d (.sl _) = .d (.sl _); rw [hI, ← hla, List.take_length, List.map_drop]) ?_
  refine gx (fu := ⟨7⟩) rfl <| ?_
  refine eqF 24 (.d (vI (I.length : Nat))) rfl (by rw [hIm]; rfl) ?_
  refine gx rfl <| mk (fu := ⟨8⟩) ((List.replicate I.length 0).map dU) rfl rfl (by rw [← mapU_rep]; rfl) rfl <| ?_
  refine eqF 27 (.d (vI (I.length : Nat))) rfl (by rw [hIm]; rfl) ?_
  refine gx rfl <| ?_
  refine lp (X := List Nat × Nat) (fun ⟨W, i⟩ => [(0, .d (dN a)), (5, .d (.v (.int .u64 (k % 32 : Nat)))), (6, .d (dLi I)), (7, .rw 25), (26, .d (dLi I)), (27, .d (vI (I.length : Nat))), (28, .d (vI (i : Nat)))]) (fun ⟨W, i⟩ => [(25, some (.b 224 1 (W.map dU) true))]) (fun ⟨W, i⟩ => W.length = I.length ∧ DOk W ∧ i ≤ I.length ∧ dv (W.take i) = (dv I / 2 ^ (k % 32)) % 4294967296 ^ i) (fun ⟨W, i⟩ => I.length - i) ⟨List.replicate I.length 0, 0⟩ rfl ⟨by simp, .replicate _, by omega, by simp [dv, Nat.mod_one]⟩ (fun _ => rfl) (fun ⟨W, i⟩ hk => ?_)
  dsimp only at hk ⊢
  obtain ⟨h1, h2, h3, h4⟩ := hk
  have hlw := mapU_len W
  have hda := hIo.get i
  have hdb := hIo.get (i + 1)
  have hsk : k % 32 < 32 := Nat.mod_lt _ (by decide)
  refine br rfl rfl rfl (fun hc29 => ?_) (fun hc29 => ?_)
  ·
   refine ix (fu := ⟨13⟩) _ rfl (mapU_getI (by omega)) rfl <| ?_
   refine mg (fu := ⟨6⟩) (hv := fun _ _ => by simp only [allP]; exact (by omega)) (X := Unit) (fun _ => [(0, .d (dN a)), (5, .d (.v (.int .u64 (k % 32 : Nat)))), (6, .d (dLi I)), (7, .rw 25), (26, .d (dLi I)), (27, .d (vI (I.length : Nat))), (28, .d (vI (i : Nat))), (8, .d (vI (i : Nat))), (10, .d (.v (.int .u64 (I.getD i 0 + I.getD (i + 1) 0 * 4294967296 : Nat))))]) (fun _ => [(25, some (.b 224 1 (W.map dU) true))]) (fun _ => True) [0, 5, 6, 7, 26, 27, 28, 8, 10] [25] rfl ?_ (fun _ => rfl) (fun _ hm => ?_)
   ·
    refine gx (fu := ⟨6⟩) rfl <| ?_
    refine eqF 38 (.d (vI (I.length : Nat))) rfl (by rw [hIm]; rfl) ?_
    refine gx rfl <| ?_
    refine br rfl rfl rfl (fun hc39 => ?_) (fun hc39 => ?_)
    ·
     refine ix (fu := ⟨3⟩) (hv := by simp only [allP]; exact ⟨by omega, (by decide)⟩) _ rfl (mapU_getZ (k := i + 1) (by omega) (by omega)) rfl <| ?_
     refine eqF 47 (.d (.v (.int .u64 (I.getD (i + 1) 0 * 4294967296 : Nat)))) rfl (by show FX.d (.v (.int _ _)) = .d (.v (.int _ _)); rw [shl_u64 _ 32 (by decide) (by show _ * 4294967296 < _; omega) rfl]) ?_
     refine gx (fu := ⟨1⟩) rfl <| ?_
     refine eqF 48 _ rfl (congrArg (fun z : Nat => FX.d (.v (.int .u64 (z : Int)))) (bv_or 64 (I.getD i 0) (I.getD (i + 1) 0) 32 hda (by show _ + _ * 4294967296 < 18446744073709551616; omega))) ?_
     refine gx rfl <| ?_
     exact at_ () trivial
    ·
     refine eqF 10 (.d (.v (.int .u64 (I.getD i 0 + I.getD (i + 1) 0 * 4294967296 : Nat)))) rfl (by rw [getD_out (by omega : I.length ≤ i + 1), Nat.zero_mul, Nat.add_zero]) ?_
     exact at_ () trivial
   ·
    refine eqF 53 (.d (.v (.int .u64 ((I.getD i 0 + I.getD (i + 1) 0 * 4294967296) / 2 ^ (k % 32) : Nat)))) rfl (by show FX.d (.v (.int _ _)) = .d (.v (.int _ _)); rw [shr_u64 _ (k % 32) (by omega) (by omega)]) ?_
    refine gx (fu := ⟨1⟩) rfl <| ?_
    obtain ⟨w, hw⟩ : ∃ w, w = (I.getD i 0 + I.getD (i + 1) 0 * 4294967296) / 2 ^ (k % 32) % 4294967296 := ⟨_, rfl⟩
    have hw1 : w < 4294967296 := hw ▸ Nat.mod_lt _ (by decide)
    refine eqF 54 (.d (dU w)) rfl (by show FX.d (.v (.int _ _)) = .d (.v (.int _ _)); rw [hw]; congr 3) ?_
    refine gx rfl <| sb _ ((W.set i w).map dU) rfl (mapU_getI (by omega)) rfl (by (rw [← mapU_set]; rfl) <;> rfl) rfl <| ?_
    exact at_ ⟨W.set i w, i + 1⟩ (by dsimp only; exact ⟨⟨by simpa using h1, h2.set _ (by omega), by omega, by rw [dv_set_take (by omega), h4]; exact (right_step hsk (dv_two hIo i) hw).symm⟩, (by omega)⟩)
  ·
   refine fz 25 rfl rfl <| cl rfl (q_Trim (ds := W) (by omega)) rfl <| ?_
   exact rz rfl (dL_trim h2 (by obtain rfl : i = I.length := (by omega); rw [hIl] at h1 h4; rw [hI] at h4; exact right_end rfl rfl h1 h4))
theorem dg_len_of {a k : Nat} (h : a < 4294967296 ^ k) : (dg a).length ≤ k := by
 rcases Nat.lt_or_ge k (dg a).length with q | q
 · have h1 := nrm_ge (dg_spec a).2.2 (by intro e; rw [e] at q; simp at q)
   rw [dv_dg] at h1
   have h2 : 4294967296 ^ k ≤ 4294967296 ^ ((dg a).length - 1) := Nat.pow_le_pow_right (by decide) (by omega)
   omega
 · exact q
theorem word_two {a : Nat} (h : (dg a).length = 2) : (dg a).getD 0 0 + (dg a).getD 1 0 * 4294967296 = a := by
 have e := dv_dg a
 revert e
 match dg a, h with
 | [x, y], _ => intro e; simp [dv] at e ⊢; omega
def wordV (a : Nat) : DV := .tp [.v (.int .u64 ((if a < 18446744073709551616 then a else 0 : Nat) : Int)), vB (decide (a < 18446744073709551616))]
theorem wordV_lt {a : Nat} (h : a < 18446744073709551616) : wordV a = .tp [.v (.int .u64 (a : Int)), vB true] := by unfold wordV; rw [if_pos h, decide_eq_true h]
theorem wordV_ge {a : Nat} (h : ¬ a < 18446744073709551616) : wordV a = .tp [.v (.int .u64 0), vB false] := by unfold wordV; rw [if_neg h, decide_eq_false h]; rfl
theorem dg_lt_pow (a : Nat) : a < 4294967296 ^ (dg a).length := by have := dv_lt (dg_ok a); rwa [dv_dg] at this
set_option maxHeartbeats 1000000 in
theorem q_word {GB : Gh} {a ia : Nat} [ha : BN a ia] (hi : ia ≤ 1000000000 := by decide) : PF GB Tryz.prog 120 [dN a] (wordV a) := by
 have hla := mapU_len (dg a)
 have hba := dg_len_bd ha.h hi
 have hlt := dg_lt_pow a
 have hd00 := dg_lt a 0
 refine fn (fu := ⟨11⟩) Tryz.func120 rfl rfl Tryz.ntmps120 rfl rfl (fun C => ?_)
 refine eqF 5 (.d (vI ((dg a).length : Nat))) rfl (by rw [hla]; rfl) ?_
 refine gx rfl <| ?_
 refine br rfl rfl rfl (fun hc6 => ?_) (fun hc6 => ?_)
 ·
  exact rz rfl (by rw [show (dg a).length = 0 by omega] at hlt; obtain rfl : a = 0 := (by omega); rfl)
 ·
  refine br rfl rfl rfl (fun hc8 => ?_) (fun hc8 => ?_)
  ·
   refine ix (fu := ⟨2⟩) _ rfl (mapU_getZ (k := 0) rfl (by omega)) rfl <| ?_
   refine eqF 13 (.d (.v (.int .u64 (a : Nat)))) rfl (by rw [dg_one_digit (by omega)]) ?_
   refine gx rfl <| ?_
   exact rz rfl (by rw [show (dg a).length = 1 by omega] at hlt; rw [wordV_lt (by omega), ← dg_one_digit (a := a) (by omega), dg_one_digit (a := a) (by omega)]; rfl)
  ·
   refine br rfl rfl rfl (fun hc14 => ?_) (fun hc14 => ?_)
   ·
    have hd0 := dg_lt a 0
    have hd1 := dg_lt a 1
    refine ix (hv := by simp only [allP]; exact ⟨by omega, (by decide)⟩) _ rfl (mapU_getZ (k := 1) rfl (by omega)) rfl <| ix (fu := ⟨3⟩) _ rfl (mapU_getZ (k := 0) rfl (by omega)) rfl <| ?_
    refine eqF 25 (.d (.v (.int .u64 (a : Nat)))) rfl (congrArg (fun z : Nat => FX.d (.v (.int .u64 (z : Int)))) (by rw [shl_u64 _ 32 (by decide) (by show _ * 4294967296 < _; omega) rfl, BitVec.or_comm]; exact (bv_or 64 ((dg a).getD 0 0) ((dg a).getD 1 0) 32 hd0 (by show _ + _ * 4294967296 < 18446744073709551616; omega)).trans (word_two (by omega)))) ?_
    refine gx rfl <| ?_
    exact rz rfl (by rw [show (dg a).length = 2 by omega] at hlt; rw [wordV_lt (by omega)]; rfl)
   ·
    exact rz rfl (by rw [wordV_ge]; rfl; intro h; have := dg_len_of (a := a) (k := 2) (by omega); omega)
end Go.Sx
end
