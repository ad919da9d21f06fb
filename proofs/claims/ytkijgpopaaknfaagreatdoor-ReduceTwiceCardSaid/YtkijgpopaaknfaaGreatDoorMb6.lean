/-
  Package frac: Inv, Quo, Half, Add, Sub. Drawn regions with an alloc that may come at any time. Package frac: Add, Sub. Package frac: Sub, Cmp, Equal, Min, Max. Package frac: Min, Max. Package frac: Gcd. Package geo: lines; LnOf. Package geo: points and lines.
-/
import Derived.Test.YtkijgpopaaknfaaGreatDoorMb5
section
set_option maxRecDepth 100000
namespace Go.Sx
open Go Go.Proofs

theorem mkRat_neg_abs {n : Int} {d : Nat} (h : n < 0) : mkRat (-(d : Int)) n.natAbs = Rat.divInt (d : Int) n := by
  rw [← Rat.divInt_ofNat, Int.ofNat_natAbs_of_nonpos (Int.le_of_lt h), Rat.neg_divInt_neg]
theorem rat_inv_num {q : Rat} (h : q.num < 0) : (q⁻¹).num = -(q.den : Int) ∧ (q⁻¹).den = q.num.natAbs := by
  rw [Rat.num_inv, Rat.den_inv, if_neg (by omega), Int.sign_eq_neg_one_of_neg h]
  omega
theorem rat_inv_pos {q : Rat} (h : 0 < q.num) : (q⁻¹).num = (q.den : Int) ∧ (q⁻¹).den = q.num.natAbs := by
  rw [Rat.num_inv, Rat.den_inv, if_neg (by omega), Int.sign_eq_one_of_pos h]
  omega

set_option maxHeartbeats 1000000 in
theorem R_Inv {A G : Gh} {z : RV} {q : Rat} {k : Nat} (hz : IsR k A z q) [GL A G] (hk : k ≤ 1099511627776) :
    Fn Tryz.prog 223 [.agg ⟨[.int .i64 z.n, .int .i64 z.d, .pointer z.p]⟩] G (fun v G' => ∃ x : RV, v = x.v ∧ IsR k G' x q⁻¹) := by
  have hk1 := hz.k1
  obtain ⟨hb1, hb2, hz⟩ := hz
  have hq0 : 0 < q.den := Nat.pos_of_ne_zero q.den_nz
  obtain ⟨zn, zd, zp⟩ := z
  show Fn _ _ [.agg ⟨[.int .i64 zn, .int .i64 zd, .pointer zp]⟩] _ _
  refine Fn.intro Tryz.func223 rfl rfl Tryz.ntmps223 rfl ?_
  intro C _ _
  refine st_seq <| st_region <| ?_
  refine sc (ch_box rfl rfl ?_)
  intro b1
  refine sc (ch_alloc rfl ?_)
  intro b2
  refine st_end <| st_seq <| st_block <| st_seq <| st_region <| sf rfl rfl <| slo1 rfl rfl rfl <| sy (yd_neP rfl rfl) rfl <| sa rfl rfl <| st_end <| ?_
  rcases hz with ⟨hp, hn, hd, hs1, hs2⟩ | ⟨hn, hd, ⟨b, x, y, hp, hg, hx, hy⟩, hno⟩
  · simp only [] at hp hn hd
    subst hp hn hd
    refine st_condF rfl <| ?_
    refine st_seq <| st_region <| sf rfl rfl <| slo1 rfl rfl rfl <| sy (yd_lss rfl rfl) rfl <| sa rfl rfl <| st_end <| ?_
    refine st_condP rfl (fun hc => ?_) (fun hc => ?_) -- slot 26
    · obtain ⟨hi1, hi2⟩ := rat_inv_num hc
      refine st_seq <| st_region <| sf rfl rfl <| slo1 rfl rfl rfl <| sy (yd_add64 rfl rfl (by omega) (by omega)) rfl <| sy (yd_neg rfl) rfl <| ?_
      rw [i64_small (by omega), show 0 - ((q.den : Int) - 1 + 1) = (q⁻¹).num by omega]
      refine sf rfl rfl <| slo1 rfl rfl rfl <| sy (yd_neg rfl) rfl <| ?_
      rw [i64_small (by omega)]
      refine sy (yd_sub64 rfl rfl (by omega) (by omega)) rfl <| ?_
      rw [show 0 - q.num - 1 = ((q⁻¹).den : Int) - 1 by omega]
      refine sy (yd_build rfl) rfl <| ?_
      refine sc (ch_store rfl rfl (.hd ..) rfl (Nat.le_refl 3) rfl rfl ?_)
      refine st_end <| st_ret <| ?_
      exact st_done (.agg rfl inferInstance inferInstance rfl .nil) ⟨⟨_, _, none⟩, rfl, by omega, by omega, .inl ⟨rfl, rfl, rfl, by omega, by omega⟩⟩
    refine st_seq <| st_region <| sf rfl rfl <| slo1 rfl rfl rfl <| sy (yd_eql rfl rfl) rfl <| sa rfl rfl <| st_end <| ?_
    refine st_condP rfl (fun hc2 => ?_) (fun hc2 => ?_) -- slot 39
    · refine st_seq <| st_region <| sy (yd_build rfl) rfl <| ?_
      refine sc (ch_store rfl rfl (.hd ..) rfl (Nat.le_refl 3) rfl rfl ?_)
      refine st_end <| st_ret <| ?_
      exact st_done (.agg rfl inferInstance inferInstance rfl .nil) ⟨⟨0, 0, none⟩, rfl, by rw [Rat.num_eq_zero.1 hc2, Rat.inv_zero]; exact .zero hk1⟩
    obtain ⟨hi1, hi2⟩ := rat_inv_pos (q := q) (by omega)
    refine st_skipc <| st_seq <| st_region <| sf rfl rfl <| slo1 rfl rfl rfl <| sy (yd_add64 rfl rfl (by omega) (by omega)) rfl <| ?_
    rw [show (q.den : Int) - 1 + 1 = (q⁻¹).num by omega]
    refine sf rfl rfl <| slo1 rfl rfl rfl <| sy (yd_sub64 rfl rfl (by omega) (by omega)) rfl <| ?_
    rw [show q.num - 1 = ((q⁻¹).den : Int) - 1 by omega]
    refine sy (yd_build rfl) rfl <| ?_
    refine sc (ch_store rfl rfl (.hd ..) rfl (Nat.le_refl 3) rfl rfl ?_)
    refine st_end <| st_ret <| ?_
    exact st_done (.agg rfl inferInstance inferInstance rfl .nil) ⟨⟨_, _, none⟩, rfl, by omega, by omega, .inl ⟨rfl, rfl, rfl, by omega, by omega⟩⟩
  · simp only [] at hp hn hd
    subst hp hn hd
    have hg' : GHas A b _ := ⟨hg⟩
    have hl := hx.len
    have hl2 := dg_len_le hy.lt
    refine st_condT rfl <| ?_
    refine st_seq <| dr (fun i => Nat.beq i 19) [(0, true), (1, true), (2, true), (3, true), (4, true), (5, true), (6, true), (7, true), (8, true), (9, true), (10, true), (11, true), (12, true), (13, true), (14, true), (15, true), (16, true), (17, true), (18, false), (19, false)] follows (by kernel_rfl) <| ?_
    refine dy rfl (fun _ => yd_fieldAddr rfl) rfl rfl <| dy rfl (fun _ => yd_load_own1 rfl rfl) rfl rfl <| dy rfl (fun _ => yd_nilCheck rfl) rfl rfl <| dy rfl (fun _ => yd_fieldAddr rfl) rfl rfl <| ?_
    refine dy rfl (fun _ => yd_fieldAddr rfl) rfl rfl <| dy rfl (fun _ => yd_load_gh1 rfl ghi rfl) rfl rfl <| dy rfl (fun _ => yd_fieldAddr rfl) rfl rfl <| dy rfl (fun _ => yd_load_own1 rfl rfl) rfl rfl <| ?_
    refine dy rfl (fun _ => yd_nilCheck rfl) rfl rfl <| dy rfl (fun _ => yd_fieldAddr rfl) rfl rfl <| dy rfl (fun _ => yd_load_gh1 rfl ghi rfl) rfl rfl <| dy rfl (fun _ => yd_build rfl) rfl rfl <| ?_
    refine dy rfl (fun _ => yd_fieldAddr rfl) rfl rfl <| dy rfl (fun _ => yd_load_own1 rfl rfl) rfl rfl <| dy rfl (fun _ => yd_nilCheck rfl) rfl rfl <| dy rfl (fun _ => yd_fieldAddr rfl) rfl rfl <| ?_
    refine dy rfl (fun _ => yd_fieldAddr rfl) rfl rfl <| dy rfl (fun _ => yd_load_gh1 rfl ghi rfl) rfl rfl <| ?_
    refine dc rfl rfl (ch_call rfl rfl (frac_reduce (k := k) (neg := x.neg) (x := y) (y := x.a) hy.d hx.abs.d (by rw [hy.dvl]; exact hb2) (by rw [hx.dvl]; exact hb1) hk1 hk (by omega) (by omega)) rfl ?_)
    rintro _ G3 _ ⟨z, rfl, hz⟩
    rw [hy.dvl, hx.dvl] at hz
    refine dr_s <| ?_
    refine dc rfl rfl (ch_store rfl rfl (.hd ..) rfl (Nat.le_refl 3) rfl rfl ?_)
    refine dr_f rfl <| dn <| st_ret <| ?_
    refine st_done (.agg rfl inferInstance inferInstance rfl .nil) ⟨z, rfl, ?_⟩
    have : mkRat (zv x.neg q.den) q.num.natAbs = q⁻¹ := by
      rw [Rat.inv_def, hx.neg]
      by_cases h : q.num < 0
      · rw [decide_eq_true h]
        exact mkRat_neg_abs h
      · rw [decide_eq_false h, ← Rat.divInt_ofNat, Int.natAbs_of_nonneg (by omega)]
        rfl
    rw [← this]; exact hz

theorem R_Quo {A B G : Gh} {z1 z2 : RV} {q1 q2 : Rat} {k1 k2 : Nat} (hz1 : IsR k1 A z1 q1) (hz2 : IsR k2 B z2 q2) [GL A G] [GL B G] (hk : k1 + k2 ≤ 1099511627776) :
    Fn Tryz.prog 194 [.agg ⟨[.int .i64 z1.n, .int .i64 z1.d, .pointer z1.p]⟩, .agg ⟨[.int .i64 z2.n, .int .i64 z2.d, .pointer z2.p]⟩] G (fun v G' => ∃ x : RV, v = x.v ∧ IsR (k1 + k2) G' x (q1 / q2)) := by
  refine Fn.intro Tryz.func194 rfl rfl Tryz.ntmps194 rfl ?_
  intro C _ _
  refine st_seq <| st_region <| ?_
  refine sc (ch_box rfl rfl ?_)
  intro b1
  refine sc (ch_box rfl rfl ?_)
  intro b2
  refine sc (ch_alloc rfl ?_)
  intro b3
  refine st_end <| st_seq <| dr (fun i => Nat.beq i 4) [(0, true), (1, true), (2, false), (3, false), (4, false)] follows (by kernel_rfl) <| dy rfl (fun _ => yd_load_own rfl rfl) rfl rfl <| dy rfl (fun _ => yd_load_own rfl rfl) rfl rfl <| ?_
  refine dc rfl rfl (ch_call rfl rfl (R_Inv hz2 (by omega)) rfl ?_)
  rintro _ G4 _ ⟨x, rfl, hx⟩
  refine dr_s <| ?_
  refine dc rfl rfl (ch_call rfl rfl (R_Mul hz1 hx hk) rfl ?_)
  rintro _ G5 _ ⟨z, rfl, hz⟩
  refine dr_s <| ?_
  refine dc rfl rfl (ch_store rfl rfl (.hd ..) rfl (Nat.le_refl 3) rfl rfl ?_)
  refine dr_f rfl <| dn <| st_ret <| ?_
  exact st_done (.agg rfl inferInstance inferInstance rfl .nil) ⟨z, rfl, by rw [Rat.div_def]; exact hz⟩

theorem R_Half {A G : Gh} {z : RV} {q : Rat} {k : Nat} (hz : IsR k A z q) [GL A G] (hk : k ≤ 1099511627774) :
    Fn Tryz.prog 218 [.agg ⟨[.int .i64 z.n, .int .i64 z.d, .pointer z.p]⟩] G (fun v G' => ∃ x : RV, v = x.v ∧ IsR (k + 2) G' x (q * mkRat 1 2)) := by
  refine Fn.intro Tryz.func218 rfl rfl Tryz.ntmps218 rfl ?_
  intro C _ _
  refine st_seq <| st_region <| ?_
  refine sc (ch_box rfl rfl ?_)
  intro b1
  refine sc (ch_alloc rfl ?_)
  intro b2
  have hh : ∀ G : Gh, IsR 2 G ⟨1, 1, none⟩ (mkRat 1 2) := fun G => ⟨by decide, by decide, .inl ⟨rfl, by decide, by decide, by decide, by decide⟩⟩
  refine st_end <| st_seq <| st_region <| slo rfl rfl rfl <| sy (yd_build rfl) rfl <| ?_
  refine sc (ch_call rfl rfl (R_Mul (z2 := ⟨1, 1, none⟩) hz (hh G) (by omega)) rfl ?_)
  rintro _ G3 _ ⟨x, rfl, hx⟩
  refine sc (ch_store rfl rfl (.hd ..) rfl (Nat.le_refl 3) rfl rfl ?_)
  refine st_end <| st_ret <| ?_
  exact st_done (.agg rfl inferInstance inferInstance rfl .nil) ⟨x, rfl, hx⟩
end Go.Sx
end

section
set_option maxRecDepth 100000
namespace Go.Sx
open Go

section
variable {P : Program} {ops : Array Oper} {Q : Exit → Act → World → Prop} {S : World → Prop} {fin : Nat → Bool} {k : Nat} {π₂ : List (Nat × Bool)}

def orderOkF (ops : Array Oper) (fin : Nat → Bool) (k : Nat) (π₂ : List (Nat × Bool)) : List (Nat × Bool) → Array Bool → Bool
  | [], listed => (Region.ready .any ops listed == [k]) && orderOk ops fin π₂ (listed.setIfInBounds k true)
  | (i, true) :: r, listed => !(Nat.beq i k) && takeOk ops fin listed i && takeOk ops fin (listed.setIfInBounds k true) i && orderOkF ops fin k π₂ r (listed.setIfInBounds i true)
  | (i, false) :: r, listed => !(Nat.beq i k) && (Region.ready .any ops listed).all (fun j => Nat.beq j i || Nat.beq j k) && (Region.ready .any ops listed).contains i && (Region.ready .any ops (listed.setIfInBounds k true) == [i]) && orderOkF ops fin k π₂ r (listed.setIfInBounds i true)
def dwF (P : Program) (ops : Array Oper) (Q : Exit → Act → World → Prop) (S : World → Prop) (fin : Nat → Bool) (k : Nat) (π₂ : List (Nat × Bool)) : List (Nat × Bool) → Act → World → Prop
  | [], a, w => wpOp P ops Q k (fun a' w' => (fin k = true ∨ S w') ∧ dwL P ops Q S fin π₂ a' w') a w
  | (i, true) :: r, a, w => ∃ o v, ops[i]? = some o ∧ S w ∧ YieldsIf P ops S o v a ∧ dwF P ops Q S fin k π₂ r (a.put o.dst v) w
  | (i, false) :: r, a, w => wpOp P ops Q i (fun a' w' => (fin i = true ∨ S w') ∧ dwF P ops Q S fin k π₂ r a' w') a w ∧
      wpOp P ops Q k (fun a' w' => (fin k = true ∨ S w') ∧ dwL P ops Q S fin ((i, false) :: r ++ π₂) a' w') a w

theorem orderOk_of_F : ∀ (π : List (Nat × Bool)) (listed : Array Bool), orderOkF ops fin k π₂ π listed = true → orderOk ops fin (π ++ π₂) (listed.setIfInBounds k true) = true
  | [], listed, h => by
    simp only [orderOkF, Bool.and_eq_true] at h
    exact h.2
  | (i, true) :: r, listed, h => by
    simp only [orderOkF, Bool.and_eq_true, Bool.not_eq_true'] at h
    have hik : i ≠ k := fun e => by subst e; simp at h
    have := orderOk_of_F r _ h.2
    rw [Array.setIfInBounds_comm _ _ hik] at this
    simp only [List.cons_append, orderOk, Bool.and_eq_true]
    exact ⟨h.1.2, this⟩
  | (i, false) :: r, listed, h => by
    simp only [orderOkF, Bool.and_eq_true, Bool.not_eq_true'] at h
    have hik : i ≠ k := fun e => by subst e; simp at h
    have := orderOk_of_F r _ h.2
    rw [Array.setIfInBounds_comm _ _ hik] at this
    simp only [List.cons_append, orderOk, Bool.and_eq_true]
    exact ⟨h.1.2, this⟩

theorem wpAnyZ_of_orderF (hQ : ∀ c a d v w, Q (.panic c) (Act.put a d v) w → Q (.panic c) a w) : ∀ (π : List (Nat × Bool)) (listed : Array Bool) (a : Act) (w : World), orderOkF ops fin k π₂ π listed = true → dwF P ops Q S fin k π₂ π a w → ∀ fuel, π.length + π₂.length + 1 ≤ fuel → wpAnyZ P ops Q S fin fuel listed a w
  | _, listed, a, w, ho, h, 0, hf => by omega
  | [], listed, a, w, ho, h, fuel + 1, hf => by
    simp only [orderOkF, Bool.and_eq_true, beq_iff_eq] at ho
    exact wpAnyZ_all ho.1 (wpOp_mono (fun a' w' h' => ⟨h'.1, wpAnyZ_of_order hQ π₂ _ _ _ ho.2 h'.2 fuel (by simp at hf; omega)⟩) h)
  | (i, true) :: r, listed, a, w, ho, h, fuel + 1, hf => by
    obtain ⟨o, v, hoi, hS, hy, hk⟩ := h
    simp only [orderOkF, takeOk, Bool.and_eq_true] at ho
    obtain ⟨⟨⟨_, ⟨⟨⟨h1, h2⟩, h3⟩, h4⟩⟩, _⟩, h5⟩ := ho
    obtain ⟨h6, h7⟩ := finOk_spec h4
    exact wpAnyZ_first hoi (Region.noSelect_spec h1) (fun c a w => hQ c a _ _ w) h6 h7 fuel listed a w (Region.free_spec hoi h2) (by simpa using h3) hy hS
      (wpAnyZ_of_orderF hQ r _ _ _ h5 hk fuel (by simp at hf; omega))
  | (i, false) :: r, listed, a, w, ho, h, fuel + 1, hf => by
    have ho' := ho
    simp only [orderOkF, Bool.and_eq_true, List.all_eq_true] at ho
    obtain ⟨⟨⟨⟨_, h2⟩, h3⟩, _⟩, h5⟩ := ho
    refine ⟨fun h0 => by rw [h0] at h3; simp at h3, fun j hj => ?_⟩
    have := h2 j hj
    simp only [Bool.or_eq_true, Nat.beq_eq_true_eq] at this
    rcases this with e | e
    · replace e := Nat.eq_of_beq_eq_true e
      subst e
      exact wpOp_mono (fun a' w' h' => ⟨h'.1, wpAnyZ_of_orderF hQ r _ _ _ h5 h'.2 fuel (by simp at hf; omega)⟩) h.1
    · replace e := Nat.eq_of_beq_eq_true e
      subst e
      exact wpOp_mono (fun a' w' h' => ⟨h'.1, wpAnyZ_of_order hQ _ _ _ _ (orderOk_of_F _ _ ho') h'.2 fuel (by simp at hf ⊢; omega)⟩) h.2
end

section
variable {P : Program} {C : Ctx} {n : Nat} {fr : Fr} {own own0 : List Own} {G G0 : Gh} {ops : Array Oper} {Q : Exit → Act → World → Prop} {fin : Nat → Bool} {k : Nat} {π π₂ : List (Nat × Bool)}

def fF (d : Nat) : Option Nat → Fr
  | none => []
  | some b => [(d, .pointer (some ⟨b, 0, none⟩))]
def fO (t : TypeId) (z : Value) : Option Nat → List Own
  | none => []
  | some b => [⟨b, cellsL z, t, true⟩]
/-- What is left of a region: the alloc to come at any time, or done. -/
def dwE (P : Program) (ops : Array Oper) (Q : Exit → Act → World → Prop) (S : World → Prop) (fin : Nat → Bool) (k : Nat) (π₂ : List (Nat × Bool)) (fl : Option Nat) (π : List (Nat × Bool)) : Act → World → Prop :=
  match fl with
  | none => dwF P ops Q S fin k π₂ π
  | some _ => dwL P ops Q S fin (π ++ π₂)

theorem dr_s' {b : Bool} {Φ : Act → World → Prop} (hs : own0.Sublist own) [hl : GL G0 G] (h : St C n fr own G Φ) : St C n fr own G (fun a w => (b = true ∨ HS C own0 G0 w) ∧ Φ a w) :=
  fun a w rl => ⟨.inr ⟨G, hl.le, rl.h.drop hs⟩, h a w rl⟩
theorem drF (d : Nat) (t : TypeId) (z : Value) (fin : Nat → Bool) (k : Nat) (π π₂ : List (Nat × Bool)) {id : Nat} (hm : P.follows .mixedOrders = true) (ho : (orderOkF ops fin k π₂ π (Array.replicate ops.size false) && Nat.ble (π.length + π₂.length + 1) ops.size) = true)
    (h : ∀ fl : Option Nat, St C n (fr ++ fF d fl) (own ++ fO t z fl) G (dwE P ops (NoPan Q) (HS C own G) fin k π₂ fl π)) : St C n fr own G ((Code.region id ops true).wp P Q) := by
  simp only [Bool.and_eq_true] at ho
  have h0 := h none
  simp only [fF, fO, List.append_nil] at h0
  refine dr_region fin hm fun a w rl => wpAnyZ_of_orderF (fun _ _ _ _ _ h => h) π _ a w ho.1 (h0 a w rl) _ (by simpa using ho.2)

theorem dyF {fl : Option Nat} {i : Nat} {o : Oper} {v : Value} (ho : ops[i]? = some o) (hy : ∀ G' : Gh, [GE G0 G'] → Yd P C fr own0 G' o v) (hg : o.guard = none) (hd : dstOk n o.dst = true) (hs : own0.Sublist own) [hl : GL G0 G]
    (h : St C n (put fr o.dst v) own G (dwE P ops (NoPan Q) (HS C own0 G0) fin k π₂ fl π)) : St C n fr own G (dwE P ops (NoPan Q) (HS C own0 G0) fin k π₂ fl ((i, true) :: π)) := by
  cases fl <;>
  exact fun a w rl => ⟨o, v, ho, ⟨G, hl.le, rl.h.drop hs⟩, .inl ⟨by simp [Region.wanted, hg], fun w' ⟨G', hle, hr⟩ => @hy G' ⟨hle⟩ a w' rl.fr hr⟩, h _ _ (rl.put v hd)⟩

theorem dcF {fl : Option Nat} {F : Option Nat → Fr} {O : Option Nat → List Own} {i d : Nat} {o : Oper} {t ty' : TypeId} {pos : String} {af : Array Edge} {z : Value} [hz : TyZ P t z] (ho : ops[i]? = some o) (hg : o.guard = none)
    (hk : ops[k]? = some ⟨some d, .alloc t, ty', pos, af, none⟩) (hd : dstOk n (some d) = true) (hF : ∀ b, FrLe (F (some b)) ((d, .pointer (some ⟨b, 0, none⟩)) :: F none)) (hO : ∀ b, (⟨b, cellsL z, t, true⟩ :: O none).Perm (O (some b))) (hs : own0.Sublist (O none)) [hl : GL G0 G]
    (hc : ∀ fl, Ch P C n (F fl) (O fl) G o (fun a w => (fin i = true ∨ HS C own0 G0 w) ∧ dwE P ops (NoPan Q) (HS C own0 G0) fin k π₂ fl π a w)) : St C n (F fl) (O fl) G (dwE P ops (NoPan Q) (HS C own0 G0) fin k π₂ fl ((i, false) :: π)) := by
  have hsome : ∀ b, St C n (F (some b)) (O (some b)) G (dwL P ops (NoPan Q) (HS C own0 G0) fin ((i, false) :: π ++ π₂)) := fun b => dc ho hg (hc (some b))
  cases fl with
  | some b => exact hsome b
  | none =>
    intro a w rl
    refine ⟨?_, ?_⟩
    · unfold wpOp
      simp only [ho, Region.wanted, hg, if_true]
      exact .inl (hc none a w _ rl)
    · unfold wpOp
      simp only [hk, Region.wanted, if_true]
      refine .inl (ch_alloc (own := O none) (fr := F none) (z := z) hd (fun b => ?_) a w _ rl)
      have : SubL own0 (⟨b, cellsL z, t, true⟩ :: O none) := ⟨hs.cons _⟩
      exact dr_s (st_frame _ (hF b) (st_perm _ (hO b) (hsome b)))

theorem dF_out {fl : Option Nat} {F : Option Nat → Fr} {O : Option Nat → List Own} {d : Nat} {t ty' : TypeId} {pos : String} {af : Array Edge} {z : Value} [hz : TyZ P t z]
    (hk : ops[k]? = some ⟨some d, .alloc t, ty', pos, af, none⟩) (hd : dstOk n (some d) = true) (hF : ∀ b, FrLe ((d, .pointer (some ⟨b, 0, none⟩)) :: F none) (F (some b))) (hO : ∀ b, (O (some b)).Perm (⟨b, cellsL z, t, true⟩ :: O none)) (hs : own0.Sublist (O none)) [hl : GL G0 G]
    (h : ∀ b, St C n ((d, .pointer (some ⟨b, 0, none⟩)) :: F none) (⟨b, cellsL z, t, true⟩ :: O none) G (dwL P ops (NoPan Q) (HS C own0 G0) fin π₂)) : St C n (F fl) (O fl) G (dwE P ops (NoPan Q) (HS C own0 G0) fin k π₂ fl []) := by
  cases fl with
  | some b => exact st_frame _ (hF b) (st_perm _ (hO b) (h b))
  | none =>
    intro a w rl
    simp only [dwE, dwF]
    unfold wpOp
    simp only [hk, Region.wanted, if_true]
    refine .inl (ch_alloc (own := O none) (fr := F none) (z := z) hd (fun b => ?_) a w _ rl)
    have : SubL own0 (⟨b, cellsL z, t, true⟩ :: O none) := ⟨hs.cons _⟩
    exact dr_s (h b)
end
end Go.Sx
end

section
set_option maxRecDepth 100000
namespace Go.Sx
open Go Go.Proofs

theorem add_I {A B G : Gh} {x y : IV} {m e : Int} {k : Nat} (hx : IsI k A x m) (hy : IsI k B y e) [GL A G] [GL B G] (hk : k + 1 ≤ 1099511627776) :
    Fn Tryz.prog 230 [x.v, y.v] G (fun v G' => ∃ z : IV, v = z.v ∧ IsI (k + 1) G' z (m + e)) := by
  have hl := hx.len
  have hl2 := hy.len
  have h1 := hx.abs.lt
  have h2 := hy.abs.lt
  have := integer_Add (G := G) (n1 := x.neg) (n2 := y.neg) (x := x.a) (y := y.a) (k := k + 1) hx.abs.d hy.abs.d (by rw [hx.dvl, hy.dvl, Nat.pow_succ]; omega) (by omega) (by omega)
  rw [hx.dvl, hx.zv, hy.dvl, hy.zv] at this
  exact this
theorem IsI.mono' {k l : Nat} {G : Gh} {z : IV} {m : Int} (h : IsI k G z m) (hk : k ≤ l) : IsI l G z m := ⟨h.neg, h.abs.mono (Nat.lt_of_lt_of_le h.abs.lt (Nat.pow_le_pow_right (by decide) hk))⟩
theorem IsN.mono' {k l : Nat} {G : Gh} {z : SV} {m : Nat} (h : IsN k G z m) (hk : k ≤ l) : IsN l G z m := h.mono (Nat.lt_of_lt_of_le h.lt (Nat.pow_le_pow_right (by decide) hk))
theorem IsR.mono' {k l : Nat} {G : Gh} {z : RV} {q : Rat} (h : IsR k G z q) (hk : k ≤ l) : IsR l G z q := h.mono (Nat.lt_of_lt_of_le h.1 (Nat.pow_le_pow_right (by decide) hk)) (Nat.lt_of_lt_of_le h.2.1 (Nat.pow_le_pow_right (by decide) hk))
theorem rat_int {q : Rat} (h : q.den = 1) : q = (q.num : Int) := by
  conv => lhs; rw [← Rat.mkRat_self q, h, Rat.mkRat_one]

set_option maxHeartbeats 2000000 in
theorem R_Add {A B G : Gh} {z1 z2 : RV} {q1 q2 : Rat} {k1 k2 : Nat} (hz1 : IsR k1 A z1 q1) (hz2 : IsR k2 B z2 q2) [GL A G] [GL B G] (hk : k1 + k2 + 1 ≤ 1099511627776) :
    Fn Tryz.prog 215 [.agg ⟨[.int .i64 z1.n, .int .i64 z1.d, .pointer z1.p]⟩, .agg ⟨[.int .i64 z2.n, .int .i64 z2.d, .pointer z2.p]⟩] G (fun v G' => ∃ x : RV, v = x.v ∧ IsR (k1 + k2 + 1) G' x (q1 + q2)) := by
  have hk11 := hz1.k1
  have hd1 : 0 < q1.den := Nat.pos_of_ne_zero q1.den_nz
  have hd2 : 0 < q2.den := Nat.pos_of_ne_zero q2.den_nz
  have hna : (q1.num * (q2.den : Nat)).natAbs < 2 ^ (k1 + k2) := by rw [Int.natAbs_mul, Int.natAbs_natCast]; exact lt_pow_add hz1.1 hz2.2.1
  have hnb : (q2.num * (q1.den : Nat)).natAbs < 2 ^ (k1 + k2) := by rw [Int.natAbs_mul, Int.natAbs_natCast, Nat.mul_comm]; exact lt_pow_add hz1.2.1 hz2.1
  have hbn : (q1.num * (q2.den : Nat) + q2.num * (q1.den : Nat)).natAbs < 2 ^ (k1 + k2 + 1) := by rw [Nat.pow_succ]; omega
  have hbd' : q1.den * q2.den < 2 ^ (k1 + k2) := lt_pow_add hz1.2.1 hz2.2.1
  have hbd : q1.den * q2.den < 2 ^ (k1 + k2 + 1) := by rw [Nat.pow_succ]; omega
  have hadd := Rat.add_def' q1 q2
  obtain ⟨z1n, z1d, z1p⟩ := z1
  obtain ⟨z2n, z2d, z2p⟩ := z2
  show Fn _ _ [.agg ⟨[.int .i64 z1n, .int .i64 z1d, .pointer z1p]⟩, .agg ⟨[.int .i64 z2n, .int .i64 z2d, .pointer z2p]⟩] _ _
  refine Fn.intro Tryz.func215 rfl rfl Tryz.ntmps215 rfl ?_
  intro C _ _
  refine st_seq <| st_region <| ?_
  refine sc (ch_box rfl rfl ?_)
  intro b1
  refine sc (ch_box rfl rfl ?_)
  intro b2
  refine sc (ch_alloc rfl ?_)
  intro b3
  refine st_end <| ?_
  refine st_cut Unit (fun _ => [(2, .pointer (some ⟨b1, 0, none⟩)), (3, .pointer (some ⟨b2, 0, none⟩)), (4, .pointer (some ⟨b3, 0, none⟩))]) (fun _ => [⟨b3, [.int .i64 0, .int .i64 0, .pointer none], 103, true⟩, ⟨b2, [.int .i64 z2n, .int .i64 z2d, .pointer z2p], 103, true⟩, ⟨b1, [.int .i64 z1n, .int .i64 z1d, .pointer z1p], 103, true⟩]) (fun _ _ => True) ?_ ?_
  · refine st_seq <| st_region <| sf rfl rfl <| slo1 rfl rfl rfl <| sy (yd_eqP rfl rfl) rfl <| sm rfl rfl <| ?_
    rcases hz1.2.2 with ⟨hp, hn, hd, hs1, hs2⟩ | ⟨hn, hd, ⟨b, x, y, hp, hg, hx, hy⟩, hno⟩
    · simp only [] at hp hn hd
      subst hp hn hd
      refine syg rfl rfl (yd_fieldAddr rfl) rfl <| syg rfl rfl (yd_load_own1 rfl rfl) rfl <| syg rfl rfl (yd_eqP rfl rfl) rfl <| sy (yd_pickT rfl rfl) rfl <| st_end <| ?_
      rcases hz2.2.2 with ⟨hp, hn, hd, hs3, hs4⟩ | ⟨hn, hd, ⟨b, x, y, hp, hg, hx, hy⟩, hno⟩
      · simp only [] at hp hn hd
        subst hp hn hd
        refine st_condT rfl <| ?_
        refine st_cut Unit (fun _ => [(2, .pointer (some ⟨b1, 0, none⟩)), (3, .pointer (some ⟨b2, 0, none⟩)), (4, .pointer (some ⟨b3, 0, none⟩))]) (fun _ => [⟨b3, [.int .i64 0, .int .i64 0, .pointer none], 103, true⟩, ⟨b2, [.int .i64 q2.num, .int .i64 ((q2.den : Int) - 1), .pointer none], 103, true⟩, ⟨b1, [.int .i64 q1.num, .int .i64 ((q1.den : Int) - 1), .pointer none], 103, true⟩]) (fun _ _ => True) ?_ ?_
        · refine st_seq <| st_region <| sf rfl rfl <| slo1 rfl rfl rfl <| sy (yd_eql rfl rfl) rfl <| sm rfl rfl <| ?_
          refine st_caseP 24 rfl (fun hg => ?_) (fun hg => ?_)
          · refine syg rfl rfl (yd_fieldAddr rfl) rfl <| syg rfl rfl (yd_load_own1 rfl rfl) rfl <| syg rfl rfl (yd_eql rfl rfl) rfl <| sy (yd_pickT rfl rfl) rfl <| st_end <| ?_
            refine st_condP rfl (fun hc => ?_) (fun hc => ?_) -- slot 28
            · have e1 : q1.den = 1 := by omega
              have e2 : q2.den = 1 := by omega
              rw [e1, e2, Nat.mul_one, Int.natCast_one, Int.mul_one, Int.mul_one, Rat.mkRat_one] at hadd
              rw [e1, e2, Int.natCast_one, Int.mul_one, Int.mul_one] at hbn
              refine st_seq <| st_region <| sf rfl rfl <| slo1 rfl rfl rfl <| sf rfl rfl <| slo1 rfl rfl rfl <| sy (yd_add64 rfl rfl (by omega) (by omega)) rfl <| ?_
              refine sc (ch_call rfl rfl (frac_Int (k := k1 + k2 + 1) (by omega) (by omega) hbn (by omega) hk) rfl ?_)
              rintro _ G4 _ ⟨z, rfl, hz⟩
              refine sc (ch_store rfl rfl (.hd ..) rfl (Nat.le_refl 3) rfl rfl ?_)
              refine st_end <| st_ret <| ?_
              exact st_done (.agg rfl inferInstance inferInstance rfl .nil) ⟨z, rfl, by rw [hadd]; exact hz⟩
            refine st_skipc <| ?_
            exact st_at () trivial (.cons rfl (.cons rfl (.cons rfl .nil))) rfl
          refine ss rfl rfl rfl rfl <| ss rfl rfl rfl rfl <| ss rfl rfl rfl rfl <| sy (yd_pickF rfl rfl) rfl <| st_end <| st_condF rfl <| st_skipc <| ?_
          exact st_at () trivial (.cons rfl (.cons rfl (.cons rfl .nil))) rfl
        rintro _ G4 _ _
        refine st_seq <| st_region <| sf rfl rfl <| slo1 rfl rfl rfl <| sf rfl rfl <| slo1 rfl rfl rfl <| sy (yd_add64 rfl rfl (by omega) (by omega)) rfl <| ?_
        rw [show (q2.den : Int) - 1 + 1 = (q2.den : Nat) by omega]
        refine sc (ch_call rfl rfl (frac_times hs1 (by rw [Int.natAbs_natCast]; exact hs4)) rfl ?_)
        rintro _ G5 _ rfl
        obtain ⟨va, hva⟩ : ∃ va, va = if q1.num.natAbs * (q2.den : Int).natAbs < 4611686018427387904 then q1.num * (q2.den : Int) else 0 := ⟨_, rfl⟩
        rw [← hva]
        rw [Int.natAbs_natCast] at hva ⊢
        have hva2 : va.natAbs < 4611686018427387904 := by
          rw [hva]
          split
          · rw [Int.natAbs_mul, Int.natAbs_natCast]; assumption
          · decide
        refine sm rfl rfl <| sx rfl rfl rfl <| sx rfl rfl rfl <| sa rfl rfl <| sa rfl rfl <| st_end <| st_seq <| st_region <| sf rfl rfl <| slo1 rfl rfl rfl <| sf rfl rfl <| slo1 rfl rfl rfl <| sy (yd_add64 rfl rfl (by omega) (by omega)) rfl <| ?_
        rw [show (q1.den : Int) - 1 + 1 = (q1.den : Nat) by omega]
        refine sc (ch_call rfl rfl (frac_times hs3 (by rw [Int.natAbs_natCast]; exact hs2)) rfl ?_)
        rintro _ G6 _ rfl
        obtain ⟨vb, hvb⟩ : ∃ vb, vb = if q2.num.natAbs * (q1.den : Int).natAbs < 4611686018427387904 then q2.num * (q1.den : Int) else 0 := ⟨_, rfl⟩
        rw [← hvb]
        rw [Int.natAbs_natCast] at hvb ⊢
        have hvb2 : vb.natAbs < 4611686018427387904 := by
          rw [hvb]
          split
          · rw [Int.natAbs_mul, Int.natAbs_natCast]; assumption
          · decide
        refine sm rfl rfl <| sx rfl rfl rfl <| sx rfl rfl rfl <| sa rfl rfl <| sa rfl rfl <| st_end <| st_seq <| st_region <| sf rfl rfl <| slo1 rfl rfl rfl <| sy (yd_add64 rfl rfl (by omega) (by omega)) rfl <| ?_
        rw [show (q1.den : Int) - 1 + 1 = (q1.den : Nat) by omega]
        refine sf rfl rfl <| slo1 rfl rfl rfl <| sy (yd_add64 rfl rfl (by omega) (by omega)) rfl <| ?_
        rw [show (q2.den : Int) - 1 + 1 = (q2.den : Nat) by omega]
        refine sc (ch_call rfl rfl (frac_times (by rw [Int.natAbs_natCast]; exact hs2) (by rw [Int.natAbs_natCast]; exact hs4)) rfl ?_)
        rintro _ G7 _ rfl
        rw [Int.natAbs_natCast, Int.natAbs_natCast, ← Int.natCast_mul]
        refine sm rfl rfl <| sx rfl rfl rfl <| sx rfl rfl rfl <| sa rfl rfl <| sa rfl rfl <| st_end <| st_seq <| st_region <| sm rfl rfl <| sm rfl rfl <| sy (yd_add64 rfl rfl (by omega) (by omega)) rfl <| ?_
        refine sa rfl rfl <| st_end <| st_seq <| st_region <| sm rfl rfl <| sm rfl rfl <| ?_
        refine st_caseP 67 rfl (fun hP1 => ?_) (fun hP1 => ?_)
        · rw [if_pos hP1] at hva
          refine syg rfl rfl (yd_move rfl) rfl <| sy (yd_pickT rfl rfl) rfl <| sm rfl rfl <| ?_
          refine st_caseP 70 rfl (fun hP2 => ?_) (fun hP2 => ?_)
          · rw [if_pos hP2] at hvb
            refine syg rfl rfl (yd_move rfl) rfl <| sy (yd_pickT rfl rfl) rfl <| sm rfl rfl <| ?_
            refine st_caseP 73 rfl (fun hP3 => ?_) (fun hP3 => ?_)
            · rw [if_pos hP3]
              refine syg rfl rfl (yd_move rfl) rfl <| syg rfl rfl (yd_gtr rfl rfl) rfl <| sy (yd_pickT rfl rfl) rfl <| sm rfl rfl <| ?_
              refine st_caseP 77 rfl (fun hg1 => ?_) (fun hg1 => ?_)
              · refine syg rfl rfl (yd_move rfl) rfl <| syg rfl rfl (yd_lss rfl rfl) rfl <| sy (yd_pickT rfl rfl) rfl <| st_end <| ?_
                refine st_condP rfl (fun hg2 => ?_) (fun hg2 => ?_) -- slot 80
                · refine st_seq <| st_region <| sm rfl rfl <| sm rfl rfl <| ?_
                  refine sc (ch_call rfl rfl (frac_lowest (n := va + vb) (k := k1 + k2 + 1) (by omega) (Nat.mul_pos hd1 hd2) hP3 (by rw [hva, hvb]; exact hbn) hbd) rfl ?_)
                  rintro _ G8 _ ⟨z, rfl, hz⟩
                  refine sc (ch_store rfl rfl (.hd ..) rfl (Nat.le_refl 3) rfl rfl ?_)
                  refine st_end <| st_ret <| ?_
                  exact st_done (.agg rfl inferInstance inferInstance rfl .nil) ⟨z, rfl, by rw [hadd, ← hva, ← hvb]; exact hz⟩
                refine st_skipc <| ?_
                exact st_at () trivial (.cons rfl (.cons rfl (.cons rfl .nil))) rfl
              refine ss rfl rfl rfl rfl <| ss rfl rfl rfl rfl <| sy (yd_pickF rfl rfl) rfl <| st_end <| st_condF rfl <| st_skipc <| ?_
              exact st_at () trivial (.cons rfl (.cons rfl (.cons rfl .nil))) rfl
            refine ss rfl rfl rfl rfl <| ss rfl rfl rfl rfl <| sy (yd_pickF rfl rfl) rfl <| sm rfl rfl <| ss rfl rfl rfl rfl <| ss rfl rfl rfl rfl <| sy (yd_pickF rfl rfl) rfl <| st_end <| st_condF rfl <| ?_
            refine st_skipc <| ?_
            exact st_at () trivial (.cons rfl (.cons rfl (.cons rfl .nil))) rfl
          refine ss rfl rfl rfl rfl <| sy (yd_pickF rfl rfl) rfl <| sm rfl rfl <| ss rfl rfl rfl rfl <| ss rfl rfl rfl rfl <| sy (yd_pickF rfl rfl) rfl <| sm rfl rfl <| ss rfl rfl rfl rfl <| ss rfl rfl rfl rfl <| ?_
          refine sy (yd_pickF rfl rfl) rfl <| st_end <| st_condF rfl <| st_skipc <| ?_
          exact st_at () trivial (.cons rfl (.cons rfl (.cons rfl .nil))) rfl
        refine ss rfl rfl rfl rfl <| sy (yd_pickF rfl rfl) rfl <| sm rfl rfl <| ss rfl rfl rfl rfl <| sy (yd_pickF rfl rfl) rfl <| sm rfl rfl <| ss rfl rfl rfl rfl <| ss rfl rfl rfl rfl <| sy (yd_pickF rfl rfl) rfl <| ?_
        refine sm rfl rfl <| ss rfl rfl rfl rfl <| ss rfl rfl rfl rfl <| sy (yd_pickF rfl rfl) rfl <| st_end <| st_condF rfl <| st_skipc <| ?_
        exact st_at () trivial (.cons rfl (.cons rfl (.cons rfl .nil))) rfl
      · simp only [] at hp hn hd
        subst hp hn hd
        refine st_condF rfl <| st_skipc <| ?_
        exact st_at () trivial (.cons rfl (.cons rfl (.cons rfl .nil))) rfl
    · simp only [] at hp hn hd
      subst hp hn hd
      refine ss rfl rfl rfl rfl <| ss rfl rfl rfl rfl <| ss rfl rfl rfl rfl <| sy (yd_pickF rfl rfl) rfl <| st_end <| st_condF rfl <| st_skipc <| ?_
      exact st_at () trivial (.cons rfl (.cons rfl (.cons rfl .nil))) rfl
  rintro _ Gx _ _
  refine st_seq <| drF 12 44 (.agg ⟨[.bool false, .slice none 0 0]⟩) (fun i => Nat.beq i 14) 13 [(0, true), (2, true), (6, true), (8, true), (1, false), (3, false), (4, true), (5, false), (7, false), (9, false), (10, true), (11, false), (12, false)] [(14, false)] follows (by kernel_rfl) (fun fl => ?_)
  refine dyF rfl (fun _ => yd_load_own rfl rfl) rfl rfl (List.sublist_append_left _ _) ?_
  refine dyF rfl (fun _ => yd_load_own rfl rfl) rfl rfl (List.sublist_append_left _ _) ?_
  refine dyF rfl (fun _ => yd_load_own rfl rfl) rfl rfl (List.sublist_append_left _ _) ?_
  refine dyF rfl (fun _ => yd_load_own rfl rfl) rfl rfl (List.sublist_append_left _ _) ?_
  apply dcF (fl := fl) (t := 44) (z := .agg ⟨[.bool false, .slice none 0 0]⟩)
  case ho => exact rfl
  case hg => exact rfl
  case hk => exact rfl
  case hd => exact rfl
  case hF => intro b; repeat (first | exact .nil | refine .cons rfl ?_)
  case hO => exact fun _ => (List.perm_append_singleton _ _).symm
  case hs => exact List.sublist_append_left _ _
  intro fl
  refine ch_call rfl rfl (R_Num (z := ⟨z1n, z1d, z1p⟩) hz1 (by omega)) rfl ?_
  rintro _ G13 _ ⟨x1, rfl, hx1⟩
  refine dr_s' (List.sublist_append_left _ _) <| ?_
  apply dcF (fl := fl) (t := 44) (z := .agg ⟨[.bool false, .slice none 0 0]⟩)
  case ho => exact rfl
  case hg => exact rfl
  case hk => exact rfl
  case hd => exact rfl
  case hF => intro b; repeat (first | exact .nil | refine .cons rfl ?_)
  case hO => exact fun _ => (List.perm_append_singleton _ _).symm
  case hs => exact List.sublist_append_left _ _
  intro fl
  refine ch_call rfl rfl (R_Den (z := ⟨z2n, z2d, z2p⟩) hz2 (by omega)) rfl ?_
  rintro _ G14 _ ⟨y2, rfl, hy2⟩
  have hy2I : IsI k2 G14 ⟨false, y2⟩ (q2.den : Int) := ⟨by simp, hy2⟩
  refine dr_s' (List.sublist_append_left _ _) <| ?_
  refine dyF rfl (fun _ => yd_build rfl) rfl rfl (List.sublist_append_left _ _) ?_
  apply dcF (fl := fl) (t := 44) (z := .agg ⟨[.bool false, .slice none 0 0]⟩)
  case ho => exact rfl
  case hg => exact rfl
  case hk => exact rfl
  case hd => exact rfl
  case hF => intro b; repeat (first | exact .nil | refine .cons rfl ?_)
  case hO => exact fun _ => (List.perm_append_singleton _ _).symm
  case hs => exact List.sublist_append_left _ _
  intro fl
  refine ch_call rfl rfl (mul_I (y := ⟨false, y2⟩) hx1 hy2I (by omega)) rfl ?_
  rintro _ G15 _ ⟨m1, rfl, hm1⟩
  refine dr_s' (List.sublist_append_left _ _) <| ?_
  apply dcF (fl := fl) (t := 44) (z := .agg ⟨[.bool false, .slice none 0 0]⟩)
  case ho => exact rfl
  case hg => exact rfl
  case hk => exact rfl
  case hd => exact rfl
  case hF => intro b; repeat (first | exact .nil | refine .cons rfl ?_)
  case hO => exact fun _ => (List.perm_append_singleton _ _).symm
  case hs => exact List.sublist_append_left _ _
  intro fl
  refine ch_call rfl rfl (R_Num (z := ⟨z2n, z2d, z2p⟩) hz2 (by omega)) rfl ?_
  rintro _ G16 _ ⟨x2, rfl, hx2⟩
  refine dr_s' (List.sublist_append_left _ _) <| ?_
  apply dcF (fl := fl) (t := 44) (z := .agg ⟨[.bool false, .slice none 0 0]⟩)
  case ho => exact rfl
  case hg => exact rfl
  case hk => exact rfl
  case hd => exact rfl
  case hF => intro b; repeat (first | exact .nil | refine .cons rfl ?_)
  case hO => exact fun _ => (List.perm_append_singleton _ _).symm
  case hs => exact List.sublist_append_left _ _
  intro fl
  refine ch_call rfl rfl (R_Den (z := ⟨z1n, z1d, z1p⟩) hz1 (by omega)) rfl ?_
  rintro _ G17 _ ⟨y1, rfl, hy1⟩
  have hy1I : IsI k1 G17 ⟨false, y1⟩ (q1.den : Int) := ⟨by simp, hy1⟩
  refine dr_s' (List.sublist_append_left _ _) <| ?_
  refine dyF rfl (fun _ => yd_build rfl) rfl rfl (List.sublist_append_left _ _) ?_
  apply dcF (fl := fl) (t := 44) (z := .agg ⟨[.bool false, .slice none 0 0]⟩)
  case ho => exact rfl
  case hg => exact rfl
  case hk => exact rfl
  case hd => exact rfl
  case hF => intro b; repeat (first | exact .nil | refine .cons rfl ?_)
  case hO => exact fun _ => (List.perm_append_singleton _ _).symm
  case hs => exact List.sublist_append_left _ _
  intro fl
  refine ch_call rfl rfl (mul_I (y := ⟨false, y1⟩) hx2 hy1I (by omega)) rfl ?_
  rintro _ G18 _ ⟨m2, rfl, hm2⟩
  rw [Nat.add_comm k2 k1] at hm2
  refine dr_s' (List.sublist_append_left _ _) <| ?_
  apply dcF (fl := fl) (t := 44) (z := .agg ⟨[.bool false, .slice none 0 0]⟩)
  case ho => exact rfl
  case hg => exact rfl
  case hk => exact rfl
  case hd => exact rfl
  case hF => intro b; repeat (first | exact .nil | refine .cons rfl ?_)
  case hO => exact fun _ => (List.perm_append_singleton _ _).symm
  case hs => exact List.sublist_append_left _ _
  intro fl
  refine ch_call rfl rfl (add_I hm1 hm2 (by omega)) rfl ?_
  rintro _ G19 _ ⟨m3, rfl, hm3⟩
  refine dr_s' (List.sublist_append_left _ _) <| ?_
  apply dF_out (fl := fl) (t := 44) (z := .agg ⟨[.bool false, .slice none 0 0]⟩)
  case hk => exact rfl
  case hd => exact rfl
  case hF => intro b; repeat (first | exact .nil | refine .cons rfl ?_)
  case hO => exact fun _ => List.perm_append_singleton _ _
  case hs => exact List.sublist_append_left _ _
  intro b20
  simp only [fO, fF, List.append_nil]
  refine dc rfl rfl (ch_store rfl rfl (.hd ..) rfl (Nat.le_refl 2) rfl rfl ?_)
  refine dr_f rfl <| dn <| ?_
  refine st_seq <| dr (fun i => Nat.beq i 7) [(0, true), (1, true), (3, true), (2, false), (4, false), (5, false), (6, false), (7, false)] follows (by kernel_rfl) <| dy rfl (fun _ => yd_load_own rfl rfl) rfl rfl <| ?_
  refine dy rfl (fun _ => yd_load_own rfl rfl) rfl rfl <| dy rfl (fun _ => yd_load_own rfl rfl) rfl rfl <| ?_
  refine dc rfl rfl (ch_call rfl rfl (R_Den (z := ⟨z1n, z1d, z1p⟩) hz1 (by omega)) rfl ?_)
  rintro _ G21 _ ⟨y3, rfl, hy3⟩
  refine dr_s <| ?_
  refine dc rfl rfl (ch_call rfl rfl (R_Den (z := ⟨z2n, z2d, z2p⟩) hz2 (by omega)) rfl ?_)
  rintro _ G22 _ ⟨y4, rfl, hy4⟩
  refine dr_s <| ?_
  refine dc rfl rfl (ch_call rfl rfl (mul_N hy3 hy4 (by omega)) rfl ?_)
  rintro _ G23 _ ⟨y5, rfl, hy5⟩
  refine dr_s <| ?_
  refine dc rfl rfl (ch_call rfl rfl (reduce_I hm3 (hy5.mono' (Nat.le_succ _)) (by omega) hk) rfl ?_)
  rintro _ G24 _ ⟨z, rfl, hz⟩
  refine dr_s <| ?_
  refine dc rfl rfl (ch_store rfl rfl (.tl _ _ _ _ _ _ _ _ (.hd ..)) rfl (Nat.le_refl 3) rfl rfl ?_)
  refine dr_f rfl <| dn <| st_ret <| ?_
  exact st_done (.agg rfl inferInstance inferInstance rfl .nil) ⟨z, rfl, by rw [hadd]; exact hz⟩
end Go.Sx
end

section
set_option maxRecDepth 100000
namespace Go.Sx
open Go Go.Proofs

theorem R_Sub {A B G : Gh} {z1 z2 : RV} {q1 q2 : Rat} {k1 k2 : Nat} (hz1 : IsR k1 A z1 q1) (hz2 : IsR k2 B z2 q2) [GL A G] [GL B G] (hk : k1 + k2 + 1 ≤ 1099511627776) :
    Fn Tryz.prog 183 [.agg ⟨[.int .i64 z1.n, .int .i64 z1.d, .pointer z1.p]⟩, .agg ⟨[.int .i64 z2.n, .int .i64 z2.d, .pointer z2.p]⟩] G (fun v G' => ∃ x : RV, v = x.v ∧ IsR (k1 + k2 + 1) G' x (q1 - q2)) := by
  refine Fn.intro Tryz.func183 rfl rfl Tryz.ntmps183 rfl ?_
  intro C _ _
  refine st_seq <| st_region <| ?_
  refine sc (ch_box rfl rfl ?_)
  intro b1
  refine sc (ch_box rfl rfl ?_)
  intro b2
  refine sc (ch_alloc rfl ?_)
  intro b3
  refine st_end <| st_seq <| dr (fun i => Nat.beq i 4) [(0, true), (1, true), (2, false), (3, false), (4, false)] follows (by kernel_rfl) <| dy rfl (fun _ => yd_load_own rfl rfl) rfl rfl <| dy rfl (fun _ => yd_load_own rfl rfl) rfl rfl <| ?_
  refine dc rfl rfl (ch_call rfl rfl (R_Neg hz2 (by omega)) rfl ?_)
  rintro _ G4 _ ⟨x, rfl, hx⟩
  refine dr_s <| ?_
  refine dc rfl rfl (ch_call rfl rfl (R_Add hz1 hx hk) rfl ?_)
  rintro _ G5 _ ⟨z, rfl, hz⟩
  refine dr_s <| ?_
  refine dc rfl rfl (ch_store rfl rfl (.hd ..) rfl (Nat.le_refl 3) rfl rfl ?_)
  refine dr_f rfl <| dn <| st_ret <| ?_
  exact st_done (.agg rfl inferInstance inferInstance rfl .nil) ⟨z, rfl, by rw [Rat.sub_eq_add_neg]; exact hz⟩

/-- What Cmp answers. -/
def rcmp (a b : Rat) : Int := if a < b then -1 else if b < a then 1 else 0
theorem sub_num_neg (a b : Rat) : (a - b).num < 0 ↔ a < b := by
  rw [← Rat.not_le, Rat.le_iff_sub_nonneg, ← Rat.num_nonneg]; omega
theorem sub_num_pos (a b : Rat) : 0 < (a - b).num ↔ b < a := by
  have h := sub_num_neg b a
  have h2 : (b - a).num = -(a - b).num := by rw [← Rat.neg_num, Rat.neg_sub]
  rw [h2] at h
  rw [← h]; omega
theorem sign_sub (a b : Rat) : Int.sign (a - b).num = rcmp a b := by
  unfold rcmp
  split
  · rename_i h; exact Int.sign_eq_neg_one_of_neg ((sub_num_neg a b).2 h)
  · rename_i h
    split
    · rename_i h2; exact Int.sign_eq_one_of_pos ((sub_num_pos a b).2 h2)
    · rename_i h2
      rw [← sub_num_neg] at h
      rw [← sub_num_pos] at h2
      rw [show (a - b).num = 0 by omega]; rfl
theorem lt_same {a b : Rat} (h : a.den = b.den) : a < b ↔ a.num < b.num := by
  rw [Rat.lt_iff, h]
  have : (0 : Int) < b.den := by have := b.den_pos; omega
  exact ⟨fun h2 => Int.lt_of_mul_lt_mul_right h2 (Int.le_of_lt this), fun h2 => Int.mul_lt_mul_of_pos_right h2 this⟩

set_option maxHeartbeats 1000000 in
theorem R_Cmp {A B G : Gh} {z1 z2 : RV} {q1 q2 : Rat} {k1 k2 : Nat} (hz1 : IsR k1 A z1 q1) (hz2 : IsR k2 B z2 q2) [GL A G] [GL B G] (hk : k1 + k2 + 1 ≤ 1099511627776) :
    Fn Tryz.prog 147 [.agg ⟨[.int .i64 z1.n, .int .i64 z1.d, .pointer z1.p]⟩, .agg ⟨[.int .i64 z2.n, .int .i64 z2.d, .pointer z2.p]⟩] G (fun v _ => v = .int .i64 (rcmp q1 q2)) := by
  obtain ⟨z1n, z1d, z1p⟩ := z1
  obtain ⟨z2n, z2d, z2p⟩ := z2
  show Fn _ _ [.agg ⟨[.int .i64 z1n, .int .i64 z1d, .pointer z1p]⟩, .agg ⟨[.int .i64 z2n, .int .i64 z2d, .pointer z2p]⟩] _ _
  refine Fn.intro Tryz.func147 rfl rfl Tryz.ntmps147 rfl ?_
  intro C _ _
  refine st_seq <| st_region <| ?_
  refine sc (ch_box rfl rfl ?_)
  intro b1
  refine sc (ch_box rfl rfl ?_)
  intro b2
  refine sa rfl rfl <| st_end <| st_seq <| st_seq <| st_region <| sf rfl rfl <| slo1 rfl rfl rfl <| sy (yd_eqP rfl rfl) rfl <| sm rfl rfl <| ?_
  rcases hz1.2.2 with ⟨hp, hn, hd, hs1, hs2⟩ | ⟨hn, hd, ⟨b, x, y, hp, hg, hx, hy⟩, hno⟩
  · simp only [] at hp hn hd
    subst hp hn hd
    refine syg rfl rfl (yd_fieldAddr rfl) rfl <| syg rfl rfl (yd_load_own1 rfl rfl) rfl <| syg rfl rfl (yd_eqP rfl rfl) rfl <| sy (yd_pickT rfl rfl) rfl <| sm rfl rfl <| ?_
    rcases hz2.2.2 with ⟨hp, hn, hd, hs3, hs4⟩ | ⟨hn, hd, ⟨b, x, y, hp, hg, hx, hy⟩, hno⟩
    · simp only [] at hp hn hd
      subst hp hn hd
      refine syg rfl rfl (yd_fieldAddr rfl) rfl <| syg rfl rfl (yd_load_own1 rfl rfl) rfl <| syg rfl rfl (yd_fieldAddr rfl) rfl <| syg rfl rfl (yd_load_own1 rfl rfl) rfl <| syg rfl rfl (yd_eql rfl rfl) rfl <| ?_
      refine sy (yd_pickT rfl rfl) rfl <| st_end <| ?_
      refine st_condP rfl (fun hc => ?_) (fun hc => ?_) -- slot 19
      · have hden : q1.den = q2.den := by omega
        refine st_seq <| st_block <| st_seq <| st_region <| sf rfl rfl <| slo1 rfl rfl rfl <| sf rfl rfl <| slo1 rfl rfl rfl <| sy (yd_lss rfl rfl) rfl <| sa rfl rfl <| st_end <| ?_
        refine st_condP rfl (fun hc1 => ?_) (fun hc1 => ?_) -- slot 20
        · refine st_seq <| st_region <| sa rfl rfl <| st_end <| st_ret <| ?_
          exact st_done (.tmp rfl .nil) (by rw [rcmp, if_pos ((lt_same hden).2 hc1)]; rfl)
        refine st_seq <| st_region <| sf rfl rfl <| slo1 rfl rfl rfl <| sf rfl rfl <| slo1 rfl rfl rfl <| sy (yd_gtr rfl rfl) rfl <| sa rfl rfl <| st_end <| ?_
        refine st_condP rfl (fun hc2 => ?_) (fun hc2 => ?_) -- slot 26
        · refine st_seq <| st_region <| sa rfl rfl <| st_end <| st_ret <| ?_
          exact st_done (.tmp rfl .nil) (by rw [rcmp, if_neg (fun h => hc1 ((lt_same hden).1 h)), if_pos ((lt_same hden.symm).2 hc2)]; rfl)
        refine st_skipc <| st_seq <| st_region <| sa rfl rfl <| st_end <| st_ret <| ?_
        exact st_done (.tmp rfl .nil) (by rw [rcmp, if_neg (fun h => hc1 ((lt_same hden).1 h)), if_neg (fun h => hc2 ((lt_same hden.symm).1 h))]; rfl)
      refine st_skipc <| st_seq <| st_region <| slo rfl rfl rfl <| slo rfl rfl rfl <| ?_
      refine sc (ch_call rfl rfl (R_Sub hz1 hz2 hk) rfl ?_)
      rintro _ G3 _ ⟨z, rfl, hz⟩
      refine sc (ch_call rfl rfl (R_Sign hz hk) rfl ?_)
      rintro _ G4 _ rfl
      rw [sign_sub]
      refine sa rfl rfl <| st_end <| st_ret <| ?_
      exact st_done (.tmp rfl .nil) rfl
    · simp only [] at hp hn hd
      subst hp hn hd
      refine ss rfl rfl rfl rfl <| ss rfl rfl rfl rfl <| ss rfl rfl rfl rfl <| ss rfl rfl rfl rfl <| ss rfl rfl rfl rfl <| sy (yd_pickF rfl rfl) rfl <| st_end <| st_condF rfl <| st_skipc <| st_seq <| ?_
      refine st_region <| slo rfl rfl rfl <| slo rfl rfl rfl <| ?_
      refine sc (ch_call rfl rfl (R_Sub hz1 hz2 hk) rfl ?_)
      rintro _ G3 _ ⟨z, rfl, hz⟩
      refine sc (ch_call rfl rfl (R_Sign hz hk) rfl ?_)
      rintro _ G4 _ rfl
      rw [sign_sub]
      refine sa rfl rfl <| st_end <| st_ret <| ?_
      exact st_done (.tmp rfl .nil) rfl
  · simp only [] at hp hn hd
    subst hp hn hd
    refine ss rfl rfl rfl rfl <| ss rfl rfl rfl rfl <| ss rfl rfl rfl rfl <| sy (yd_pickF rfl rfl) rfl <| sm rfl rfl <| ss rfl rfl rfl rfl <| ss rfl rfl rfl rfl <| ss rfl rfl rfl rfl <| ss rfl rfl rfl rfl <| ?_
    refine ss rfl rfl rfl rfl <| sy (yd_pickF rfl rfl) rfl <| st_end <| st_condF rfl <| st_skipc <| st_seq <| st_region <| slo rfl rfl rfl <| slo rfl rfl rfl <| ?_
    refine sc (ch_call rfl rfl (R_Sub hz1 hz2 hk) rfl ?_)
    rintro _ G3 _ ⟨z, rfl, hz⟩
    refine sc (ch_call rfl rfl (R_Sign hz hk) rfl ?_)
    rintro _ G4 _ rfl
    rw [sign_sub]
    refine sa rfl rfl <| st_end <| st_ret <| ?_
    exact st_done (.tmp rfl .nil) rfl
theorem rcmp_eq (a b : Rat) : rcmp a b = 0 ↔ a = b := by
  unfold rcmp
  constructor
  · intro h
    split at h
    · omega
    · rename_i h1
      split at h
      · omega
      · rename_i h2
        exact Rat.le_antisymm (Rat.not_lt.1 h2) (Rat.not_lt.1 h1)
  · intro h
    subst h
    rw [if_neg (Rat.not_lt.2 Rat.le_refl), if_neg (Rat.not_lt.2 Rat.le_refl)]
theorem R_Equal {A B G : Gh} {z1 z2 : RV} {q1 q2 : Rat} {k1 k2 : Nat} (hz1 : IsR k1 A z1 q1) (hz2 : IsR k2 B z2 q2) [GL A G] [GL B G] (hk : k1 + k2 + 1 ≤ 1099511627776) :
    Fn Tryz.prog 101 [.agg ⟨[.int .i64 z1.n, .int .i64 z1.d, .pointer z1.p]⟩, .agg ⟨[.int .i64 z2.n, .int .i64 z2.d, .pointer z2.p]⟩] G (fun v _ => v = .bool (decide (q1 = q2))) := by
  refine Fn.intro Tryz.func101 rfl rfl Tryz.ntmps101 rfl ?_
  intro C _ _
  refine st_seq <| st_region <| ?_
  refine sc (ch_box rfl rfl ?_)
  intro b1
  refine sc (ch_box rfl rfl ?_)
  intro b2
  refine sa rfl rfl <| st_end <| st_seq <| st_region <| slo rfl rfl rfl <| slo rfl rfl rfl <| ?_
  refine sc (ch_call rfl rfl (R_Cmp hz1 hz2 hk) rfl ?_)
  rintro _ G3 _ rfl
  refine sy (yd_eql rfl rfl) rfl <| sa rfl rfl <| st_end <| st_ret <| ?_
  refine st_done (.tmp rfl .nil) ?_
  show Value.bool (decide (rcmp q1 q2 = 0)) = _
  rw [decide_eq_decide.2 (rcmp_eq q1 q2)]
end Go.Sx
end

section
set_option maxRecDepth 100000
namespace Go.Sx
open Go Go.Proofs

theorem rcmp_pos (a b : Rat) : 0 < rcmp a b ↔ b < a := by
  unfold rcmp
  constructor
  · intro h
    split at h
    · omega
    · split at h
      · assumption
      · omega
  · intro h
    rw [if_neg (fun h2 => Rat.not_lt.2 (Rat.le_of_lt h) h2), if_pos h]; decide
theorem rcmp_neg (a b : Rat) : rcmp a b < 0 ↔ a < b := by
  unfold rcmp
  constructor
  · intro h
    split at h
    · assumption
    · split at h <;> omega
  · intro h
    rw [if_pos h]; decide
theorem frac_Max {A B G : Gh} {z1 z2 : RV} {q1 q2 : Rat} {k1 k2 : Nat} (hz1 : IsR k1 A z1 q1) (hz2 : IsR k2 B z2 q2) [GL A G] [GL B G] (hk : k1 + k2 + 1 ≤ 1099511627776) :
    Fn Tryz.prog 220 [.agg ⟨[.int .i64 z1.n, .int .i64 z1.d, .pointer z1.p]⟩, .agg ⟨[.int .i64 z2.n, .int .i64 z2.d, .pointer z2.p]⟩] G (fun v G' => ∃ x : RV, v = x.v ∧ IsR (max k1 k2) G' x (if q1 < q2 then q2 else q1)) := by
  refine Fn.intro Tryz.func220 rfl rfl Tryz.ntmps220 rfl ?_
  intro C _ _
  refine st_seq <| st_region <| ?_
  refine sc (ch_box rfl rfl ?_)
  intro b1
  refine sc (ch_box rfl rfl ?_)
  intro b2
  refine sc (ch_alloc rfl ?_)
  intro b3
  refine st_end <| st_seq <| st_seq <| st_region <| slo rfl rfl rfl <| slo rfl rfl rfl <| ?_
  refine sc (ch_call rfl rfl (R_Cmp hz2 hz1 (by omega)) rfl ?_)
  rintro _ G4 _ rfl
  refine sy (yd_gtr rfl rfl) rfl <| st_end <| ?_
  refine st_condP rfl (fun hc => ?_) (fun hc => ?_) -- slot 8
  · refine st_seq <| st_region <| slo rfl rfl rfl <| ?_
    refine sc (ch_store rfl rfl (.hd ..) rfl (Nat.le_refl 3) rfl rfl ?_)
    refine st_end <| st_ret <| ?_
    exact st_done (.agg rfl inferInstance inferInstance rfl .nil) ⟨z2, rfl, by rw [if_pos ((rcmp_pos q2 q1).1 hc)]; exact hz2.up.mono' (by omega)⟩
  refine st_skipc <| st_seq <| st_region <| slo rfl rfl rfl <| ?_
  refine sc (ch_store rfl rfl (.hd ..) rfl (Nat.le_refl 3) rfl rfl ?_)
  refine st_end <| st_ret <| ?_
  exact st_done (.agg rfl inferInstance inferInstance rfl .nil) ⟨z1, rfl, by rw [if_neg (fun h => hc ((rcmp_pos q2 q1).2 h))]; exact hz1.up.mono' (by omega)⟩
theorem frac_Min {A B G : Gh} {z1 z2 : RV} {q1 q2 : Rat} {k1 k2 : Nat} (hz1 : IsR k1 A z1 q1) (hz2 : IsR k2 B z2 q2) [GL A G] [GL B G] (hk : k1 + k2 + 1 ≤ 1099511627776) :
    Fn Tryz.prog 221 [.agg ⟨[.int .i64 z1.n, .int .i64 z1.d, .pointer z1.p]⟩, .agg ⟨[.int .i64 z2.n, .int .i64 z2.d, .pointer z2.p]⟩] G (fun v G' => ∃ x : RV, v = x.v ∧ IsR (max k1 k2) G' x (if q2 < q1 then q2 else q1)) := by
  refine Fn.intro Tryz.func221 rfl rfl Tryz.ntmps221 rfl ?_
  intro C _ _
  refine st_seq <| st_region <| ?_
  refine sc (ch_box rfl rfl ?_)
  intro b1
  refine sc (ch_box rfl rfl ?_)
  intro b2
  refine sc (ch_alloc rfl ?_)
  intro b3
  refine st_end <| st_seq <| st_seq <| st_region <| slo rfl rfl rfl <| slo rfl rfl rfl <| ?_
  refine sc (ch_call rfl rfl (R_Cmp hz2 hz1 (by omega)) rfl ?_)
  rintro _ G4 _ rfl
  refine sy (yd_lss rfl rfl) rfl <| st_end <| ?_
  refine st_condP rfl (fun hc => ?_) (fun hc => ?_) -- slot 8
  · refine st_seq <| st_region <| slo rfl rfl rfl <| ?_
    refine sc (ch_store rfl rfl (.hd ..) rfl (Nat.le_refl 3) rfl rfl ?_)
    refine st_end <| st_ret <| ?_
    exact st_done (.agg rfl inferInstance inferInstance rfl .nil) ⟨z2, rfl, by rw [if_pos ((rcmp_neg q2 q1).1 hc)]; exact hz2.up.mono' (by omega)⟩
  refine st_skipc <| st_seq <| st_region <| slo rfl rfl rfl <| ?_
  refine sc (ch_store rfl rfl (.hd ..) rfl (Nat.le_refl 3) rfl rfl ?_)
  refine st_end <| st_ret <| ?_
  exact st_done (.agg rfl inferInstance inferInstance rfl .nil) ⟨z1, rfl, by rw [if_neg (fun h => hc ((rcmp_neg q2 q1).2 h))]; exact hz1.up.mono' (by omega)⟩
end Go.Sx
end

section
set_option maxRecDepth 100000
namespace Go.Sx
open Go Go.Proofs

/-- The greatest common divisor of two fractions. -/
def rgcd (a b : Rat) : Rat := mkRat ((Nat.gcd (a.num.natAbs * b.den) (b.num.natAbs * a.den) : Nat) : Int) (a.den * b.den)
theorem rgcd_int (a b : Int) : rgcd a b = ((Nat.gcd a.natAbs b.natAbs : Nat) : Int) := by
  unfold rgcd
  show mkRat ((Nat.gcd (a.natAbs * 1) (b.natAbs * 1) : Nat) : Int) (1 * 1) = _
  rw [Nat.mul_one, Nat.mul_one, Nat.mul_one, Rat.mkRat_one]
theorem gcd_lt {a b m : Nat} (ha : a < m) (hb : b < m) : Nat.gcd a b < m := by
  rcases Nat.eq_zero_or_pos a with h | h
  · rw [h, Nat.gcd_zero_left]; exact hb
  · exact Nat.lt_of_le_of_lt (Nat.gcd_le_left _ h) ha

set_option maxHeartbeats 1000000 in
theorem frac_Gcd {A B G : Gh} {z1 z2 : RV} {q1 q2 : Rat} {k1 k2 : Nat} (hz1 : IsR k1 A z1 q1) (hz2 : IsR k2 B z2 q2) [GL A G] [GL B G] (hk : k1 + k2 ≤ 1099511627776) :
    Fn Tryz.prog 100 [.agg ⟨[.int .i64 z1.n, .int .i64 z1.d, .pointer z1.p]⟩, .agg ⟨[.int .i64 z2.n, .int .i64 z2.d, .pointer z2.p]⟩] G (fun v G' => ∃ x : RV, v = x.v ∧ IsR (k1 + k2) G' x (rgcd q1 q2)) := by
  have hk11 := hz1.k1
  have hb1 : q1.num.natAbs * q2.den < 2 ^ (k1 + k2) := lt_pow_add hz1.1 hz2.2.1
  have hb2 : q2.num.natAbs * q1.den < 2 ^ (k1 + k2) := by rw [Nat.mul_comm]; exact lt_pow_add hz1.2.1 hz2.1
  have hbg := gcd_lt hb1 hb2
  obtain ⟨z1n, z1d, z1p⟩ := z1
  obtain ⟨z2n, z2d, z2p⟩ := z2
  show Fn _ _ [.agg ⟨[.int .i64 z1n, .int .i64 z1d, .pointer z1p]⟩, .agg ⟨[.int .i64 z2n, .int .i64 z2d, .pointer z2p]⟩] _ _
  refine Fn.intro Tryz.func100 rfl rfl Tryz.ntmps100 rfl ?_
  intro C _ _
  refine st_seq <| st_region <| ?_
  refine sc (ch_box rfl rfl ?_)
  intro b1
  refine sc (ch_box rfl rfl ?_)
  intro b2
  refine sc (ch_alloc rfl ?_)
  intro b3
  refine st_end <| ?_
  refine st_cut Unit (fun _ => [(2, .pointer (some ⟨b1, 0, none⟩)), (3, .pointer (some ⟨b2, 0, none⟩)), (4, .pointer (some ⟨b3, 0, none⟩))]) (fun _ => [⟨b3, [.int .i64 0, .int .i64 0, .pointer none], 103, true⟩, ⟨b2, [.int .i64 z2n, .int .i64 z2d, .pointer z2p], 103, true⟩, ⟨b1, [.int .i64 z1n, .int .i64 z1d, .pointer z1p], 103, true⟩]) (fun _ _ => True) ?_ ?_
  · refine st_seq <| st_region <| sf rfl rfl <| slo1 rfl rfl rfl <| sy (yd_eqP rfl rfl) rfl <| sm rfl rfl <| ?_
    rcases hz1.2.2 with ⟨hp, hn, hd, hs1, hs2⟩ | ⟨hn, hd, ⟨b, x, y, hp, hg, hx, hy⟩, hno⟩
    · simp only [] at hp hn hd
      subst hp hn hd
      refine syg rfl rfl (yd_fieldAddr rfl) rfl <| syg rfl rfl (yd_load_own1 rfl rfl) rfl <| syg rfl rfl (yd_eqP rfl rfl) rfl <| sy (yd_pickT rfl rfl) rfl <| sm rfl rfl <| ?_
      rcases hz2.2.2 with ⟨hp, hn, hd, hs3, hs4⟩ | ⟨hn, hd, ⟨b, x, y, hp, hg, hx, hy⟩, hno⟩
      · simp only [] at hp hn hd
        subst hp hn hd
        refine syg rfl rfl (yd_fieldAddr rfl) rfl <| syg rfl rfl (yd_load_own1 rfl rfl) rfl <| syg rfl rfl (yd_eql rfl rfl) rfl <| sy (yd_pickT rfl rfl) rfl <| sm rfl rfl <| ?_
        refine st_caseP 20 rfl (fun hd1 => ?_) (fun hd1 => ?_)
        · refine syg rfl rfl (yd_fieldAddr rfl) rfl <| syg rfl rfl (yd_load_own1 rfl rfl) rfl <| syg rfl rfl (yd_eql rfl rfl) rfl <| sy (yd_pickT rfl rfl) rfl <| st_end <| ?_
          refine st_condP rfl (fun hd2 => ?_) (fun hd2 => ?_) -- slot 24
          · have e1 : q1.den = 1 := by omega
            have e2 : q2.den = 1 := by omega
            have hr : rgcd q1 q2 = ((Nat.gcd q1.num.natAbs q2.num.natAbs : Nat) : Int) := by
              conv => lhs; rw [rat_int e1, rat_int e2]
              exact rgcd_int _ _
            have hg62 := gcd_lt hs1 hs3
            rw [e1, e2, Nat.mul_one, Nat.mul_one] at hbg
            refine st_seq <| dr (fun i => Nat.beq i 9) [(0, true), (1, true), (3, true), (4, true), (2, false), (5, false), (6, false), (7, true), (8, true), (9, false)] follows (by kernel_rfl) <| dy rfl (fun _ => yd_fieldAddr rfl) rfl rfl <| ?_
            refine dy rfl (fun _ => yd_load_own1 rfl rfl) rfl rfl <| dy rfl (fun _ => yd_fieldAddr rfl) rfl rfl <| dy rfl (fun _ => yd_load_own1 rfl rfl) rfl rfl <| ?_
            refine dc rfl rfl (ch_call rfl rfl (frac_abs (by omega) (by omega)) rfl ?_)
            rintro _ G4 _ rfl
            refine dr_s <| ?_
            refine dc rfl rfl (ch_call rfl rfl (frac_abs (by omega) (by omega)) rfl ?_)
            rintro _ G5 _ rfl
            refine dr_s <| ?_
            refine dc rfl rfl (ch_call rfl rfl (frac_gcd (by omega) (by omega)) rfl ?_)
            rintro _ G6 _ rfl
            refine dr_s <| dy rfl (fun _ => yd_toI64 rfl (by omega) (by omega)) rfl rfl <| dy rfl (fun _ => yd_build rfl) rfl rfl <| ?_
            refine dc rfl rfl (ch_store rfl rfl (.hd ..) rfl (Nat.le_refl 3) rfl rfl ?_)
            refine dr_f rfl <| dn <| st_ret <| ?_
            exact st_done (.agg rfl inferInstance inferInstance rfl .nil) ⟨⟨_, 0, none⟩, rfl, by rw [hr]; exact .int (by omega) (by rw [Int.natAbs_natCast]; exact hbg) (by rw [Int.natAbs_natCast]; exact hg62)⟩
          refine st_skipc <| ?_
          exact st_at () trivial (.cons rfl (.cons rfl (.cons rfl .nil))) rfl
        refine ss rfl rfl rfl rfl <| ss rfl rfl rfl rfl <| ss rfl rfl rfl rfl <| sy (yd_pickF rfl rfl) rfl <| st_end <| st_condF rfl <| st_skipc <| ?_
        exact st_at () trivial (.cons rfl (.cons rfl (.cons rfl .nil))) rfl
      · simp only [] at hp hn hd
        subst hp hn hd
        refine ss rfl rfl rfl rfl <| ss rfl rfl rfl rfl <| ss rfl rfl rfl rfl <| sy (yd_pickF rfl rfl) rfl <| sm rfl rfl <| ss rfl rfl rfl rfl <| ss rfl rfl rfl rfl <| ss rfl rfl rfl rfl <| sy (yd_pickF rfl rfl) rfl <| ?_
        refine st_end <| st_condF rfl <| st_skipc <| ?_
        exact st_at () trivial (.cons rfl (.cons rfl (.cons rfl .nil))) rfl
    · simp only [] at hp hn hd
      subst hp hn hd
      refine ss rfl rfl rfl rfl <| ss rfl rfl rfl rfl <| ss rfl rfl rfl rfl <| sy (yd_pickF rfl rfl) rfl <| sm rfl rfl <| ss rfl rfl rfl rfl <| ss rfl rfl rfl rfl <| ss rfl rfl rfl rfl <| sy (yd_pickF rfl rfl) rfl <| ?_
      refine sm rfl rfl <| ss rfl rfl rfl rfl <| ss rfl rfl rfl rfl <| ss rfl rfl rfl rfl <| sy (yd_pickF rfl rfl) rfl <| st_end <| st_condF rfl <| st_skipc <| ?_
      exact st_at () trivial (.cons rfl (.cons rfl (.cons rfl .nil))) rfl
  rintro _ Gx _ _
  refine st_seq <| dr (fun _ => false) [(0, true), (2, true), (1, false), (3, false), (4, false), (5, true)] follows (by kernel_rfl) <| dy rfl (fun _ => yd_load_own rfl rfl) rfl rfl <| ?_
  refine dy rfl (fun _ => yd_load_own rfl rfl) rfl rfl <| ?_
  refine dc rfl rfl (ch_call rfl rfl (R_Den (z := ⟨z1n, z1d, z1p⟩) hz1 (by omega)) rfl ?_)
  rintro _ G7 _ ⟨y1, rfl, hy1⟩
  refine dr_s <| ?_
  refine dc rfl rfl (ch_call rfl rfl (R_Den (z := ⟨z2n, z2d, z2p⟩) hz2 (by omega)) rfl ?_)
  rintro _ G8 _ ⟨y2, rfl, hy2⟩
  refine dr_s <| ?_
  refine dc rfl rfl (ch_call rfl rfl (mul_N hy1 hy2 hk) rfl ?_)
  rintro _ G9 _ ⟨y3, rfl, hy3⟩
  refine dr_s <| dy rfl (fun _ => yd_assign rfl) rfl rfl <| dn <| st_seq <| dr (fun _ => false) [(0, true), (3, true), (6, true), (9, true), (1, false), (2, true), (4, false), (5, false), (7, false), (8, true), (10, false), (11, false), (12, false), (13, true)] follows (by kernel_rfl) <| ?_
  refine dy rfl (fun _ => yd_load_own rfl rfl) rfl rfl <| dy rfl (fun _ => yd_load_own rfl rfl) rfl rfl <| dy rfl (fun _ => yd_load_own rfl rfl) rfl rfl <| dy rfl (fun _ => yd_load_own rfl rfl) rfl rfl <| ?_
  refine dc rfl rfl (ch_call rfl rfl (R_Num (z := ⟨z1n, z1d, z1p⟩) hz1 (by omega)) rfl ?_)
  rintro _ G10 _ ⟨x1, rfl, hx1⟩
  refine dr_s <| dy rfl (fun _ => yd_fieldS rfl rfl) rfl rfl <| ?_
  refine dc rfl rfl (ch_call rfl rfl (R_Den (z := ⟨z2n, z2d, z2p⟩) hz2 (by omega)) rfl ?_)
  rintro _ G11 _ ⟨y4, rfl, hy4⟩
  refine dr_s <| ?_
  refine dc rfl rfl (ch_call rfl rfl (mul_N hx1.abs hy4 hk) rfl ?_)
  rintro _ G12 _ ⟨y5, rfl, hy5⟩
  refine dr_s <| ?_
  refine dc rfl rfl (ch_call rfl rfl (R_Num (z := ⟨z2n, z2d, z2p⟩) hz2 (by omega)) rfl ?_)
  rintro _ G13 _ ⟨x2, rfl, hx2⟩
  refine dr_s <| dy rfl (fun _ => yd_fieldS rfl rfl) rfl rfl <| ?_
  refine dc rfl rfl (ch_call rfl rfl (R_Den (z := ⟨z1n, z1d, z1p⟩) hz1 (by omega)) rfl ?_)
  rintro _ G14 _ ⟨y6, rfl, hy6⟩
  refine dr_s <| ?_
  refine dc rfl rfl (ch_call rfl rfl (mul_N hx2.abs hy6 (by omega)) rfl ?_)
  rintro _ G15 _ ⟨y7, rfl, hy7⟩
  refine dr_s <| ?_
  have hl5 := dg_len_le hy5.lt
  have hl7 := dg_len_le hy7.lt
  refine dc rfl rfl (ch_call rfl rfl (nat_Gcd (k := k1 + k2) (k0 := k1 + k2) hy5.d hy7.d (by rw [hy5.dvl]; exact hb1) (by rw [hy7.dvl]; exact hb2) hk (by rw [hy5.dvl, hy7.dvl]; exact hbg) (by omega) (by omega)) rfl ?_)
  rintro _ G16 _ ⟨g, rfl, hg⟩
  rw [hy5.dvl, hy7.dvl] at hg
  refine dr_s <| dy rfl (fun _ => yd_assign rfl) rfl rfl <| dn <| st_seq <| st_region <| sm rfl rfl <| sy (yd_build rfl) rfl <| sm rfl rfl <| ?_
  have hgI : IsI (k1 + k2) G16 ⟨false, g⟩ ((Nat.gcd (q1.num.natAbs * q2.den) (q2.num.natAbs * q1.den) : Nat) : Int) := ⟨by simp, by rw [Int.natAbs_natCast]; exact hg⟩
  refine sc (ch_call rfl rfl (reduce_I (x := ⟨false, g⟩) hgI hy3 (by omega) hk) rfl ?_)
  rintro _ G17 _ ⟨z, rfl, hz⟩
  refine sc (ch_store rfl rfl (.hd ..) rfl (Nat.le_refl 3) rfl rfl ?_)
  refine st_end <| st_ret <| ?_
  exact st_done (.agg rfl inferInstance inferInstance rfl .nil) ⟨z, rfl, hz⟩
end Go.Sx
end

section
set_option maxRecDepth 100000
namespace Go.Sx
open Go Go.Proofs

/-- A line as the program holds it, and its numbers. -/
structure LV where
  a : RV
  b : RV
  c : RV
def LV.v (z : LV) : Value := .agg ⟨[.int .i64 z.a.n, .int .i64 z.a.d, .pointer z.a.p, .int .i64 z.b.n, .int .i64 z.b.d, .pointer z.b.p, .int .i64 z.c.n, .int .i64 z.c.d, .pointer z.c.p]⟩
structure LnQ where
  a : Int
  b : Int
  c : Int
structure IsL (k : Nat) (G : Gh) (z : LV) (l : LnQ) : Prop where
  a : IsR k G z.a (l.a : Rat)
  b : IsR k G z.b (l.b : Rat)
  c : IsR k G z.c (l.c : Rat)
theorem IsL.up {k : Nat} {A G : Gh} {z : LV} {l : LnQ} (h : IsL k A z l) [GL A G] : IsL k G z l := ⟨h.a.up, h.b.up, h.c.up⟩
/-- A valid line. -/
def LnQ.ok (l : LnQ) : Prop := ¬ (l.a = 0 ∧ l.b = 0) ∧ Nat.gcd (Nat.gcd l.a.natAbs l.b.natAbs) l.c.natAbs = 1
/-- A normal form of an integer. -/
def okI (neg : Bool) (ds : List Nat) : Prop := Nrm ds ∧ (neg = true → ds ≠ [])

set_option maxHeartbeats 2000000 in
theorem geo_LnOf {A B D G : Gh} {x y w : SV} {an bn cn : Bool} {da db d3 : List Nat} {k : Nat} (hx : IsD A x da) (hy : IsD B y db) (hw : IsD D w d3) [GL A G] [GL B G] [GL D G]
    (hxk : dv da < 2 ^ k) (hyk : dv db < 2 ^ k) (hwk : dv d3 < 2 ^ k) (hk1 : 1 ≤ k) (hk' : k ≤ 137438953472) (hxl : da.length ≤ 112589990684) (hyl : db.length ≤ 112589990684) (hwl : d3.length ≤ 112589990684) :
    Fn Tryz.prog 45 [.agg ⟨[.bool an, .slice x.a x.n x.c, .bool bn, .slice y.a y.n y.c, .bool cn, .slice w.a w.n w.c]⟩] G (fun v G' =>
      ((okI an da ∧ okI bn db ∧ okI cn d3 ∧ LnQ.ok ⟨zv an (dv da), zv bn (dv db), zv cn (dv d3)⟩) ∧ ∃ z : LV, v = .tuple #[z.v, .bool true] ∧ IsL k G' z ⟨zv an (dv da), zv bn (dv db), zv cn (dv d3)⟩) ∨
      (¬ (okI an da ∧ okI bn db ∧ okI cn d3 ∧ LnQ.ok ⟨zv an (dv da), zv bn (dv db), zv cn (dv d3)⟩) ∧ v = .tuple #[(.agg ⟨[.int .i64 0, .int .i64 0, .pointer none, .int .i64 0, .int .i64 0, .pointer none, .int .i64 0, .int .i64 0, .pointer none]⟩), .bool false])) := by
  have hk : k ≤ 1099511627776 := by omega
  refine Fn.intro Tryz.func45 rfl rfl Tryz.ntmps45 rfl ?_
  intro C _ _
  refine st_seq <| st_region <| ?_
  refine sc (ch_box rfl rfl ?_)
  intro b1
  refine sc (ch_alloc rfl ?_)
  intro b2
  refine sa rfl rfl <| st_end <| st_seq <| st_seq <| st_region <| sf rfl rfl <| slo rfl rfl rfl <| ?_
  refine sc (ch_call rfl rfl (integer_Normal (neg := an) hx (by omega)) rfl ?_)
  rintro _ G3 _ rfl
  by_cases hA : okI an da
  case neg =>
    rw [show decide (Nrm da ∧ (an = true → da ≠ [])) = false from decide_eq_false hA]
    refine sy (yd_not rfl) rfl <| sm rfl rfl <| ?_
    refine ss rfl rfl rfl rfl <| ss rfl rfl rfl rfl <| ss rfl rfl rfl rfl <| ss rfl rfl rfl rfl <| sy (yd_pickT rfl rfl) rfl <| sm rfl rfl <| ss rfl rfl rfl rfl <| ss rfl rfl rfl rfl <| ss rfl rfl rfl rfl <| ?_
    refine ss rfl rfl rfl rfl <| sy (yd_pickT rfl rfl) rfl <| st_end <| st_condT rfl <| ?_
    refine st_seq <| st_region <| sy (yd_build rfl) rfl <| ?_
    refine sc (ch_store rfl rfl (.hd ..) rfl (Nat.le_refl 9) rfl rfl ?_)
    refine sa rfl rfl <| st_end <| st_ret <| ?_
    exact st_done (.agg rfl inferInstance inferInstance rfl (.tmp rfl .nil)) (.inr ⟨fun h => hA h.1, rfl⟩)
  rw [show decide (Nrm da ∧ (an = true → da ≠ [])) = true from decide_eq_true hA]
  refine sy (yd_not rfl) rfl <| sm rfl rfl <| ?_
  refine syg rfl rfl (yd_fieldAddr rfl) rfl <| syg rfl rfl (yd_load_own rfl rfl) rfl <| ?_
  refine st_chg rfl rfl rfl (ch_call rfl rfl (integer_Normal (neg := bn) hy (by omega)) rfl ?_)
  rintro _ G4 _ rfl
  by_cases hB : okI bn db
  case neg =>
    rw [show decide (Nrm db ∧ (bn = true → db ≠ [])) = false from decide_eq_false hB]
    refine syg rfl rfl (yd_not rfl) rfl <| sy (yd_pickF rfl rfl) rfl <| sm rfl rfl <| ?_
    refine ss rfl rfl rfl rfl <| ss rfl rfl rfl rfl <| ss rfl rfl rfl rfl <| ss rfl rfl rfl rfl <| sy (yd_pickT rfl rfl) rfl <| st_end <| st_condT rfl <| ?_
    refine st_seq <| st_region <| sy (yd_build rfl) rfl <| ?_
    refine sc (ch_store rfl rfl (.hd ..) rfl (Nat.le_refl 9) rfl rfl ?_)
    refine sa rfl rfl <| st_end <| st_ret <| ?_
    exact st_done (.agg rfl inferInstance inferInstance rfl (.tmp rfl .nil)) (.inr ⟨fun h => hB h.2.1, rfl⟩)
  rw [show decide (Nrm db ∧ (bn = true → db ≠ [])) = true from decide_eq_true hB]
  refine syg rfl rfl (yd_not rfl) rfl <| sy (yd_pickF rfl rfl) rfl <| sm rfl rfl <| ?_
  refine syg rfl rfl (yd_fieldAddr rfl) rfl <| syg rfl rfl (yd_load_own rfl rfl) rfl <| ?_
  refine st_chg rfl rfl rfl (ch_call rfl rfl (integer_Normal (neg := cn) hw (by omega)) rfl ?_)
  rintro _ G5 _ rfl
  by_cases hC : okI cn d3
  case neg =>
    rw [show decide (Nrm d3 ∧ (cn = true → d3 ≠ [])) = false from decide_eq_false hC]
    refine syg rfl rfl (yd_not rfl) rfl <| sy (yd_pickF rfl rfl) rfl <| st_end <| st_condT rfl <| ?_
    refine st_seq <| st_region <| sy (yd_build rfl) rfl <| ?_
    refine sc (ch_store rfl rfl (.hd ..) rfl (Nat.le_refl 9) rfl rfl ?_)
    refine sa rfl rfl <| st_end <| st_ret <| ?_
    exact st_done (.agg rfl inferInstance inferInstance rfl (.tmp rfl .nil)) (.inr ⟨fun h => hC h.2.2.1, rfl⟩)
  rw [show decide (Nrm d3 ∧ (cn = true → d3 ≠ [])) = true from decide_eq_true hC]
  refine syg rfl rfl (yd_not rfl) rfl <| sy (yd_pickF rfl rfl) rfl <| st_end <| st_condF rfl <| ?_
  refine st_skipc <| st_seq <| ?_
  refine drF 4 105 (.agg ⟨[.int .i64 0, .int .i64 0, .pointer none, .int .i64 0, .int .i64 0, .pointer none, .int .i64 0, .int .i64 0, .pointer none]⟩) (fun i => Nat.beq i 11) 10 [(0, true), (1, true), (3, true), (4, true), (6, true), (7, true), (2, false), (5, false), (8, false), (9, true)] [(11, false)] follows (by kernel_rfl) (fun fl => ?_)
  refine dyF rfl (fun _ => yd_fieldAddr rfl) rfl rfl (List.sublist_append_left _ _) ?_
  refine dyF rfl (fun _ => yd_load_own rfl rfl) rfl rfl (List.sublist_append_left _ _) ?_
  refine dyF rfl (fun _ => yd_fieldAddr rfl) rfl rfl (List.sublist_append_left _ _) ?_
  refine dyF rfl (fun _ => yd_load_own rfl rfl) rfl rfl (List.sublist_append_left _ _) ?_
  refine dyF rfl (fun _ => yd_fieldAddr rfl) rfl rfl (List.sublist_append_left _ _) ?_
  refine dyF rfl (fun _ => yd_load_own rfl rfl) rfl rfl (List.sublist_append_left _ _) ?_
  apply dcF (fl := fl) (t := 105) (z := (.agg ⟨[.int .i64 0, .int .i64 0, .pointer none, .int .i64 0, .int .i64 0, .pointer none, .int .i64 0, .int .i64 0, .pointer none]⟩))
  case ho => exact rfl
  case hg => exact rfl
  case hk => exact rfl
  case hd => exact rfl
  case hF => intro b; repeat (first | exact .nil | refine .cons rfl ?_)
  case hO => exact fun _ => (List.perm_append_singleton _ _).symm
  case hs => exact List.sublist_append_left _ _
  intro fl
  refine ch_call rfl rfl (frac_Whole (x := x) (neg := an) (k := k) hx hxk hk1 hk hxl) rfl ?_
  rintro _ G6 _ ⟨z1, rfl, hz1⟩
  refine dr_s' (List.sublist_append_left _ _) ?_
  apply dcF (fl := fl) (t := 105) (z := (.agg ⟨[.int .i64 0, .int .i64 0, .pointer none, .int .i64 0, .int .i64 0, .pointer none, .int .i64 0, .int .i64 0, .pointer none]⟩))
  case ho => exact rfl
  case hg => exact rfl
  case hk => exact rfl
  case hd => exact rfl
  case hF => intro b; repeat (first | exact .nil | refine .cons rfl ?_)
  case hO => exact fun _ => (List.perm_append_singleton _ _).symm
  case hs => exact List.sublist_append_left _ _
  intro fl
  refine ch_call rfl rfl (frac_Whole (x := y) (neg := bn) (k := k) hy hyk hk1 hk hyl) rfl ?_
  rintro _ G7 _ ⟨z2, rfl, hz2⟩
  refine dr_s' (List.sublist_append_left _ _) ?_
  apply dcF (fl := fl) (t := 105) (z := (.agg ⟨[.int .i64 0, .int .i64 0, .pointer none, .int .i64 0, .int .i64 0, .pointer none, .int .i64 0, .int .i64 0, .pointer none]⟩))
  case ho => exact rfl
  case hg => exact rfl
  case hk => exact rfl
  case hd => exact rfl
  case hF => intro b; repeat (first | exact .nil | refine .cons rfl ?_)
  case hO => exact fun _ => (List.perm_append_singleton _ _).symm
  case hs => exact List.sublist_append_left _ _
  intro fl
  refine ch_call rfl rfl (frac_Whole (x := w) (neg := cn) (k := k) hw hwk hk1 hk hwl) rfl ?_
  rintro _ G8 _ ⟨z3, rfl, hz3⟩
  refine dr_s' (List.sublist_append_left _ _) ?_
  refine dyF rfl (fun _ => yd_build rfl) rfl rfl (List.sublist_append_left _ _) ?_
  apply dF_out (fl := fl) (t := 105) (z := (.agg ⟨[.int .i64 0, .int .i64 0, .pointer none, .int .i64 0, .int .i64 0, .pointer none, .int .i64 0, .int .i64 0, .pointer none]⟩))
  case hk => exact rfl
  case hd => exact rfl
  case hF => intro b; repeat (first | exact .nil | refine .cons rfl ?_)
  case hO => exact fun _ => List.perm_append_singleton _ _
  case hs => exact List.sublist_append_left _ _
  intro bF
  simp only [fO, fF, List.append_nil]
  refine dc rfl rfl (ch_store rfl rfl (.hd ..) rfl (Nat.le_refl 9) rfl rfl ?_)
  refine dr_f rfl <| dn <| st_seq <| st_seq <| dr (fun _ => false) [(0, true), (1, true), (2, false), (3, true), (4, true), (5, true), (6, false), (7, true), (8, true), (9, true), (10, true), (11, true), (12, true), (14, true), (15, true), (13, false), (16, false), (17, false), (18, false), (19, true), (20, true)] follows (by kernel_rfl) <| ?_
  refine dy rfl (fun _ => yd_fieldAddr rfl) rfl rfl <| dy rfl (fun _ => yd_load_own rfl rfl) rfl rfl <| ?_
  refine dc rfl rfl (ch_call rfl rfl (R_Zero hz1) rfl ?_)
  rintro _ G9 _ rfl
  refine dr_s <| dy rfl (fun _ => yd_move rfl) rfl rfl <| ?_
  refine st_caseP 35 rfl (fun ha0 => ?_) (fun ha0 => ?_)
  · refine dyg rfl rfl rfl rfl (fun _ => yd_fieldAddr rfl) rfl <| dyg rfl rfl rfl rfl (fun _ => yd_load_own rfl rfl) rfl <| ?_
    refine dcg rfl rfl rfl rfl (ch_call rfl rfl (R_Zero hz2) rfl ?_)
    rintro _ G10 _ rfl
    refine dr_s <| dy rfl (fun _ => yd_pickT rfl rfl) rfl rfl <| dy rfl (fun _ => yd_move rfl) rfl rfl <| ?_
    refine st_caseP 40 rfl (fun hb0 => ?_) (fun hb0 => ?_)
    · refine dys rfl rfl rfl rfl rfl rfl <| dys rfl rfl rfl rfl rfl rfl <| dys rfl rfl rfl rfl rfl rfl <| dys rfl rfl rfl rfl rfl rfl <| dys rfl rfl rfl rfl rfl rfl <| dys rfl rfl rfl rfl rfl rfl <| ?_
      refine dcs rfl rfl rfl rfl rfl rfl <| dr_s <| dcs rfl rfl rfl rfl rfl rfl <| dr_s <| dcs rfl rfl rfl rfl rfl rfl <| dr_s <| dcs rfl rfl rfl rfl rfl rfl <| dr_s <| dys rfl rfl rfl rfl rfl rfl <| ?_
      refine dy rfl (fun _ => yd_pickT rfl rfl) rfl rfl <| dn <| st_condT rfl <| ?_
      refine st_seq <| st_region <| sy (yd_build rfl) rfl <| ?_
      refine sc (ch_store rfl rfl (.tl _ _ _ _ _ _ _ _ (.hd ..)) rfl (Nat.le_refl 9) rfl rfl ?_)
      refine sa rfl rfl <| st_end <| st_ret <| ?_
      exact st_done (.agg rfl inferInstance inferInstance rfl (.tmp rfl .nil)) (.inr ⟨fun h => h.2.2.2.1 ⟨ha0, hb0⟩, rfl⟩)
    have h0 : ¬ (zv an (dv da) = 0 ∧ zv bn (dv db) = 0) := fun h => hb0 h.2
    refine dyg rfl rfl rfl rfl (fun _ => yd_fieldAddr rfl) rfl <| dyg rfl rfl rfl rfl (fun _ => yd_load_own rfl rfl) rfl <| dyg rfl rfl rfl rfl (fun _ => yd_fieldAddr rfl) rfl <| dyg rfl rfl rfl rfl (fun _ => yd_load_own rfl rfl) rfl <| ?_
    refine dyg rfl rfl rfl rfl (fun _ => yd_fieldAddr rfl) rfl <| dyg rfl rfl rfl rfl (fun _ => yd_load_own rfl rfl) rfl <| ?_
    refine dcg rfl rfl rfl rfl (ch_call rfl rfl (frac_Gcd hz1 hz2 (by omega)) rfl ?_)
    rintro _ G11 _ ⟨g1, rfl, hg1⟩
    rw [rgcd_int] at hg1
    refine dr_s <| ?_
    refine dcg rfl rfl rfl rfl (ch_call rfl rfl (frac_Gcd hg1 hz3 (by omega)) rfl ?_)
    rintro _ G12 _ ⟨g2, rfl, hg2⟩
    rw [rgcd_int, Int.natAbs_natCast] at hg2
    refine dr_s <| ?_
    refine dcg rfl rfl rfl rfl (ch_call rfl rfl (frac_Int (n := 1) (k := 1) (by decide) (by decide) (by decide) (by decide) (by decide)) rfl ?_)
    rintro _ G13 _ ⟨g3, rfl, hg3⟩
    refine dr_s <| ?_
    refine dcg rfl rfl rfl rfl (ch_call rfl rfl (R_Equal hg2 hg3 (by omega)) rfl ?_)
    rintro _ G14 _ rfl
    refine dr_s <| ?_
    by_cases hgc : Nat.gcd (Nat.gcd (zv an (dv da)).natAbs (zv bn (dv db)).natAbs) (zv cn (dv d3)).natAbs = 1
    · rw [show (decide ((((Nat.gcd (Nat.gcd (zv an (dv da)).natAbs (zv bn (dv db)).natAbs) (zv cn (dv d3)).natAbs : Nat) : Int) : Rat) = ((1 : Int) : Rat))) = true from decide_eq_true (by rw [hgc]; rfl)]
      refine dyg rfl rfl rfl rfl (fun _ => yd_not rfl) rfl <| dy rfl (fun _ => yd_pickF rfl rfl) rfl rfl <| dn <| ?_
      refine st_condF rfl <| st_skipc <| st_seq <| st_region <| slo rfl rfl rfl <| ?_
      refine sc (ch_store rfl rfl (.tl _ _ _ _ _ _ _ _ (.hd ..)) rfl (Nat.le_refl 9) rfl rfl ?_)
      refine sa rfl rfl <| st_end <| st_ret <| ?_
      exact st_done (.agg rfl inferInstance inferInstance rfl (.tmp rfl .nil)) (.inl ⟨⟨hA, hB, hC, h0, hgc⟩, ⟨z1, z2, z3⟩, rfl, hz1.up, hz2.up, hz3.up⟩)
    · rw [show (decide ((((Nat.gcd (Nat.gcd (zv an (dv da)).natAbs (zv bn (dv db)).natAbs) (zv cn (dv d3)).natAbs : Nat) : Int) : Rat) = ((1 : Int) : Rat))) = false from decide_eq_false (fun h => hgc (by have := Rat.intCast_inj.1 h; omega))]
      refine dyg rfl rfl rfl rfl (fun _ => yd_not rfl) rfl <| dy rfl (fun _ => yd_pickF rfl rfl) rfl rfl <| dn <| ?_
      refine st_condT rfl <| ?_
      refine st_seq <| st_region <| sy (yd_build rfl) rfl <| ?_
      refine sc (ch_store rfl rfl (.tl _ _ _ _ _ _ _ _ (.hd ..)) rfl (Nat.le_refl 9) rfl rfl ?_)
      refine sa rfl rfl <| st_end <| st_ret <| ?_
      exact st_done (.agg rfl inferInstance inferInstance rfl (.tmp rfl .nil)) (.inr ⟨fun h => hgc h.2.2.2.2, rfl⟩)
  have h0 : ¬ (zv an (dv da) = 0 ∧ zv bn (dv db) = 0) := fun h => ha0 h.1
  refine dys rfl rfl rfl rfl rfl rfl <| dys rfl rfl rfl rfl rfl rfl <| dcs rfl rfl rfl rfl rfl rfl <| dr_s <| dy rfl (fun _ => yd_pickF rfl rfl) rfl rfl <| dy rfl (fun _ => yd_move rfl) rfl rfl <| ?_
  refine dyg rfl rfl rfl rfl (fun _ => yd_fieldAddr rfl) rfl <| dyg rfl rfl rfl rfl (fun _ => yd_load_own rfl rfl) rfl <| dyg rfl rfl rfl rfl (fun _ => yd_fieldAddr rfl) rfl <| dyg rfl rfl rfl rfl (fun _ => yd_load_own rfl rfl) rfl <| ?_
  refine dyg rfl rfl rfl rfl (fun _ => yd_fieldAddr rfl) rfl <| dyg rfl rfl rfl rfl (fun _ => yd_load_own rfl rfl) rfl <| ?_
  refine dcg rfl rfl rfl rfl (ch_call rfl rfl (frac_Gcd hz1 hz2 (by omega)) rfl ?_)
  rintro _ G11 _ ⟨g1, rfl, hg1⟩
  rw [rgcd_int] at hg1
  refine dr_s <| ?_
  refine dcg rfl rfl rfl rfl (ch_call rfl rfl (frac_Gcd hg1 hz3 (by omega)) rfl ?_)
  rintro _ G12 _ ⟨g2, rfl, hg2⟩
  rw [rgcd_int, Int.natAbs_natCast] at hg2
  refine dr_s <| ?_
  refine dcg rfl rfl rfl rfl (ch_call rfl rfl (frac_Int (n := 1) (k := 1) (by decide) (by decide) (by decide) (by decide) (by decide)) rfl ?_)
  rintro _ G13 _ ⟨g3, rfl, hg3⟩
  refine dr_s <| ?_
  refine dcg rfl rfl rfl rfl (ch_call rfl rfl (R_Equal hg2 hg3 (by omega)) rfl ?_)
  rintro _ G14 _ rfl
  refine dr_s <| ?_
  by_cases hgc : Nat.gcd (Nat.gcd (zv an (dv da)).natAbs (zv bn (dv db)).natAbs) (zv cn (dv d3)).natAbs = 1
  · rw [show (decide ((((Nat.gcd (Nat.gcd (zv an (dv da)).natAbs (zv bn (dv db)).natAbs) (zv cn (dv d3)).natAbs : Nat) : Int) : Rat) = ((1 : Int) : Rat))) = true from decide_eq_true (by rw [hgc]; rfl)]
    refine dyg rfl rfl rfl rfl (fun _ => yd_not rfl) rfl <| dy rfl (fun _ => yd_pickF rfl rfl) rfl rfl <| dn <| ?_
    refine st_condF rfl <| st_skipc <| st_seq <| st_region <| slo rfl rfl rfl <| ?_
    refine sc (ch_store rfl rfl (.tl _ _ _ _ _ _ _ _ (.hd ..)) rfl (Nat.le_refl 9) rfl rfl ?_)
    refine sa rfl rfl <| st_end <| st_ret <| ?_
    exact st_done (.agg rfl inferInstance inferInstance rfl (.tmp rfl .nil)) (.inl ⟨⟨hA, hB, hC, h0, hgc⟩, ⟨z1, z2, z3⟩, rfl, hz1.up, hz2.up, hz3.up⟩)
  · rw [show (decide ((((Nat.gcd (Nat.gcd (zv an (dv da)).natAbs (zv bn (dv db)).natAbs) (zv cn (dv d3)).natAbs : Nat) : Int) : Rat) = ((1 : Int) : Rat))) = false from decide_eq_false (fun h => hgc (by have := Rat.intCast_inj.1 h; omega))]
    refine dyg rfl rfl rfl rfl (fun _ => yd_not rfl) rfl <| dy rfl (fun _ => yd_pickF rfl rfl) rfl rfl <| dn <| ?_
    refine st_condT rfl <| ?_
    refine st_seq <| st_region <| sy (yd_build rfl) rfl <| ?_
    refine sc (ch_store rfl rfl (.tl _ _ _ _ _ _ _ _ (.hd ..)) rfl (Nat.le_refl 9) rfl rfl ?_)
    refine sa rfl rfl <| st_end <| st_ret <| ?_
    exact st_done (.agg rfl inferInstance inferInstance rfl (.tmp rfl .nil)) (.inr ⟨fun h => hgc h.2.2.2.2, rfl⟩)
end Go.Sx
end

section
set_option maxRecDepth 100000
namespace Go.Sx
open Go Go.Proofs

structure PV where
  x : RV
  y : RV
def PV.v (z : PV) : Value := .agg ⟨[.int .i64 z.x.n, .int .i64 z.x.d, .pointer z.x.p, .int .i64 z.y.n, .int .i64 z.y.d, .pointer z.y.p]⟩
structure PtQ where
  x : Rat
  y : Rat
structure IsP (k : Nat) (G : Gh) (z : PV) (p : PtQ) : Prop where
  x : IsR k G z.x p.x
  y : IsR k G z.y p.y
theorem IsP.up {k : Nat} {A G : Gh} {z : PV} {p : PtQ} (h : IsP k A z p) [GL A G] : IsP k G z p := ⟨h.x.up, h.y.up⟩
theorem rat_neg_int (a : Int) : -(a : Rat) = ((-a : Int) : Rat) := rfl
def LnQ.rev (l : LnQ) : LnQ := ⟨-l.a, -l.b, -l.c⟩
def LnQ.nor (l : LnQ) : PtQ := ⟨l.a, l.b⟩
def LnQ.dir (l : LnQ) : PtQ := ⟨l.b, -(l.a : Rat)⟩
def PtQ.dot (p q : PtQ) : Rat := p.x * q.x + p.y * q.y
def PtQ.cross (p q : PtQ) : Rat := p.x * q.y - p.y * q.x
def PtQ.scale (p : PtQ) (c : Rat) : PtQ := ⟨p.x * c, p.y * c⟩
def PtQ.add (p q : PtQ) : PtQ := ⟨p.x + q.x, p.y + q.y⟩
theorem Ln_Reverse {A G : Gh} {z : LV} {l : LnQ} {k : Nat} (hl : IsL k A z l) [GL A G] (hk : k ≤ 1099511627776) :
    Fn Tryz.prog 104 [.agg ⟨[.int .i64 z.a.n, .int .i64 z.a.d, .pointer z.a.p, .int .i64 z.b.n, .int .i64 z.b.d, .pointer z.b.p, .int .i64 z.c.n, .int .i64 z.c.d, .pointer z.c.p]⟩] G (fun v G' => ∃ x : LV, v = x.v ∧ IsL k G' x l.rev) := by
  obtain ⟨ha, hb, hc⟩ := hl
  refine Fn.intro Tryz.func104 rfl rfl Tryz.ntmps104 rfl ?_
  intro C _ _
  refine st_seq <| st_region <| ?_
  refine sc (ch_box rfl rfl ?_)
  intro b1
  refine sc (ch_alloc rfl ?_)
  intro b2
  refine st_end <| st_seq <| dr (fun i => Nat.beq i 10) [(0, true), (1, true), (3, true), (4, true), (6, true), (7, true), (2, false), (5, false), (8, false), (9, true), (10, false)] follows (by kernel_rfl) <| ?_
  refine dy rfl (fun _ => yd_fieldAddr rfl) rfl rfl <| dy rfl (fun _ => yd_load_own rfl rfl) rfl rfl <| dy rfl (fun _ => yd_fieldAddr rfl) rfl rfl <| dy rfl (fun _ => yd_load_own rfl rfl) rfl rfl <| ?_
  refine dy rfl (fun _ => yd_fieldAddr rfl) rfl rfl <| dy rfl (fun _ => yd_load_own rfl rfl) rfl rfl <| ?_
  refine dc rfl rfl (ch_call rfl rfl (R_Neg ‹_› (by omega)) rfl ?_)
  rintro _ G3 _ ⟨x4, rfl, h5⟩
  refine dr_s <| ?_
  refine dc rfl rfl (ch_call rfl rfl (R_Neg ‹_› (by omega)) rfl ?_)
  rintro _ G6 _ ⟨x7, rfl, h8⟩
  refine dr_s <| ?_
  refine dc rfl rfl (ch_call rfl rfl (R_Neg ‹_› (by omega)) rfl ?_)
  rintro _ G9 _ ⟨x10, rfl, h11⟩
  refine dr_s <| dy rfl (fun _ => yd_build rfl) rfl rfl <| ?_
  refine dc rfl rfl (ch_store rfl rfl (by repeat (first | exact .hd .. | refine .tl _ _ _ _ _ _ _ _ ?_)) rfl (Nat.le_of_ble_eq_true rfl) rfl rfl ?_)
  refine dr_f rfl <| dn <| st_ret <| ?_
  exact st_done (.agg rfl inferInstance inferInstance rfl .nil) ⟨⟨_, _, _⟩, rfl, IsR.up ‹IsR k _ _ (-(l.a : Rat))›, IsR.up ‹IsR k _ _ (-(l.b : Rat))›, IsR.up ‹IsR k _ _ (-(l.c : Rat))›⟩
theorem Ln_Normal {A G : Gh} {z : LV} {l : LnQ} {k : Nat} (hl : IsL k A z l) [GL A G]  :
    Fn Tryz.prog 189 [.agg ⟨[.int .i64 z.a.n, .int .i64 z.a.d, .pointer z.a.p, .int .i64 z.b.n, .int .i64 z.b.d, .pointer z.b.p, .int .i64 z.c.n, .int .i64 z.c.d, .pointer z.c.p]⟩] G (fun v G' => ∃ x : PV, v = x.v ∧ IsP k G' x l.nor) := by
  obtain ⟨ha, hb, hc⟩ := hl
  refine Fn.intro Tryz.func189 rfl rfl Tryz.ntmps189 rfl ?_
  intro C _ _
  refine st_seq <| st_region <| ?_
  refine sc (ch_box rfl rfl ?_)
  intro b1
  refine sc (ch_alloc rfl ?_)
  intro b2
  refine st_end <| st_seq <| st_region <| sf rfl rfl <| slo rfl rfl rfl <| sf rfl rfl <| slo rfl rfl rfl <| sy (yd_build rfl) rfl <| ?_
  refine sc (ch_store rfl rfl (by repeat (first | exact .hd .. | refine .tl _ _ _ _ _ _ _ _ ?_)) rfl (Nat.le_of_ble_eq_true rfl) rfl rfl ?_)
  refine st_end <| st_ret <| ?_
  exact st_done (.agg rfl inferInstance inferInstance rfl .nil) ⟨⟨_, _⟩, rfl, ha.up, hb.up⟩
theorem Ln_Dir {A G : Gh} {z : LV} {l : LnQ} {k : Nat} (hl : IsL k A z l) [GL A G] (hk : k ≤ 1099511627776) :
    Fn Tryz.prog 155 [.agg ⟨[.int .i64 z.a.n, .int .i64 z.a.d, .pointer z.a.p, .int .i64 z.b.n, .int .i64 z.b.d, .pointer z.b.p, .int .i64 z.c.n, .int .i64 z.c.d, .pointer z.c.p]⟩] G (fun v G' => ∃ x : PV, v = x.v ∧ IsP k G' x l.dir) := by
  obtain ⟨ha, hb, hc⟩ := hl
  refine Fn.intro Tryz.func155 rfl rfl Tryz.ntmps155 rfl ?_
  intro C _ _
  refine st_seq <| st_region <| ?_
  refine sc (ch_box rfl rfl ?_)
  intro b1
  refine sc (ch_alloc rfl ?_)
  intro b2
  refine st_end <| st_seq <| dr (fun i => Nat.beq i 6) [(0, true), (1, true), (2, true), (3, true), (4, false), (5, true), (6, false)] follows (by kernel_rfl) <| dy rfl (fun _ => yd_fieldAddr rfl) rfl rfl <| ?_
  refine dy rfl (fun _ => yd_load_own rfl rfl) rfl rfl <| dy rfl (fun _ => yd_fieldAddr rfl) rfl rfl <| dy rfl (fun _ => yd_load_own rfl rfl) rfl rfl <| ?_
  refine dc rfl rfl (ch_call rfl rfl (R_Neg ‹_› (by omega)) rfl ?_)
  rintro _ G3 _ ⟨x4, rfl, h5⟩
  refine dr_s <| dy rfl (fun _ => yd_build rfl) rfl rfl <| ?_
  refine dc rfl rfl (ch_store rfl rfl (by repeat (first | exact .hd .. | refine .tl _ _ _ _ _ _ _ _ ?_)) rfl (Nat.le_of_ble_eq_true rfl) rfl rfl ?_)
  refine dr_f rfl <| dn <| st_ret <| ?_
  exact st_done (.agg rfl inferInstance inferInstance rfl .nil) ⟨⟨_, _⟩, rfl, hb.up, IsR.up ‹IsR k _ _ (-(l.a : Rat))›⟩
theorem Pt_Dot {A B G : Gh} {z1 z2 : PV} {p q : PtQ} {k1 k2 : Nat} (hp : IsP k1 A z1 p) (hq : IsP k2 B z2 q) [GL A G] [GL B G] (hk : k1 + k2 ≤ 137438953472) :
    Fn Tryz.prog 190 [.agg ⟨[.int .i64 z1.x.n, .int .i64 z1.x.d, .pointer z1.x.p, .int .i64 z1.y.n, .int .i64 z1.y.d, .pointer z1.y.p]⟩, .agg ⟨[.int .i64 z2.x.n, .int .i64 z2.x.d, .pointer z2.x.p, .int .i64 z2.y.n, .int .i64 z2.y.d, .pointer z2.y.p]⟩] G (fun v G' => ∃ x : RV, v = x.v ∧ IsR (2 * (k1 + k2) + 1) G' x (p.dot q)) := by
  obtain ⟨hpx, hpy⟩ := hp
  obtain ⟨hqx, hqy⟩ := hq
  refine Fn.intro Tryz.func190 rfl rfl Tryz.ntmps190 rfl ?_
  intro C _ _
  refine st_seq <| st_region <| ?_
  refine sc (ch_box rfl rfl ?_)
  intro b1
  refine sc (ch_box rfl rfl ?_)
  intro b2
  refine sc (ch_alloc rfl ?_)
  intro b3
  refine st_end <| st_seq <| dr (fun i => Nat.beq i 11) [(0, true), (1, true), (2, true), (3, true), (5, true), (6, true), (7, true), (8, true), (4, false), (9, false), (10, false), (11, false)] follows (by kernel_rfl) <| ?_
  refine dy rfl (fun _ => yd_fieldAddr rfl) rfl rfl <| dy rfl (fun _ => yd_load_own rfl rfl) rfl rfl <| dy rfl (fun _ => yd_fieldAddr rfl) rfl rfl <| dy rfl (fun _ => yd_load_own rfl rfl) rfl rfl <| ?_
  refine dy rfl (fun _ => yd_fieldAddr rfl) rfl rfl <| dy rfl (fun _ => yd_load_own rfl rfl) rfl rfl <| dy rfl (fun _ => yd_fieldAddr rfl) rfl rfl <| dy rfl (fun _ => yd_load_own rfl rfl) rfl rfl <| ?_
  refine dc rfl rfl (ch_call rfl rfl (R_Mul ‹_› ‹_› (by omega)) rfl ?_)
  rintro _ G4 _ ⟨x5, rfl, h6⟩
  refine dr_s <| ?_
  refine dc rfl rfl (ch_call rfl rfl (R_Mul ‹_› ‹_› (by omega)) rfl ?_)
  rintro _ G7 _ ⟨x8, rfl, h9⟩
  refine dr_s <| ?_
  refine dc rfl rfl (ch_call rfl rfl (R_Add ‹_› ‹_› (by omega)) rfl ?_)
  rintro _ G10 _ ⟨x11, rfl, h12⟩
  refine dr_s <| ?_
  refine dc rfl rfl (ch_store rfl rfl (by repeat (first | exact .hd .. | refine .tl _ _ _ _ _ _ _ _ ?_)) rfl (Nat.le_of_ble_eq_true rfl) rfl rfl ?_)
  refine dr_f rfl <| dn <| st_ret <| ?_
  exact st_done (.agg rfl inferInstance inferInstance rfl .nil) ⟨_, rfl, IsR.mono' (by assumption) (by omega)⟩
theorem Pt_Cross {A B G : Gh} {z1 z2 : PV} {p q : PtQ} {k1 k2 : Nat} (hp : IsP k1 A z1 p) (hq : IsP k2 B z2 q) [GL A G] [GL B G] (hk : k1 + k2 ≤ 137438953472) :
    Fn Tryz.prog 196 [.agg ⟨[.int .i64 z1.x.n, .int .i64 z1.x.d, .pointer z1.x.p, .int .i64 z1.y.n, .int .i64 z1.y.d, .pointer z1.y.p]⟩, .agg ⟨[.int .i64 z2.x.n, .int .i64 z2.x.d, .pointer z2.x.p, .int .i64 z2.y.n, .int .i64 z2.y.d, .pointer z2.y.p]⟩] G (fun v G' => ∃ x : RV, v = x.v ∧ IsR (2 * (k1 + k2) + 1) G' x (p.cross q)) := by
  obtain ⟨hpx, hpy⟩ := hp
  obtain ⟨hqx, hqy⟩ := hq
  refine Fn.intro Tryz.func196 rfl rfl Tryz.ntmps196 rfl ?_
  intro C _ _
  refine st_seq <| st_region <| ?_
  refine sc (ch_box rfl rfl ?_)
  intro b1
  refine sc (ch_box rfl rfl ?_)
  intro b2
  refine sc (ch_alloc rfl ?_)
  intro b3
  refine st_end <| st_seq <| dr (fun i => Nat.beq i 11) [(0, true), (1, true), (2, true), (3, true), (5, true), (6, true), (7, true), (8, true), (4, false), (9, false), (10, false), (11, false)] follows (by kernel_rfl) <| ?_
  refine dy rfl (fun _ => yd_fieldAddr rfl) rfl rfl <| dy rfl (fun _ => yd_load_own rfl rfl) rfl rfl <| dy rfl (fun _ => yd_fieldAddr rfl) rfl rfl <| dy rfl (fun _ => yd_load_own rfl rfl) rfl rfl <| ?_
  refine dy rfl (fun _ => yd_fieldAddr rfl) rfl rfl <| dy rfl (fun _ => yd_load_own rfl rfl) rfl rfl <| dy rfl (fun _ => yd_fieldAddr rfl) rfl rfl <| dy rfl (fun _ => yd_load_own rfl rfl) rfl rfl <| ?_
  refine dc rfl rfl (ch_call rfl rfl (R_Mul ‹_› ‹_› (by omega)) rfl ?_)
  rintro _ G4 _ ⟨x5, rfl, h6⟩
  refine dr_s <| ?_
  refine dc rfl rfl (ch_call rfl rfl (R_Mul ‹_› ‹_› (by omega)) rfl ?_)
  rintro _ G7 _ ⟨x8, rfl, h9⟩
  refine dr_s <| ?_
  refine dc rfl rfl (ch_call rfl rfl (R_Sub ‹_› ‹_› (by omega)) rfl ?_)
  rintro _ G10 _ ⟨x11, rfl, h12⟩
  refine dr_s <| ?_
  refine dc rfl rfl (ch_store rfl rfl (by repeat (first | exact .hd .. | refine .tl _ _ _ _ _ _ _ _ ?_)) rfl (Nat.le_of_ble_eq_true rfl) rfl rfl ?_)
  refine dr_f rfl <| dn <| st_ret <| ?_
  exact st_done (.agg rfl inferInstance inferInstance rfl .nil) ⟨_, rfl, IsR.mono' (by assumption) (by omega)⟩
theorem Pt_Add {A B G : Gh} {z1 z2 : PV} {p q : PtQ} {k1 k2 : Nat} (hp : IsP k1 A z1 p) (hq : IsP k2 B z2 q) [GL A G] [GL B G] (hk : k1 + k2 ≤ 137438953472) :
    Fn Tryz.prog 216 [.agg ⟨[.int .i64 z1.x.n, .int .i64 z1.x.d, .pointer z1.x.p, .int .i64 z1.y.n, .int .i64 z1.y.d, .pointer z1.y.p]⟩, .agg ⟨[.int .i64 z2.x.n, .int .i64 z2.x.d, .pointer z2.x.p, .int .i64 z2.y.n, .int .i64 z2.y.d, .pointer z2.y.p]⟩] G (fun v G' => ∃ x : PV, v = x.v ∧ IsP (k1 + k2 + 1) G' x (p.add q)) := by
  obtain ⟨hpx, hpy⟩ := hp
  obtain ⟨hqx, hqy⟩ := hq
  refine Fn.intro Tryz.func216 rfl rfl Tryz.ntmps216 rfl ?_
  intro C _ _
  refine st_seq <| st_region <| ?_
  refine sc (ch_box rfl rfl ?_)
  intro b1
  refine sc (ch_box rfl rfl ?_)
  intro b2
  refine sc (ch_alloc rfl ?_)
  intro b3
  refine st_end <| st_seq <| dr (fun i => Nat.beq i 11) [(0, true), (1, true), (2, true), (3, true), (5, true), (6, true), (7, true), (8, true), (4, false), (9, false), (10, true), (11, false)] follows (by kernel_rfl) <| ?_
  refine dy rfl (fun _ => yd_fieldAddr rfl) rfl rfl <| dy rfl (fun _ => yd_load_own rfl rfl) rfl rfl <| dy rfl (fun _ => yd_fieldAddr rfl) rfl rfl <| dy rfl (fun _ => yd_load_own rfl rfl) rfl rfl <| ?_
  refine dy rfl (fun _ => yd_fieldAddr rfl) rfl rfl <| dy rfl (fun _ => yd_load_own rfl rfl) rfl rfl <| dy rfl (fun _ => yd_fieldAddr rfl) rfl rfl <| dy rfl (fun _ => yd_load_own rfl rfl) rfl rfl <| ?_
  refine dc rfl rfl (ch_call rfl rfl (R_Add ‹_› ‹_› (by omega)) rfl ?_)
  rintro _ G4 _ ⟨x5, rfl, h6⟩
  refine dr_s <| ?_
  refine dc rfl rfl (ch_call rfl rfl (R_Add ‹_› ‹_› (by omega)) rfl ?_)
  rintro _ G7 _ ⟨x8, rfl, h9⟩
  refine dr_s <| dy rfl (fun _ => yd_build rfl) rfl rfl <| ?_
  refine dc rfl rfl (ch_store rfl rfl (by repeat (first | exact .hd .. | refine .tl _ _ _ _ _ _ _ _ ?_)) rfl (Nat.le_of_ble_eq_true rfl) rfl rfl ?_)
  refine dr_f rfl <| dn <| st_ret <| ?_
  exact st_done (.agg rfl inferInstance inferInstance rfl .nil) ⟨⟨_, _⟩, rfl, IsR.up ‹IsR _ _ _ (p.x + q.x)›, IsR.up ‹IsR _ _ _ (p.y + q.y)›⟩
theorem Pt_Scale {A B G : Gh} {z1 : PV} {z2 : RV} {p : PtQ} {c : Rat} {k1 k2 : Nat} (hp : IsP k1 A z1 p) (hc : IsR k2 B z2 c) [GL A G] [GL B G] (hk : k1 + k2 ≤ 137438953472) :
    Fn Tryz.prog 217 [.agg ⟨[.int .i64 z1.x.n, .int .i64 z1.x.d, .pointer z1.x.p, .int .i64 z1.y.n, .int .i64 z1.y.d, .pointer z1.y.p]⟩, .agg ⟨[.int .i64 z2.n, .int .i64 z2.d, .pointer z2.p]⟩] G (fun v G' => ∃ x : PV, v = x.v ∧ IsP (k1 + k2) G' x (p.scale c)) := by
  obtain ⟨hpx, hpy⟩ := hp
  refine Fn.intro Tryz.func217 rfl rfl Tryz.ntmps217 rfl ?_
  intro C _ _
  refine st_seq <| st_region <| ?_
  refine sc (ch_box rfl rfl ?_)
  intro b1
  refine sc (ch_box rfl rfl ?_)
  intro b2
  refine sc (ch_alloc rfl ?_)
  intro b3
  refine st_end <| st_seq <| dr (fun i => Nat.beq i 9) [(0, true), (1, true), (2, true), (4, true), (5, true), (6, true), (3, false), (7, false), (8, true), (9, false)] follows (by kernel_rfl) <| ?_
  refine dy rfl (fun _ => yd_fieldAddr rfl) rfl rfl <| dy rfl (fun _ => yd_load_own rfl rfl) rfl rfl <| dy rfl (fun _ => yd_load_own rfl rfl) rfl rfl <| dy rfl (fun _ => yd_fieldAddr rfl) rfl rfl <| ?_
  refine dy rfl (fun _ => yd_load_own rfl rfl) rfl rfl <| dy rfl (fun _ => yd_load_own rfl rfl) rfl rfl <| ?_
  refine dc rfl rfl (ch_call rfl rfl (R_Mul ‹_› ‹_› (by omega)) rfl ?_)
  rintro _ G4 _ ⟨x5, rfl, h6⟩
  refine dr_s <| ?_
  refine dc rfl rfl (ch_call rfl rfl (R_Mul ‹_› ‹_› (by omega)) rfl ?_)
  rintro _ G7 _ ⟨x8, rfl, h9⟩
  refine dr_s <| dy rfl (fun _ => yd_build rfl) rfl rfl <| ?_
  refine dc rfl rfl (ch_store rfl rfl (by repeat (first | exact .hd .. | refine .tl _ _ _ _ _ _ _ _ ?_)) rfl (Nat.le_of_ble_eq_true rfl) rfl rfl ?_)
  refine dr_f rfl <| dn <| st_ret <| ?_
  exact st_done (.agg rfl inferInstance inferInstance rfl .nil) ⟨⟨_, _⟩, rfl, IsR.up ‹IsR _ _ _ (p.x * c)›, IsR.up ‹IsR _ _ _ (p.y * c)›⟩
end Go.Sx
end
