/-
  Reference: lines and cells around a point, from the tape. Reference: the edge of a side of a cell. Reference: points near an edge; the interior of a cell; the place of a line. Regions that draw their order, with a tree of orders. Reference: the place of a line, canonical cells, restriction. Reference: restriction of a tree. Reference: numbers and lines written for package api. Reference: trees written for package api. Reference: the tape, trees that are the same; the program's Reduce over deep values.
-/
import Derived.Test.YtkijgpopaaknfaaGreatDoorMd17
set_option linter.unusedSimpArgs false
set_option linter.unusedVariables false
section
set_option maxRecDepth 100000
namespace Go.Sx
open Go Go.Proofs
def p7 : PtQ := ⟨mkRat 1 7, mkRat 1 5⟩
theorem sgn_nonzero (l : LnQ) (h : LS l) : l.value p7 ≠ 0 := by
 intro e
 have e1 : (l.a : Rat) * p7.x + (l.b : Rat) * p7.y + (l.c : Rat) = 0 := e
 have hx : p7.x * 7 = 1 := by rw [show p7.x = (1 : Rat) / 7 from by show mkRat 1 7 = _; rw [Rat.mkRat_eq_div]; rfl]; grind
 have hy : p7.y * 5 = 1 := by rw [show p7.y = (1 : Rat) / 5 from by show mkRat 1 5 = _; rw [Rat.mkRat_eq_div]; rfl]; grind
 have e2 : (5 : Rat) * l.a + 7 * l.b + 35 * l.c = 0 := by grind
 have e3 : 5 * l.a + 7 * l.b + 35 * l.c = 0 := by exact_mod_cast e2
 have := h.a
 have := h.b
 have := h.ok.1
 omega
structure LP (l : LnQ) : Prop where
 s : LS l
 p : 0 < l.value p7
theorem LP.of_pos {l : LnQ} (h : LS l) (k : ¬ (l.value p7).num.sign < 0) : LP l := ⟨h, by
 have h0 := sgn_nonzero l h
 have h1 : ¬ l.value p7 < 0 := fun e => k ((sgn_neg _).2 e)
 grind⟩
theorem LP.of_neg {l : LnQ} (h : LS l) (k : (l.value p7).num.sign < 0) : LP l.rev := ⟨h.rev, by
 rw [val_rev]
 have h1 := (sgn_neg _).1 k
 grind⟩
theorem LP.bl {l : LnQ} (h : LP l) : BL l 32 := h.s.bl
theorem LP.ok {l : LnQ} (h : LP l) : l.ok := h.s.ok
theorem canon_p7 {ls : List LnQ} (h : ∀ l ∈ ls, LP l) : ∃ c, canonQ ls [] = some c ∧ GoodC c ∧ ∀ p, InD c p ↔ ∀ l ∈ ls, 0 < l.value p := by
 obtain ⟨c, hc⟩ := canon_some GoodC.nil (fun l hl => (h l hl).ok) ⟨p7, fun s hs => absurd hs (by simp), fun l hl => (h l hl).p⟩
 obtain ⟨g, i⟩ := canon_good GoodC.nil (fun l hl => (h l hl).ok) hc
 exact ⟨c, hc, g, fun p => by rw [i]; exact ⟨fun h => h.2, fun h => ⟨fun s hs => absurd hs (by simp), h⟩⟩⟩
theorem bpt7 : BPt p7 5 := ⟨⟨by decide, by decide⟩, ⟨by decide, by decide⟩⟩
def lsR (es : List Int) : Nat → Nat → List LnQ × Nat
 | 0, a => ([], a)
 | i + 1, a => ((lF es a).1 :: (lsR es i (lF es a).2).1, (lsR es i (lF es a).2).2)
theorem lsR_ok {es : List Int} : ∀ {i a : Nat}, a ≤ es.length → (∀ l ∈ (lsR es i a).1, LS l) ∧ (lsR es i a).1.length = i ∧ (lsR es i a).2 ≤ es.length
 | 0, a, ha => ⟨fun l h => absurd h (by simp [lsR]), rfl, ha⟩
 | i + 1, a, ha => by
   obtain ⟨h1, h2⟩ := lF_ok ha
   obtain ⟨k1, k2, k3⟩ := lsR_ok (i := i) h2
   exact ⟨List.forall_mem_cons.2 ⟨h1, k1⟩, by show _ + 1 = _; rw [k2], k3⟩
def lsF (es : List Int) (most a : Nat) : List LnQ × Nat := lsR es (nextF es ((most : Int) + 1) a).1 (nextF es ((most : Int) + 1) a).2
theorem lsF_ok {es : List Int} {most a : Nat} (ha : a ≤ es.length) : (∀ l ∈ (lsF es most a).1, LS l) ∧ (lsF es most a).1.length ≤ most ∧ (lsF es most a).2 ≤ es.length := by
 have h1 := nextF_lt (es := es) (n := (most : Int) + 1) (a := a) (by omega)
 obtain ⟨k1, k2, k3⟩ := lsR_ok (i := (nextF es ((most : Int) + 1) a).1) (nextF_le (n := (most : Int) + 1) ha)
 exact ⟨k1, by unfold lsF; rw [k2]; omega, k3⟩
def flip7 (l : LnQ) : LnQ := if (l.value p7).num.sign < 0 then l.rev else l
def sideR (xs : List LnQ) (i : Nat) : List LnQ := (xs.take i).map flip7 ++ xs.drop i
theorem sideR_len (xs : List LnQ) (i : Nat) : (sideR xs i).length = xs.length := by unfold sideR; simp; omega
theorem sideR_get {xs : List LnQ} {i : Nat} (h : i < xs.length) : (sideR xs i)[i]'(by rw [sideR_len]; exact h) = xs[i] := by
 unfold sideR
 rw [List.getElem_append_right (by simp; omega)]
 simp; congr 1; omega
theorem sideR_next {xs : List LnQ} {i : Nat} (h : i < xs.length) : sideR xs (i + 1) = (sideR xs i).set i (flip7 xs[i]) := by
 unfold sideR
 have e : i - ((xs.take i).map flip7).length = 0 := by simp; omega
 rw [List.set_append_right _ _ (by simp; omega), e, List.drop_eq_getElem_cons h, List.take_succ_eq_append_getElem h, List.set_cons_zero, List.map_append, List.append_assoc]
 rfl
theorem sideR_same {xs : List LnQ} {i : Nat} (h : i < xs.length) (k : ¬ (xs[i].value p7).num.sign < 0) : sideR xs (i + 1) = sideR xs i := by
 rw [sideR_next h]
 have : flip7 xs[i] = (sideR xs i)[i]'(by rw [sideR_len]; exact h) := by rw [sideR_get h]; unfold flip7; rw [if_neg k]
 rw [this, List.set_getElem_self]
theorem sideR_set {xs : List LnQ} {i : Nat} (h : i < xs.length) (k : (xs[i].value p7).num.sign < 0) : ((sideR xs i).map eL).set (i : Int).toNat (eL xs[i].rev) = (sideR xs (i + 1)).map eL := by
 rw [mapL_set, sideR_next h, flip7, if_pos k]
def sideF (es : List Int) (a : Nat) : List LnQ × Nat := ((lsF es 3 a).1.map flip7, (lsF es 3 a).2)
theorem sideR_all (xs : List LnQ) : sideR xs xs.length = xs.map flip7 := by unfold sideR; simp
theorem sideF_ok {es : List Int} {a : Nat} (ha : a ≤ es.length) : (∀ l ∈ (sideF es a).1, LP l) ∧ (sideF es a).1.length ≤ 3 ∧ (sideF es a).2 ≤ es.length := by
 obtain ⟨k1, k2, k3⟩ := lsF_ok (most := 3) ha
 refine ⟨fun l hl => ?_, by unfold sideF; simpa using k2, k3⟩
 obtain ⟨m, hm, rfl⟩ := List.mem_map.1 (show l ∈ (lsF es 3 a).1.map flip7 from hl)
 unfold flip7
 split
 · rename_i h; exact LP.of_neg (k1 m hm) h
 · rename_i h; exact LP.of_pos (k1 m hm) h
theorem q_PartT {GB : Gh} {n d : Nat} (hn : n ≤ 1000) (hd : 0 < d) (hd1 : d ≤ 1000) : PF GB Tryz.prog 61 [.v (.int .i64 (n : Int)), .v (.int .i64 (d : Nat))] (eQ (mkRat n d)) := by
 haveI : BI (n : Int) 10 := biOf (by rw [Int.natAbs_natCast]; omega)
 haveI : BN d 10 := ⟨by omega⟩
 refine fn Tryz.func61 rfl rfl Tryz.ntmps61 rfl rfl (fun C => ?_)
 refine cl rfl (q_Int (n := (n : Int)) (by omega) (by omega)) rfl <| cl rfl (q_Word (u := d) (by omega)) rfl <| cl rfl (q_Frac (x := (n : Int)) (d := d) hd) rfl <| ?_
 exact rz rfl rfl
set_option maxHeartbeats 1000000 in
theorem q_LsT {GB : Gh} {b : Nat} {es : List Int} (hes : es.length ≤ 400) {a : Nat} (ha : a ≤ es.length) {most : Nat} (hmo : most ≤ 900) : PMR GB Tryz.prog 60 (mkP [none, some (.v (.int .i64 (most : Nat)))] b) b 93 [.sl (es.map vI), .v (.int .i64 (a : Nat))] 6 32 Unit (fun _ => (lsF es most a).1.map eL) (fun _ => [.sl (es.map vI), .v (.int .i64 ((lsF es most a).2 : Nat))]) := by
 have hk := nextF_lt (es := es) (n := (most : Int) + 1) (a := a) (by omega)
 refine fnMR Tryz.func60 rfl rfl Tryz.ntmps60 rfl rfl (fun C b hmb => ?_)
 refine cm rfl (fun b => (q_NextT (n := (most : Int) + 1) hes ha (by omega) (by omega))) rfl <| ?_
 refine nr 5 2000 32 6 rfl rfl rfl ?_
 refine lp (X := List LnQ × Nat × Nat) (fun ⟨xs, i, a2⟩ => [(6, .d (.v (.int .i64 (i : Nat)))), (5, .rw 2000)]) (fun ⟨xs, i, a2⟩ => [(1000000, some (.o 93 [.d (.sl (es.map vI)), .d (.v (.int .i64 (a2 : Nat)))] false)), (2000, some (.b 32 6 (xs.map eL) true))]) (fun ⟨xs, i, a2⟩ => xs ++ (lsR es i a2).1 = (lsF es most a).1 ∧ (lsR es i a2).2 = (lsF es most a).2 ∧ a2 ≤ es.length ∧ xs.length + i ≤ most) (fun ⟨xs, i, a2⟩ => i) ⟨[], (nextF es ((most : Int) + 1) a).1, (nextF es ((most : Int) + 1) a).2⟩ rfl ⟨rfl, rfl, nextF_le ha, by simp; omega⟩ (fun _ => rfl) (fun ⟨xs, i, a2⟩ hk => ?_)
 try dsimp only at hk ⊢
 obtain ⟨h1, h2, h3, h4⟩ := hk
 have hxl := mapL_len xs
 refine br rfl rfl rfl (fun hc12 => ?_) (fun hc12 => ?_)
 ·
  obtain ⟨j, rfl⟩ : ∃ j, i = j + 1 := ⟨i - 1, by omega⟩
  refine cm rfl (fun b => (q_LT hes h3)) rfl <| rf rfl rfl <| ap ((xs ++ [(lF es a2).1]).map eL) rfl (by rw [List.map_append]; rfl) (slOkL [_]) rfl <| ?_
  refine rnE 19 2000 rfl ?_
  exact at_ ⟨xs ++ [(lF es a2).1], j, (lF es a2).2⟩ (by dsimp only; exact ⟨⟨by rw [← h1, lsR]; simp, by rw [← h2]; rfl, (lF_ok h3).2, by simp; omega⟩, (by omega)⟩)
 ·
  obtain rfl : i = 0 := by omega
  rw [lsR, List.append_nil] at h1
  rw [lsR] at h2
  exact rzMR () hmb rfl rfl rfl rfl (by rw [h1]) (by rw [← h2])
set_option maxHeartbeats 1000000 in
theorem q_sideT {GB : Gh} {b : Nat} {es : List Int} (hes : es.length ≤ 400) {a : Nat} (ha : a ≤ es.length) : PM GB Tryz.prog 21 (mkP [none] b) b 93 [.sl (es.map vI), .v (.int .i64 (a : Nat))] (.sl ((sideF es a).1.map eL)) [.sl (es.map vI), .v (.int .i64 ((sideF es a).2 : Nat))] := by
 obtain ⟨hx1, hx2, hx3⟩ := lsF_ok (most := 3) ha
 refine fnM Tryz.func21 rfl rfl Tryz.ntmps21 rfl rfl (fun C b m lo hmb => ?_)
 refine cmR rfl rfl (fun b => (q_LsT (most := 3) hes ha (by decide))) (fun _ => rfl) (fun _ => ?_)
 refine cl rfl (q_PartT (n := 1) (d := 7) (by decide) (by decide) (by decide)) rfl <| cl (fu := ⟨10⟩) rfl (q_PartT (n := 1) (d := 5) (by decide) (by decide) (by decide)) rfl <| ?_
 refine eqF 13 (.d (vI ((lsF es 3 a).1.length : Nat))) rfl (by rw [mapL_len] <;> rfl) ?_
 refine gx rfl <| ?_
 refine lp (X := Nat) (fun i => [(14, .d (vI (i : Nat)))]) (fun i => [(8, some (.b 32 6 ((sideR (lsF es 3 a).1 i).map eL) true))]) (fun i => i ≤ (lsF es 3 a).1.length) (fun i => (lsF es 3 a).1.length - i) 0 rfl (Nat.zero_le _) (fun _ => rfl) (fun i hk => ?_)
 have hsl := sideR_len (lsF es 3 a).1 i
 have hml := mapL_len (sideR (lsF es 3 a).1 i)
 refine br (fu1 := ⟨3⟩) rfl rfl rfl (fun hc15 => ?_) (fun hc15 => ?_)
 ·
  have hi : i < (lsF es 3 a).1.length := by omega
  refine mg (X := List LnQ) (fun ys => []) (fun ys => [(8, some (.b 32 6 (ys.map eL) true))]) (fun ys => ys = sideR (lsF es 3 a).1 (i + 1)) [] [8] rfl ?_ (fun _ => rfl) (fun ys hys => ?_)
  ·
   refine gx rfl <| lb (fu := ⟨0⟩) _ rfl (mapL_get (xs := sideR (lsF es 3 a).1 i) (i := i) (by omega)) rfl <| ?_
   refine eqF 18 (.d (eL (lsF es 3 a).1[i])) rfl (by rw [sideR_get hi] <;> rfl) ?_
   refine gx rfl <| cl rfl (q_Side (l := (lsF es 3 a).1[i]) (p := p7) (hl := ⟨(hx1 _ (List.getElem_mem hi)).bl⟩) (hp := bpt7)) rfl <| ?_
   refine br rfl rfl rfl (fun hc22 => ?_) (fun hc22 => ?_)
   ·
    refine cl rfl (q_sRev (l := (lsF es 3 a).1[i])) rfl <| sb _ ((sideR (lsF es 3 a).1 (i + 1)).map eL) rfl (mapL_get (xs := sideR (lsF es 3 a).1 i) (i := i) (by omega)) rfl (sideR_set hi hc22) rfl <| ?_
    exact at_ (sideR (lsF es 3 a).1 (i + 1)) rfl
   ·
    exact at_ (sideR (lsF es 3 a).1 i) (sideR_same hi hc22).symm
  ·
   subst hys
   exact at_ (i + 1) ⟨(by omega), (by omega)⟩
 ·
  obtain rfl : i = (lsF es 3 a).1.length := by omega
  refine fzE 8 rfl ?_
  exact rzM hmb rfl rfl (by rw [sideR_all] <;> rfl) rfl
end Go.Sx
end

section
set_option maxRecDepth 100000
namespace Go.Sx
open Go Go.Proofs
theorem BQ.of_fracI {q : Rat} {n D : Int} {i : Nat} (hd : 0 < D.natAbs) (h : q * ((D.natAbs : Nat) : Rat) = (n : Rat)) (hn : BI n i) (hD : BI D i) : BQ q i := BQ.of_frac hd h hn.h hD.h
theorem biMono {m : Int} {i j : Nat} (h : BI m i) (hij : i ≤ j) : BI m j := ⟨Nat.lt_of_lt_of_le h.h (Nat.pow_le_pow_right (by decide) hij)⟩
theorem param_bd {l m : LnQ} [LB l] [LB m] (hn : l.Ne) (h : crossI l m ≠ 0) : BQ (paramQ l (meetP l m)) 400 := by
 have e := param_frac hn h
 have hA : BI (crossI l m * (l.a * l.a + l.b * l.b)) _ := inferInstance
 have hB : BI (meetX l m * l.b - meetY l m * l.a) _ := inferInstance
 have hne : crossI l m * (l.a * l.a + l.b * l.b) ≠ 0 := by
   intro q
   rcases Int.mul_eq_zero.1 q with q | q
   · exact h q
   · have h1 := dd_pos hn
     simp only [LnQ.dir, PtQ.dot] at h1
     have h2 : ((l.a * l.a + l.b * l.b : Int) : Rat) = ((0 : Int) : Rat) := by rw [q]
     rw [Rat.intCast_add, Rat.intCast_mul, Rat.intCast_mul] at h2
     have h3 : ((0 : Int) : Rat) = 0 := rfl
     rw [h3] at h2
     grind
 have hA' := biMono (j := 400) hA (by decide)
 have hB' := biMono (j := 400) hB (by decide)
 generalize crossI l m * (l.a * l.a + l.b * l.b) = D at *
 generalize meetX l m * l.b - meetY l m * l.a = M at *
 by_cases hD : 0 < D
 · refine BQ.of_fracI (n := M) (D := D) (by omega) ?_ hB' hA'
   rw [← e]
   congr 1
   have : ((D.natAbs : Nat) : Int) = D := by omega
   rw [← this]; rfl
 · refine BQ.of_fracI (n := -M) (D := D) (by omega) ?_ (BI.neg M 400 (h := hB')) hA'
   rw [Rat.intCast_neg, ← e]
   have : ((D.natAbs : Nat) : Rat) = -(D : Rat) := by
     have h1 : ((D.natAbs : Nat) : Int) = -D := by omega
     rw [← Rat.intCast_neg, ← h1]; rfl
   rw [this]; grind
theorem sgn_le (k : Rat) : k.num.sign ≤ 0 ↔ ¬ 0 < k := by rw [← sgn_pos]; omega
theorem empty_of {w : IvQ} (h1 : ¬ w.nl = true) (h2 : ¬ w.nh = true) (h3 : 0 ≤ rcmp w.lo w.hi) : w.empty = true := by
 unfold IvQ.empty
 simp [h1, h2, h3]
theorem not_empty_nl {w : IvQ} (h : w.nl = true) : w.empty = false := by unfold IvQ.empty; simp [h]
theorem not_empty_nh {w : IvQ} (h : w.nh = true) : w.empty = false := by unfold IvQ.empty; simp [h]
theorem not_empty_lt {w : IvQ} (h : ¬ 0 ≤ rcmp w.lo w.hi) : w.empty = false := by unfold IvQ.empty; simp [h]
def edgeV (l : LnQ) : List LnQ → IvQ → IvQ × Bool
 | [], v => (v, true)
 | m :: t, v => if m = l then edgeV l t v else if l.cutB v m = true then edgeV l t (l.cutV v m) else (l.cutV v m, false)
theorem edgeV_snd {l : LnQ} : ∀ {c : List LnQ} {v : IvQ}, (edgeV l c v).2 = (partL l c v).isSome
 | [], v => rfl
 | m :: t, v => by
   rw [edgeV, partL_cons]
   split
   · exact edgeV_snd
   · split
     · exact edgeV_snd
     · rfl
structure Stp (l : LnQ) (c : List LnQ) (k : Nat) (v : IvQ) : Prop where
 le : k ≤ c.length
 p : partL l (c.drop k) v = partL l c IvQ.all
 e : edgeV l (c.drop k) v = edgeV l c IvQ.all
 z : IvZ v
 lo : BQ v.lo 400
 hi : BQ v.hi 400
theorem Stp.skip {l : LnQ} {c : List LnQ} {k : Nat} {v : IvQ} (h : Stp l c k v) (hk : k < c.length) (e : c[k] = l) : Stp l c (k + 1) v :=
 ⟨hk, by have := h.p; rw [List.drop_eq_getElem_cons hk, partL_cons, if_pos e] at this; exact this, by have := h.e; rw [List.drop_eq_getElem_cons hk, edgeV, if_pos e] at this; exact this, h.z, h.lo, h.hi⟩
theorem Stp.cut {l : LnQ} {c : List LnQ} {k : Nat} {v w : IvQ} (h : Stp l c k v) (hk : k < c.length) (e : c[k] ≠ l) (hb : l.cutB v c[k] = true) (hw : l.cutV v c[k] = w) (z : IvZ w) (lo : BQ w.lo 400) (hi : BQ w.hi 400) : Stp l c (k + 1) w :=
 ⟨hk, by have := h.p; rw [List.drop_eq_getElem_cons hk, partL_cons, if_neg e, if_pos hb, hw] at this; exact this, by have := h.e; rw [List.drop_eq_getElem_cons hk, edgeV, if_neg e, if_pos hb, hw] at this; exact this, z, lo, hi⟩
theorem Stp.no {l : LnQ} {c : List LnQ} {k : Nat} {v w : IvQ} (h : Stp l c k v) (hk : k < c.length) (e : c[k] ≠ l) (hb : l.cutB v c[k] = false) (hw : l.cutV v c[k] = w) : edgeV l c IvQ.all = (w, false) := by
 rw [← h.e, List.drop_eq_getElem_cons hk, edgeV, if_neg e, if_neg (by rw [hb]; decide), hw]
theorem Stp.yes {l : LnQ} {c : List LnQ} {k : Nat} {v : IvQ} (h : Stp l c k v) (hk : c.length ≤ k) : edgeV l c IvQ.all = (v, true) := by
 rw [← h.e, List.drop_eq_nil_of_le hk]; rfl
theorem Stp.all {l : LnQ} {c : List LnQ} : Stp l c 0 IvQ.all := ⟨Nat.zero_le _, by rw [List.drop_zero], by rw [List.drop_zero], IvZ.all, BQ.mono (k := 1) ⟨by decide, by decide⟩ (by decide), BQ.mono (k := 1) ⟨by decide, by decide⟩ (by decide)⟩
theorem updLo_y {v : IvQ} {t : Rat} (h : v.nl = true ∨ 0 < rcmp t v.lo) : (⟨t, v.hi, false, v.nh⟩ : IvQ) = updLo v t := by unfold updLo; rw [if_pos h]
theorem updLo_n {v : IvQ} {t : Rat} (h : ¬ v.nl = true) (h2 : ¬ 0 < rcmp t v.lo) : v = updLo v t := by unfold updLo; rw [if_neg (fun e => e.elim h h2)]
theorem updHi_y {v : IvQ} {t : Rat} (h : v.nh = true ∨ rcmp t v.hi < 0) : (⟨v.lo, t, v.nl, false⟩ : IvQ) = updHi v t := by unfold updHi; rw [if_pos h]
theorem updHi_n {v : IvQ} {t : Rat} (h : ¬ v.nh = true) (h2 : ¬ rcmp t v.hi < 0) : v = updHi v t := by unfold updHi; rw [if_neg (fun e => e.elim h h2)]
def updB (l m : LnQ) (v : IvQ) : IvQ := if 0 < (m.dir.cross l.dir).num.sign then updLo v (paramQ l (meetP l m)) else updHi v (paramQ l (meetP l m))
theorem updB_spec {l m : LnQ} {v : IvQ} [LB l] [LB m] (hn : l.Ne) (hz : IvZ v) (hlo : BQ v.lo 400) (hhi : BQ v.hi 400) (h0 : crossI l m ≠ 0) : l.cutV v m = updB l m v ∧ l.cutB v m = !(updB l m v).empty ∧ IvZ (updB l m v) ∧ BQ (updB l m v).lo 400 ∧ BQ (updB l m v).hi 400 := by
 have hb := param_bd (l := l) (m := m) hn h0
 unfold updB
 split
 · rename_i h
   obtain ⟨_, h1, h2⟩ := step_lo hn hz ((sgn_pos _).1 h)
   refine ⟨h1, h2, hz.lo' _, ?_⟩
   unfold updLo; split
   · exact ⟨hb, hhi⟩
   · exact ⟨hlo, hhi⟩
 · rename_i h
   obtain ⟨h1, h2⟩ := step_hi hn hz h0 (fun e => h ((sgn_pos _).2 e))
   refine ⟨h1, h2, hz.hi' _, ?_⟩
   unfold updHi; split
   · exact ⟨hlo, hb⟩
   · exact ⟨hlo, hhi⟩
theorem edgeV_bd {l : LnQ} [LB l] (hn : l.Ne) : ∀ {c : List LnQ} {v : IvQ}, (∀ m ∈ c, LB m) → IvZ v → BQ v.lo 400 → BQ v.hi 400 → BQ (edgeV l c v).1.lo 400 ∧ BQ (edgeV l c v).1.hi 400
 | [], v, _, _, h1, h2 => ⟨h1, h2⟩
 | m :: t, v, hc, hz, h1, h2 => by
   haveI := hc m List.mem_cons_self
   have hw : IvZ (l.cutV v m) ∧ BQ (l.cutV v m).lo 400 ∧ BQ (l.cutV v m).hi 400 := by
     by_cases h0 : crossI l m = 0
     · rw [(step_par (v := v) h0).1]; exact ⟨hz, h1, h2⟩
     · obtain ⟨u1, _, u3, u4, u5⟩ := updB_spec (v := v) hn hz h1 h2 h0
       rw [u1]; exact ⟨u3, u4, u5⟩
   have hc' := fun m hm => hc m (List.mem_cons_of_mem _ hm)
   rw [edgeV]
   split
   · exact edgeV_bd hn hc' hz h1 h2
   · split
     · exact edgeV_bd hn hc' hw.1 hw.2.1 hw.2.2
     · exact hw.2
set_option maxHeartbeats 4000000 in
theorem q_edge {GB : Gh} {c : List LnQ} {i : Nat} (hc : ∀ m ∈ c, LB m) (hok : ∀ m ∈ c, m.ok) (hn : c.length ≤ 1000) (hi : i < c.length) : PF GB Tryz.prog 76 [.sl (c.map eL), vI (i : Nat)] (.tp [eV (edgeV (c[i]'hi) c IvQ.all).1, vB (edgeV (c[i]'hi) c IvQ.all).2]) := by
 have hcl := mapL_len c
 obtain ⟨l, hl⟩ : ∃ l, l = c[i] := ⟨_, rfl⟩
 rw [← hl]
 haveI hlb : LB l := hl ▸ hc _ (List.getElem_mem hi)
 have hlo : l.ok := hl ▸ hok _ (List.getElem_mem hi)
 refine fn Tryz.func76 rfl rfl Tryz.ntmps76 rfl rfl (fun C => ?_)
 refine ix (fu := ⟨1⟩) _ rfl (mapL_get hi) rfl <| ?_
 refine eqF 16 (.d (eL l)) rfl (by rw [hl]; rfl) ?_
 refine gx rfl <| cl (fu := ⟨9⟩) rfl q_Full rfl <| ?_
 refine eqF 19 (.d (vI (c.length : Nat))) rfl (by rw [hcl]; rfl) ?_
 refine gx rfl <| ?_
 refine lp (X := IvQ × Nat) (fun ⟨v, k⟩ => [(20, .d (vI (k : Nat))), (19, .d (vI (c.length : Nat))), (18, .d (.sl (c.map eL))), (1, .d (vI (i : Nat))), (6, .ov 6 0), (7, .ov 7 0), (4, .ov 4 0)]) (fun ⟨v, k⟩ => [(7, some (.o 157 [.d ((.v (.bool (decide (v.lo.num < 0))))), .d (dN v.lo.num.natAbs), .d (dD v.lo.den), .d ((.v (.bool (decide (v.hi.num < 0))))), .d (dN v.hi.num.natAbs), .d (dD v.hi.den), .d ((.v (.bool v.nl))), .d ((.v (.bool v.nh)))] true)), (6, some (.o 32 [.d ((.v (.bool (decide (l.a < 0))))), .d (dN l.a.natAbs), .d ((.v (.bool (decide (l.b < 0))))), .d (dN l.b.natAbs), .d ((.v (.bool (decide (l.c < 0))))), .d (dN l.c.natAbs)] true)), (4, some (.o 157 [.ff, .nl, .nl, .ff, .nl, .nl, .ff, .ff] true))]) (fun ⟨v, k⟩ => Stp l c k v) (fun ⟨v, k⟩ => c.length - k) ⟨IvQ.all, 0⟩ rfl Stp.all (fun _ => rfl) (fun ⟨v, k⟩ hk => ?_)
 try dsimp only at hk ⊢
 have hS := hk
 refine br rfl rfl rfl (fun hc21 => ?_) (fun hc21 => ?_)
 ·
  have hk : k < c.length := by omega
  obtain ⟨m, hm⟩ : ∃ m, m = c[k] := ⟨_, rfl⟩
  haveI hmb : LB m := hm ▸ hc _ (List.getElem_mem hk)
  have hmo : m.ok := hm ▸ hok _ (List.getElem_mem hk)
  refine ix (fu := ⟨1⟩) _ rfl (mapL_get hk) rfl <| ?_
  refine eqF 24 (.d (eL m)) rfl (by rw [hm]; rfl) ?_
  refine gx rfl <| ?_
  refine cs 28 rfl rfl rfl (fun hg28 => ?_) (fun hg28 => ?_)
  ·
   have hinv : Stp l c (k + 1) v := hS.skip hk (by rw [hl]; congr 1; omega)
   exact at_ ⟨v, k + 1⟩ (by dsimp only; exact ⟨hinv, (by omega)⟩)
  ·
   refine cl rfl (q_LCmp (l := l) (m := m)) rfl <| ?_
   refine br rfl rfl rfl (fun hc33 => ?_) (fun hc33 => ?_)
   ·
    have hinv : Stp l c (k + 1) v := hS.skip hk (by rw [← hm, (lcmp_zero l m).1 hc33])
    exact at_ ⟨v, k + 1⟩ (by dsimp only; exact ⟨hinv, (by omega)⟩)
   ·
    have hne : c[k] ≠ l := fun e => hc33 ((lcmp_zero l m).2 (by rw [hm, e]))
    refine cl (fu := ⟨13⟩) rfl (q_Meet (l := l) (m := m)) rfl <| ?_
    refine eqF 41 (.d (.v (.bool (decide (crossI l m = 0))))) rfl (by simp) ?_
    refine gx rfl <| ?_
    refine bd rfl rfl rfl (fun hc41 => ?_) (fun hc41 => ?_)
    ·
     refine cl rfl (q_Base hlo.ne) rfl <| cl rfl (q_Side (l := m) (p := l.base)) rfl <| ?_
     refine br rfl rfl rfl (fun hc46 => ?_) (fun hc46 => ?_)
     ·
      have hno := hS.no (w := v) hk hne (by have := (step_par (v := v) hc41).2; rw [← hm]; cases hb : l.cutB v m with | false => rfl | true => exact absurd (this.1 hb) ((sgn_le _).1 hc46)) (by rw [← hm]; exact (step_par (v := v) hc41).1)
      exact rz rfl (by rw [hno]; rfl)
     ·
      have hinv : Stp l c (k + 1) v := by have := step_par (v := v) hc41; exact hS.cut hk hne (by rw [← hm]; exact this.2.2 (by have := mt (sgn_le (m.value l.base)).2 hc46; exact Decidable.not_not.1 this)) (by rw [← hm]; exact this.1) hS.z hS.lo hS.hi
      exact at_ ⟨v, k + 1⟩ (by dsimp only; exact ⟨hinv, (by omega)⟩)
    ·
     obtain ⟨u1, u2, u3, u4, u5⟩ := updB_spec (v := v) hlo.ne hS.z hS.lo hS.hi hc41
     haveI htb := param_bd hlo.ne hc41
     haveI hvl := hS.lo
     haveI hvh := hS.hi
     refine cl (fu := ⟨0⟩) rfl (q_Param (l := l) (p := meetP l m) hlo.ne) rfl <| ?_
     obtain ⟨t, ht⟩ : ∃ t, t = paramQ l (meetP l m) := ⟨_, rfl⟩
     refine eqF 50 (.d (eQ t)) rfl (by rw [ht]) ?_
     rw [← ht] at htb
     refine gx (fu := ⟨5⟩) rfl <| ?_
     refine mg (X := IvQ) (fun w => [(20, .d (vI (k : Nat))), (19, .d (vI (c.length : Nat))), (18, .d (.sl (c.map eL))), (1, .d (vI (i : Nat))), (6, .ov 6 0), (7, .ov 7 0), (4, .ov 4 0)]) (fun w => [(7, some (.o 157 [.d ((.v (.bool (decide (w.lo.num < 0))))), .d (dN w.lo.num.natAbs), .d (dD w.lo.den), .d ((.v (.bool (decide (w.hi.num < 0))))), .d (dN w.hi.num.natAbs), .d (dD w.hi.den), .d ((.v (.bool w.nl))), .d ((.v (.bool w.nh)))] true)), (6, some (.o 32 [.d ((.v (.bool (decide (l.a < 0))))), .d (dN l.a.natAbs), .d ((.v (.bool (decide (l.b < 0))))), .d (dN l.b.natAbs), .d ((.v (.bool (decide (l.c < 0))))), .d (dN l.c.natAbs)] true)), (4, some (.o 157 [.ff, .nl, .nl, .ff, .nl, .nl, .ff, .ff] true))]) (fun w => w = updB l m v) [20, 19, 18, 1, 6, 7, 4] [7, 6, 4] rfl ?_ (fun _ => rfl) (fun w hw => ?_)
     ·
      refine gx rfl <| cl rfl (q_Dir (l := m)) rfl <| cl rfl (q_Dir (l := l)) rfl <| cl rfl (q_Cross (p := m.dir) (q := l.dir)) rfl <| cl rfl (q_S (q := m.dir.cross l.dir)) rfl <| ?_
      refine br rfl rfl rfl (fun hc57 => ?_) (fun hc57 => ?_)
      ·
       refine csb 60 rfl rfl rfl (fun hg60 => ?_) (fun hg60 => ?_)
       ·
        refine dpE 7 rfl rfl rfl ?_
        exact at_ ⟨t, v.hi, false, v.nh⟩ (by unfold updB; rw [if_pos hc57, ← ht]; exact updLo_y (.inl hg60))
       ·
        refine cl rfl (q_C (a := t) (b := v.lo)) rfl <| ?_
        refine br rfl rfl rfl (fun hc66 => ?_) (fun hc66 => ?_)
        ·
         refine dpE 7 rfl rfl rfl ?_
         exact at_ ⟨t, v.hi, false, v.nh⟩ (by unfold updB; rw [if_pos hc57, ← ht]; exact updLo_y (.inr hc66))
        ·
         exact at_ v (by unfold updB; rw [if_pos hc57, ← ht]; exact updLo_n (by simp [hg60]) hc66)
      ·
       refine csb 72 rfl rfl rfl (fun hg72 => ?_) (fun hg72 => ?_)
       ·
        refine dpE 7 rfl rfl rfl ?_
        exact at_ ⟨v.lo, t, v.nl, false⟩ (by unfold updB; rw [if_neg hc57, ← ht]; exact updHi_y (.inl hg72))
       ·
        refine cl rfl (q_C (a := t) (b := v.hi)) rfl <| ?_
        refine br rfl rfl rfl (fun hc78 => ?_) (fun hc78 => ?_)
        ·
         refine dpE 7 rfl rfl rfl ?_
         exact at_ ⟨v.lo, t, v.nl, false⟩ (by unfold updB; rw [if_neg hc57, ← ht]; exact updHi_y (.inr hc78))
        ·
         exact at_ v (by unfold updB; rw [if_neg hc57, ← ht]; exact updHi_n (by simp [hg72]) hc78)
     ·
      rw [← hw] at u1 u2 u3 u4 u5
      haveI := u4
      haveI := u5
      refine csb 85 rfl rfl rfl (fun hg85 => ?_) (fun hg85 => ?_)
      ·
       refine csb 90 rfl rfl rfl (fun hg90 => ?_) (fun hg90 => ?_)
       ·
        refine cl rfl (q_C (a := w.lo) (b := w.hi)) rfl <| ?_
        refine br rfl rfl rfl (fun hc97 => ?_) (fun hc97 => ?_)
        ·
         have hno := hS.no (w := w) hk hne (by rw [← hm, u2, empty_of (by simpa using hg85) (by simpa using hg90) hc97]; rfl) (by rw [← hm, u1])
         exact rz rfl (by rw [hno]; rfl)
        ·
         have hinv : Stp l c (k + 1) w := hS.cut hk hne (by rw [← hm, u2, not_empty_lt hc97]; rfl) (by rw [← hm, u1]) u3 u4 u5
         exact at_ ⟨w, k + 1⟩ (by dsimp only; exact ⟨hinv, (by omega)⟩)
       ·
        have hinv : Stp l c (k + 1) w := hS.cut hk hne (by rw [← hm, u2, not_empty_nh (by simpa using hg90)]; rfl) (by rw [← hm, u1]) u3 u4 u5
        exact at_ ⟨w, k + 1⟩ (by dsimp only; exact ⟨hinv, (by omega)⟩)
      ·
       have hinv : Stp l c (k + 1) w := hS.cut hk hne (by rw [← hm, u2, not_empty_nl (by simpa using hg85)]; rfl) (by rw [← hm, u1]) u3 u4 u5
       exact at_ ⟨w, k + 1⟩ (by dsimp only; exact ⟨hinv, (by omega)⟩)
 ·
  exact rz rfl (by rw [hS.yes (by omega)]; rfl)
end Go.Sx
end

section
set_option maxRecDepth 100000
namespace Go.Sx
open Go Go.Proofs
instance BQ.i1' : BQ (1 : Rat) 2 := ⟨by decide, by decide⟩
instance BQ.i2' : BQ (2 : Rat) 2 := ⟨by decide, by decide⟩
theorem sample_bd {v : IvQ} {i : Nat} [BQ v.lo i] [BQ v.hi i] : BQ (sampleR v) (i + i + 5) := by
 unfold sampleR
 split
 · exact BQ.mono (k := 1) ⟨by decide, by decide⟩ (by omega)
 · split
   · exact BQ.mono (inferInstance : BQ (v.hi - 1) _) (by omega)
   · split
     · exact BQ.mono (inferInstance : BQ (v.lo + 1) _) (by omega)
     · exact BQ.mono (inferInstance : BQ ((v.lo + v.hi) / 2) _) (by omega)
instance BPt.at (l : LnQ) (t : Rat) (k : Nat) [LB l] [BQ t k] : BPt (l.at t) (300 + (k + 33) + 1) := by
 rw [← at_ref]; infer_instance
theorem ne_of_sgn {q : Rat} (h : ¬ q.num.sign = 0) : q ≠ 0 := fun e => h ((sgn_zero q).2 e)
def turnP (d : PtQ) : PtQ := ⟨-d.y, d.x⟩
instance BPt.turn (d : PtQ) (k : Nat) [BPt d k] : BPt (turnP d) k := ⟨inferInstanceAs (BQ (-d.y) k), inferInstanceAs (BQ d.x k)⟩
def nearT (p v : PtQ) (m : LnQ) : Rat := -(m.value p / (m.value (movQ p v ((1 : Int) : Rat)) - m.value p))
def nearStep (p v : PtQ) (m : LnQ) (s : Rat) : Rat := if (m.value (movQ p v ((1 : Int) : Rat)) - m.value p).num.sign = 0 then s else if (m.value p).num.sign = 0 then s else if 0 < (nearT p v m).num.sign then (if rcmp (nearT p v m / 2) s < 0 then nearT p v m / 2 else s) else s
def nearS (p v : PtQ) : List LnQ → Rat → Rat
 | [], s => s
 | m :: t, s => nearS p v t (nearStep p v m s)
def nearP (c : List LnQ) (p v : PtQ) : PtQ := movQ p v (nearS p v c ((1 : Int) : Rat))
theorem nearS_next {c : List LnQ} {p v : PtQ} {k : Nat} {s s' r : Rat} {m : LnQ} (h : nearS p v (c.drop k) s = r) (hk : k < c.length) (hm : m = c[k]) (e : nearStep p v m s = s') : nearS p v (c.drop (k + 1)) s' = r := by
 rw [List.drop_eq_getElem_cons hk] at h
 rw [← h, nearS, ← hm, e]
set_option maxHeartbeats 4000000 in
theorem q_Near {GB : Gh} {c : List LnQ} {p v : PtQ} (hc : ∀ m ∈ c, LB m) (hn : c.length ≤ 1000) (hp : BPt p 1500) (hv : BPt v 33) : PF GB Tryz.prog 159 [.sl (c.map eL), eP p, eP v] (eP (nearP c p v)) := by
 have hcl := mapL_len c
 refine fn Tryz.func159 rfl rfl Tryz.ntmps159 rfl rfl (fun C => ?_)
 refine cl (fu := ⟨9⟩) rfl (q_Of (n := 1) (by decide) (by decide)) rfl <| ?_
 refine eqF 14 (.d (vI (c.length : Nat))) rfl (by rw [hcl]; rfl) ?_
 refine gx rfl <| ?_
 refine lp (X := Rat × Nat) (fun ⟨s, k⟩ => [(15, .d (vI (k : Nat))), (14, .d (vI (c.length : Nat))), (13, .d (.sl (c.map eL))), (4, .ov 4 0), (5, .ov 5 0), (7, .ov 7 0), (6, .ov 6 0)]) (fun ⟨s, k⟩ => [(7, some (.o 87 [.d ((.v (.bool (decide (s.num < 0))))), .d (dN s.num.natAbs), .d (dD s.den)] true)), (6, some (.o 89 [.ff, .nl, .nl, .ff, .nl, .nl] true)), (5, some (.o 89 [.d ((.v (.bool (decide (v.x.num < 0))))), .d (dN v.x.num.natAbs), .d (dD v.x.den), .d ((.v (.bool (decide (v.y.num < 0))))), .d (dN v.y.num.natAbs), .d (dD v.y.den)] true)), (4, some (.o 89 [.d ((.v (.bool (decide (p.x.num < 0))))), .d (dN p.x.num.natAbs), .d (dD p.x.den), .d ((.v (.bool (decide (p.y.num < 0))))), .d (dN p.y.num.natAbs), .d (dD p.y.den)] true))]) (fun ⟨s, k⟩ => k ≤ c.length ∧ BQ s 20000 ∧ nearS p v (c.drop k) s = nearS p v c ((1 : Int) : Rat)) (fun ⟨s, k⟩ => c.length - k) ⟨((1 : Int) : Rat), 0⟩ rfl ⟨Nat.zero_le _, BQ.i1.mono (by decide), rfl⟩ (fun _ => rfl) (fun ⟨s, k⟩ hk => ?_)
 try dsimp only at hk ⊢
 obtain ⟨hle, hsb, hns⟩ := hk
 refine br rfl rfl rfl (fun hc16 => ?_) (fun hc16 => ?_)
 ·
  have hk : k < c.length := by omega
  obtain ⟨m, hm⟩ : ∃ m, m = c[k] := ⟨_, rfl⟩
  haveI hmb : LB m := hm ▸ hc _ (List.getElem_mem hk)
  have hinv := hsb
  refine ix (fu := ⟨1⟩) _ rfl (mapL_get hk) rfl <| ?_
  refine eqF 18 (.d (eL m)) rfl (by rw [hm]; rfl) ?_
  refine gx rfl <| cl rfl (q_Of (n := 1) (by decide) (by decide)) rfl <| cl rfl (q_PAdd (p := p) (q := v) (c := ((1 : Int) : Rat))) rfl <| cl rfl (q_Value (l := m) (p := movQ p v ((1 : Int) : Rat))) rfl <| ?_
  refine cl rfl (q_Value (l := m) (p := p)) rfl <| cl rfl (q_Sub (a := m.value (movQ p v ((1 : Int) : Rat))) (b := m.value p)) rfl <| cl rfl (q_S (q := m.value (movQ p v ((1 : Int) : Rat)) - m.value p)) rfl <| ?_
  refine cs 32 rfl rfl rfl (fun hg32 => ?_) (fun hg32 => ?_)
  ·
   exact at_ ⟨s, k + 1⟩ (by dsimp only; exact ⟨⟨by omega, hinv, (nearS_next hns hk hm (by unfold nearStep; rw [if_pos hg32]))⟩, (by omega)⟩)
  ·
   refine cl rfl (q_Side (l := m) (p := p)) rfl <| ?_
   refine br rfl rfl rfl (fun hc37 => ?_) (fun hc37 => ?_)
   ·
    exact at_ ⟨s, k + 1⟩ (by dsimp only; exact ⟨⟨by omega, hinv, (nearS_next hns hk hm (by unfold nearStep; rw [if_neg hg32, if_pos hc37]))⟩, (by omega)⟩)
   ·
    refine cl rfl (q_Value (l := m) (p := p)) rfl <| cl rfl (q_Over (a := m.value p) (b := m.value (movQ p v ((1 : Int) : Rat)) - m.value p) (ne_of_sgn hg32)) rfl <| ?_
    refine cl rfl (q_Opp (q := m.value p / (m.value (movQ p v ((1 : Int) : Rat)) - m.value p))) rfl <| cl (fu := ⟨0⟩) rfl (q_S (q := -(m.value p / (m.value (movQ p v ((1 : Int) : Rat)) - m.value p)))) rfl <| ?_
    refine csS (v2 := fun hg46 => by simp only [allP]; exact ⟨by kernel_rfl, by omega⟩) rfl rfl rfl rfl (fun hg46 => ?_) (fun hg46 => ?_)
    ·
     refine cl rfl (q_Half (a := -(m.value p / (m.value (movQ p v ((1 : Int) : Rat)) - m.value p)))) rfl <| cl rfl (q_C (a := -(m.value p / (m.value (movQ p v ((1 : Int) : Rat)) - m.value p)) / 2) (b := s)) rfl <| ?_
     refine br rfl rfl rfl (fun hc53 => ?_) (fun hc53 => ?_)
     ·
      obtain ⟨t, ht⟩ : ∃ t, t = -(m.value p / (m.value (movQ p v ((1 : Int) : Rat)) - m.value p)) := ⟨_, rfl⟩
      haveI htb : BQ t 15000 := ht ▸ BQ.mono inferInstance (by decide)
      have hinv : BQ (t / 2) 20000 := BQ.mono inferInstance (by decide)
      rw [← ht]
      refine cl rfl (q_Half (a := t)) rfl <| ?_
      exact at_ ⟨t / 2, k + 1⟩ (by dsimp only; exact ⟨⟨by omega, hinv, (nearS_next hns hk hm (by unfold nearStep; rw [if_neg hg32, if_neg hc37, show nearT p v m = t from ht.symm, if_pos (by rw [ht]; exact hg46), if_pos (by rw [ht]; exact hc53)]))⟩, (by omega)⟩)
     ·
      exact at_ ⟨s, k + 1⟩ (by dsimp only; exact ⟨⟨by omega, hinv, (nearS_next hns hk hm (by unfold nearStep; rw [if_neg hg32, if_neg hc37, if_pos (show 0 < (nearT p v m).num.sign from hg46), if_neg (show ¬ rcmp (nearT p v m / 2) s < 0 from hc53)]))⟩, (by omega)⟩)
    ·
     exact at_ ⟨s, k + 1⟩ (by dsimp only; exact ⟨⟨by omega, hinv, (nearS_next hns hk hm (by unfold nearStep; rw [if_neg hg32, if_neg hc37, if_neg (show ¬ 0 < (nearT p v m).num.sign from hg46)]))⟩, (by omega)⟩)
 ·
  refine cl rfl (q_PAdd (p := p) (q := v) (c := s)) rfl <| ?_
  exact rz rfl (by unfold nearP; rw [← hns, List.drop_eq_nil_of_le (by omega)]; rfl)
def innerP (c : List LnQ) : List LnQ → PtQ
 | [] => ⟨0, 0⟩
 | m :: t => if (edgeV m c IvQ.all).2 = true then nearP c (m.at (sampleR (edgeV m c IvQ.all).1)) (turnP m.dir) else innerP c t
theorem innerP_yes {c : List LnQ} {k : Nat} {m : LnQ} (h : innerP c (c.drop k) = innerP c c) (hk : k < c.length) (hm : m = c[k]) (e : (edgeV m c IvQ.all).2 = true) : innerP c c = nearP c (m.at (sampleR (edgeV m c IvQ.all).1)) (turnP m.dir) := by
 rw [← h, List.drop_eq_getElem_cons hk, innerP, ← hm, if_pos e]
theorem innerP_no {c : List LnQ} {k : Nat} {m : LnQ} (h : innerP c (c.drop k) = innerP c c) (hk : k < c.length) (hm : m = c[k]) (e : ¬ (edgeV m c IvQ.all).2 = true) : innerP c (c.drop (k + 1)) = innerP c c := by
 rw [← h, List.drop_eq_getElem_cons hk, innerP, ← hm, if_neg e]
theorem inner_yes {c : List LnQ} {m : LnQ} (h : m ∈ c) (h2 : (partL m c IvQ.all).isSome = true) : innerB c = true := by
 unfold innerB; rw [Bool.or_eq_true, List.any_eq_true]; exact .inr ⟨m, h, h2⟩
theorem inner_nil {c : List LnQ} (h : c = []) : innerB c = true := by subst h; rfl
theorem inner_no {c : List LnQ} (h : c ≠ []) (h2 : ∀ m ∈ c, (partL m c IvQ.all).isSome = false) : innerB c = false := by
 rw [← Bool.not_eq_true]; unfold innerB; rw [Bool.or_eq_true, List.any_eq_true, List.isEmpty_iff]
 rintro (e | ⟨m, h3, h4⟩)
 · exact h e
 · rw [h2 m h3] at h4; exact absurd h4 (by decide)
theorem eP_zero : eP ⟨0, 0⟩ = .ag [.v (.bool false), .sl [], .sl [], .v (.bool false), .sl [], .sl []] := by
 unfold eP dD
 simp only [show (0 : Rat).num = 0 from rfl, show (0 : Rat).den = 1 from rfl, Int.natAbs_zero, dN_zero]; rfl
set_option maxHeartbeats 4000000 in
theorem q_Inner {GB : Gh} {c : List LnQ} (hc : ∀ m ∈ c, LB m) (hok : ∀ m ∈ c, m.ok) (hn : c.length ≤ 1000) : PF GB Tryz.prog 111 [.sl (c.map eL)] (.tp [eP (innerP c c), vB (innerB c)]) := by
 have hcl := mapL_len c
 refine fn Tryz.func111 rfl rfl Tryz.ntmps111 rfl rfl (fun C => ?_)
 refine br (fu2 := ⟨7⟩) rfl rfl rfl (fun hc11 => ?_) (fun hc11 => ?_)
 ·
  exact rz rfl (by rw [List.eq_nil_of_length_eq_zero (l := c) (by omega), inner_nil rfl]; show _ = DV.tp [eP ⟨0, 0⟩, _]; rw [eP_zero]; rfl)
 ·
  refine eqF 14 (.d (vI (c.length : Nat))) rfl (by rw [hcl]; rfl) ?_
  refine gx rfl <| ?_
  refine lp (X := Nat) (fun k => [(15, .d (vI (k : Nat))), (14, .d (vI (c.length : Nat))), (13, .d (.sl (c.map eL))), (0, .d (.sl (c.map eL))), (2, .ov 2 0)]) (fun k => [(2, some (.o 89 [.ff, .nl, .nl, .ff, .nl, .nl] true))]) (fun k => k ≤ c.length ∧ (∀ m ∈ c.take k, (partL m c IvQ.all).isSome = false) ∧ innerP c (c.drop k) = innerP c c) (fun k => c.length - k) 0 rfl ⟨Nat.zero_le _, fun m hm => absurd hm (by simp), rfl⟩ (fun _ => rfl) (fun k hk => ?_)
  obtain ⟨hle, hno, hip⟩ := hk
  refine br rfl rfl rfl (fun hc16 => ?_) (fun hc16 => ?_)
  ·
   have hk : k < c.length := by omega
   obtain ⟨m, hm⟩ : ∃ m, m = c[k] := ⟨_, rfl⟩
   haveI hmb : LB m := hm ▸ hc _ (List.getElem_mem hk)
   have hmo : m.ok := hm ▸ hok _ (List.getElem_mem hk)
   refine ix (fu := ⟨1⟩) _ rfl (mapL_get hk) rfl <| ?_
   refine eqF 19 (.d (eL m)) rfl (by rw [hm]; rfl) ?_
   refine gx rfl <| cl (fu := ⟨0⟩) rfl (q_edge hc hok hn hk) rfl <| ?_
   refine eqF 23 (.d (.tp [eV (edgeV m c IvQ.all).1, vB (edgeV m c IvQ.all).2])) rfl (by rw [hm]) ?_
   refine gx rfl <| ?_
   refine bb rfl rfl rfl (fun hc26 => ?_) (fun hc26 => ?_)
   ·
    have hbd := edgeV_bd (v := IvQ.all) hmo.ne hc IvZ.all (BQ.mono (k := 1) ⟨by decide, by decide⟩ (by decide)) (BQ.mono (k := 1) ⟨by decide, by decide⟩ (by decide))
    obtain ⟨s, hs⟩ : ∃ s, s = (edgeV m c IvQ.all).1 := ⟨_, rfl⟩
    rw [← hs] at hbd
    haveI := hbd.1
    haveI := hbd.2
    haveI hsb := sample_bd (v := s) (i := 400)
    have hpt : BPt (m.at (sampleR s)) 1500 := by have := BPt.at m (sampleR s) (400 + 400 + 5); exact ⟨this.x.mono (by decide), this.y.mono (by decide)⟩
    have hin : innerB c = true := inner_yes (hm ▸ List.getElem_mem hk) (by rw [← edgeV_snd]; exact hc26)
    have hpn := innerP_yes hip hk hm hc26
    rw [← hs] at hpn ⊢
    refine cl rfl (q_Dir (l := m)) rfl <| cl rfl (q_Sample (v := s)) rfl <| cl rfl (q_At (l := m) (t := sampleR s) hmo.ne) rfl <| cl rfl (q_Opp (q := m.dir.y)) rfl <| ?_
    refine cl rfl (q_Near (p := m.at (sampleR s)) (v := turnP m.dir) hc hn (hpt) inferInstance) rfl <| ?_
    exact rz rfl (by rw [hin, hpn]; rfl)
   ·
    exact at_ (k + 1) ⟨⟨by omega, take_next hno hk (by rw [← hm, ← edgeV_snd]; exact hc26), innerP_no hip hk hm (by rw [hc26]; decide)⟩, (by omega)⟩
  ·
   exact rz rfl (by rw [inner_no (fun e => hc11 (by rw [e]; rfl)) (fun m hm => hno m (by rw [List.take_of_length_le (by omega)]; exact hm)), ← hip, List.drop_eq_nil_of_le (by omega)]; show _ = DV.tp [eP ⟨0, 0⟩, _]; rw [eP_zero]; rfl)
end Go.Sx
end

section
set_option maxRecDepth 100000
namespace Go.Sx
open Go
inductive OT where
 | z (π : List (Nat × Bool))
 | q (i : Nat) (t : OT)
 | a (i : Nat) (t : OT)
 | c (i : Nat) (t r : OT)
def OT.sz : OT → Nat
 | .z _ => 0
 | .q _ t => t.sz + 1
 | .a _ t => t.sz + 1
 | .c _ t r => t.sz + r.sz + 1
def OT.d : OT → Nat
 | .z π => π.length
 | .q _ t => t.d + 1
 | .a _ t => t.d + 1
 | .c _ t r => Nat.max (t.d + 1) r.d
section
variable {P : Program} {ops : Array Oper} {Q : Exit → Act → World → Prop} {S : World → Prop} {π₂ : List (Nat × Bool)}
def dwN (P : Program) (ops : Array Oper) (Q : Exit → Act → World → Prop) (K : (World → Prop) → Act → World → Prop) : List Nat → OT → (World → Prop) → Act → World → Prop
 | ks, .z π, S, a, w => dwT P ops Q K ks π S a w
 | ks, .q i t, S, a, w => ∃ o v, ops[i]? = some o ∧ S w ∧ YieldsIf P ops S o v a ∧ dwN P ops Q K ks t S (a.put o.dst v) w
 | ks, .a i t, S, a, w => wpOp P ops Q i (grS S (dwN P ops Q K ks t)) a w ∧
     ∀ j, (h : j ∈ ks) → wpOp P ops Q j (grS S (dwN P ops Q K (without ks j) (.a i t))) a w
 | ks, .c i t r, S, a, w => wpOp P ops Q i (grS S (dwN P ops Q K ks t)) a w ∧ dwN P ops Q K ks r S a w ∧
     ∀ j, (h : j ∈ ks) → wpOp P ops Q j (grS S (dwN P ops Q K (without ks j) (.c i t r))) a w
termination_by ks t => ks.length + t.sz
decreasing_by
 all_goals (first | (have := without_lt h; simp only [OT.sz] at *; omega) | (simp only [OT.sz]; omega))
def orderOkN (ops : Array Oper) (fin : Nat → Bool) (π₂ : List (Nat × Bool)) : Nat → Bool → List Nat → OT → Array Bool → List Nat → Bool
 | 0, _, _, _, _, _ => false
 | n + 1, false, ks, .z π, l, _ => orderOkG ops fin π₂ n ks π l
 | _ + 1, true, _, .z _, _, _ => false
 | n + 1, false, ks, .q i t, l, _ => takeOk ops fin l i && orderOkN ops fin π₂ n false ks t (l.setIfInBounds i true) []
 | _ + 1, true, _, .q _ _, _, _ => false
 | n + 1, true, ks, .a i t, l, rs => rs.all (fun j => Nat.beq j i) && orderOkN ops fin π₂ n false ks t (l.setIfInBounds i true) []
 | n + 1, false, ks, .a i t, l, _ => !(Region.ready .any ops l).isEmpty && (Region.ready .any ops l).all (fun j => Nat.beq j i || ks.contains j) && orderOkN ops fin π₂ n false ks t (l.setIfInBounds i true) [] && ks.all fun j => orderOkN ops fin π₂ n false (without ks j) (.a i t) (l.setIfInBounds j true) []
 | n + 1, true, ks, .c i t r, l, rs => orderOkN ops fin π₂ n false ks t (l.setIfInBounds i true) [] && orderOkN ops fin π₂ n true ks r l (without rs i)
 | n + 1, false, ks, .c i t r, l, _ => !(Region.ready .any ops l).isEmpty && orderOkN ops fin π₂ n false ks t (l.setIfInBounds i true) [] && orderOkN ops fin π₂ n true ks r l (without ((Region.ready .any ops l).filter fun j => !ks.contains j) i) && ks.all fun j => orderOkN ops fin π₂ n false (without ks j) (.c i t r) (l.setIfInBounds j true) []
end
section
variable {P : Program} {GB : Gh} {C : Ctx} {n : Nat} {fr fr' : FrF} {own own' own0 own1 own1' : List OwnD} {bs bs0 bs1 bs1' : List BufD} {ops : Array Oper} {Q : Exit → Act → World → Prop} {fd : List FD} {π₂ : List (Nat × Bool)} {t r : OT}
abbrev dnK (P : Program) (ops : Array Oper) (Q : Exit → Act → World → Prop) (K : (World → Prop) → Act → World → Prop) (t : OT) : List Nat → (World → Prop) → Act → World → Prop := fun ks S => dwN P ops (NoPan Q) K ks t S
end
end Go.Sx
end

section
set_option maxRecDepth 100000
namespace Go.Sx
open Go Go.Proofs
theorem lb_app {c : List LnQ} {l : LnQ} (hc : ∀ m ∈ c, LB m) (hl : LB l) : ∀ m ∈ c ++ [l], LB m := by
 rw [List.forall_mem_append]
 exact ⟨hc, by simpa using hl⟩
theorem LB.rev {l : LnQ} (h : LB l) : LB l.rev := ⟨⟨by rw [show l.rev.a = -l.a from rfl, Int.natAbs_neg]; exact h.bl.a, by rw [show l.rev.b = -l.b from rfl, Int.natAbs_neg]; exact h.bl.b, by rw [show l.rev.c = -l.c from rfl, Int.natAbs_neg]; exact h.bl.c⟩⟩
set_option maxHeartbeats 2000000 in
theorem q_Place {GB : Gh} {c : List LnQ} {l : LnQ} (hc : ∀ m ∈ c, LB m) (hok : ∀ m ∈ c, m.ok) (hn : c.length ≤ 900) (hl : LB l) (hlo : l.ok) : PF GB Tryz.prog 53 [.sl (c.map eL), eL l] (vI (placeL c l)) := by
 have hcl := mapL_len c
 refine fn Tryz.func53 rfl rfl Tryz.ntmps53 rfl rfl (fun C => ?_)
 refine ro0 rfl rfl <| ap (c.map eL) rfl rfl (slOkL _) rfl <| rf rfl rfl <| apf ((c ++ [l]).map eL) rfl (by rw [List.map_append]; rfl) (slOkL [l]) rfl <| ?_
 refine cl rfl (q_Inner (c := c ++ [l]) (lb_app hc hl) (ok_app hok hlo) (by simp; omega)) rfl <| ro0 rfl rfl <| ap (c.map eL) rfl rfl (slOkL _) rfl <| cl rfl (q_sRev (l := l)) rfl <| ?_
 refine rf rfl rfl <| apf ((c ++ [l.rev]).map eL) rfl (by rw [List.map_append]; rfl) (slOkL [l.rev]) rfl <| cl rfl (q_Inner (c := c ++ [l.rev]) (lb_app hc hl.rev) (ok_app hok hlo.rev) (by simp; omega)) rfl <| ?_
 refine csb 31 rfl rfl rfl (fun hg31 => ?_) (fun hg31 => ?_)
 ·
  refine bb rfl rfl rfl (fun hc33 => ?_) (fun hc33 => ?_)
  ·
   exact rz rfl (by show vI 0 = vI _; congr 1; unfold placeL; simp_all)
  ·
   refine bb rfl rfl rfl (fun hc34 => ?_) (fun hc34 => ?_)
   ·
    exact rz rfl (by show vI 1 = vI _; congr 1; unfold placeL; simp_all)
   ·
    exact rz rfl (by simp [hg31] at hc34)
 ·
  refine bb rfl rfl rfl (fun hc34 => ?_) (fun hc34 => ?_)
  ·
   exact rz rfl (by simp [hg31] at hc34)
  ·
   exact rz rfl (by show vI (-1) = vI _; congr 1; unfold placeL; simp_all)
theorem takeWhile_len {α : Type} {p : α → Bool} : ∀ {xs : List α} {n : Nat}, n ≤ xs.length → (∀ j (h : j < xs.length), j < n → p xs[j] = true) → (∀ h : n < xs.length, p xs[n] = false) → (xs.takeWhile p).length = n
 | [], n, h, _, _ => by simp at h; subst h; rfl
 | x :: xs, 0, _, _, h3 => by
   have := h3 (by simp)
   simp only [List.getElem_cons_zero] at this
   simp [List.takeWhile_cons, this]
 | x :: xs, n + 1, h1, h2, h3 => by
   have hx := h2 0 (by simp) (by omega)
   simp only [List.getElem_cons_zero] at hx
   rw [List.takeWhile_cons, if_pos hx, List.length_cons]
   rw [takeWhile_len (n := n) (by simpa using h1) (fun j h hj => by have := h2 (j + 1) (by simpa using h) (by omega); simpa using this) (fun h => by have := h3 (by simpa using h); simpa using this)]
theorem angIdx_eq {xs : List LnQ} {l : LnQ} {n : Nat} (h1 : n ≤ xs.length) (h2 : ∀ j (h : j < xs.length), j < n → angleQ xs[j].dir l.dir < 0) (h3 : ∀ h : n < xs.length, ¬ angleQ xs[n].dir l.dir < 0) : angIdx xs l = n :=
 takeWhile_len h1 (fun j h hj => decide_eq_true (h2 j h hj)) (fun h => decide_eq_false (h3 h))
theorem canonIns_old {xs : List LnQ} {l : LnQ} {n : Nat} (hn : angIdx xs l = n) (h : n < xs.length) (e : xs[n] = l) : canonIns xs l = xs := by
 unfold canonIns; rw [hn, if_pos (by rw [List.getElem?_eq_getElem h, e])]
theorem canonIns_new {xs : List LnQ} {l : LnQ} {n : Nat} (hn : angIdx xs l = n) (h : ∀ h : n < xs.length, xs[n] ≠ l) : canonIns xs l = xs.take n ++ l :: xs.drop n := by
 unfold canonIns
 rw [hn, if_neg]
 intro e
 obtain ⟨h1, h2⟩ := List.getElem?_eq_some_iff.1 e
 exact h h1 h2
theorem slOkLt (xs : List LnQ) (n : Nat) : slOk 6 ((xs.map eL).take n) := fun d hd => slOkL xs d (List.mem_of_mem_take hd)
theorem slOkLd (xs : List LnQ) (n m : Nat) : slOk 6 (((xs.map eL).take n).drop m) := fun d hd => slOkL xs d (List.mem_of_mem_take (List.mem_of_mem_drop hd))
theorem slOkLi (xs : List LnQ) (n m : Nat) (l : LnQ) : slOk 6 ([eL l] ++ ((xs.map eL).take n).drop m) := fun d hd => by
 rcases List.mem_append.1 hd with h | h
 · exact slOkL [l] d h
 · exact slOkLd xs n m d h
structure Cst (c : List LnQ) (k : Nat) (xs : List LnQ) : Prop where
 le : k ≤ c.length
 f : canonF c (c.drop k) xs = canonL c
 m : ∀ m ∈ xs, m ∈ c
 n : xs.length ≤ k
theorem Cst.skip {c xs : List LnQ} {k : Nat} (h : Cst c k xs) (hk : k < c.length) (e : (partL c[k] c IvQ.all).isSome = false) : Cst c (k + 1) xs := by
 have := h.f
 rw [List.drop_eq_getElem_cons hk, canonF, e] at this
 exact ⟨hk, this, h.m, by have := h.n; omega⟩
theorem Cst.ins {c xs ys : List LnQ} {k : Nat} (h : Cst c k xs) (hk : k < c.length) (e : (partL c[k] c IvQ.all).isSome = true) (hy : canonIns xs c[k] = ys) (hl : ys.length ≤ xs.length + 1) : Cst c (k + 1) ys := by
 have := h.f
 rw [List.drop_eq_getElem_cons hk, canonF, e, if_pos rfl, hy] at this
 refine ⟨hk, this, fun m hm => ?_, by have := h.n; omega⟩
 rw [← hy] at hm
 rcases mem_canonIns.1 hm with rfl | hm
 · exact List.getElem_mem hk
 · exact h.m m hm
theorem Cst.done {c xs : List LnQ} {k : Nat} (h : Cst c k xs) (hk : k = c.length) : canonL c = xs := by
 have := h.f
 rw [hk, List.drop_length, canonF] at this
 exact this.symm
def canonB (c : List LnQ) : Bool := if (((c.map eL).length : Nat) : Int) = 0 then true else decide ((0 : Int) < ((((canonL c).map eL).length : Nat) : Int))
theorem Cst.nil (c : List LnQ) : Cst c 0 [] := ⟨Nat.zero_le _, rfl, fun m hm => absurd hm (by simp), Nat.le_refl _⟩
set_option maxHeartbeats 4000000 in
theorem q_Canon {GB : Gh} {c : List LnQ} (hc : ∀ m ∈ c, LB m) (hok : ∀ m ∈ c, m.ok) (hn : c.length ≤ 1000) : PF GB Tryz.prog 28 [.sl (c.map eL)] (.tp [.sl ((canonL c).map eL), vB (canonB c)]) := by
 have hcl := mapL_len c
 refine fn (fu := ⟨16⟩) Tryz.func28 rfl rfl Tryz.ntmps28 rfl rfl (fun C => ?_)
 refine eqF 11 (.d (vI (c.length : Nat))) rfl (by rw [hcl]; rfl) ?_
 refine gx rfl <| ?_
 refine nlC 4 rfl ?_
 refine lp (X := List LnQ × Nat) (fun ⟨xs, k⟩ => [(12, .d (vI (k : Nat))), (11, .d (vI (c.length : Nat))), (10, .d (.sl (c.map eL))), (0, .d (.sl (c.map eL))), (4, .d (.sl (xs.map eL)))]) (fun ⟨xs, k⟩ => []) (fun ⟨xs, k⟩ => Cst c k xs) (fun ⟨xs, k⟩ => c.length - k) ⟨[], 0⟩ rfl (Cst.nil c) (fun _ => rfl) (fun ⟨xs, k⟩ hk => ?_)
 try dsimp only at hk ⊢
 have hS := hk
 refine br rfl rfl rfl (fun hc13 => ?_) (fun hc13 => ?_)
 ·
  have hk : k < c.length := by omega
  obtain ⟨m, hm⟩ : ∃ m, m = c[k] := ⟨_, rfl⟩
  haveI hmb : LB m := hm ▸ hc _ (List.getElem_mem hk)
  have hmo : m.ok := hm ▸ hok _ (List.getElem_mem hk)
  have hxl := mapL_len xs
  have hxn := hS.n
  refine ix (fu := ⟨1⟩) _ rfl (mapL_get hk) rfl <| ?_
  refine eqF 16 (.d (eL m)) rfl (by rw [hm]; rfl) ?_
  refine gx rfl <| cl rfl (q_edge hc hok hn hk) rfl <| ?_
  refine bb (fu2 := ⟨8⟩) rfl rfl rfl (fun hc24 => ?_) (fun hc24 => ?_)
  ·
   have hinv : Cst c (k + 1) xs := hS.skip hk (by rw [← edgeV_snd]; simpa using hc24)
   exact at_ ⟨xs, k + 1⟩ (by dsimp only; exact ⟨hinv, (by omega)⟩)
  ·
   have hyes : (partL c[k] c IvQ.all).isSome = true := by rw [← edgeV_snd]; simpa using hc24
   refine mg (fu := ⟨6⟩) (X := Unit) (fun _ => [(12, .d (vI (k : Nat))), (11, .d (vI (c.length : Nat))), (10, .d (.sl (c.map eL))), (0, .d (.sl (c.map eL))), (4, .d (.sl (xs.map eL))), (6, .ov 6 0), (9, .d (vI (angIdx xs m : Nat)))]) (fun _ => [(6, some (.o 32 [.d ((.v (.bool (decide (m.a < 0))))), .d (dN m.a.natAbs), .d ((.v (.bool (decide (m.b < 0))))), .d (dN m.b.natAbs), .d ((.v (.bool (decide (m.c < 0))))), .d (dN m.c.natAbs)] true))]) (fun _ => True) [12, 11, 10, 0, 4, 6, 9] [6] rfl ?_ (fun _ => rfl) (fun _ _ => ?_)
   ·
    refine gx rfl <| ?_
    refine lp (fu := ⟨6⟩) (X := Nat) (fun n => [(12, .d (vI (k : Nat))), (11, .d (vI (c.length : Nat))), (10, .d (.sl (c.map eL))), (0, .d (.sl (c.map eL))), (4, .d (.sl (xs.map eL))), (6, .ov 6 0), (9, .d (vI (n : Nat)))]) (fun n => [(6, some (.o 32 [.d ((.v (.bool (decide (m.a < 0))))), .d (dN m.a.natAbs), .d ((.v (.bool (decide (m.b < 0))))), .d (dN m.b.natAbs), .d ((.v (.bool (decide (m.c < 0))))), .d (dN m.c.natAbs)] true))]) (fun n => n ≤ xs.length ∧ ∀ j (h : j < xs.length), j < n → angleQ xs[j].dir m.dir < 0) (fun n => xs.length - n) 0 rfl ⟨Nat.zero_le _, fun j _ hj => absurd hj (by omega)⟩ (fun _ => rfl) (fun n hk => ?_)
    obtain ⟨n1, n2⟩ := hk
    refine csS rfl rfl rfl rfl (fun hg28 => ?_) (fun hg28 => ?_)
    ·
     refine ix _ rfl (mapL_get (by omega)) rfl <| ?_
     haveI : LB (xs[n]'(by omega)) := hc _ (hS.m _ (List.getElem_mem _))
     refine cl rfl (q_Dir (l := xs[n]'(by omega))) rfl <| cl rfl (q_Dir (l := m)) rfl <| cl rfl (q_Angle (u := (xs[n]'(by omega)).dir) (v := m.dir)) rfl <| ?_
     refine br rfl rfl rfl (fun hc39 => ?_) (fun hc39 => ?_)
     ·
      exact at_ (n + 1) ⟨⟨by omega, fun j h hj => by by_cases q : j = n; (subst q; exact hc39); exact n2 j h (by omega)⟩, (by omega)⟩
     ·
      have hidx : angIdx xs m = n := angIdx_eq n1 n2 (fun h => hc39)
      exact at_ () trivial
    ·
     have hidx : angIdx xs m = n := angIdx_eq n1 n2 (fun h => absurd h (by omega))
     exact at_ () trivial
   ·
    obtain ⟨n, hnx⟩ : ∃ n, angIdx xs m = n := ⟨_, rfl⟩
    rw [hnx]
    have hnl : n ≤ xs.length := by rw [← hnx]; unfold angIdx; exact (List.takeWhile_sublist _).length_le
    have hcb : ∀ m ∈ xs, LB m := fun m hm => hc m (hS.m m hm)
    refine csS rfl rfl rfl rfl (fun hg45 => ?_) (fun hg45 => ?_)
    ·
     refine ix _ rfl (mapL_get (by omega)) rfl <| cl rfl (q_LCmp (l := xs[n]'(by omega)) (m := m) (hl := hcb _ (List.getElem_mem (by omega)))) rfl <| ?_
     refine br rfl rfl rfl (fun hc54 => ?_) (fun hc54 => ?_)
     ·
      have hn46 : n < xs.length := by omega
      have hinv : Cst c (k + 1) xs := hS.ins hk hyes (by rw [← hm]; exact canonIns_old hnx hn46 ((lcmp_zero _ m).1 hc54)) (by omega)
      exact at_ ⟨xs, k + 1⟩ (by dsimp only; exact ⟨hinv, (by omega)⟩)
     ·
      have hnew : ∀ h : n < xs.length, xs[n] ≠ m := fun h e => hc54 ((lcmp_zero _ m).2 e)
      obtain ⟨ys, hys⟩ : ∃ ys, ys = xs.take n ++ m :: xs.drop n := ⟨_, rfl⟩
      have hinv : Cst c (k + 1) ys := hS.ins hk hyes (by rw [← hm, canonIns_new hnx hnew, hys]) (by rw [hys]; simp; omega)
      refine s3 n _ rfl rfl rfl rfl (slOkL _) (by rw [hxl]; exact hnl) rfl <| ro rfl rfl <| sc' n xs.length _ rfl rfl (by rw [hxl]) rfl (slOkL _) hnl (by omega) rfl <| ?_
      refine ap _ rfl rfl (slOkLd _ _ _) rfl <| apf (hv := by simp only [allP]; exact ⟨by kernel_rfl, by omega⟩) (ho := fun _ => ⟨slOkLt _ _, by simp⟩) (ys.map eL) rfl (by rw [hys, List.map_append, List.map_cons, List.map_take, List.map_drop, List.take_of_length_le (l := xs.map eL) (i := xs.length) (by simp)]; rfl) (slOkLi _ _ _ _) rfl <| ?_
      exact at_ ⟨ys, k + 1⟩ (by dsimp only; exact ⟨hinv, (by omega)⟩)
    ·
     have hnew : ∀ h : n < xs.length, xs[n] ≠ m := fun h => absurd h (by omega)
     obtain ⟨ys, hys⟩ : ∃ ys, ys = xs.take n ++ m :: xs.drop n := ⟨_, rfl⟩
     have hinv : Cst c (k + 1) ys := hS.ins hk hyes (by rw [← hm, canonIns_new hnx hnew, hys]) (by rw [hys]; simp; omega)
     refine s3 n _ rfl rfl rfl rfl (slOkL _) (by rw [hxl]; exact hnl) rfl <| ro rfl rfl <| sc' n xs.length _ rfl rfl (by rw [hxl]) rfl (slOkL _) hnl (by omega) rfl <| ?_
     refine ap _ rfl rfl (slOkLd _ _ _) rfl <| apf (hv := by simp only [allP]; exact ⟨by kernel_rfl, by omega⟩) (ho := fun _ => ⟨slOkLt _ _, by simp⟩) (ys.map eL) rfl (by rw [hys, List.map_append, List.map_cons, List.map_take, List.map_drop, List.take_of_length_le (l := xs.map eL) (i := xs.length) (by simp)]; rfl) (slOkLi _ _ _ _) rfl <| ?_
     exact at_ ⟨ys, k + 1⟩ (by dsimp only; exact ⟨hinv, (by omega)⟩)
 ·
  have hfin : canonL c = xs := hS.done (by have := hS.le; omega)
  refine cs 71 rfl rfl rfl (fun hg71 => ?_) (fun hg71 => ?_)
  ·
   exact rz rfl (by rw [canonB, if_pos hg71, hfin]; rfl)
  ·
   exact rz rfl (by rw [canonB, if_neg hg71, hfin]; rfl)
end Go.Sx
end

section
set_option maxRecDepth 100000
namespace Go.Sx
open Go Go.Proofs
theorem canonIns_len (out : List LnQ) (l : LnQ) : (canonIns out l).length ≤ out.length + 1 := by
 unfold canonIns
 split
 · omega
 · simp; omega
theorem canonF_len (c : List LnQ) : ∀ (t out : List LnQ), (canonF c t out).length ≤ out.length + t.length
 | [], out => by simp [canonF]
 | l :: t, out => by
   rw [canonF]
   refine Nat.le_trans (canonF_len c t _) ?_
   have := canonIns_len out l
   split <;> simp <;> omega
theorem canonL_len (c : List LnQ) : (canonL c).length ≤ c.length := Nat.le_trans (canonF_len c c []) (by simp)
theorem lb_can {c : List LnQ} (h : ∀ m ∈ c, LB m) : ∀ m ∈ canonL c, LB m := fun m hm => h m (mem_canonL.1 hm).1
theorem ok_can {c : List LnQ} (h : ∀ m ∈ c, m.ok) : ∀ m ∈ canonL c, m.ok := fun m hm => h m (mem_canonL.1 hm).1
theorem q_with {GB : Gh} {c : List LnQ} {l : LnQ} (hc : ∀ m ∈ c, LB m) (hok : ∀ m ∈ c, m.ok) (hn : c.length ≤ 900) (hl : LB l) (hlo : l.ok) : PF GB Tryz.prog 55 [.sl (c.map eL), eL l] (.sl ((canonL (c ++ [l])).map eL)) := by
 have hcl := mapL_len c
 refine fn Tryz.func55 rfl rfl Tryz.ntmps55 rfl rfl (fun C => ?_)
 refine ro0 rfl rfl <| ap (c.map eL) rfl rfl (slOkL _) rfl <| rf rfl rfl <| apf ((c ++ [l]).map eL) rfl (by rw [List.map_append]; rfl) (slOkL [l]) rfl <| ?_
 refine cl rfl (q_Canon (c := c ++ [l]) (lb_app hc hl) (ok_app hok hlo) (by simp; omega)) rfl <| ?_
 exact rz rfl rfl
theorem q_join_n {GB : Gh} {l l1 : LnQ} {x y u : Tr} : PF GB Tryz.prog 54 [eL l, eT (.node l1 x y), eT u] (eT (.node l (.node l1 x y) u)) := by
 refine fn (fu := ⟨12⟩) Tryz.func54 rfl rfl Tryz.ntmps54 rfl rfl (fun C => ?_)
 refine knF rfl rfl rfl <| ?_
 refine fzE 33 rfl ?_
 exact rz rfl rfl
theorem q_join_ln {GB : Gh} {l l1 : LnQ} {x y : Tr} {p : Bool} : PF GB Tryz.prog 54 [eL l, eT (.leaf p), eT (.node l1 x y)] (eT (.node l (.leaf p) (.node l1 x y))) := by
 refine fn (fu := ⟨12⟩) Tryz.func54 rfl rfl Tryz.ntmps54 rfl rfl (fun C => ?_)
 refine knT (fu := ⟨4⟩) rfl rfl rfl <| knF rfl rfl rfl <| ?_
 refine fzE 33 rfl ?_
 exact rz rfl rfl
theorem q_join_ll {GB : Gh} {l : LnQ} {p q : Bool} : PF GB Tryz.prog 54 [eL l, eT (.leaf p), eT (.leaf q)] (eT (Tr.joinQ l (.leaf p) (.leaf q))) := by
 refine fn (fu := ⟨12⟩) Tryz.func54 rfl rfl Tryz.ntmps54 rfl rfl (fun C => ?_)
 refine knT (fu := ⟨4⟩) rfl rfl rfl <| knT rfl rfl rfl <| ?_
 refine bd rfl rfl rfl (fun hc27 => ?_) (fun hc27 => ?_)
 ·
  exact rz rfl (by rw [show Tr.joinQ l (.leaf p) (.leaf q) = .leaf p by simp [Tr.joinQ, Tr.isLeaf, Tr.code, hc27]]; rfl)
 ·
  refine fzE 33 rfl ?_
  exact rz rfl (by rw [show Tr.joinQ l (.leaf p) (.leaf q) = .node l (.leaf p) (.leaf q) by simp [Tr.joinQ, Tr.isLeaf, Tr.code, hc27]]; rfl)
theorem q_join {GB : Gh} {l : LnQ} : ∀ {x y : Tr}, PF GB Tryz.prog 54 [eL l, eT x, eT y] (eT (Tr.joinQ l x y))
 | .leaf _, .leaf _ => q_join_ll
 | .leaf _, .node .. => q_join_ln
 | .node .., _ => q_join_n
theorem q_RRestrict_leaf {GB : Gh} {b : Bool} {c : List LnQ} : PF GB Tryz.prog 17 [eT (.leaf b), .sl (c.map eL)] (eT (Tr.restrictL (.leaf b) c)) := by
 refine fn (fu := ⟨11⟩) Tryz.func17 rfl rfl Tryz.ntmps17 rfl rfl (fun C => ?_)
 refine knT rfl rfl rfl <| ?_
 exact rz rfl rfl
theorem q_RRestrict_node {GB : Gh} {l : LnQ} {x y : Tr} {c : List LnQ} (hl : LB l) (hlo : l.ok) (hc : ∀ m ∈ c, LB m) (hok : ∀ m ∈ c, m.ok) (hn : c.length + (Tr.node l x y).depth ≤ 900) (ihx : ∀ {c : List LnQ}, (∀ m ∈ c, LB m) → (∀ m ∈ c, m.ok) → c.length + x.depth ≤ 900 → PF GB Tryz.prog 17 [eT x, .sl (c.map eL)] (eT (Tr.restrictL x c))) (ihy : ∀ {c : List LnQ}, (∀ m ∈ c, LB m) → (∀ m ∈ c, m.ok) → c.length + y.depth ≤ 900 → PF GB Tryz.prog 17 [eT y, .sl (c.map eL)] (eT (Tr.restrictL y c))) : PF GB Tryz.prog 17 [eT (.node l x y), .sl (c.map eL)] (eT (Tr.restrictL (.node l x y) c)) := by
 have hdp : (Tr.node l x y).depth = 1 + Nat.max x.depth y.depth := rfl
 have hdx : x.depth ≤ Nat.max x.depth y.depth := Nat.le_max_left _ _
 have hdy : y.depth ≤ Nat.max x.depth y.depth := Nat.le_max_right _ _
 have hca := canonL_len (c ++ [l])
 have hcb := canonL_len (c ++ [l.rev])
 rw [List.length_append, List.length_singleton] at hca hcb
 refine fn (fu := ⟨11⟩) Tryz.func17 rfl rfl Tryz.ntmps17 rfl rfl (fun C => ?_)
 refine knF rfl rfl rfl <| cl rfl (q_Place (c := c) (l := l) hc hok (by omega) hl hlo) rfl <| ?_
 refine br rfl rfl rfl (fun hc16 => ?_) (fun hc16 => ?_)
 ·
  refine cl rfl (ihx hc hok (by omega)) rfl <| ?_
  exact rz rfl (by rw [Tr.restrictL, if_pos hc16]; rfl)
 ·
  refine br rfl rfl rfl (fun hc24 => ?_) (fun hc24 => ?_)
  ·
   refine cl rfl (ihy hc hok (by omega)) rfl <| ?_
   exact rz rfl (by rw [Tr.restrictL, if_neg hc16, if_pos hc24]; rfl)
  ·
   refine cl rfl (q_with (c := c) (l := l) hc hok (by omega) hl hlo) rfl <| cl rfl (ihx (c := canonL (c ++ [l])) (lb_can (lb_app hc hl)) (ok_can (ok_app hok hlo)) (by omega)) rfl <| ?_
   refine cl rfl (q_sRev (l := l)) rfl <| cl rfl (q_with (c := c) (l := l.rev) hc hok (by omega) hl.rev hlo.rev) rfl <| cl rfl (ihy (c := canonL (c ++ [l.rev])) (lb_can (lb_app hc hl.rev)) (ok_can (ok_app hok hlo.rev)) (by omega)) rfl <| ?_
   refine cl rfl q_join rfl <| ?_
   exact rz rfl (by rw [Tr.restrictL, if_neg hc16, if_neg hc24]; rfl)
theorem q_RRestrict {GB : Gh} : ∀ {t : Tr} {c : List LnQ}, t.all LB → t.all LnQ.ok → (∀ m ∈ c, LB m) → (∀ m ∈ c, m.ok) → c.length + t.depth ≤ 900 → PF GB Tryz.prog 17 [eT t, .sl (c.map eL)] (eT (Tr.restrictL t c))
 | .leaf _, _, _, _, _, _, _ => q_RRestrict_leaf
 | .node l x y, c, hb, ho, hc, hok, hn => q_RRestrict_node hb.1 ho.1 hc hok hn (fun h1 h2 h3 => q_RRestrict hb.2.1 ho.2.1 h1 h2 h3) (fun h1 h2 h3 => q_RRestrict hb.2.2 ho.2.2 h1 h2 h3)
end Go.Sx
end

section
set_option maxRecDepth 100000
namespace Go.Sx
open Go Go.Proofs
theorem q_ToN {GB : Gh} {a i : Nat} [ha : BN a i] (hi : i ≤ 400000000 := by decide) : PF GB Tryz.prog 109 [dN a] (dN a) := by
 have hl := mapU_len (dg a)
 have hb := dg_len_le ha.h
 refine fn Tryz.func109 rfl rfl Tryz.ntmps109 rfl rfl (fun C => ?_)
 refine ro0 rfl rfl <| ap ((dg a).map dU) rfl rfl (slOkU _) rfl <| ?_
 refine fzE 5 rfl ?_
 exact rz rfl rfl
theorem q_ToI {GB : Gh} {z : Int} {i : Nat} [hz : BI z i] (hi : i ≤ 400000000 := by decide) : PF GB Tryz.prog 51 [eI z] (eI z) := by
 refine fn Tryz.func51 rfl rfl Tryz.ntmps51 rfl rfl (fun C => ?_)
 refine cl rfl (q_ToN (a := z.natAbs) (i := i) (ha := ⟨hz.h⟩) hi) rfl <| ?_
 exact rz rfl rfl
theorem q_ToL {GB : Gh} {l : LnQ} (hl : BL l 32) : PF GB Tryz.prog 14 [eL l] (eL l) := by
 haveI h1 : BI l.a 32 := ⟨hl.a⟩
 haveI h2 : BI l.b 32 := ⟨hl.b⟩
 haveI h3 : BI l.c 32 := ⟨hl.c⟩
 refine fn Tryz.func14 rfl rfl Tryz.ntmps14 rfl rfl (fun C => ?_)
 refine cl rfl (q_ToI (z := l.a)) rfl <| cl rfl (q_ToI (z := l.b)) rfl <| cl rfl (q_ToI (z := l.c)) rfl <| ?_
 exact rz rfl rfl
set_option maxHeartbeats 1000000 in
theorem q_ToLs {GB : Gh} {ls : List LnQ} (hb : ∀ l ∈ ls, BL l 32) (hn : ls.length ≤ 1000000) : PF GB Tryz.prog 67 [.sl (ls.map eL)] (.sl (ls.map eL)) := by
 have hll := mapL_len ls
 refine fn (fu := ⟨15⟩) Tryz.func67 rfl rfl Tryz.ntmps67 rfl rfl (fun C => ?_)
 refine eqF 7 (.d (vI (ls.length : Nat))) rfl (by rw [hll] <;> rfl) ?_
 refine gx rfl <| ?_
 refine nr 3 2000 46 6 rfl rfl rfl ?_
 refine lp (X := Nat) (fun i => [(8, .d (vI (i : Nat))), (3, .rw 2000)]) (fun i => [(2000, some (.b 46 6 ((ls.take i).map eL) true))]) (fun i => i ≤ ls.length) (fun i => ls.length - i) 0 rfl (Nat.zero_le _) (fun _ => rfl) (fun i hk => ?_)
 have htl : ((ls.take i).map eL).length = i := by simp; omega
 refine br rfl rfl rfl (fun hc9 => ?_) (fun hc9 => ?_)
 ·
  have hi : i < ls.length := by omega
  refine ix _ rfl (mapL_get hi) rfl <| cl rfl (q_ToL (l := ls[i]) (hb _ (List.getElem_mem hi))) rfl <| rf rfl rfl <| ap ((ls.take (i + 1)).map eL) rfl (by rw [List.take_succ_eq_append_getElem hi, List.map_append]; rfl) (slOkL [_]) rfl <| ?_
  refine rnE 16 2000 rfl ?_
  exact at_ (i + 1) ⟨(by omega), (by omega)⟩
 ·
  obtain rfl : i = ls.length := by omega
  refine fzE 2000 rfl ?_
  exact rz rfl (by rw [List.take_length] <;> rfl)
theorem q_CWrite {GB : Gh} {ls : List LnQ} (hb : ∀ l ∈ ls, BL l 32) (hn : ls.length ≤ 1000000) : PF GB Tryz.prog 23 [.sl (ls.map eL)] (.ag [.sl (ls.map eL)]) := by
 refine fn Tryz.func23 rfl rfl Tryz.ntmps23 rfl rfl (fun C => ?_)
 refine cl rfl (q_ToLs hb hn) rfl <| ?_
 exact rz rfl rfl
end Go.Sx
end

section
set_option maxRecDepth 100000
namespace Go.Sx
open Go Go.Proofs
theorem eN_get (xs ys : List NQ) (n : NQ) : ((xs ++ (n :: ys)).map eN)[((xs.length : Nat) : Int).toNat]? = some (eN n) := by simp
theorem eN_set (xs ys : List NQ) (n m : NQ) (e : DV) (h : e = eN m) : ((xs ++ (n :: ys)).map eN).set ((xs.length : Nat) : Int).toNat e = (xs ++ (m :: ys)).map eN := by subst h; simp
theorem q_write_true {GB : Gh} {ns : List NQ} : PB GB Tryz.prog 50 (fun w => [eT (.leaf true), .v (.slice w.a w.n w.c)]) 8 60 (ns.map eN) (fun w => .tp [.v (.slice w.a w.n w.c), .v (.int .i64 (Tr.num (.leaf true) ns.length))]) ((ns ++ Tr.wr (.leaf true) ns.length).map eN) := by
 refine PB.intro Tryz.func50 rfl rfl Tryz.ntmps50 (fun _ => rfl) ?_
 intro C w0
 refine sd_bh ((ns ++ Tr.wr (.leaf true) ns.length).map eN) (by simp [Tr.wr]) ?_
 refine qR <| tA rfl rfl <| tA rfl rfl <| sd_end <| sd_seq <| qR <| tM rfl rfl <| tY (yq_nilT rfl) rfl <| tY (yq_faE rfl rfl) rfl <| ?_
 refine tY (yq_ldE1 rfl rfl) rfl <| sd_end <| sd_condT rfl <| sd_seq <| qR <| tM rfl rfl <| tY (yq_nilT rfl) rfl <| tY (yq_faE rfl rfl) rfl <| tY (yq_ldE1 rfl rfl) rfl <| ?_
 refine sd_end <| sd_condT rfl <| qR <| tM rfl rfl <| tA rfl rfl <| tA rfl rfl <| sd_end <| sd_ret <| ?_
 exact sd_doneB (w := w0) (.tmp rfl (.tmp rfl .nil)) rfl (by repeat (first | exact .hd .. | apply BRemD.tl))
theorem q_write_false {GB : Gh} {ns : List NQ} : PB GB Tryz.prog 50 (fun w => [eT (.leaf false), .v (.slice w.a w.n w.c)]) 8 60 (ns.map eN) (fun w => .tp [.v (.slice w.a w.n w.c), .v (.int .i64 (Tr.num (.leaf false) ns.length))]) ((ns ++ Tr.wr (.leaf false) ns.length).map eN) := by
 refine PB.intro Tryz.func50 rfl rfl Tryz.ntmps50 (fun _ => rfl) ?_
 intro C w0
 refine sd_bh ((ns ++ Tr.wr (.leaf false) ns.length).map eN) (by simp [Tr.wr]) ?_
 refine qR <| tA rfl rfl <| tA rfl rfl <| sd_end <| sd_seq <| qR <| tM rfl rfl <| tY (yq_nilT rfl) rfl <| tY (yq_faE rfl rfl) rfl <| ?_
 refine tY (yq_ldE1 rfl rfl) rfl <| sd_end <| sd_condT rfl <| sd_seq <| qR <| tM rfl rfl <| tY (yq_nilT rfl) rfl <| tY (yq_faE rfl rfl) rfl <| tY (yq_ldE1 rfl rfl) rfl <| ?_
 refine sd_end <| sd_condF rfl <| sd_skipc <| qR <| tM rfl rfl <| tA rfl rfl <| tA rfl rfl <| sd_end <| sd_ret <| ?_
 exact sd_doneB (w := w0) (.tmp rfl (.tmp rfl .nil)) rfl (by repeat (first | exact .hd .. | apply BRemD.tl))
theorem q_write_node {GB : Gh} {l : LnQ} {s u : Tr} {ns : List NQ} (hl : BL l 32) (hs : ns.length + (1 + s.size + u.size) ≤ 1000000) (ihs : ∀ {ns : List NQ}, ns.length + s.size ≤ 1000000 → PB GB Tryz.prog 50 (fun w => [eT s, .v (.slice w.a w.n w.c)]) 8 60 (ns.map eN) (fun w => .tp [.v (.slice w.a w.n w.c), .v (.int .i64 (Tr.num s ns.length))]) ((ns ++ Tr.wr s ns.length).map eN)) (ihu : ∀ {ns : List NQ}, ns.length + u.size ≤ 1000000 → PB GB Tryz.prog 50 (fun w => [eT u, .v (.slice w.a w.n w.c)]) 8 60 (ns.map eN) (fun w => .tp [.v (.slice w.a w.n w.c), .v (.int .i64 (Tr.num u ns.length))]) ((ns ++ Tr.wr u ns.length).map eN)) : PB GB Tryz.prog 50 (fun w => [eT (.node l s u), .v (.slice w.a w.n w.c)]) 8 60 (ns.map eN) (fun w => .tp [.v (.slice w.a w.n w.c), .v (.int .i64 (Tr.num (.node l s u) ns.length))]) ((ns ++ Tr.wr (.node l s u) ns.length).map eN) := by
 refine PB.intro Tryz.func50 rfl rfl Tryz.ntmps50 (fun _ => rfl) ?_
 intro C w0
 refine qR <| tA rfl rfl <| tA rfl rfl <| sd_end <| sd_seq <| qR <| tM rfl rfl <| tY (yq_nilT rfl) rfl <| tY (yq_faE rfl rfl) rfl <| ?_
 refine tY (yq_ldE1 rfl rfl) rfl <| sd_end <| sd_condF rfl <| sd_skipc <| qR <| tM rfl rfl <| tY (yq_lenB rfl) rfl <| ?_
 refine sd_eq 20 (.d (.v (.int .i64 (ns.length : Nat)))) rfl (by simp) ?_
 refine tA rfl rfl <| sd_end <| qR <| tM rfl rfl <| tM rfl rfl <| tY (yq_nilT rfl) rfl <| tY (yq_faE rfl rfl) rfl <| tY (yq_ldE rfl rfl) rfl <| ?_
 refine tC (td_call rfl rfl (q_ToL hl) rfl) <| tY (yq_build rfl) rfl <| tF (tf_row rfl rfl rfl rfl rfl rfl rfl) <| ?_
 intro w1
 refine tF (tf_appendF (w := w0) rfl (by repeat (first | exact .hd .. | apply BRemD.tl)) (.bf rfl (okRow_spec rfl)) rfl (by simp only [List.length_map, List.length_cons, List.length_nil]; omega) rfl rfl) <| ?_
 intro w2
 refine sd_bh ((ns ++ [(⟨l, 0, 0⟩ : NQ)]).map eN) (by rw [List.map_append]; rfl) ?_
 refine tA rfl rfl <| sd_end <| qR <| tA rfl rfl <| tA rfl rfl <| sd_end <| qR <| tM rfl rfl <| tY (yq_nilT rfl) rfl <| ?_
 refine tY (yq_faE rfl rfl) rfl <| tY (yq_ldE1 rfl rfl) rfl <| tM rfl rfl <| tF (tf_callB (w := w2) rfl rfl (ihs (ns := ns ++ [(⟨l, 0, 0⟩ : NQ)]) (by simp; omega)) (by repeat (first | exact .hd .. | apply BRemD.tl)) rfl) <| ?_
 intro w3
 refine tM rfl rfl <| tY (yq_ext rfl rfl) rfl <| tY (yq_ext rfl rfl) rfl <| tA rfl rfl <| tA rfl rfl <| sd_end <| qR <| tM rfl rfl <| ?_
 refine tY (yq_nilT rfl) rfl <| tY (yq_faE rfl rfl) rfl <| tY (yq_ldE1 rfl rfl) rfl <| tM rfl rfl <| tF (tf_callB (w := w3) rfl rfl (ihu (ns := ns ++ [(⟨l, 0, 0⟩ : NQ)] ++ s.wr (ns ++ [(⟨l, 0, 0⟩ : NQ)]).length) (by simp [Tr.wr_len]; omega)) (by repeat (first | exact .hd .. | apply BRemD.tl)) rfl) <| ?_
 intro w4
 refine sd_bh ((ns ++ ((⟨l, 0, 0⟩ : NQ) :: (s.wr (ns.length + 1) ++ u.wr (ns.length + 1 + s.size)))).map eN) (by simp [Tr.wr_len, Nat.add_assoc, Nat.add_comm 1]) ?_
 refine tM rfl rfl <| tY (yq_ext rfl rfl) rfl <| tY (yq_ext rfl rfl) rfl <| tA rfl rfl <| tA rfl rfl <| sd_end <| qR <| tM rfl rfl <| ?_
 refine tM rfl rfl <| tM rfl rfl <| tM rfl rfl <| tM rfl rfl <| tM rfl rfl <| tY (yq_ixB rfl rfl (by omega) (by simp; omega)) rfl <| ?_
 refine tY (yq_faB rfl) rfl <| tC (td_storeBs (d := eN ⟨l, 0, 0⟩) rfl rfl (by repeat (first | exact .hd .. | apply BRemD.tl)) (eN_get ns _ ⟨l, 0, 0⟩) rfl rfl rfl) <| ?_
 refine sd_bh ((ns ++ ((⟨l, s.num (ns.length + 1), 0⟩ : NQ) :: (s.wr (ns.length + 1) ++ u.wr (ns.length + 1 + s.size)))).map eN) (by rw [eN_set _ _ _ ⟨l, s.num (ns.length + 1), 0⟩ _ (by simp [eN, DV.cells])]) ?_
 refine tY (yq_ixB rfl rfl (by omega) (by simp; omega)) rfl <| tY (yq_faB rfl) rfl <| tC (td_storeBs (d := eN ⟨l, s.num (ns.length + 1), 0⟩) rfl rfl (by repeat (first | exact .hd .. | apply BRemD.tl)) (eN_get ns _ ⟨l, s.num (ns.length + 1), 0⟩) rfl rfl rfl) <| ?_
 refine sd_bh ((ns ++ Tr.wr (.node l s u) ns.length).map eN) (by rw [eN_set _ _ _ ⟨l, s.num (ns.length + 1), u.num (ns.length + 1 + s.size)⟩ _ (by simp [eN, DV.cells, Tr.wr_len, Nat.add_assoc, Nat.add_comm 1])]; simp [Tr.wr]) ?_
 refine sd_end <| qR <| tM rfl rfl <| tM rfl rfl <| tA rfl rfl <| tA rfl rfl <| sd_end <| sd_ret <| ?_
 exact sd_doneB (w := w4) (.tmp rfl (.tmp rfl .nil)) rfl (by repeat (first | exact .hd .. | apply BRemD.tl))
theorem q_write {GB : Gh} : ∀ {t : Tr} {ns : List NQ}, t.all (fun l => BL l 32) → ns.length + t.size ≤ 1000000 → PB GB Tryz.prog 50 (fun w => [eT t, .v (.slice w.a w.n w.c)]) 8 60 (ns.map eN) (fun w => .tp [.v (.slice w.a w.n w.c), .v (.int .i64 (Tr.num t ns.length))]) ((ns ++ Tr.wr t ns.length).map eN)
 | .leaf true, ns, _, _ => q_write_true
 | .leaf false, ns, _, _ => q_write_false
 | .node l s u, ns, hb, hs => q_write_node hb.1 hs (fun h => q_write hb.2.1 h) (fun h => q_write hb.2.2 h)
theorem q_Write {GB : Gh} {t : Tr} (hb : t.all (fun l => BL l 32)) (hs : t.size ≤ 1000000) : PF GB Tryz.prog 13 [eT t] (eA t) := by
 refine PF.intro Tryz.func13 rfl rfl Tryz.ntmps13 rfl ?_
 intro C
 refine qR <| tF (tf_alloc rfl) <| ?_
 intro b1
 refine sd_end <| qR <| tF (tf_alloc rfl) <| ?_
 intro b2
 refine sd_end <| qR <| tM rfl rfl <| ?_
 refine sd_newB 8 60 ?_
 refine tF (tf_callB (w := ⟨none, 0, 0⟩) rfl rfl (q_write (t := t) (ns := []) hb (by simpa using hs)) (by repeat (first | exact .hd .. | apply BRemD.tl)) rfl) <| ?_
 intro w3
 refine tM rfl rfl <| tY (yq_ext rfl rfl) rfl <| tY (yq_ext rfl rfl) rfl <| tY (yq_faP rfl) rfl <| ?_
 refine sd_freezeB [7] (w := w3) (by repeat (first | exact .hd .. | apply BRemD.tl)) (by simp only [List.forall_mem_cons, List.not_mem_nil, false_implies, implies_true, and_true]; exact rfl) ?_
 refine tC (td_store1 rfl rfl (by first | (dsimp only [DV.cells, ovD, zs1, zs2, Nat.reduceAdd, zs3, zs4]; done) | exact rfl) (by repeat (first | exact .hd .. | apply OUpdD.tl)) rfl rfl rfl) <| ?_
 refine tY (yq_faP rfl) rfl <| tC (td_store1 rfl rfl (by first | (dsimp only [DV.cells, ovD, zs1, zs2, Nat.reduceAdd, zs3, zs4]; done) | exact rfl) (by repeat (first | exact .hd .. | apply OUpdD.tl)) rfl rfl rfl) <| ?_
 refine sd_end <| qR <| tY (yq_ldO rfl rfl) rfl <| tC (tdS rfl rfl rfl rfl rfl rfl) <| ?_
 refine sd_end <| sd_ret <| ?_
 exact sd_done (.agg rfl ii ii rfl .nil) rfl
end Go.Sx
end

section
set_option maxRecDepth 100000
namespace Go.Sx
open Go Go.Proofs
theorem Tr.restrict_size : ∀ (t : Tr) (c : CellQ), (t.restrict c).size ≤ t.size
 | .leaf b, c => Nat.le_refl _
 | .node l x y, c => by
   unfold Tr.restrict
   split
   · have := x.restrict_size c; simp only [Tr.size]; omega
   · split
     · have := y.restrict_size c; simp only [Tr.size]; omega
     · have h1 := x.restrict_size (clipC c l)
       have h2 := y.restrict_size (clipC c l.rev)
       rcases Tr.joinQ_cases l (x.restrict (clipC c l)) (y.restrict (clipC c l.rev)) with ⟨h, _⟩ | ⟨h, _⟩
       · rw [h]; simp only [Tr.size]; omega
       · rw [h]; simp only [Tr.size]; omega
theorem slOkI (ds : List Int) : slOk 1 (ds.map vI) := fun d hd => by
 obtain ⟨n, _, rfl⟩ := List.mem_map.1 hd; exact ⟨rfl, rfl⟩
theorem q_Reduce {GB : Gh} {t : Tr} {k : Nat} (hk1 : 1 ≤ k) (hk : k ≤ 100000000) (hb : t.all (fun l => BL l k)) (hok : t.all LnQ.ok) (hs : t.size ≤ 65536) (hd : t.depth ≤ 1024) : PF GB Tryz.prog 19 [eA t] (.tp [eA (t.restrict []), .v .nilIface]) := by
 intro G vs hg hv
 obtain ⟨v, m, rfl, h1, h2⟩ := isl_cons.1 hv
 rw [isl_nil] at h2; subst h2
 obtain ⟨x, rfl, hx⟩ := isA_of (Tr.all_wr 0 hb) h1
 refine (reduce_Reduce hk1 hk hx hok hs hd (by have := Tr.restrict_size t []; omega)).mono ?_
 rintro _ G' hG ⟨y, rfl, hy⟩
 exact is_tp.2 ⟨_, rfl, .cons (isA_to hy) (.cons (is_v.2 rfl) .nil)⟩
theorem mapN_get {ns : List NQ} {i : Nat} (h : i < ns.length) : (ns.map eN)[(i : Int).toNat]? = some (eN ns[i]) := by simp [h]
theorem mapN_len (ns : List NQ) : (ns.map eN).length = ns.length := List.length_map ..
theorem same_list {ns ms : List NQ} (hl : ns.length = ms.length) (h : ∀ j (h1 : j < ns.length) (h2 : j < ms.length), ns[j] = ms[j]) : ns = ms := List.ext_getElem hl h
theorem take_400 (es : List Int) : (es.map vI).take (min es.length 400) = (es.take 400).map vI := by
 rw [List.map_take]
 rcases Nat.le_total es.length 400 with h | h
 · rw [Nat.min_eq_left h, List.take_of_length_le (by simp), List.take_of_length_le (by simpa using h)]
 · rw [Nat.min_eq_right h]
theorem q_New {GB : Gh} {es : List Int} (hb : es.length ≤ 1125899906842624) : PN GB Tryz.prog 9 [.sl (es.map vI)] 93 Unit (fun _ => [.sl ((es.take 400).map vI), .v (.int .i64 (0 : Nat))]) := by
 have hel : (es.map vI).length = es.length := by simp
 refine fnN Tryz.func9 rfl rfl Tryz.ntmps9 rfl rfl (fun C hmb => ?_)
 refine sc' 0 (min es.length 400) ((es.take 400).map vI) rfl rfl (by rw [hel]; show (if _ then _ else _ : Int) = _; split <;> omega) (take_400 es) (slOkI _) (by omega) (by omega) rfl <| ?_
 exact rzN () rfl rfl rfl rfl rfl
theorem q_TSame {GB : Gh} {s t : Tr} (hs : s.all (fun l => BL l 32)) (ht : t.all (fun l => BL l 32)) (hn : s.size ≤ 1000000) : PF GB Tryz.prog 16 [eA s, eA t] (vB (decide (s.num 0 = t.num 0 ∧ s.wr 0 = t.wr 0))) := by
 have hbs := Tr.all_wr 0 hs
 have hbt := Tr.all_wr 0 ht
 have hsl := s.wr_len 0
 have hls := mapN_len (s.wr 0)
 have hlt := mapN_len (t.wr 0)
 unfold eA
 generalize hns : s.wr 0 = ns at *
 generalize hms : t.wr 0 = ms at *
 generalize ha : s.num 0 = a at *
 generalize hb : t.num 0 = b at *
 refine fn Tryz.func16 rfl rfl Tryz.ntmps16 rfl rfl (fun C => ?_)
 refine cs 13 rfl rfl rfl (fun hg13 => ?_) (fun hg13 => ?_)
 ·
  exact rz rfl (by first | (rw [decide_eq_true (⟨Decidable.not_not.1 hg13, same_list (by omega) (fun j p q => h2 j p q (by omega))⟩ : a = b ∧ ns = ms)]; rfl) | (rw [decide_eq_false (fun e : a = b ∧ ns = ms => by obtain ⟨e1, e2⟩ := e; subst e2; first | exact hg13 e1 | exact hc21 rfl | exact hg40 rfl | exact hg47 rfl | (simp at hc54))]; rfl))
 ·
  refine br (fu2 := ⟨8⟩) rfl rfl rfl (fun hc21 => ?_) (fun hc21 => ?_)
  ·
   exact rz rfl (by first | (rw [decide_eq_true (⟨Decidable.not_not.1 hg13, same_list (by omega) (fun j p q => h2 j p q (by omega))⟩ : a = b ∧ ns = ms)]; rfl) | (rw [decide_eq_false (fun e : a = b ∧ ns = ms => by obtain ⟨e1, e2⟩ := e; subst e2; first | exact hg13 e1 | exact hc21 rfl | exact hg40 rfl | exact hg47 rfl | (simp at hc54))]; rfl))
  ·
   refine eqF 24 (.d (vI (ns.length : Nat))) rfl (by rw [hls] <;> rfl) ?_
   refine gx rfl <| ?_
   refine lp (X := Nat) (fun i => [(25, .d (vI (i : Nat)))]) (fun i => []) (fun i => i ≤ ns.length ∧ ∀ j (h1 : j < ns.length) (h2 : j < ms.length), j < i → ns[j] = ms[j]) (fun i => ns.length - i) 0 rfl ⟨Nat.zero_le _, fun j _ _ hj => absurd hj (by omega)⟩ (fun _ => rfl) (fun i hk => ?_)
   obtain ⟨h1, h2⟩ := hk
   have hi2 : i < ns.length → i < ms.length := fun h => by omega
   refine br rfl rfl rfl (fun hc26 => ?_) (fun hc26 => ?_)
   ·
    refine ix _ rfl (mapN_get (by omega)) rfl <| ix _ rfl (mapN_get (by omega)) rfl <| ?_
    refine cs 40 rfl rfl rfl (fun hg40 => ?_) (fun hg40 => ?_)
    ·
     exact rz rfl (by first | (rw [decide_eq_true (⟨Decidable.not_not.1 hg13, same_list (by omega) (fun j p q => h2 j p q (by omega))⟩ : a = b ∧ ns = ms)]; rfl) | (rw [decide_eq_false (fun e : a = b ∧ ns = ms => by obtain ⟨e1, e2⟩ := e; subst e2; first | exact hg13 e1 | exact hc21 rfl | exact hg40 rfl | exact hg47 rfl | (simp at hc54))]; rfl))
    ·
     refine cs 47 rfl rfl rfl (fun hg47 => ?_) (fun hg47 => ?_)
     ·
      exact rz rfl (by first | (rw [decide_eq_true (⟨Decidable.not_not.1 hg13, same_list (by omega) (fun j p q => h2 j p q (by omega))⟩ : a = b ∧ ns = ms)]; rfl) | (rw [decide_eq_false (fun e : a = b ∧ ns = ms => by obtain ⟨e1, e2⟩ := e; subst e2; first | exact hg13 e1 | exact hc21 rfl | exact hg40 rfl | exact hg47 rfl | (simp at hc54))]; rfl))
     ·
      refine cl rfl (q_SameL (l := (ns[i]'(by omega)).l) (m := (ms[i]'(by omega)).l) (hbs _ (List.getElem_mem (by omega))) (hbt _ (List.getElem_mem (by omega)))) rfl <| ?_
      refine bb rfl rfl rfl (fun hc54 => ?_) (fun hc54 => ?_)
      ·
       exact rz rfl (by first | (rw [decide_eq_true (⟨Decidable.not_not.1 hg13, same_list (by omega) (fun j p q => h2 j p q (by omega))⟩ : a = b ∧ ns = ms)]; rfl) | (rw [decide_eq_false (fun e : a = b ∧ ns = ms => by obtain ⟨e1, e2⟩ := e; subst e2; first | exact hg13 e1 | exact hc21 rfl | exact hg40 rfl | exact hg47 rfl | (simp at hc54))]; rfl))
      ·
       exact at_ (i + 1) ⟨⟨by omega, fun j p q hj => by by_cases e : j = i; (subst e; exact NQ.ext' (by simpa using hc54) (Decidable.not_not.1 hg40) (Decidable.not_not.1 hg47)); exact h2 j p q (by omega)⟩, (by omega)⟩
   ·
    exact rz rfl (by first | (rw [decide_eq_true (⟨Decidable.not_not.1 hg13, same_list (by omega) (fun j p q => h2 j p q (by omega))⟩ : a = b ∧ ns = ms)]; rfl) | (rw [decide_eq_false (fun e : a = b ∧ ns = ms => by obtain ⟨e1, e2⟩ := e; subst e2; first | exact hg13 e1 | exact hc21 rfl | exact hg40 rfl | exact hg47 rfl | (simp at hc54))]; rfl))
theorem q_RReduce {GB : Gh} {t : Tr} (hb : t.all LB) (hok : t.all LnQ.ok) (hd : t.depth ≤ 900) : PF GB Tryz.prog 31 [eT t] (eT (t.restrict [])) := by
 refine fn Tryz.func31 rfl rfl Tryz.ntmps31 rfl rfl (fun C => ?_)
 refine cl rfl (q_RRestrict (t := t) (c := []) hb hok (by simp) (by simp) (by simpa using hd)) rfl <| ?_
 exact rz rfl (by rw [← Tr.restrictL_eq t [] [] hok (by simp) GoodC.nil (fun p => by unfold InD InL; simp)]; rfl)
set_option maxHeartbeats 1000000 in
theorem q_knownT {GB : Gh}  : PF GB Tryz.prog 15 [] (.v (.bool true)) := by
 obtain ⟨l, hl⟩ : ∃ l, l = thrL 0 0 1 0 := ⟨_, rfl⟩
 have hlt : LS l := by have := thr_LT (m := 0) (n := 0) (p := 1) (q := 0) (by decide) (by decide) (by decide) (by decide) (by decide); rw [hl]; exact this
 have hr : Tr.restrict (.node l (.leaf true) (.leaf true)) [] = .leaf true := by rw [Tr.restrict_C _ _ rfl rfl]; rfl
 have hbt : (Tr.node l (.leaf true) (.leaf true)).all (fun l => BL l 32) := ⟨hlt.bl, trivial, trivial⟩
 have hot : (Tr.node l (.leaf true) (.leaf true)).all LnQ.ok := ⟨hlt.ok, trivial, trivial⟩
 refine fn Tryz.func15 rfl rfl Tryz.ntmps15 rfl rfl (fun C => ?_)
 refine cl rfl (q_Xy (m := 0) (n := 0) (by decide) (by decide)) rfl <| cl rfl (q_Xy (m := 1) (n := 0) (by decide) (by decide)) rfl <| cl (fu := ⟨2⟩) rfl (q_Through (m := 0) (n := 0) (m' := 1) (n' := 0) (by decide) (by decide) (by decide) (by decide) (by decide)) rfl <| ?_
 refine eqF 9 (.d (eL l)) rfl (by rw [hl] <;> rfl) ?_
 refine gx rfl <| cl rfl q_CodeT rfl <| cl (fu := ⟨1⟩) rfl q_CodeT rfl <| bxf rfl rfl <| cl rfl (q_Write (t := .node l (.leaf true) (.leaf true)) hbt (by simp [Tr.size])) rfl <| ?_
 refine cl (fu := ⟨16⟩) rfl (PF.eq (r' := .tp [eA (.leaf true), .v .nilIface]) (q_Reduce (t := .node l (.leaf true) (.leaf true)) (k := 32) (by decide) (by decide) hbt hot (by simp [Tr.size]) (by simp [Tr.depth])) (by rw [hr])) rfl <| ?_
 refine kT 26 rfl rfl ?_
 refine gx (fu := ⟨6⟩) rfl <| ?_
 refine kT 32 rfl rfl ?_
 refine gx rfl <| ?_
 exact rz rfl rfl
end Go.Sx
end
