/-
  The program's rational numbers: sums, products, comparisons. The greatest number of nodes of a merge, by the program and by the reference. What the reference computes of lines and points. Package cells: All. Trees, nodes and lines as deep values; bridges to what was shown before. Reference: whole numbers as fractions, lines reversed, rows of lines; what is the same. Reference: points and lines of any size; spans. Reference: directions by angle; spans; the edge of a side. Reference: the edge of a side of a cell. The program's points, lines and intervals.
-/
import Derived.Test.YtlnphbkcelfboaaGreatDoorMo11
import Derived.Laws.Externs
set_option linter.unusedSimpArgs false
set_option linter.unusedVariables false
section
set_option maxRecDepth 100000
namespace Go.Sx
open Go Go.Proofs
theorem low_q{m:Int}{g:Nat}(hg:(g:Int)∣m)(hb:m.natAbs<4611686018427387904):IntKind.i64.wrap (m.tdiv g)=m/g:=by
 rw[Int.tdiv_eq_ediv_of_dvd hg]
 have:=Int.natAbs_ediv_le_natAbs m g
 exact i64_small (by omega)
def tm(a b:Int):Int:=if(a*b).natAbs<4611686018427387904 then a*b else 0
theorem tm_lt(a b:Int):(tm a b).natAbs<4611686018427387904:=by unfold tm;split<;>omega
theorem tm_eq{a b:Int}(h:(a*b).natAbs<4611686018427387904):tm a b=a*b:=if_pos h
theorem tm_no{a b:Int}(h: ¬(a*b).natAbs<4611686018427387904):DV.tp [vI 0, .v (.bool false)]= .tp [vI (tm a b),vB (decide ((a*b).natAbs<4611686018427387904))]:=by unfold tm;rw[if_neg h,decide_eq_false h];rfl
theorem tm_yes{a b:Int}{x:Int}(h:(a*b).natAbs<4611686018427387904)(e:x=a*b):DV.tp [vI x, .v (.bool true)]= .tp [vI (tm a b),vB (decide ((a*b).natAbs<4611686018427387904))]:=by unfold tm;rw[if_pos h,decide_eq_true h,e];rfl
theorem eI_nat(n:Nat):eI (n:Int)= .ag [.v (.bool false),dN n]:=by unfold eI;rw[decide_eq_false (by omega),Int.natAbs_natCast]
theorem rgcd_s{p q:Rat}(hp:p.den=1)(hq:q.den=1):rgcd p q=((Nat.gcd p.num.natAbs q.num.natAbs:Nat):Int):=by
 conv=>lhs;rw[rat_int hp,rat_int hq]
 exact rgcd_int _ _
theorem inv_red(q:Rat):mkRat (zv (decide (q.num<0)) q.den) q.num.natAbs=q⁻¹:=by
 rw[Rat.inv_def]
 by_cases h:q.num<0
 ·rw[decide_eq_true h];exact mkRat_neg_abs h
 ·rw[decide_eq_false h,←Rat.divInt_ofNat,Int.natAbs_of_nonneg (by omega)];rfl
instance BQ.inv (q:Rat) (i:Nat) [h:BQ q i]:BQ q⁻¹ i:=by
 have h1:=h.hn
 have h2:=h.hd
 have h3:=q.den_nz
 rcases Int.lt_trichotomy q.num 0 with k|k|k
 ·obtain⟨e1,e2⟩:=rat_inv_num k;exact⟨by omega,by omega⟩
 ·have e:q=0:=Rat.num_eq_zero.1 k
  have e0:(0:Rat)⁻¹=0:=Rat.inv_zero
  rw[e] at h1 h2⊢;rw[e0];exact⟨h1,h2⟩
 ·obtain⟨e1,e2⟩:=rat_inv_pos k;exact⟨by omega,by omega⟩
instance BQ.half:BQ (mkRat 1 2) 2:=⟨by decide,by decide⟩
theorem p_Mul64{GB:Gh}{x y:Nat}(hx:x<18446744073709551616)(hy:y<18446744073709551616):PF GB Tryz.prog 89 [.v (.int .u64 (x:Nat)), .v (.int .u64 (y:Nat))] (.tp [.v (.int .u64 ((x*y/18446744073709551616:Nat):Int)), .v (.int .u64 ((x*y%18446744073709551616:Nat):Int))]):=fun G vs _ hv=>by
 obtain⟨v,m,rfl,h1,h2⟩:=isl_cons.1 hv
 obtain⟨u,m',rfl,h3,h4⟩:=isl_cons.1 h2
 cases isl_nil.1 h4
 rw[is_v.1 h1,is_v.1 h3]
 exact(bits_Mul64' hx hy).mono fun v G' _ h=>by subst h;exact is_tp.2 ⟨_,rfl, .cons (is_v.2 rfl) (.cons (is_v.2 rfl) .nil)⟩
theorem p_gcd{GB:Gh}{a b:Nat}(ha:a<18446744073709551616)(hb:b<18446744073709551616):PF GB Tryz.prog 263 [.v (.int .u64 (a:Nat)), .v (.int .u64 (b:Nat))] (.v (.int .u64 (Nat.gcd a b:Nat))):=by
 refine fn Tryz.func263 rfl rfl Tryz.ntmps263 rfl rfl (fun C=>?_)
 refine lp (X:=Nat×Nat) (fun⟨u,v⟩=>[(1, .d (.v (.int .u64 (v:Nat)))),(0, .d (.v (.int .u64 (u:Nat))))]) (fun⟨u,v⟩=>[]) (fun⟨u,v⟩=>u<18446744073709551616∧v<18446744073709551616∧Nat.gcd u v=Nat.gcd a b) (fun⟨u,v⟩=>v) (a,b) rfl ⟨ha,hb,rfl⟩ (fun _=>rfl) (fun⟨u,v⟩ hk=>?_)
 dsimp only at hk⊢
 obtain⟨h1,h2,h3⟩:=hk
 refine br (v1:=fun hc6=>by simp only[allP];exact⟨by omega,by kernel_rfl⟩) rfl rfl rfl (fun hc6=>?_) (fun hc6=>?_)
 ·
  have hm:=Nat.mod_lt u (show 0<v by omega)
  exact at_ (v,u%v) (by dsimp only;exact⟨⟨h2,by omega,by rw[←h3,Nat.gcd_comm u v,Nat.gcd_rec v u,Nat.gcd_comm]⟩,hm⟩)
 ·
  exact rz rfl (by rw[←h3,show v=0 by omega,Nat.gcd_zero_right];rfl)
theorem p_Int{GB:Gh}{m:Int}(h:m.natAbs<9223372036854775808):PF GB Tryz.prog 149 [vI m] (eF (m:Rat)):=by
 refine fn Tryz.func149 rfl rfl Tryz.ntmps149 rfl rfl (fun C=>?_)
 refine cs 5 rfl rfl rfl (fun hg5=>?_) (fun hg5=>?_)
 ·
  refine cl rfl (p_FromInt (m:=m) (by omega) (by omega)) rfl<|rf (fu:=⟨0⟩) rfl rfl<|?_
  refine eqF 11 (.d (dN 1)) rfl (by unfold dN;rw[dg_one];rfl) ?_
  refine gx rfl<|cl rfl (p_reduce (n:=decide (m<0)) (a:=m.natAbs) (i:=63) (h:=⟨h⟩) (d:=1)) rfl<|?_
  exact rz rfl (by rw[zv_eta,show mkRat m 1=(m:Rat) from Rat.mkRat_one ..];rfl)
 ·
  refine br rfl rfl rfl (fun hc8=>?_) (fun hc8=>?_)
  ·
   refine cl rfl (p_FromInt (m:=m) (by omega) (by omega)) rfl<|rf (fu:=⟨0⟩) rfl rfl<|?_
   refine eqF 11 (.d (dN 1)) rfl (by unfold dN;rw[dg_one];rfl) ?_
   refine gx rfl<|cl rfl (p_reduce (n:=decide (m<0)) (a:=m.natAbs) (i:=63) (h:=⟨h⟩) (d:=1)) rfl<|?_
   exact rz rfl (by rw[zv_eta,show mkRat m 1=(m:Rat) from Rat.mkRat_one ..];rfl)
  ·
   exact rzI rfl (is_m (by omega))
theorem p_times{GB:Gh}{a b:Int}(ha:a.natAbs<4611686018427387904)(hb:b.natAbs<4611686018427387904):PF GB Tryz.prog 245 [vI a,vI b] (.tp [vI (tm a b),vB (decide ((a*b).natAbs<4611686018427387904))]):=by
 have hab:=Int.natAbs_mul a b
 refine fn Tryz.func245 rfl rfl Tryz.ntmps245 rfl rfl (fun C=>?_)
 refine cl rfl (p_abs (m:=a) (by omega)) rfl<|cl rfl (p_abs (m:=b) (by omega)) rfl<|cl rfl (p_Mul64 (x:=a.natAbs) (y:=b.natAbs) (by omega) (by omega)) rfl<|?_
 refine cs 18 rfl rfl rfl (fun hg18=>?_) (fun hg18=>?_)
 ·
  exact rz rfl (tm_no (by omega))
 ·
  refine br rfl rfl rfl (fun hc21=>?_) (fun hc21=>?_)
  ·
   exact rz rfl (tm_no (by omega))
  ·
   refine bb rfl rfl rfl (fun hc26=>?_) (fun hc26=>?_)
   ·
    have hs:=mul_signs a b
    rw[if_neg (by simpa using hc26)] at hs
    exact rz rfl (tm_yes (by omega) (by rw[hs,←hab];omega))
   ·
    have hs:=mul_signs a b
    rw[if_pos (by simpa using hc26)] at hs
    exact rz rfl (tm_yes (by omega) (by rw[hs,←hab];omega))
theorem p_lowest{GB:Gh}{m:Int}{d:Nat}(h:m.natAbs<4611686018427387904)(h0:0<d)(hd:d<4611686018427387904):PF GB Tryz.prog 246 [vI m,vI (d:Nat)] (eF (mkRat m d)):=by
 have hg:Nat.gcd m.natAbs d≤d:=Nat.gcd_le_right _ h0
 have hg0:0<Nat.gcd m.natAbs d:=Nat.gcd_pos_of_pos_right _ h0
 obtain⟨e1,e2⟩:=rat_num (m:=m) h0
 have e3:=Int.natAbs_ediv_le_natAbs m (Nat.gcd m.natAbs d:Nat)
 have e4:=Nat.div_le_self d (Nat.gcd m.natAbs d)
 have e5:=Nat.div_pos hg hg0
 refine fn Tryz.func246 rfl rfl Tryz.ntmps246 rfl rfl (fun C=>?_)
 refine cl rfl (p_abs (m:=m) (by omega)) rfl<|cl rfl (p_gcd (a:=m.natAbs) (b:=d) (by omega) (by omega)) rfl<|?_
 refine br (fu1:=⟨4⟩) rfl rfl rfl (fun hc13=>?_) (fun hc13=>?_)
 ·
  refine eqF 16 (.d (vI (m/(Nat.gcd m.natAbs d:Nat)))) rfl (by rw[low_q (Int.dvd_natAbs.1 (Int.natCast_dvd_natCast.2 (Nat.gcd_dvd_left _ _))) h];rfl) ?_
  refine gx (fu:=⟨3⟩) rfl<|?_
  refine eqF 19 (.d (vI ((d/Nat.gcd m.natAbs d:Nat)))) rfl (by rw[low_q (Int.natCast_dvd_natCast.2 (Nat.gcd_dvd_right _ _)) (by rw[Int.natAbs_natCast];exact hd)];rfl) ?_
  refine gx (hv:=by simp only[allP];exact⟨by kernel_rfl,by omega⟩) rfl<|?_
  exact rzI rfl (is_s (fun k=>k ⟨by rw[e1];omega,by rw[e2];omega⟩) e1 (by rw[e2]) rfl)
 ·
  exact rzI rfl (by have h1:Nat.gcd m.natAbs d=1:=(by omega);rw[h1,Nat.div_one] at e2;rw[h1,Int.natCast_one,Int.ediv_one] at e1;exact is_s (fun k=>k ⟨by rw[e1];omega,by rw[e2];omega⟩) e1 (by rw[e2]) rfl)
theorem p_FMul{GB:Gh}{p q:Rat}{i j:Nat}[h:BQ p i][k:BQ q j](hi:i≤100000000:=by decide)(hj:j≤100000000:=by decide):PF GB Tryz.prog 210 [eF p,eF q] (eF (p*q)):=by
 refine fn (fu:=⟨8⟩) Tryz.func210 rfl rfl Tryz.ntmps210 rfl rfl (fun C=>?_)
 refine mg (X:=Unit) (fun _=>[(2, .ov 2 0),(3, .ov 3 0),(4, .ov 4 0)]) (fun _=>[(2,some (.o 128 [.d (vI (fn_ p)), .d (vI (fd_ p)), .d (fp_ p)] true)),(3,some (.o 128 [.d (vI (fn_ q)), .d (vI (fd_ q)), .d (fp_ q)] true)),(4,some (.o 128 [.d (.v (.int .i64 0)), .d (.v (.int .i64 0)), .d (.v (.pointer none))] true))]) (fun _=>True) [2,3,4] [2,3,4] rfl ?_ (fun _=>rfl) (fun _ _=>?_)
 ·
  refine gx rfl<|?_
  refine cs 12 rfl rfl rfl (fun hg12=>?_) (fun hg12=>?_)
  ·
   refine br (fu1:=⟨4⟩) rfl rfl rfl (fun hc16=>?_) (fun hc16=>?_)
   ·
    have hp:=bgF hg12
    have hq:=bgF hc16
    have p1:=fn_s hp
    have p2:=fd_s hp
    have p3:=small_n hp
    have p4:=small_d hp
    have p5:=p.den_nz
    have q1:=fn_s hq
    have q2:=fd_s hq
    have q3:=small_n hq
    have q4:=small_d hq
    have q5:=q.den_nz
    refine eqF 19 (.d (vI p.num)) rfl (by rw[p1]) ?_
    refine gx (fu:=⟨2⟩) rfl<|?_
    refine eqF 21 (.d (vI q.num)) rfl (by rw[q1]) ?_
    refine gx rfl<|cl (fu:=⟨12⟩) rfl (p_times (a:=p.num) (b:=q.num) (by omega) (by omega)) rfl<|?_
    refine eqF 28 (.d (vI (p.den:Nat))) rfl (by congr 3;omega) ?_
    refine gx (fu:=⟨3⟩) rfl<|?_
    refine eqF 31 (.d (vI (q.den:Nat))) rfl (by congr 3;omega) ?_
    refine gx rfl<|cl rfl (p_times (a:=(p.den:Nat)) (b:=(q.den:Nat)) (by omega) (by omega)) rfl<|?_
    refine csd 36 rfl rfl rfl (fun hg36=>?_) (fun hg36=>?_)
    ·
     refine bd (fu1:=⟨3⟩) rfl rfl rfl (fun hc38=>?_) (fun hc38=>?_)
     ·
      have hd1:p.den*q.den<4611686018427387904:=by omega
      refine eqF 39 (.d (vI (p.num*q.num))) rfl (by rw[tm_eq hg36]) ?_
      refine gx (fu:=⟨1⟩) rfl<|?_
      refine eqF 40 (.d (vI ((p.den*q.den:Nat)))) rfl (by rw[tm_eq hc38];rfl) ?_
      refine gx rfl<|cl rfl (p_lowest (m:=p.num*q.num) (d:=p.den*q.den) hg36 (Nat.mul_pos (by omega) (by omega)) hd1) rfl<|?_
      exact rz rfl (by rw[←rat_mul_mk];rfl)
     ·
      exact at_ () trivial
    ·
     exact at_ () trivial
   ·
    exact at_ () trivial
  ·
   exact at_ () trivial
 ·
  refine cl rfl (p_Num (q:=p) (by omega)) rfl<|cl rfl (p_Num (q:=q) (by omega)) rfl<|cl rfl (p_IMul (a:=p.num) (b:=q.num) (by omega) (by omega)) rfl<|?_
  refine cl rfl (p_Den (q:=p) (by omega)) rfl<|cl rfl (p_Den (q:=q) (by omega)) rfl<|cl rfl (p_Mul (a:=p.den) (b:=q.den) (by omega) (by omega)) rfl<|?_
  refine cl rfl (p_reduce (n:=decide (p.num*q.num<0)) (a:=(p.num*q.num).natAbs) (d:=p.den*q.den) (i:=i+j) (j:=i+j) (by omega) (by omega)) rfl<|?_
  exact rz rfl (by rw[zv_eta,←rat_mul_mk];rfl)
theorem p_FAdd{GB:Gh}{p q:Rat}{i j:Nat}[h:BQ p i][k:BQ q j](hi:i≤100000000:=by decide)(hj:j≤100000000:=by decide):PF GB Tryz.prog 207 [eF p,eF q] (eF (p+q)):=by
 refine fn (fu:=⟨8⟩) Tryz.func207 rfl rfl Tryz.ntmps207 rfl rfl (fun C=>?_)
 refine mg (X:=Unit) (fun _=>[(2, .ov 2 0),(3, .ov 3 0),(4, .ov 4 0)]) (fun _=>[(2,some (.o 128 [.d (vI (fn_ p)), .d (vI (fd_ p)), .d (fp_ p)] true)),(3,some (.o 128 [.d (vI (fn_ q)), .d (vI (fd_ q)), .d (fp_ q)] true)),(4,some (.o 128 [.d (.v (.int .i64 0)), .d (.v (.int .i64 0)), .d (.v (.pointer none))] true))]) (fun _=>True) [2,3,4] [2,3,4] rfl ?_ (fun _=>rfl) (fun _ _=>?_)
 ·
  refine gx rfl<|?_
  refine cs 16 rfl rfl rfl (fun hg16=>?_) (fun hg16=>?_)
  ·
   refine br (fu1:=⟨1⟩) rfl rfl rfl (fun hc20=>?_) (fun hc20=>?_)
   ·
    have hp:=bgF hg16
    have hq:=bgF hc20
    have p1:=fn_s hp
    have p2:=fd_s hp
    have p3:=small_n hp
    have p4:=small_d hp
    have p5:=p.den_nz
    have q1:=fn_s hq
    have q2:=fd_s hq
    have q3:=small_n hq
    have q4:=small_d hq
    have q5:=q.den_nz
    refine mg (fu:=⟨4⟩) (X:=Unit) (fun _=>[(2, .ov 2 0),(3, .ov 3 0),(4, .ov 4 0)]) (fun _=>[(2,some (.o 128 [.d (vI (fn_ p)), .d (vI (fd_ p)), .d (fp_ p)] true)),(3,some (.o 128 [.d (vI (fn_ q)), .d (vI (fd_ q)), .d (fp_ q)] true)),(4,some (.o 128 [.d (.v (.int .i64 0)), .d (.v (.int .i64 0)), .d (.v (.pointer none))] true))]) (fun _=>True) [2,3,4] [2,3,4] rfl ?_ (fun _=>rfl) (fun _ _=>?_)
    ·
     refine gx rfl<|?_
     refine cs 24 rfl rfl rfl (fun hg24=>?_) (fun hg24=>?_)
     ·
      refine br (fu1:=⟨4⟩) rfl rfl rfl (fun hc28=>?_) (fun hc28=>?_)
      ·
       refine eqF 30 (.d (vI p.num)) rfl (by rw[p1]) ?_
       refine gx (fu:=⟨2⟩) rfl<|?_
       refine eqF 32 (.d (vI q.num)) rfl (by rw[q1]) ?_
       refine gx rfl<|cl rfl (p_Int (m:=p.num+q.num) (by omega)) rfl<|?_
       exact rz rfl (by rw[rat_int (q:=p) (by omega),rat_int (q:=q) (by omega),←Rat.intCast_add];rfl)
      ·
       exact at_ () trivial
     ·
      exact at_ () trivial
    ·
     refine eqF 37 (.d (vI p.num)) rfl (by rw[p1]) ?_
     refine gx (fu:=⟨3⟩) rfl<|?_
     refine eqF 40 (.d (vI (q.den:Nat))) rfl (by congr 3;omega) ?_
     refine gx rfl<|cl (fu:=⟨11⟩) rfl (p_times (a:=p.num) (b:=(q.den:Nat)) (by omega) (by omega)) rfl<|?_
     refine eqF 46 (.d (vI q.num)) rfl (by rw[q1]) ?_
     refine gx (fu:=⟨3⟩) rfl<|?_
     refine eqF 49 (.d (vI (p.den:Nat))) rfl (by congr 3;omega) ?_
     refine gx rfl<|cl (fu:=⟨12⟩) rfl (p_times (a:=q.num) (b:=(p.den:Nat)) (by omega) (by omega)) rfl<|?_
     refine eqF 56 (.d (vI (p.den:Nat))) rfl (by congr 3;omega) ?_
     refine gx (fu:=⟨3⟩) rfl<|?_
     refine eqF 59 (.d (vI (q.den:Nat))) rfl (by congr 3;omega) ?_
     refine gx rfl<|cl (fu:=⟨3⟩) rfl (p_times (a:=(p.den:Nat)) (b:=(q.den:Nat)) (by omega) (by omega)) rfl<|?_
     have t1:=tm_lt p.num (q.den:Nat)
     have t2:=tm_lt q.num (p.den:Nat)
     have t3:=tm_lt (p.den:Nat) (q.den:Nat)
     refine gx rfl<|?_
     refine csd 67 rfl rfl rfl (fun hg67=>?_) (fun hg67=>?_)
     ·
      refine csd 70 rfl rfl rfl (fun hg70=>?_) (fun hg70=>?_)
      ·
       refine csd 73 rfl rfl rfl (fun hg73=>?_) (fun hg73=>?_)
       ·
        refine cs 77 rfl rfl rfl (fun hg77=>?_) (fun hg77=>?_)
        ·
         refine br (fu1:=⟨3⟩) rfl rfl rfl (fun hc80=>?_) (fun hc80=>?_)
         ·
          have u1:=tm_eq hg67
          have u2:=tm_eq hg70
          have u3:=tm_eq hg73
          have hd1:p.den*q.den<4611686018427387904:=by omega
          refine eqF 81 (.d (vI (p.num*(q.den:Nat)+q.num*(p.den:Nat)))) rfl (by rw[u1,u2];rfl) ?_
          refine gx (fu:=⟨1⟩) rfl<|?_
          refine eqF 82 (.d (vI ((p.den*q.den:Nat)))) rfl (by rw[u3];rfl) ?_
          refine gx rfl<|cl rfl (p_lowest (m:=p.num*(q.den:Nat)+q.num*(p.den:Nat)) (d:=p.den*q.den) (by omega) (Nat.mul_pos (by omega) (by omega)) hd1) rfl<|?_
          exact rz rfl (by rw[←rat_add_mk];rfl)
         ·
          exact at_ () trivial
        ·
         exact at_ () trivial
       ·
        exact at_ () trivial
      ·
       exact at_ () trivial
     ·
      exact at_ () trivial
   ·
    exact at_ () trivial
  ·
   exact at_ () trivial
 ·
  refine cl rfl (p_Num (q:=p) (by omega)) rfl<|cl (fu:=⟨1⟩) rfl (p_Den (q:=q) (by omega)) rfl<|?_
  refine eqF 88 (.d (eI (q.den:Nat))) rfl (by rw[eI_nat]) ?_
  refine gx rfl<|cl rfl (p_IMul (a:=p.num) (b:=(q.den:Nat)) (by omega) (by omega)) rfl<|cl rfl (p_Num (q:=q) (by omega)) rfl<|cl (fu:=⟨1⟩) rfl (p_Den (q:=p) (by omega)) rfl<|?_
  refine eqF 94 (.d (eI (p.den:Nat))) rfl (by rw[eI_nat]) ?_
  refine gx rfl<|cl rfl (p_IMul (a:=q.num) (b:=(p.den:Nat)) (by omega) (by omega)) rfl<|cl rfl (p_IAdd (a:=p.num*(q.den:Nat)) (b:=q.num*(p.den:Nat)) (i:=i+j) (j:=j+i) (by omega) (by omega)) rfl<|?_
  refine cl rfl (p_Den (q:=p) (by omega)) rfl<|cl rfl (p_Den (q:=q) (by omega)) rfl<|cl rfl (p_Mul (a:=p.den) (b:=q.den) (by omega) (by omega)) rfl<|?_
  refine cl rfl (p_reduce (n:=decide (p.num*(q.den:Nat)+q.num*(p.den:Nat)<0)) (a:=(p.num*(q.den:Nat)+q.num*(p.den:Nat)).natAbs) (d:=p.den*q.den) (i:=i+j+(j+i)+1) (j:=i+j) (by omega) (by omega)) rfl<|?_
  exact rz rfl (by rw[zv_eta,←rat_add_mk];rfl)
theorem p_FSub{GB:Gh}{p q:Rat}{i j:Nat}[h:BQ p i][k:BQ q j](hi:i≤100000000:=by decide)(hj:j≤100000000:=by decide):PF GB Tryz.prog 206 [eF p,eF q] (eF (p-q)):=by
 refine fn Tryz.func206 rfl rfl Tryz.ntmps206 rfl rfl (fun C=>?_)
 refine cl rfl (p_FNeg (q:=q) (by omega)) rfl<|cl rfl (p_FAdd (p:=p) (q:= -q) (by omega) (by omega)) rfl<|?_
 exact rz rfl (by rw[←Rat.sub_eq_add_neg];rfl)
theorem p_FInv{GB:Gh}{q:Rat}{i:Nat}[h:BQ q i](hi:i≤400000000:=by decide):PF GB Tryz.prog 213 [eF q] (eF q⁻¹):=by
 refine fn Tryz.func213 rfl rfl Tryz.ntmps213 rfl rfl (fun C=>?_)
 refine br (v1:=fun hc3=>by simp only[allP];exact⟨⟨hc3,hc3⟩,hc3⟩) rfl rfl rfl (fun hc3=>?_) (fun hc3=>?_)
 ·
  refine cl rfl (p_reduce (n:=decide (q.num<0)) (a:=q.den) (d:=q.num.natAbs) (by omega) (by omega)) rfl<|?_
  exact rz rfl (by rw[inv_red];rfl)
 ·
  have q1:=fn_s (bgF' hc3)
  have q2:=fd_s (bgF' hc3)
  have q3:=small_n (bgF' hc3)
  have q4:=small_d (bgF' hc3)
  have q5:=q.den_nz
  refine br rfl rfl rfl (fun hc26=>?_) (fun hc26=>?_)
  ·
   exact rzI rfl (by obtain⟨e1,e2⟩:=rat_inv_num (q:=q) (by omega);exact is_s (fun k=>k ⟨by omega,by omega⟩) (by omega) (by omega) rfl)
  ·
   refine br rfl rfl rfl (fun hc39=>?_) (fun hc39=>?_)
   ·
    exact rzI rfl (by rw[Rat.num_eq_zero.1 (show q.num=0 by omega),Rat.inv_zero];exact is_0)
   ·
    exact rzI rfl (by obtain⟨e1,e2⟩:=rat_inv_pos (q:=q) (by omega);exact is_s (fun k=>k ⟨by omega,by omega⟩) (by omega) (by omega) rfl)
theorem p_FQuo{GB:Gh}{p q:Rat}{i j:Nat}[h:BQ p i][k:BQ q j](hi:i≤100000000:=by decide)(hj:j≤100000000:=by decide):PF GB Tryz.prog 154 [eF p,eF q] (eF (p/q)):=by
 refine fn Tryz.func154 rfl rfl Tryz.ntmps154 rfl rfl (fun C=>?_)
 refine cl rfl (p_FInv (q:=q) (by omega)) rfl<|cl rfl (p_FMul (p:=p) (q:=q⁻¹) (by omega) (by omega)) rfl<|?_
 exact rz rfl (by rw[Rat.div_def];rfl)
theorem isl_F{G:Gh}{q r:DV}{t:List DV}{vs:List Value}(h: ∀y,Is G r y→Is G q y)(hv:IsLs G (r::t) vs):IsLs G (q::t) vs:=by
 obtain⟨y,m,rfl,h1,h2⟩:=isl_cons.1 hv
 exact .cons (h _ h1) h2
theorem isl_F2{G:Gh}{a q r:DV}{t:List DV}{vs:List Value}(h: ∀y,Is G r y→Is G q y)(hv:IsLs G (a::r::t) vs):IsLs G (a::q::t) vs:=by
 obtain⟨y,m,rfl,h1,h2⟩:=isl_cons.1 hv
 exact .cons h1 (isl_F h h2)
theorem p_FMulH{GB:Gh}{q:Rat}{i:Nat}[h:BQ q i](hi:i≤100000000:=by decide):PF GB Tryz.prog 210 [eF q, .ag [vI 1,vI 1, .v (.pointer none)]] (eF (q*mkRat 1 2)):=
 (p_FMul (p:=q) (q:=mkRat 1 2) hi).ofI fun G vs hv=>isl_F2 (fun y hy=>is_s (q:=mkRat 1 2) (fun k=>k ⟨by decide,by decide⟩) (by decide) (by decide) rfl G y hy) hv
theorem p_FHalf{GB:Gh}{q:Rat}{i:Nat}[h:BQ q i](hi:i≤100000000:=by decide):PF GB Tryz.prog 158 [eF q] (eF (q*mkRat 1 2)):=by
 refine fn Tryz.func158 rfl rfl Tryz.ntmps158 rfl rfl (fun C=>?_)
 refine cl rfl (p_FMulH (q:=q) (by omega)) rfl<|?_
 exact rz rfl rfl
theorem p_FCmp{GB:Gh}{p q:Rat}{i j:Nat}[h:BQ p i][k:BQ q j](hi:i≤100000000:=by decide)(hj:j≤100000000:=by decide):PF GB Tryz.prog 212 [eF p,eF q] (vI (rcmp p q)):=by
 refine fn Tryz.func212 rfl rfl Tryz.ntmps212 rfl rfl (fun C=>?_)
 refine cs 8 rfl rfl rfl (fun hg8=>?_) (fun hg8=>?_)
 ·
  refine cs 13 rfl rfl rfl (fun hg13=>?_) (fun hg13=>?_)
  ·
   refine br rfl rfl rfl (fun hc19=>?_) (fun hc19=>?_)
   ·
    have hp:=bgF hg8
    have hq:=bgF hg13
    have p1:=fn_s hp
    have p2:=fd_s hp
    have p3:=small_n hp
    have p4:=small_d hp
    have p5:=p.den_nz
    have q1:=fn_s hq
    have q2:=fd_s hq
    have q3:=small_n hq
    have q4:=small_d hq
    have q5:=q.den_nz
    have hl:=lt_same (a:=p) (b:=q) (by omega)
    have hr:=lt_same (a:=q) (b:=p) (by omega)
    unfold rcmp
    refine br rfl rfl rfl (fun hc20=>?_) (fun hc20=>?_)
    ·
     exact rz rfl (by rw[if_pos (hl.2 (by omega))];rfl)
    ·
     refine br rfl rfl rfl (fun hc26=>?_) (fun hc26=>?_)
     ·
      exact rz rfl (by rw[if_neg (fun e=>by have:=hl.1 e;omega),if_pos (hr.2 (by omega))];rfl)
     ·
      exact rz rfl (by rw[if_neg (fun e=>by have:=hl.1 e;omega),if_neg (fun e=>by have:=hr.1 e;omega)];rfl)
   ·
    refine cl rfl (p_FSub (p:=p) (q:=q) (by omega) (by omega)) rfl<|cl rfl (p_FSign (q:=p-q) (by omega)) rfl<|?_
    exact rz rfl (by rw[sign_sub];rfl)
  ·
   refine cl rfl (p_FSub (p:=p) (q:=q) (by omega) (by omega)) rfl<|cl rfl (p_FSign (q:=p-q) (by omega)) rfl<|?_
   exact rz rfl (by rw[sign_sub];rfl)
 ·
  refine cl rfl (p_FSub (p:=p) (q:=q) (by omega) (by omega)) rfl<|cl rfl (p_FSign (q:=p-q) (by omega)) rfl<|?_
  exact rz rfl (by rw[sign_sub];rfl)
theorem p_FEqual{GB:Gh}{p q:Rat}{i j:Nat}[h:BQ p i][k:BQ q j](hi:i≤100000000:=by decide)(hj:j≤100000000:=by decide):PF GB Tryz.prog 228 [eF p,eF q] (vB (decide (p=q))):=by
 refine fn Tryz.func228 rfl rfl Tryz.ntmps228 rfl rfl (fun C=>?_)
 refine cl rfl (p_FCmp (p:=p) (q:=q) hi hj) rfl<|?_
 exact rz rfl (by show DV.v (.bool (decide _))= .v (.bool _);congr 2;exact decide_eq_decide.2 (rcmp_eq p q))
theorem p_FMax{GB:Gh}{p q:Rat}{i j:Nat}[h:BQ p i][k:BQ q j](hi:i≤100000000:=by decide)(hj:j≤100000000:=by decide):PF GB Tryz.prog 298 [eF p,eF q] (eF (if p<q then q else p)):=by
 refine fn Tryz.func298 rfl rfl Tryz.ntmps298 rfl rfl (fun C=>?_)
 refine cl rfl (p_FCmp (p:=q) (q:=p) hj hi) rfl<|?_
 refine br rfl rfl rfl (fun hc8=>?_) (fun hc8=>?_)
 ·
  exact rz rfl (by rw[if_pos ((rcmp_pos q p).1 hc8)];rfl)
 ·
  exact rz rfl (by rw[if_neg (fun e=>hc8 ((rcmp_pos q p).2 e))];rfl)
theorem p_FMin{GB:Gh}{p q:Rat}{i j:Nat}[h:BQ p i][k:BQ q j](hi:i≤100000000:=by decide)(hj:j≤100000000:=by decide):PF GB Tryz.prog 152 [eF p,eF q] (eF (if q<p then q else p)):=by
 refine fn Tryz.func152 rfl rfl Tryz.ntmps152 rfl rfl (fun C=>?_)
 refine cl rfl (p_FCmp (p:=q) (q:=p) hj hi) rfl<|?_
 refine br rfl rfl rfl (fun hc8=>?_) (fun hc8=>?_)
 ·
  exact rz rfl (by rw[if_pos ((rcmp_neg q p).1 hc8)];rfl)
 ·
  exact rz rfl (by rw[if_neg (fun e=>hc8 ((rcmp_neg q p).2 e))];rfl)
theorem p_FGcd{GB:Gh}{p q:Rat}{i j:Nat}[h:BQ p i][k:BQ q j](hi:i≤100000000:=by decide)(hj:j≤100000000:=by decide):PF GB Tryz.prog 227 [eF p,eF q] (eF (rgcd p q)):=by
 refine fn (fu:=⟨8⟩) Tryz.func227 rfl rfl Tryz.ntmps227 rfl rfl (fun C=>?_)
 refine mg (X:=Unit) (fun _=>[(2, .ov 2 0),(3, .ov 3 0),(4, .ov 4 0)]) (fun _=>[(2,some (.o 128 [.d (vI (fn_ p)), .d (vI (fd_ p)), .d (fp_ p)] true)),(3,some (.o 128 [.d (vI (fn_ q)), .d (vI (fd_ q)), .d (fp_ q)] true)),(4,some (.o 128 [.d (.v (.int .i64 0)), .d (.v (.int .i64 0)), .d (.v (.pointer none))] true))]) (fun _=>True) [2,3,4] [2,3,4] rfl ?_ (fun _=>rfl) (fun _ _=>?_)
 ·
  refine gx rfl<|?_
  refine cs 10 rfl rfl rfl (fun hg10=>?_) (fun hg10=>?_)
  ·
   refine cs 15 rfl rfl rfl (fun hg15=>?_) (fun hg15=>?_)
   ·
    have hp:=bgF hg10
    have hq:=bgF hg15
    have p1:=fn_s hp
    have p2:=fd_s hp
    have p3:=small_n hp
    have p4:=small_d hp
    have p5:=p.den_nz
    have q1:=fn_s hq
    have q2:=fd_s hq
    have q3:=small_n hq
    have q4:=small_d hq
    have q5:=q.den_nz
    refine cs 20 rfl rfl rfl (fun hg20=>?_) (fun hg20=>?_)
    ·
     refine br (fu1:=⟨4⟩) rfl rfl rfl (fun hc24=>?_) (fun hc24=>?_)
     ·
      have hg:=gcd_lt p3 q3
      refine eqF 26 (.d (vI p.num)) rfl (by rw[p1]) ?_
      refine gx rfl<|cl (fu:=⟨2⟩) rfl (p_abs (m:=p.num) (by omega)) rfl<|?_
      refine eqF 29 (.d (vI q.num)) rfl (by rw[q1]) ?_
      refine gx rfl<|cl rfl (p_abs (m:=q.num) (by omega)) rfl<|cl (hv:=by simp only[allP];exact⟨by omega,by kernel_rfl⟩) rfl (p_gcd (a:=p.num.natAbs) (b:=q.num.natAbs) (by omega) (by omega)) rfl<|?_
      exact rzI rfl (by rw[rgcd_s (p:=p) (q:=q) (by omega) (by omega)];exact is_m (by rw[Int.natAbs_natCast];exact hg))
     ·
      exact at_ () trivial
    ·
     exact at_ () trivial
   ·
    exact at_ () trivial
  ·
   exact at_ () trivial
 ·
  refine cl rfl (p_Den (q:=p) (by omega)) rfl<|cl rfl (p_Den (q:=q) (by omega)) rfl<|cl rfl (p_Mul (a:=p.den) (b:=q.den) (by omega) (by omega)) rfl<|?_
  refine cl rfl (p_Num (q:=p) (by omega)) rfl<|cl rfl (p_Den (q:=q) (by omega)) rfl<|cl rfl (p_Mul (a:=p.num.natAbs) (b:=q.den) (by omega) (by omega)) rfl<|?_
  refine cl rfl (p_Num (q:=q) (by omega)) rfl<|cl rfl (p_Den (q:=p) (by omega)) rfl<|cl rfl (p_Mul (a:=q.num.natAbs) (b:=p.den) (by omega) (by omega)) rfl<|?_
  refine cl rfl (p_Gcd (a:=p.num.natAbs*q.den) (b:=q.num.natAbs*p.den) (i:=i+j) (j:=j+i) (by omega) (by omega)) rfl<|cl rfl (p_reduce (n:=false) (a:=Nat.gcd (p.num.natAbs*q.den) (q.num.natAbs*p.den)) (d:=p.den*q.den) (i:=i+j+(j+i)) (j:=i+j) (by omega) (by omega)) rfl<|?_
  exact rz rfl rfl
end Go.Sx
end

section
set_option maxRecDepth 100000
namespace Go.Sx
open Go Go.Proofs
def bndN(a b:Nat):Int:=if 9223372036854775807<a+(a+1)*b then 9223372036854775807 else((a+(a+1)*b:Nat):Int)
def natI(m:Int):Nat:=m.toNat
end Go.Sx
end

section
set_option maxRecDepth 100000
namespace Go.Sx
open Go
def crossI(l m:LnQ):Int:=l.a*m.b-m.a*l.b
def meetX(l m:LnQ):Int:=l.b*m.c-m.b*l.c
def meetY(l m:LnQ):Int:=m.a*l.c-l.a*m.c
def meetP(l m:LnQ):PtQ:=if crossI l m=0 then⟨0,0⟩ else⟨(meetX l m:Rat)/(crossI l m:Rat),(meetY l m:Rat)/(crossI l m:Rat)⟩
def paramQ(l:LnQ)(p:PtQ):Rat:=p.dot l.dir/l.dir.dot l.dir
theorem dd_nn(l:LnQ):l.dir.dot l.dir=l.nor.dot l.nor:=by
 simp only[LnQ.dir,LnQ.nor,PtQ.dot];grind
theorem dd_pos{l:LnQ}(h:l.Ne):0<l.dir.dot l.dir:=by rw[dd_nn];exact nn_pos h
theorem cross_cast(l m:LnQ):((crossI l m:Int):Rat)=(l.a:Rat)*m.b-(m.a:Rat)*l.b:=by
 unfold crossI;rw[Rat.intCast_sub,Rat.intCast_mul,Rat.intCast_mul]
theorem meetX_cast(l m:LnQ):((meetX l m:Int):Rat)=(l.b:Rat)*m.c-(m.b:Rat)*l.c:=by
 unfold meetX;rw[Rat.intCast_sub,Rat.intCast_mul,Rat.intCast_mul]
theorem meetY_cast(l m:LnQ):((meetY l m:Int):Rat)=(m.a:Rat)*l.c-(l.a:Rat)*m.c:=by
 unfold meetY;rw[Rat.intCast_sub,Rat.intCast_mul,Rat.intCast_mul]
theorem cutK_cross(l m:LnQ):l.cutK m= -((crossI l m:Int):Rat):=by
 rw[cross_cast];simp only[LnQ.cutK,LnQ.nor,LnQ.dir,PtQ.dot];grind
theorem cutK_dir(l m:LnQ):m.dir.cross l.dir=l.cutK m:=by
 simp only[LnQ.cutK,LnQ.nor,LnQ.dir,PtQ.dot,PtQ.cross];grind
theorem base_ref{l:LnQ}:(⟨-((l.c:Rat)/l.dir.dot l.dir)*(l.a:Rat), -((l.c:Rat)/l.dir.dot l.dir)*(l.b:Rat)⟩:PtQ)=l.base:=by
 unfold LnQ.base
 rw[dd_nn]
 simp only[LnQ.nor,PtQ.scale,PtQ.mk.injEq]
 constructor<;>grind
theorem at_ref(l:LnQ)(t:Rat):movQ l.base l.dir t=l.at t:=by
 simp only[movQ,LnQ.at,PtQ.add,PtQ.scale,PtQ.mk.injEq]
 constructor<;>grind
theorem param_meet{l m:LnQ}(hl:l.Ne)(h:crossI l m≠0):paramQ l (meetP l m)= -(l.cutC m/l.cutK m):=by
 have hd:((crossI l m:Int):Rat)≠0:=fun e=>h (Rat.intCast_eq_zero_iff.1 e)
 have hn:=dd_pos hl
 obtain⟨q,q1,q2⟩:=base_q hl
 rw[cutK_cross]
 unfold paramQ meetP LnQ.cutC
 rw[if_neg h,q2,val_def,meetX_cast,meetY_cast]
 have hc:=cross_cast l m
 rw[dd_nn] at hn⊢
 simp only[LnQ.dir,LnQ.nor,PtQ.dot] at hn q1⊢
 generalize ((crossI l m:Int):Rat)=d at*
 generalize (l.a:Rat)=a at*
 generalize (l.b:Rat)=b at*
 generalize (l.c:Rat)=c at*
 generalize (m.a:Rat)=x at*
 generalize (m.b:Rat)=y at*
 generalize (m.c:Rat)=z at*
 have hn':a*a+b*b≠0:=by grind
 have e:((b*z-y*c)/d*b+(x*c-a*z)/d* -a)=((b*z-y*c)*b-(x*c-a*z)*a)/d:=by grind
 rw[e]
 have k1:(b*z-y*c)*b-(x*c-a*z)*a=(a*a+b*b)*(x*(a*q)+y*(b*q)+z):=by grind
 rw[k1]
 grind
theorem param_frac{l m:LnQ}(hl:l.Ne)(h:crossI l m≠0):paramQ l (meetP l m)*((crossI l m*(l.a*l.a+l.b*l.b):Int):Rat)=((meetX l m*l.b-meetY l m*l.a:Int):Rat):=by
 have hd:((crossI l m:Int):Rat)≠0:=fun e=>h (Rat.intCast_eq_zero_iff.1 e)
 have hn:=dd_pos hl
 unfold paramQ meetP
 rw[if_neg h]
 simp only[Rat.intCast_mul,Rat.intCast_sub,Rat.intCast_add]
 simp only[LnQ.dir,PtQ.dot] at hn⊢
 generalize ((crossI l m:Int):Rat)=d at*
 generalize ((meetX l m:Int):Rat)=x at*
 generalize ((meetY l m:Int):Rat)=y at*
 generalize (l.a:Rat)=a at*
 generalize (l.b:Rat)=b at*
 have hn':b*b+ -a* -a≠0:=by grind
 grind
theorem partL_cons(l m:LnQ)(t:List LnQ)(v:IvQ):partL l (m::t) v=if m=l then partL l t v else if l.cutB v m then partL l t (l.cutV v m) else none:=rfl
def updLo(v:IvQ)(t:Rat):IvQ:=if v.nl=true∨0<rcmp t v.lo then⟨t,v.hi,false,v.nh⟩ else v
def updHi(v:IvQ)(t:Rat):IvQ:=if v.nh=true∨rcmp t v.hi<0 then⟨v.lo,t,v.nl,false⟩ else v
structure IvZ (v:IvQ):Prop where
 lo:v.nl=true→v.lo=0
 hi:v.nh=true→v.hi=0
theorem rcmp_pos'(a b:Rat):0<rcmp a b↔b<a:=by
 unfold rcmp;split
 ·constructor
  ·intro h;exact absurd h (by decide)
  ·intro h;grind
 ·split
  ·exact⟨fun _=>by assumption,fun _=>by decide⟩
  ·constructor
   ·intro h;exact absurd h (by decide)
   ·intro h;exact absurd h (by assumption)
theorem rcmp_neg'(a b:Rat):rcmp a b<0↔a<b:=by
 unfold rcmp;split
 ·exact⟨fun _=>by assumption,fun _=>by decide⟩
 ·split
  ·constructor
   ·intro h;exact absurd h (by decide)
   ·intro h;grind
  ·constructor
   ·intro h;exact absurd h (by decide)
   ·intro h;exact absurd h (by assumption)
theorem updLo_meet{v:IvQ}(h:IvZ v)(t:Rat):updLo v t=v.meet ⟨t,0,false,true⟩:=by
 obtain⟨lo,hi,nl,nh⟩:=v
 obtain⟨h1,h2⟩:=h
 unfold updLo IvQ.meet
 simp only[rcmp_pos'] at*
 cases nl<;>cases nh<;>simp at* <;>(try (split<;>split<;>simp_all<;>grind))<;>grind
theorem updHi_meet{v:IvQ}(h:IvZ v)(t:Rat):updHi v t=v.meet ⟨0,t,true,false⟩:=by
 obtain⟨lo,hi,nl,nh⟩:=v
 obtain⟨h1,h2⟩:=h
 unfold updHi IvQ.meet
 simp only[rcmp_neg'] at*
 cases nl<;>cases nh<;>simp at* <;>(try (split<;>split<;>simp_all<;>grind))<;>grind
theorem IvZ.all:IvZ IvQ.all:=⟨fun _=>rfl,fun _=>rfl⟩
theorem IvZ.lo'{v:IvQ}(h:IvZ v)(t:Rat):IvZ (updLo v t):=by
 obtain⟨lo,hi,nl,nh⟩:=v
 unfold updLo;split
 ·exact⟨fun h=>by simp at h,h.hi⟩
 ·exact h
theorem IvZ.hi'{v:IvQ}(h:IvZ v)(t:Rat):IvZ (updHi v t):=by
 obtain⟨lo,hi,nl,nh⟩:=v
 unfold updHi;split
 ·exact⟨h.lo,fun h=>by simp at h⟩
 ·exact h
theorem step_par{l m:LnQ}{v:IvQ}(h:crossI l m=0):l.cutV v m=v∧(l.cutB v m=true↔0<m.value l.base):=by
 have hk:l.cutK m=0:=by rw[cutK_cross,h];rfl
 exact cut_zero v hk
theorem step_lo{l m:LnQ}{v:IvQ}(hl:l.Ne)(hz:IvZ v)(h:0<m.dir.cross l.dir):crossI l m≠0∧l.cutV v m=updLo v (paramQ l (meetP l m))∧l.cutB v m=!(updLo v (paramQ l (meetP l m))).empty:=by
 rw[cutK_dir] at h
 have hc:crossI l m≠0:=fun e=>by rw[cutK_cross,e] at h;exact absurd h (by decide)
 obtain⟨h1,h2⟩:=cut_up v h
 refine⟨hc,?_,?_⟩
 ·rw[updLo_meet hz,param_meet hl hc,h1]
 ·rw[updLo_meet hz,param_meet hl hc,←h1]
  rw[←empty_iff] at h2
  cases hb:l.cutB v m<;>cases he:(l.cutV v m).empty<;>simp_all
theorem step_hi{l m:LnQ}{v:IvQ}(hl:l.Ne)(hz:IvZ v)(h0:crossI l m≠0)(h: ¬0<m.dir.cross l.dir):l.cutV v m=updHi v (paramQ l (meetP l m))∧l.cutB v m=!(updHi v (paramQ l (meetP l m))).empty:=by
 rw[cutK_dir] at h
 have hk:l.cutK m≠0:=fun e=>by
  rw[cutK_cross] at e
  have:((crossI l m:Int):Rat)=0:=by grind
  exact h0 (Rat.intCast_eq_zero_iff.1 this)
 obtain⟨h1,h2⟩:=cut_dn (l:=l) (m:=m) v (by grind)
 refine⟨?_,?_⟩
 ·rw[updHi_meet hz,param_meet hl h0,h1]
 ·rw[updHi_meet hz,param_meet hl h0,←h1]
  rw[←empty_iff] at h2
  cases hb:l.cutB v m<;>cases he:(l.cutV v m).empty<;>simp_all
end Go.Sx
end

section
set_option maxRecDepth 100000
namespace Go.Sx
open Go Go.Proofs
end Go.Sx
end

section
set_option maxRecDepth 100000
namespace Go.Sx
open Go Go.Proofs
def cT:Tr→List DV
 | .leaf b=>[.v (.bool true), .v (.bool b), .v (.bool false), .sl [], .v (.bool false), .sl [], .v (.bool false), .sl [], .v (.pointer none), .v (.pointer none)]
 | .node l x y=>[.v (.bool false), .v (.bool false), .v (.bool (decide (l.a<0))),dN l.a.natAbs, .v (.bool (decide (l.b<0))),dN l.b.natAbs, .v (.bool (decide (l.c<0))),dN l.c.natAbs, .pt (cT x), .pt (cT y)]
def eT(t:Tr):DV:= .pt (cT t)
def eN(n:NQ):DV:= .ag [.v (.bool (decide (n.l.a<0))),dN n.l.a.natAbs, .v (.bool (decide (n.l.b<0))),dN n.l.b.natAbs, .v (.bool (decide (n.l.c<0))),dN n.l.c.natAbs, .v (.int .i64 n.a), .v (.int .i64 n.b)]
def eA(t:Tr):DV:= .ag [.v (.int .i64 (t.num 0)), .sl ((t.wr 0).map eN)]
theorem isI_to{G:Gh}{k:Nat}{z:IV}{m:Int}(h:IsI k G z m):Is G (.v (.bool (decide (m<0)))) (.bool z.neg)∧Is G (dN m.natAbs) (.slice z.a.a z.a.n z.a.c):=
 ⟨is_v.2 (by rw[h.neg]),(is_dN h.abs.lt).2 ⟨_,rfl,h.abs⟩⟩
theorem isI_of{G:Gh}{k:Nat}{m:Int}{u v:Value}(hm:m.natAbs<2^k)(h1:Is G (.v (.bool (decide (m<0)))) u)(h2:Is G (dN m.natAbs) v): ∃z:IV,u= .bool z.neg∧v= .slice z.a.a z.a.n z.a.c∧IsI k G z m:=by
 obtain⟨x,rfl,hx⟩:=(is_dN hm).1 h2
 exact⟨⟨decide (m<0),x⟩,is_v.1 h1,rfl,rfl,hx⟩
structure BL (l:LnQ) (k:Nat):Prop where
 a:l.a.natAbs<2^k
 b:l.b.natAbs<2^k
 c:l.c.natAbs<2^k
theorem isL_of{G:Gh}{k:Nat}{l:LnQ}{v:Value}(hl:BL l k)(h:Is G (eL l) v): ∃a b c:IV,v= .agg ⟨[.bool a.neg, .slice a.a.a a.a.n a.a.c, .bool b.neg, .slice b.a.a b.a.n b.a.c, .bool c.neg, .slice c.a.a c.a.n c.a.c]⟩∧IsI k G a l.a∧IsI k G b l.b∧IsI k G c l.c:=by
 obtain⟨m,rfl,g⟩:=is_ag.1 h
 clear h
 obtain⟨v1,m,rfl,h1,h⟩:=isl_cons.1 g
 obtain⟨v2,m,rfl,h2,h⟩:=isl_cons.1 h
 obtain⟨v3,m,rfl,h3,h⟩:=isl_cons.1 h
 obtain⟨v4,m,rfl,h4,h⟩:=isl_cons.1 h
 obtain⟨v5,m,rfl,h5,h⟩:=isl_cons.1 h
 obtain⟨v6,m,rfl,h6,h⟩:=isl_cons.1 h
 rw[isl_nil] at h;subst h
 obtain⟨a,rfl,rfl,ha⟩:=isI_of hl.a h1 h2
 obtain⟨b,rfl,rfl,hb⟩:=isI_of hl.b h3 h4
 obtain⟨c,rfl,rfl,hc⟩:=isI_of hl.c h5 h6
 exact⟨a,b,c,rfl,ha,hb,hc⟩
theorem isND_to{G:Gh}{k:Nat}{n:NQ}{z:ND}(h:IsND k G z n):Is G (eN n) z.val:=by
 refine is_ag.2 ⟨_,rfl, .cons (isI_to h.a).1 (.cons (isI_to h.a).2 (.cons (isI_to h.b).1 (.cons (isI_to h.b).2 (.cons (isI_to h.c).1 (.cons (isI_to h.c).2 (.cons (is_v.2 ?_) (.cons (is_v.2 ?_) .nil)))))))⟩
 ·rw[h.l]
 ·rw[h.r]
theorem isNs_to{G:Gh}{k:Nat}: ∀{ns:List NQ} {zs:List ND},All2 (IsND k G) zs ns→IsLs G (ns.map eN) (zs.map ND.val)
 |_,_, .nil=> .nil
 |_,_, .cons h t=> .cons (isND_to h) (isNs_to t)
theorem isA_to{G:Gh}{k:Nat}{t:Tr}{x:SV}(h:IsNs k G x (t.wr 0)):Is G (eA t) (.agg ⟨[.int .i64 (t.num 0), .slice x.a x.n x.c]⟩):=by
 obtain⟨zs,h1,h2⟩:=h
 exact is_ag.2 ⟨_,rfl, .cons (is_v.2 rfl) (.cons (is_sl.2 ⟨8,x,_,rfl,h1,isNs_to h2⟩) .nil)⟩
theorem Tr.all_wr{p:LnQ→Prop}: ∀{t:Tr} (n:Nat),t.all p→ ∀x∈t.wr n,p x.l
 | .leaf b,n,_,x,hx=>by cases hx
 | .node l u v,n,⟨h1,h2,h3⟩,x,hx=>by
  simp only[Tr.wr,List.cons_append,List.mem_cons,List.mem_append] at hx
  rcases hx with rfl|hx|hx
  ·exact h1
  ·exact u.all_wr _ h2 x hx
  ·exact v.all_wr _ h3 x hx
end Go.Sx
end

section
set_option maxRecDepth 100000
namespace Go.Sx
open Go Go.Proofs
structure LS (l:LnQ):Prop where
 ok:l.ok
 a:l.a.natAbs≤4
 b:l.b.natAbs≤4
 c:l.c.natAbs≤40000
theorem LS.bl{l:LnQ}(h:LS l):BL l 96:=⟨by have:=h.a;omega,by have:=h.b;omega,by have:=h.c;omega⟩
theorem mapL_get{xs:List LnQ}{i:Nat}(h:i<xs.length):(xs.map eL)[(i:Int).toNat]? =some (eL xs[i]):=by simp[h]
theorem mapL_len(xs:List LnQ):(xs.map eL).length=xs.length:=List.length_map ..
theorem take_next{α:Type}{xs:List α}{i:Nat}{p:α→Prop}(h: ∀x∈xs.take i,p x)(hi:i<xs.length)(hy:p xs[i]): ∀x∈xs.take (i+1),p x:=by
 intro x hx
 rw[List.take_succ_eq_append_getElem hi] at hx
 simp only[List.mem_append,List.mem_singleton] at hx
 rcases hx with hx|rfl
 ·exact h x hx
 ·exact hy
theorem sameI_yes{a b:Int}(h:decide (a<0)=decide (b<0)):decide (a.natAbs=b.natAbs)=decide (a=b):=by
 have h':a<0↔b<0:=by simpa using h
 exact decide_eq_decide.2 ⟨fun e=>by omega,fun e=>by rw[e]⟩
theorem LnQ.ext'{l m:LnQ}(h1:l.a=m.a)(h2:l.b=m.b)(h3:l.c=m.c):l=m:=by cases l;cases m;simp_all
instance:DecidableEq NQ:=fun x y=>decidable_of_iff (x.l=y.l∧x.a=y.a∧x.b=y.b) (by
 cases x;cases y;simp)
theorem NQ.ext'{n m:NQ}(h1:n.l=m.l)(h2:n.a=m.a)(h3:n.b=m.b):n=m:=by cases n;cases m;simp_all
theorem slOkL(ls:List LnQ):slOk 6 (ls.map eL):=fun d hd=>by
 obtain⟨n,_,rfl⟩:=List.mem_map.1 hd;exact⟨rfl,rfl⟩
theorem same_dg{a b:Nat}(hl:(dg a).length=(dg b).length)(h: ∀j,j<(dg a).length→(dg a).getD j 0=(dg b).getD j 0):a=b:=by
 have e:dg a=dg b:=by
  apply List.ext_getElem hl
  intro i h1 h2
  have:=h i h1
  rw[List.getD_eq_getElem?_getD,List.getD_eq_getElem?_getD,List.getElem?_eq_getElem h1,List.getElem?_eq_getElem h2] at this
  exact this
 rw[←dv_dg a,e,dv_dg]
theorem q_sq{GB:Gh}{z:Int}:PF GB Tryz.prog 134 [eI z] (eQ (z:Rat)):=by
 refine fn Tryz.func134 rfl rfl Tryz.ntmps134 rfl rfl (fun C=>?_)
 exact rz rfl (by rw[eQ_int];rfl)
theorem q_sRev{GB:Gh}{l:LnQ}:PF GB Tryz.prog 85 [eL l] (eL l.rev):=by
 refine fn Tryz.func85 rfl rfl Tryz.ntmps85 rfl rfl (fun C=>?_)
 refine cl rfl q_Minus rfl<|cl rfl q_Minus rfl<|cl rfl q_Minus rfl<|?_
 exact rz rfl rfl
theorem q_SameN{GB:Gh}{a b i j:Nat}[ha:BN a i][hb:BN b j](hi:i≤400000000:=by decide):PF GB Tryz.prog 160 [dN a,dN b] (vB (decide (a=b))):=by
 have hla:=mapU_len (dg a)
 have hlb:=mapU_len (dg b)
 have hba:=dg_len_le ha.h
 refine fn Tryz.func160 rfl rfl Tryz.ntmps160 rfl rfl (fun C=>?_)
 refine br (fu2:=⟨7⟩) rfl rfl rfl (fun hc10=>?_) (fun hc10=>?_)
 ·
  exact rz rfl (by rw[decide_eq_false (fun e:a=b=>hc10 (by rw[e]))];rfl)
 ·
  refine eqF 12 (.d (vI ((dg a).length:Nat))) rfl (by rw[hla];rfl) ?_
  refine gx rfl<|?_
  refine lp (X:=Nat) (fun i=>[(13, .d (vI (i:Nat))),(12, .d (vI ((dg a).length:Nat))),(0, .d (dN a)),(1, .d (dN b))]) (fun i=>[]) (fun i=>i≤(dg a).length∧ ∀j,j<i→(dg a).getD j 0=(dg b).getD j 0) (fun i=>(dg a).length-i) 0 rfl ⟨Nat.zero_le _,fun j hj=>absurd hj (by omega)⟩ (fun _=>rfl) (fun i hk=>?_)
  obtain⟨h1,h2⟩:=hk
  refine br rfl rfl rfl (fun hc14=>?_) (fun hc14=>?_)
  ·
   refine ix _ rfl (mapU_getI (by omega)) rfl<|ix _ rfl (mapU_getI (by omega)) rfl<|?_
   refine br rfl rfl rfl (fun hc24=>?_) (fun hc24=>?_)
   ·
    exact rz rfl (by rw[decide_eq_false (fun e:a=b=>hc24 (by rw[e]))];rfl)
   ·
    exact at_ (i+1) ⟨⟨by omega,fun j hj=>by by_cases q:j=i;(subst q;omega);exact h2 j (by omega)⟩,(by omega)⟩
  ·
   exact rz rfl (by rw[decide_eq_true (same_dg (by omega) (fun j hj=>h2 j (by omega)))];rfl)
theorem q_SameI{GB:Gh}{a b:Int}{i j:Nat}[ha:BI a i][hb:BI b j](hi:i≤400000000:=by decide):PF GB Tryz.prog 138 [eI a,eI b] (vB (decide (a=b))):=by
 refine fn (fu:=⟨14⟩) Tryz.func138 rfl rfl Tryz.ntmps138 rfl rfl (fun C=>?_)
 refine eqF 9 (.d (.v (.bool (decide (decide (a<0)=decide (b<0)))))) rfl (by congr 2) ?_
 refine gx rfl<|?_
 refine csd 10 rfl rfl rfl (fun hg10=>?_) (fun hg10=>?_)
 ·
  refine cl rfl (q_SameN (by omega)) rfl<|?_
  exact rz rfl (by show DV.v (.bool _)=DV.v (.bool _);rw[←sameI_yes hg10])
 ·
  exact rz rfl (by rw[decide_eq_false (fun e:a=b=>hg10 (by rw[e]))];rfl)
theorem q_SameL{GB:Gh}{l m:LnQ}(hl:BL l 96)(hm:BL m 96):PF GB Tryz.prog 78 [eL l,eL m] (vB (decide (l=m))):=by
 haveI h1:BI l.a 96:=⟨hl.a⟩
 haveI h2:BI l.b 96:=⟨hl.b⟩
 haveI h3:BI l.c 96:=⟨hl.c⟩
 haveI k1:BI m.a 96:=⟨hm.a⟩
 haveI k2:BI m.b 96:=⟨hm.b⟩
 haveI k3:BI m.c 96:=⟨hm.c⟩
 refine fn Tryz.func78 rfl rfl Tryz.ntmps78 rfl rfl (fun C=>?_)
 refine cl rfl (q_SameI (a:=l.a) (b:=m.a)) rfl<|?_
 refine csd 10 rfl rfl rfl (fun hg10=>?_) (fun hg10=>?_)
 ·
  refine cl rfl (q_SameI (by omega)) rfl<|?_
  refine csd 17 rfl rfl rfl (fun hg17=>?_) (fun hg17=>?_)
  ·
   refine cl rfl (q_SameI (by omega)) rfl<|?_
   exact rz rfl (by show DV.v (.bool _)=DV.v (.bool _);rw[decide_eq_decide.2 ⟨fun e=>LnQ.ext' hg10 hg17 e,fun e=>by rw[e]⟩])
  ·
   exact rz rfl (by rw[decide_eq_false (fun e:l=m=>hg17 (by rw[e]))];rfl)
 ·
  exact rz rfl (by rw[decide_eq_false (fun e:l=m=>hg10 (by rw[e]))];rfl)
end Go.Sx
end

section
set_option maxRecDepth 100000
namespace Go.Sx
open Go Go.Proofs
class LB (l:LnQ):Prop where bl:BL l 96
instance LB.a (l:LnQ) [h:LB l]:BI l.a 96:=⟨h.bl.a⟩
instance LB.b (l:LnQ) [h:LB l]:BI l.b 96:=⟨h.bl.b⟩
instance LB.c (l:LnQ) [h:LB l]:BI l.c 96:=⟨h.bl.c⟩
class BPt (p:PtQ) (k:outParam Nat):Prop where
 x:BQ p.x k
 y:BQ p.y k
instance BPt.ix (p:PtQ) (k:Nat) [h:BPt p k]:BQ p.x k:=h.x
instance BPt.iy (p:PtQ) (k:Nat) [h:BPt p k]:BQ p.y k:=h.y
instance BPt.dir (l:LnQ) [LB l]:BPt l.dir 97:=⟨inferInstanceAs (BQ (l.b:Rat) 97),inferInstanceAs (BQ (-(l.a:Rat)) 97)⟩
instance BQ.dot (p q:PtQ) (i j:Nat) [BPt p i] [BPt q j]:BQ (p.dot q) (i+j+(i+j)+1):=inferInstanceAs (BQ (p.x*q.x+p.y*q.y) _)
instance BQ.cross (p q:PtQ) (i j:Nat) [BPt p i] [BPt q j]:BQ (p.cross q) (i+j+(i+j)+1):=inferInstanceAs (BQ (p.x*q.y-p.y*q.x) _)
instance BPt.mov (p q:PtQ) (c:Rat) (i j k:Nat) [BPt p i] [BPt q j] [BQ c k]:BPt (movQ p q c) (i+(k+j)+1):=⟨inferInstanceAs (BQ (p.x+c*q.x) _),inferInstanceAs (BQ (p.y+c*q.y) _)⟩
instance BQ.value (l:LnQ) (p:PtQ) (i:Nat) [LB l] [BPt p i]:BQ (l.value p) (96+1+i+(96+1+i)+1+(96+1)+1):=inferInstanceAs (BQ ((l.a:Rat)*p.x+(l.b:Rat)*p.y+(l.c:Rat)) _)
theorem dd_ne{l:LnQ}(h:l.Ne):l.dir.dot l.dir≠0:=by have:=dd_pos h;grind
theorem q_Dir{GB:Gh}{l:LnQ}:PF GB Tryz.prog 162 [eL l] (eP l.dir):=by
 refine fn Tryz.func162 rfl rfl Tryz.ntmps162 rfl rfl (fun C=>?_)
 refine cl rfl q_sq rfl<|cl rfl q_sq rfl<|cl rfl q_Opp rfl<|?_
 exact rz rfl rfl
theorem q_Dot{GB:Gh}{p q:PtQ}{i j:Nat}[hp:BPt p i][hq:BPt q j](hi:i≤200000:=by decide)(hj:j≤200000:=by decide):PF GB Tryz.prog 190 [eP p,eP q] (eQ (p.dot q)):=by
 refine fn Tryz.func190 rfl rfl Tryz.ntmps190 rfl rfl (fun C=>?_)
 refine cl rfl (q_Times (by omega) (by omega)) rfl<|cl rfl (q_Times (by omega) (by omega)) rfl<|cl rfl (q_Plus (by omega) (by omega)) rfl<|?_
 exact rz rfl rfl
theorem q_Cross{GB:Gh}{p q:PtQ}{i j:Nat}[hp:BPt p i][hq:BPt q j](hi:i≤200000:=by decide)(hj:j≤200000:=by decide):PF GB Tryz.prog 166 [eP p,eP q] (eQ (p.cross q)):=by
 refine fn Tryz.func166 rfl rfl Tryz.ntmps166 rfl rfl (fun C=>?_)
 refine cl rfl (q_Times (by omega) (by omega)) rfl<|cl rfl (q_Times (by omega) (by omega)) rfl<|cl rfl (q_Sub (by omega) (by omega)) rfl<|?_
 exact rz rfl rfl
theorem q_PAdd{GB:Gh}{p q:PtQ}{c:Rat}{i j k:Nat}[hp:BPt p i][hq:BPt q j][hc:BQ c k](hi:i≤200000:=by decide)(hj:j≤200000:=by decide)(hk:k≤200000:=by decide):PF GB Tryz.prog 64 [eP p,eQ c,eP q] (eP (movQ p q c)):=by
 refine fn Tryz.func64 rfl rfl Tryz.ntmps64 rfl rfl (fun C=>?_)
 refine cl rfl (q_Times (by omega) (by omega)) rfl<|cl rfl (q_Plus (by omega) (by omega)) rfl<|cl rfl (q_Times (by omega) (by omega)) rfl<|cl rfl (q_Plus (by omega) (by omega)) rfl<|?_
 exact rz rfl rfl
theorem q_Value{GB:Gh}{l:LnQ}{p:PtQ}{i:Nat}[hl:LB l][hp:BPt p i](hi:i≤400000:=by decide):PF GB Tryz.prog 194 [eL l,eP p] (eQ (l.value p)):=by
 refine fn Tryz.func194 rfl rfl Tryz.ntmps194 rfl rfl (fun C=>?_)
 refine cl rfl (q_sq (z:=l.a)) rfl<|cl rfl (q_Times (by omega) (by omega)) rfl<|cl rfl (q_sq (z:=l.b)) rfl<|cl rfl (q_Times (by omega) (by omega)) rfl<|?_
 refine cl rfl (q_Plus (by omega) (by omega)) rfl<|cl rfl (q_sq (z:=l.c)) rfl<|cl rfl (q_Plus (by omega) (by omega)) rfl<|?_
 exact rz rfl rfl
theorem q_Side{GB:Gh}{l:LnQ}{p:PtQ}{i:Nat}[hl:LB l][hp:BPt p i](hi:i≤400000:=by decide):PF GB Tryz.prog 137 [eL l,eP p] (vI (l.value p).num.sign):=by
 refine fn Tryz.func137 rfl rfl Tryz.ntmps137 rfl rfl (fun C=>?_)
 refine cl rfl (q_Value hi) rfl<|cl rfl q_S rfl<|?_
 exact rz rfl rfl
theorem q_Base{GB:Gh}{l:LnQ}[hl:LB l](hn:l.Ne):PF GB Tryz.prog 129 [eL l] (eP l.base):=by
 refine fn Tryz.func129 rfl rfl Tryz.ntmps129 rfl rfl (fun C=>?_)
 refine cl rfl q_Dir rfl<|cl rfl (q_sq (z:=l.c)) rfl<|cl rfl q_Dot rfl<|cl rfl (q_Over (dd_ne hn)) rfl<|cl rfl q_Opp rfl<|cl rfl (q_sq (z:=l.a)) rfl<|?_
 refine cl rfl q_Times rfl<|cl rfl (q_sq (z:=l.b)) rfl<|cl rfl q_Times rfl<|?_
 exact rz rfl (by rw[←base_ref];rfl)
instance BPt.base (l:LnQ) [LB l]:BPt l.base 900:=by
 rw[←base_ref]
 constructor
 ·exact BQ.mono (inferInstance:BQ (-((l.c:Rat)/l.dir.dot l.dir)*(l.a:Rat)) _) (by decide)
 ·exact BQ.mono (inferInstance:BQ (-((l.c:Rat)/l.dir.dot l.dir)*(l.b:Rat)) _) (by decide)
theorem q_At{GB:Gh}{l:LnQ}{t:Rat}{k:Nat}[hl:LB l][ht:BQ t k](hn:l.Ne)(hk:k≤200000:=by decide):PF GB Tryz.prog 197 [eL l,eQ t] (eP (l.at t)):=by
 refine fn Tryz.func197 rfl rfl Tryz.ntmps197 rfl rfl (fun C=>?_)
 refine cl rfl (q_Base hn) rfl<|cl rfl q_Dir rfl<|cl rfl (q_PAdd (by decide) (by decide) hk) rfl<|?_
 exact rz rfl (by rw[←at_ref];rfl)
theorem q_Param{GB:Gh}{l:LnQ}{p:PtQ}{k:Nat}[hl:LB l][hp:BPt p k](hn:l.Ne)(hk:k≤200000:=by decide):PF GB Tryz.prog 219 [eL l,eP p] (eQ (paramQ l p)):=by
 refine fn Tryz.func219 rfl rfl Tryz.ntmps219 rfl rfl (fun C=>?_)
 refine cl rfl q_Dir rfl<|cl rfl (q_Dot (by omega) (by decide)) rfl<|cl rfl (q_Dot (by omega) (by decide)) rfl<|cl rfl (q_Over (dd_ne hn) (by omega) (by decide)) rfl<|?_
 exact rz rfl rfl
instance BI.crossI (l m:LnQ) [LB l] [LB m]:BI (crossI l m) 385:=inferInstanceAs (BI (l.a*m.b-m.a*l.b) 385)
instance BI.meetX (l m:LnQ) [LB l] [LB m]:BI (meetX l m) 385:=inferInstanceAs (BI (l.b*m.c-m.b*l.c) 385)
instance BI.meetY (l m:LnQ) [LB l] [LB m]:BI (meetY l m) 385:=inferInstanceAs (BI (m.a*l.c-l.a*m.c) 385)
instance BPt.imeet (l m:LnQ) [LB l] [LB m]:BPt (meetP l m) 772:=by
 unfold meetP
 split
 ·exact⟨BQ.mono (k:=1) ⟨by decide,by decide⟩ (by decide),BQ.mono (k:=1) ⟨by decide,by decide⟩ (by decide)⟩
 ·exact⟨inferInstanceAs (BQ ((meetX l m:Rat)/(crossI l m:Rat)) 772),inferInstanceAs (BQ ((meetY l m:Rat)/(crossI l m:Rat)) 772)⟩
theorem cross_zero(l m:LnQ):(((l.a:Rat)*(m.b:Rat)-(m.a:Rat)*(l.b:Rat)).num.sign=0)↔crossI l m=0:=by
 rw[sgn_zero,←cross_cast]
 exact Rat.intCast_eq_zero_iff
theorem cross_ne{l m:LnQ}(h:crossI l m≠0):(l.a:Rat)*(m.b:Rat)-(m.a:Rat)*(l.b:Rat)≠0:=by
 rw[←cross_cast]
 exact fun e=>h (Rat.intCast_eq_zero_iff.1 e)
set_option maxHeartbeats 1000000 in
theorem q_Meet{GB:Gh}{l m:LnQ}[hl:LB l][hm:LB m]:PF GB Tryz.prog 130 [eL l,eL m] (.tp [eP (meetP l m),vB (decide (crossI l m≠0))]):=by
 refine fn Tryz.func130 rfl rfl Tryz.ntmps130 rfl rfl (fun C=>?_)
 refine cl rfl (q_sq (z:=l.a)) rfl<|cl rfl (q_sq (z:=m.b)) rfl<|cl rfl q_Times rfl<|cl rfl (q_sq (z:=m.a)) rfl<|cl rfl (q_sq (z:=l.b)) rfl<|?_
 refine cl rfl q_Times rfl<|cl rfl q_Sub rfl<|cl rfl q_S rfl<|?_
 refine br rfl rfl rfl (fun hc26=>?_) (fun hc26=>?_)
 ·
  have hcr:=(cross_zero l m).1 hc26
  exact rz rfl (by unfold meetP;rw[if_pos hcr,decide_eq_false (fun e=>e hcr)];show DV.tp [.ag [_, .sl [], .sl [],_, .sl [], .sl []],_]= .tp [eP ⟨0,0⟩,_];unfold eP dD;simp only[show(0:Rat).num=0 from rfl,show(0:Rat).den=1 from rfl,Int.natAbs_zero,dN_zero];rfl)
 ·
  have hcr:crossI l m≠0:=fun e=>hc26 ((cross_zero l m).2 e)
  refine cl rfl (q_sq (z:=l.b)) rfl<|cl rfl (q_sq (z:=m.c)) rfl<|cl rfl q_Times rfl<|cl rfl (q_sq (z:=m.b)) rfl<|cl rfl (q_sq (z:=l.c)) rfl<|?_
  refine cl rfl q_Times rfl<|cl rfl q_Sub rfl<|cl rfl (q_sq (z:=m.a)) rfl<|cl rfl (q_sq (z:=l.c)) rfl<|cl rfl q_Times rfl<|cl rfl (q_sq (z:=l.a)) rfl<|?_
  refine cl rfl (q_sq (z:=m.c)) rfl<|cl rfl q_Times rfl<|cl rfl q_Sub rfl<|cl rfl (q_Over (cross_ne hcr)) rfl<|cl rfl (q_Over (cross_ne hcr)) rfl<|?_
  exact rz rfl (by unfold meetP;rw[if_neg hcr,decide_eq_true hcr,meetX_cast,meetY_cast,cross_cast];rfl)
def lcmp(l m:LnQ):Int:=if(l.a-m.a).sign≠0 then(l.a-m.a).sign else if(l.b-m.b).sign≠0 then(l.b-m.b).sign else(l.c-m.c).sign
theorem lcmp_zero(l m:LnQ):lcmp l m=0↔l=m:=by
 unfold lcmp
 constructor
 ·intro h
  split at h
  ·contradiction
  ·split at h
   ·contradiction
   ·rename_i h1 h2
    have a1:=Int.sign_eq_zero_iff_zero.1 (Decidable.not_not.1 h1)
    have a2:=Int.sign_eq_zero_iff_zero.1 (Decidable.not_not.1 h2)
    have a3:=Int.sign_eq_zero_iff_zero.1 h
    exact LnQ.ext' (by omega) (by omega) (by omega)
 ·rintro rfl
  simp
theorem q_LCmp{GB:Gh}{l m:LnQ}[hl:LB l][hm:LB m]:PF GB Tryz.prog 136 [eL l,eL m] (vI (lcmp l m)):=by
 refine fn Tryz.func136 rfl rfl Tryz.ntmps136 rfl rfl (fun C=>?_)
 refine cl rfl (q_CompareI (a:=l.a) (b:=m.a)) rfl<|?_
 refine br rfl rfl rfl (fun hc13=>?_) (fun hc13=>?_)
 ·
  exact rz rfl (by show vI _=_;unfold lcmp;rw[if_pos hc13])
 ·
  refine cl rfl (q_CompareI (a:=l.b) (b:=m.b)) rfl<|?_
  refine br rfl rfl rfl (fun hc21=>?_) (fun hc21=>?_)
  ·
   exact rz rfl (by show vI _=_;unfold lcmp;rw[if_neg hc13,if_pos hc21])
  ·
   refine cl rfl (q_CompareI (a:=l.c) (b:=m.c)) rfl<|?_
   exact rz rfl (by show vI _=_;unfold lcmp;rw[if_neg hc13,if_neg hc21])
end Go.Sx
end

section
set_option maxRecDepth 100000
namespace Go.Sx
open Go Go.Proofs
theorem q_half{GB:Gh}{v:PtQ}:PF GB Tryz.prog 217 [eP v] (vI v.half):=by
 refine fn Tryz.func217 rfl rfl Tryz.ntmps217 rfl rfl (fun C=>?_)
 refine cl rfl (q_S (q:=v.x)) rfl<|cl rfl (q_S (q:=v.y)) rfl<|?_
 refine cs 13 rfl rfl rfl (fun hg13=>?_) (fun hg13=>?_)
 ·
  refine br rfl rfl rfl (fun hc16=>?_) (fun hc16=>?_)
  ·
   exact rz rfl (by show vI _=vI _;unfold PtQ.half;generalize v.x.num.sign=sx at*;generalize v.y.num.sign=sy at*;congr 1;(repeat' split)<;>omega)
  ·
   refine cs 19 rfl rfl rfl (fun hg19=>?_) (fun hg19=>?_)
   ·
    exact rz rfl (by show vI _=vI _;unfold PtQ.half;generalize v.x.num.sign=sx at*;generalize v.y.num.sign=sy at*;congr 1;(repeat' split)<;>omega)
   ·
    refine cs 22 rfl rfl rfl (fun hg22=>?_) (fun hg22=>?_)
    ·
     refine br rfl rfl rfl (fun hc26=>?_) (fun hc26=>?_)
     ·
      exact rz rfl (by show vI _=vI _;unfold PtQ.half;generalize v.x.num.sign=sx at*;generalize v.y.num.sign=sy at*;congr 1;(repeat' split)<;>omega)
     ·
      exact rz rfl (by show vI _=vI _;unfold PtQ.half;generalize v.x.num.sign=sx at*;generalize v.y.num.sign=sy at*;congr 1;(repeat' split)<;>omega)
    ·
     exact rz rfl (by show vI _=vI _;unfold PtQ.half;generalize v.x.num.sign=sx at*;generalize v.y.num.sign=sy at*;congr 1;(repeat' split)<;>omega)
 ·
  refine cs 19 rfl rfl rfl (fun hg19=>?_) (fun hg19=>?_)
  ·
   exact rz rfl (by show vI _=vI _;unfold PtQ.half;generalize v.x.num.sign=sx at*;generalize v.y.num.sign=sy at*;congr 1;(repeat' split)<;>omega)
  ·
   refine cs 22 rfl rfl rfl (fun hg22=>?_) (fun hg22=>?_)
   ·
    refine br rfl rfl rfl (fun hc26=>?_) (fun hc26=>?_)
    ·
     exact rz rfl (by show vI _=vI _;unfold PtQ.half;generalize v.x.num.sign=sx at*;generalize v.y.num.sign=sy at*;congr 1;(repeat' split)<;>omega)
    ·
     exact rz rfl (by show vI _=vI _;unfold PtQ.half;generalize v.x.num.sign=sx at*;generalize v.y.num.sign=sy at*;congr 1;(repeat' split)<;>omega)
   ·
    exact rz rfl (by show vI _=vI _;unfold PtQ.half;generalize v.x.num.sign=sx at*;generalize v.y.num.sign=sy at*;congr 1;(repeat' split)<;>omega)
theorem sgn_bd(z:Int): -1≤z.sign∧z.sign≤1:=by
 rcases Int.lt_trichotomy z 0 with h|h|h
 ·rw[Int.sign_eq_neg_one_of_neg h];omega
 ·rw[h];decide
 ·rw[Int.sign_eq_one_of_pos h];omega
theorem q_Angle{GB:Gh}{u v:PtQ}{i j:Nat}[hu:BPt u i][hv:BPt v j](hi:i≤200000:=by decide)(hj:j≤200000:=by decide):PF GB Tryz.prog 164 [eP u,eP v] (vI (angleQ u v)):=by
 refine fn Tryz.func164 rfl rfl Tryz.ntmps164 rfl rfl (fun C=>?_)
 refine cl rfl (q_half (v:=u)) rfl<|cl rfl (q_half (v:=v)) rfl<|?_
 refine br rfl rfl rfl (fun hc13=>?_) (fun hc13=>?_)
 ·
  refine br rfl rfl rfl (fun hc16=>?_) (fun hc16=>?_)
  ·
   exact rz rfl (by show vI _=vI _;unfold angleQ;rw[if_pos hc16])
  ·
   exact rz rfl (by show vI _=vI _;unfold angleQ;rw[if_neg hc16,if_pos (by omega)])
 ·
  refine cl rfl (q_Cross hi hj) rfl<|cl (hv:=by simp only[allP];exact(by have:=sgn_bd (u.cross v).num;omega)) rfl q_S rfl<|?_
  exact rz rfl (by show vI _=vI _;unfold angleQ;rw[if_neg (by omega),if_neg (by omega)])
instance BQ.i1:BQ (((1:Int):Rat)) 2:=⟨by decide,by decide⟩
def eV(v:IvQ):DV:= .ag [.v (.bool (decide (v.lo.num<0))),dN v.lo.num.natAbs,dD v.lo.den, .v (.bool (decide (v.hi.num<0))),dN v.hi.num.natAbs,dD v.hi.den, .v (.bool v.nl), .v (.bool v.nh)]
theorem eV_all:eV IvQ.all= .ag [.v (.bool false), .sl [], .sl [], .v (.bool false), .sl [], .sl [], .v (.bool true), .v (.bool true)]:=by
 unfold eV IvQ.all dD
 simp only[show(0:Rat).num=0 from rfl,show(0:Rat).den=1 from rfl,Int.natAbs_zero,dN_zero];rfl
theorem eQ_zero:eQ 0= .ag [.v (.bool false), .sl [], .sl []]:=by
 unfold eQ dD
 simp only[show(0:Rat).num=0 from rfl,show(0:Rat).den=1 from rfl,Int.natAbs_zero,dN_zero];rfl
def sampleR(v:IvQ):Rat:=if v.nl=true∧v.nh=true then 0 else if v.nl=true then v.hi-1 else if v.nh=true then v.lo+1 else(v.lo+v.hi)/2
theorem q_Full{GB:Gh}:PF GB Tryz.prog 240 [] (eV IvQ.all):=by
 refine fn Tryz.func240 rfl rfl Tryz.ntmps240 rfl rfl (fun C=>?_)
 exact rz rfl (by rw[eV_all];rfl)
theorem q_Sample{GB:Gh}{v:IvQ}{i:Nat}[hl:BQ v.lo i][hh:BQ v.hi i](hi:i≤100000:=by decide):PF GB Tryz.prog 198 [eV v] (eQ (sampleR v)):=by
 refine fn Tryz.func198 rfl rfl Tryz.ntmps198 rfl rfl (fun C=>?_)
 refine csb 6 rfl rfl rfl (fun hg6=>?_) (fun hg6=>?_)
 ·
  refine bb rfl rfl rfl (fun hc3=>?_) (fun hc3=>?_)
  ·
   exact rz rfl (by unfold sampleR;rw[if_pos ⟨hg6,hc3⟩,eQ_zero];rfl)
  ·
   refine bb rfl rfl rfl (fun hc11=>?_) (fun hc11=>?_)
   ·
    refine cl rfl (q_Of (n:=1) (by decide) (by decide)) rfl<|cl rfl (q_Sub (a:=v.hi) (b:=((1:Int):Rat)) (by omega) (by decide)) rfl<|?_
    exact rz rfl (by unfold sampleR;rw[if_neg (by simp[hc3]),if_pos hc11];rfl)
   ·
    refine bb rfl rfl rfl (fun hc18=>?_) (fun hc18=>?_)
    ·
     refine cl rfl (q_Of (n:=1) (by decide) (by decide)) rfl<|cl rfl (q_Plus (a:=v.lo) (b:=((1:Int):Rat)) (by omega) (by decide)) rfl<|?_
     exact rz rfl (by simp[hg6] at hc11)
    ·
     refine cl rfl (q_Mid (a:=v.lo) (b:=v.hi) (by omega) (by omega)) rfl<|?_
     exact rz rfl (by simp[hg6] at hc11)
 ·
  refine bb rfl rfl rfl (fun hc11=>?_) (fun hc11=>?_)
  ·
   refine cl rfl (q_Of (n:=1) (by decide) (by decide)) rfl<|cl rfl (q_Sub (a:=v.hi) (b:=((1:Int):Rat)) (by omega) (by decide)) rfl<|?_
   exact rz rfl (by simp[hg6] at hc11)
  ·
   refine bb rfl rfl rfl (fun hc18=>?_) (fun hc18=>?_)
   ·
    refine cl rfl (q_Of (n:=1) (by decide) (by decide)) rfl<|cl rfl (q_Plus (a:=v.lo) (b:=((1:Int):Rat)) (by omega) (by decide)) rfl<|?_
    exact rz rfl (by unfold sampleR;rw[if_neg (by simp[hg6]),if_neg (by simp[hg6]),if_pos hc18];rfl)
   ·
    refine cl rfl (q_Mid (a:=v.lo) (b:=v.hi) (by omega) (by omega)) rfl<|?_
    exact rz rfl (by unfold sampleR;rw[if_neg (by simp[hg6]),if_neg (by simp[hg6]),if_neg (by simp[hc18])];rfl)
end Go.Sx
end

section
set_option maxRecDepth 100000
namespace Go.Sx
open Go Go.Proofs
theorem BQ.of_fracI{q:Rat}{n D:Int}{i:Nat}(hd:0<D.natAbs)(h:q*((D.natAbs:Nat):Rat)=(n:Rat))(hn:BI n i)(hD:BI D i):BQ q i:=BQ.of_frac hd h hn.h hD.h
theorem biMono{m:Int}{i j:Nat}(h:BI m i)(hij:i≤j):BI m j:=⟨Nat.lt_of_lt_of_le h.h (Nat.pow_le_pow_right (by decide) hij)⟩
theorem param_bd{l m:LnQ}[LB l][LB m](hn:l.Ne)(h:crossI l m≠0):BQ (paramQ l (meetP l m)) 1200:=by
 have e:=param_frac hn h
 have hA:BI (crossI l m*(l.a*l.a+l.b*l.b)) _:=inferInstance
 have hB:BI (meetX l m*l.b-meetY l m*l.a) _:=inferInstance
 have hne:crossI l m*(l.a*l.a+l.b*l.b)≠0:=by
  intro q
  rcases Int.mul_eq_zero.1 q with q|q
  ·exact h q
  ·have h1:=dd_pos hn
   simp only[LnQ.dir,PtQ.dot] at h1
   have h2:((l.a*l.a+l.b*l.b:Int):Rat)=((0:Int):Rat):=by rw[q]
   rw[Rat.intCast_add,Rat.intCast_mul,Rat.intCast_mul] at h2
   have h3:((0:Int):Rat)=0:=rfl
   rw[h3] at h2
   grind
 have hA':=biMono (j:=1200) hA (by decide)
 have hB':=biMono (j:=1200) hB (by decide)
 generalize crossI l m*(l.a*l.a+l.b*l.b)=D at*
 generalize meetX l m*l.b-meetY l m*l.a=M at*
 by_cases hD:0<D
 ·refine BQ.of_fracI (n:=M) (D:=D) (by omega) ?_ hB' hA'
  rw[←e]
  congr 1
  have:((D.natAbs:Nat):Int)=D:=by omega
  rw[←this];rfl
 ·refine BQ.of_fracI (n:= -M) (D:=D) (by omega) ?_ (BI.neg M 1200 (h:=hB')) hA'
  rw[Rat.intCast_neg,←e]
  have:((D.natAbs:Nat):Rat)= -(D:Rat):=by
   have h1:((D.natAbs:Nat):Int)= -D:=by omega
   rw[←Rat.intCast_neg,←h1];rfl
  rw[this];grind
theorem sgn_le(k:Rat):k.num.sign≤0↔ ¬0<k:=by rw[←sgn_pos];omega
theorem empty_of{w:IvQ}(h1: ¬w.nl=true)(h2: ¬w.nh=true)(h3:0≤rcmp w.lo w.hi):w.empty=true:=by
 unfold IvQ.empty
 simp[h1,h2,h3]
theorem not_empty_nl{w:IvQ}(h:w.nl=true):w.empty=false:=by unfold IvQ.empty;simp[h]
theorem not_empty_nh{w:IvQ}(h:w.nh=true):w.empty=false:=by unfold IvQ.empty;simp[h]
theorem not_empty_lt{w:IvQ}(h: ¬0≤rcmp w.lo w.hi):w.empty=false:=by unfold IvQ.empty;simp[h]
def edgeV(l:LnQ):List LnQ→IvQ→IvQ×Bool
 |[],v=>(v,true)
 |m::t,v=>if m=l then edgeV l t v else if l.cutB v m=true then edgeV l t (l.cutV v m) else(l.cutV v m,false)
theorem edgeV_snd{l:LnQ}: ∀{c:List LnQ} {v:IvQ},(edgeV l c v).2=(partL l c v).isSome
 |[],v=>rfl
 |m::t,v=>by
  rw[edgeV,partL_cons]
  split
  ·exact edgeV_snd
  ·split
   ·exact edgeV_snd
   ·rfl
structure Stp (l:LnQ) (c:List LnQ) (k:Nat) (v:IvQ):Prop where
 le:k≤c.length
 p:partL l (c.drop k) v=partL l c IvQ.all
 e:edgeV l (c.drop k) v=edgeV l c IvQ.all
 z:IvZ v
 lo:BQ v.lo 1200
 hi:BQ v.hi 1200
theorem Stp.skip{l:LnQ}{c:List LnQ}{k:Nat}{v:IvQ}(h:Stp l c k v)(hk:k<c.length)(e:c[k]=l):Stp l c (k+1) v:=
 ⟨hk,by have:=h.p;rw[List.drop_eq_getElem_cons hk,partL_cons,if_pos e] at this;exact this,by have:=h.e;rw[List.drop_eq_getElem_cons hk,edgeV,if_pos e] at this;exact this,h.z,h.lo,h.hi⟩
theorem Stp.cut{l:LnQ}{c:List LnQ}{k:Nat}{v w:IvQ}(h:Stp l c k v)(hk:k<c.length)(e:c[k]≠l)(hb:l.cutB v c[k]=true)(hw:l.cutV v c[k]=w)(z:IvZ w)(lo:BQ w.lo 1200)(hi:BQ w.hi 1200):Stp l c (k+1) w:=
 ⟨hk,by have:=h.p;rw[List.drop_eq_getElem_cons hk,partL_cons,if_neg e,if_pos hb,hw] at this;exact this,by have:=h.e;rw[List.drop_eq_getElem_cons hk,edgeV,if_neg e,if_pos hb,hw] at this;exact this,z,lo,hi⟩
theorem Stp.no{l:LnQ}{c:List LnQ}{k:Nat}{v w:IvQ}(h:Stp l c k v)(hk:k<c.length)(e:c[k]≠l)(hb:l.cutB v c[k]=false)(hw:l.cutV v c[k]=w):edgeV l c IvQ.all=(w,false):=by
 rw[←h.e,List.drop_eq_getElem_cons hk,edgeV,if_neg e,if_neg (by rw[hb];decide),hw]
theorem Stp.yes{l:LnQ}{c:List LnQ}{k:Nat}{v:IvQ}(h:Stp l c k v)(hk:c.length≤k):edgeV l c IvQ.all=(v,true):=by
 rw[←h.e,List.drop_eq_nil_of_le hk];rfl
theorem Stp.all{l:LnQ}{c:List LnQ}:Stp l c 0 IvQ.all:=⟨Nat.zero_le _,by rw[List.drop_zero],by rw[List.drop_zero],IvZ.all,BQ.mono (k:=1) ⟨by decide,by decide⟩ (by decide),BQ.mono (k:=1) ⟨by decide,by decide⟩ (by decide)⟩
theorem updLo_y{v:IvQ}{t:Rat}(h:v.nl=true∨0<rcmp t v.lo):(⟨t,v.hi,false,v.nh⟩:IvQ)=updLo v t:=by unfold updLo;rw[if_pos h]
theorem updLo_n{v:IvQ}{t:Rat}(h: ¬v.nl=true)(h2: ¬0<rcmp t v.lo):v=updLo v t:=by unfold updLo;rw[if_neg (fun e=>e.elim h h2)]
theorem updHi_y{v:IvQ}{t:Rat}(h:v.nh=true∨rcmp t v.hi<0):(⟨v.lo,t,v.nl,false⟩:IvQ)=updHi v t:=by unfold updHi;rw[if_pos h]
theorem updHi_n{v:IvQ}{t:Rat}(h: ¬v.nh=true)(h2: ¬rcmp t v.hi<0):v=updHi v t:=by unfold updHi;rw[if_neg (fun e=>e.elim h h2)]
def updB(l m:LnQ)(v:IvQ):IvQ:=if 0<(m.dir.cross l.dir).num.sign then updLo v (paramQ l (meetP l m)) else updHi v (paramQ l (meetP l m))
theorem updB_spec{l m:LnQ}{v:IvQ}[LB l][LB m](hn:l.Ne)(hz:IvZ v)(hlo:BQ v.lo 1200)(hhi:BQ v.hi 1200)(h0:crossI l m≠0):l.cutV v m=updB l m v∧l.cutB v m=!(updB l m v).empty∧IvZ (updB l m v)∧BQ (updB l m v).lo 1200∧BQ (updB l m v).hi 1200:=by
 have hb:=param_bd (l:=l) (m:=m) hn h0
 unfold updB
 split
 ·rename_i h
  obtain⟨_,h1,h2⟩:=step_lo hn hz ((sgn_pos _).1 h)
  refine⟨h1,h2,hz.lo' _,?_⟩
  unfold updLo;split
  ·exact⟨hb,hhi⟩
  ·exact⟨hlo,hhi⟩
 ·rename_i h
  obtain⟨h1,h2⟩:=step_hi hn hz h0 (fun e=>h ((sgn_pos _).2 e))
  refine⟨h1,h2,hz.hi' _,?_⟩
  unfold updHi;split
  ·exact⟨hlo,hb⟩
  ·exact⟨hlo,hhi⟩
theorem edgeV_bd{l:LnQ}[LB l](hn:l.Ne): ∀{c:List LnQ} {v:IvQ},(∀m∈c,LB m)→IvZ v→BQ v.lo 1200→BQ v.hi 1200→BQ (edgeV l c v).1.lo 1200∧BQ (edgeV l c v).1.hi 1200
 |[],v,_,_,h1,h2=>⟨h1,h2⟩
 |m::t,v,hc,hz,h1,h2=>by
  haveI:=hc m List.mem_cons_self
  have hw:IvZ (l.cutV v m)∧BQ (l.cutV v m).lo 1200∧BQ (l.cutV v m).hi 1200:=by
   by_cases h0:crossI l m=0
   ·rw[(step_par (v:=v) h0).1];exact⟨hz,h1,h2⟩
   ·obtain⟨u1,_,u3,u4,u5⟩:=updB_spec (v:=v) hn hz h1 h2 h0
    rw[u1];exact⟨u3,u4,u5⟩
  have hc':=fun m hm=>hc m (List.mem_cons_of_mem _ hm)
  rw[edgeV]
  split
  ·exact edgeV_bd hn hc' hz h1 h2
  ·split
   ·exact edgeV_bd hn hc' hw.1 hw.2.1 hw.2.2
   ·exact hw.2
set_option maxHeartbeats 4000000 in
theorem q_edge{GB:Gh}{c:List LnQ}{i:Nat}(hc: ∀m∈c,LB m)(hok: ∀m∈c,m.ok)(hn:c.length≤1000)(hi:i<c.length):PF GB Tryz.prog 195 [.sl (c.map eL),vI (i:Nat)] (.tp [eV (edgeV (c[i]'hi) c IvQ.all).1,vB (edgeV (c[i]'hi) c IvQ.all).2]):=by
 have hcl:=mapL_len c
 obtain⟨l,hl⟩: ∃l,l=c[i]:=⟨_,rfl⟩
 rw[←hl]
 haveI hlb:LB l:=hl▸hc _ (List.getElem_mem hi)
 have hlo:l.ok:=hl▸hok _ (List.getElem_mem hi)
 refine fn Tryz.func195 rfl rfl Tryz.ntmps195 rfl rfl (fun C=>?_)
 refine ix (fu:=⟨1⟩) _ rfl (mapL_get hi) rfl<|?_
 refine eqF 16 (.d (eL l)) rfl (by rw[hl];rfl) ?_
 refine gx rfl<|cl (fu:=⟨9⟩) rfl q_Full rfl<|?_
 refine eqF 19 (.d (vI (c.length:Nat))) rfl (by rw[hcl];rfl) ?_
 refine gx rfl<|?_
 refine lp (X:=IvQ×Nat) (fun⟨v,k⟩=>[(20, .d (vI (k:Nat))),(19, .d (vI (c.length:Nat))),(18, .d (.sl (c.map eL))),(1, .d (vI (i:Nat))),(6, .ov 6 0),(7, .ov 7 0),(4, .ov 4 0)]) (fun⟨v,k⟩=>[(7,some (.o 184 [.d ((.v (.bool (decide (v.lo.num<0))))), .d (dN v.lo.num.natAbs), .d (dD v.lo.den), .d ((.v (.bool (decide (v.hi.num<0))))), .d (dN v.hi.num.natAbs), .d (dD v.hi.den), .d ((.v (.bool v.nl))), .d ((.v (.bool v.nh)))] true)),(6,some (.o 46 [.d ((.v (.bool (decide (l.a<0))))), .d (dN l.a.natAbs), .d ((.v (.bool (decide (l.b<0))))), .d (dN l.b.natAbs), .d ((.v (.bool (decide (l.c<0))))), .d (dN l.c.natAbs)] true)),(4,some (.o 184 [.ff, .nl, .nl, .ff, .nl, .nl, .ff, .ff] true))]) (fun⟨v,k⟩=>Stp l c k v) (fun⟨v,k⟩=>c.length-k) ⟨IvQ.all,0⟩ rfl Stp.all (fun _=>rfl) (fun⟨v,k⟩ hk=>?_)
 try dsimp only at hk⊢
 have hS:=hk
 refine br rfl rfl rfl (fun hc21=>?_) (fun hc21=>?_)
 ·
  have hk:k<c.length:=by omega
  obtain⟨m,hm⟩: ∃m,m=c[k]:=⟨_,rfl⟩
  haveI hmb:LB m:=hm▸hc _ (List.getElem_mem hk)
  have hmo:m.ok:=hm▸hok _ (List.getElem_mem hk)
  refine ix (fu:=⟨1⟩) _ rfl (mapL_get hk) rfl<|?_
  refine eqF 24 (.d (eL m)) rfl (by rw[hm];rfl) ?_
  refine gx rfl<|?_
  refine cs 28 rfl rfl rfl (fun hg28=>?_) (fun hg28=>?_)
  ·
   have hinv:Stp l c (k+1) v:=hS.skip hk (by rw[hl];congr 1;omega)
   exact at_ ⟨v,k+1⟩ (by dsimp only;exact⟨hinv,(by omega)⟩)
  ·
   refine cl rfl (q_LCmp (l:=l) (m:=m)) rfl<|?_
   refine br rfl rfl rfl (fun hc33=>?_) (fun hc33=>?_)
   ·
    have hinv:Stp l c (k+1) v:=hS.skip hk (by rw[←hm,(lcmp_zero l m).1 hc33])
    exact at_ ⟨v,k+1⟩ (by dsimp only;exact⟨hinv,(by omega)⟩)
   ·
    have hne:c[k]≠l:=fun e=>hc33 ((lcmp_zero l m).2 (by rw[hm,e]))
    refine cl (fu:=⟨13⟩) rfl (q_Meet (l:=l) (m:=m)) rfl<|?_
    refine eqF 41 (.d (.v (.bool (decide (crossI l m=0))))) rfl (by simp) ?_
    refine gx rfl<|?_
    refine bd rfl rfl rfl (fun hc41=>?_) (fun hc41=>?_)
    ·
     refine cl rfl (q_Base hlo.ne) rfl<|cl rfl (q_Side (l:=m) (p:=l.base)) rfl<|?_
     refine br rfl rfl rfl (fun hc46=>?_) (fun hc46=>?_)
     ·
      have hno:=hS.no (w:=v) hk hne (by have:=(step_par (v:=v) hc41).2;rw[←hm];cases hb:l.cutB v m with|false=>rfl|true=>exact absurd (this.1 hb) ((sgn_le _).1 hc46)) (by rw[←hm];exact(step_par (v:=v) hc41).1)
      exact rz rfl (by rw[hno];rfl)
     ·
      have hinv:Stp l c (k+1) v:=by have:=step_par (v:=v) hc41;exact hS.cut hk hne (by rw[←hm];exact this.2.2 (by have:=mt (sgn_le (m.value l.base)).2 hc46;exact Decidable.not_not.1 this)) (by rw[←hm];exact this.1) hS.z hS.lo hS.hi
      exact at_ ⟨v,k+1⟩ (by dsimp only;exact⟨hinv,(by omega)⟩)
    ·
     obtain⟨u1,u2,u3,u4,u5⟩:=updB_spec (v:=v) hlo.ne hS.z hS.lo hS.hi hc41
     haveI htb:=param_bd hlo.ne hc41
     haveI hvl:=hS.lo
     haveI hvh:=hS.hi
     refine cl (fu:=⟨0⟩) rfl (q_Param (l:=l) (p:=meetP l m) hlo.ne) rfl<|?_
     obtain⟨t,ht⟩: ∃t,t=paramQ l (meetP l m):=⟨_,rfl⟩
     refine eqF 50 (.d (eQ t)) rfl (by rw[ht]) ?_
     rw[←ht] at htb
     refine gx (fu:=⟨5⟩) rfl<|?_
     refine mg (X:=IvQ) (fun w=>[(20, .d (vI (k:Nat))),(19, .d (vI (c.length:Nat))),(18, .d (.sl (c.map eL))),(1, .d (vI (i:Nat))),(6, .ov 6 0),(7, .ov 7 0),(4, .ov 4 0)]) (fun w=>[(7,some (.o 184 [.d ((.v (.bool (decide (w.lo.num<0))))), .d (dN w.lo.num.natAbs), .d (dD w.lo.den), .d ((.v (.bool (decide (w.hi.num<0))))), .d (dN w.hi.num.natAbs), .d (dD w.hi.den), .d ((.v (.bool w.nl))), .d ((.v (.bool w.nh)))] true)),(6,some (.o 46 [.d ((.v (.bool (decide (l.a<0))))), .d (dN l.a.natAbs), .d ((.v (.bool (decide (l.b<0))))), .d (dN l.b.natAbs), .d ((.v (.bool (decide (l.c<0))))), .d (dN l.c.natAbs)] true)),(4,some (.o 184 [.ff, .nl, .nl, .ff, .nl, .nl, .ff, .ff] true))]) (fun w=>w=updB l m v) [20,19,18,1,6,7,4] [7,6,4] rfl ?_ (fun _=>rfl) (fun w hw=>?_)
     ·
      refine gx rfl<|cl rfl (q_Dir (l:=m)) rfl<|cl rfl (q_Dir (l:=l)) rfl<|cl rfl (q_Cross (p:=m.dir) (q:=l.dir)) rfl<|cl rfl (q_S (q:=m.dir.cross l.dir)) rfl<|?_
      refine br rfl rfl rfl (fun hc57=>?_) (fun hc57=>?_)
      ·
       refine csb 60 rfl rfl rfl (fun hg60=>?_) (fun hg60=>?_)
       ·
        refine dpE 7 rfl rfl rfl ?_
        exact at_ ⟨t,v.hi,false,v.nh⟩ (by unfold updB;rw[if_pos hc57,←ht];exact updLo_y (.inl hg60))
       ·
        refine cl rfl (q_C (a:=t) (b:=v.lo)) rfl<|?_
        refine br rfl rfl rfl (fun hc66=>?_) (fun hc66=>?_)
        ·
         refine dpE 7 rfl rfl rfl ?_
         exact at_ ⟨t,v.hi,false,v.nh⟩ (by unfold updB;rw[if_pos hc57,←ht];exact updLo_y (.inr hc66))
        ·
         exact at_ v (by unfold updB;rw[if_pos hc57,←ht];exact updLo_n (by simp[hg60]) hc66)
      ·
       refine csb 72 rfl rfl rfl (fun hg72=>?_) (fun hg72=>?_)
       ·
        refine dpE 7 rfl rfl rfl ?_
        exact at_ ⟨v.lo,t,v.nl,false⟩ (by unfold updB;rw[if_neg hc57,←ht];exact updHi_y (.inl hg72))
       ·
        refine cl rfl (q_C (a:=t) (b:=v.hi)) rfl<|?_
        refine br rfl rfl rfl (fun hc78=>?_) (fun hc78=>?_)
        ·
         refine dpE 7 rfl rfl rfl ?_
         exact at_ ⟨v.lo,t,v.nl,false⟩ (by unfold updB;rw[if_neg hc57,←ht];exact updHi_y (.inr hc78))
        ·
         exact at_ v (by unfold updB;rw[if_neg hc57,←ht];exact updHi_n (by simp[hg72]) hc78)
     ·
      rw[←hw] at u1 u2 u3 u4 u5
      haveI:=u4
      haveI:=u5
      refine csb 85 rfl rfl rfl (fun hg85=>?_) (fun hg85=>?_)
      ·
       refine csb 90 rfl rfl rfl (fun hg90=>?_) (fun hg90=>?_)
       ·
        refine cl rfl (q_C (a:=w.lo) (b:=w.hi)) rfl<|?_
        refine br rfl rfl rfl (fun hc97=>?_) (fun hc97=>?_)
        ·
         have hno:=hS.no (w:=w) hk hne (by rw[←hm,u2,empty_of (by simpa using hg85) (by simpa using hg90) hc97];rfl) (by rw[←hm,u1])
         exact rz rfl (by rw[hno];rfl)
        ·
         have hinv:Stp l c (k+1) w:=hS.cut hk hne (by rw[←hm,u2,not_empty_lt hc97];rfl) (by rw[←hm,u1]) u3 u4 u5
         exact at_ ⟨w,k+1⟩ (by dsimp only;exact⟨hinv,(by omega)⟩)
       ·
        have hinv:Stp l c (k+1) w:=hS.cut hk hne (by rw[←hm,u2,not_empty_nh (by simpa using hg90)];rfl) (by rw[←hm,u1]) u3 u4 u5
        exact at_ ⟨w,k+1⟩ (by dsimp only;exact⟨hinv,(by omega)⟩)
      ·
       have hinv:Stp l c (k+1) w:=hS.cut hk hne (by rw[←hm,u2,not_empty_nl (by simpa using hg85)];rfl) (by rw[←hm,u1]) u3 u4 u5
       exact at_ ⟨w,k+1⟩ (by dsimp only;exact⟨hinv,(by omega)⟩)
 ·
  exact rz rfl (by rw[hS.yes (by omega)];rfl)
end Go.Sx
end

section
set_option maxRecDepth 100000
namespace Go.Sx
open Go Go.Proofs
def eLn(l:LnQ):DV:= .ag [vI (fn_ (l.a:Rat)),vI (fd_ (l.a:Rat)),fp_ (l.a:Rat),vI (fn_ (l.b:Rat)),vI (fd_ (l.b:Rat)),fp_ (l.b:Rat),vI (fn_ (l.c:Rat)),vI (fd_ (l.c:Rat)),fp_ (l.c:Rat)]
def eZ(p:PtQ):DV:= .ag [vI (fn_ p.x),vI (fd_ p.x),fp_ p.x,vI (fn_ p.y),vI (fd_ p.y),fp_ p.y]
def eW(v:IvQ):DV:= .ag [vI (fn_ v.lo),vI (fd_ v.lo),fp_ v.lo,vI (fn_ v.hi),vI (fd_ v.hi),fp_ v.hi, .v (.bool v.nl), .v (.bool v.nh)]
theorem isl_z{G:Gh}{t:List DV}{vs:List Value}(h:IsLs G (vI 0::vI 0:: .v (.pointer none)::t) vs):IsLs G (vI (fn_ 0)::vI (fd_ 0)::fp_ 0::t) vs:=by
 obtain⟨y1,l1,rfl,k1,g1⟩:=isl_cons.1 h
 obtain⟨y2,l2,rfl,k2,g2⟩:=isl_cons.1 g1
 obtain⟨y3,l3,rfl,k3,g3⟩:=isl_cons.1 g2
 have e:decide (Big 0)=false:=decide_eq_false fun h=>big_ne h rfl
 exact .cons k1 (.cons k2 (.cons (is_op.2 (.inl ⟨e,is_v.1 k3⟩)) g3))
theorem isl_z'{G:Gh}(a:List DV){t:List DV}{vs:List Value}(h:IsLs G (a++vI 0::vI 0:: .v (.pointer none)::t) vs):IsLs G (a++vI (fn_ 0)::vI (fd_ 0)::fp_ 0::t) vs:=by
 obtain⟨x,y,rfl,h1,h2⟩:=h.unapp
 exact h1.app (isl_z h2)
theorem is_all(G:Gh)(y:Value)(k:Is G (.ag [vI 0,vI 0, .v (.pointer none),vI 0,vI 0, .v (.pointer none), .v (.bool true), .v (.bool true)]) y):Is G (eW IvQ.all) y:=by
 obtain⟨l,rfl,g⟩:=is_ag.1 k
 exact is_ag.2 ⟨l,rfl,isl_z (isl_z' [vI 0,vI 0, .v (.pointer none)] g)⟩
def orI:List Int→Int
 |[]=>0
 |a::t=>if a≠0 then a else orI t
theorem BPt.nor(l:LnQ)[LB l]:BPt l.nor 97:=⟨inferInstanceAs (BQ (l.a:Rat) 97),inferInstanceAs (BQ (l.b:Rat) 97)⟩
attribute [instance] BPt.nor
instance BPt.scale (p:PtQ) (c:Rat) (i k:Nat) [BPt p i] [BQ c k]:BPt (p.scale c) (i+k):=⟨inferInstanceAs (BQ (p.x*c) _),inferInstanceAs (BQ (p.y*c) _)⟩
instance BPt.add (p q:PtQ) (i j:Nat) [BPt p i] [BPt q j]:BPt (p.add q) (i+j+1):=⟨inferInstanceAs (BQ (p.x+q.x) _),inferInstanceAs (BQ (p.y+q.y) _)⟩
instance LB.revA (l:LnQ) [h:LB l]:LB l.rev:=⟨⟨by rw[show l.rev.a= -l.a from rfl,Int.natAbs_neg];exact h.bl.a,by rw[show l.rev.b= -l.b from rfl,Int.natAbs_neg];exact h.bl.b,by rw[show l.rev.c= -l.c from rfl,Int.natAbs_neg];exact h.bl.c⟩⟩
theorem p_All{GB:Gh}:PF GB Tryz.prog 288 [] (eW IvQ.all):=by
 refine fn Tryz.func288 rfl rfl Tryz.ntmps288 rfl rfl (fun C=>?_)
 exact rzI rfl is_all
theorem p_LNor{GB:Gh}{l:LnQ}:PF GB Tryz.prog 148 [eLn l] (eZ l.nor):=by
 refine fn Tryz.func148 rfl rfl Tryz.ntmps148 rfl rfl (fun C=>?_)
 exact rz rfl rfl
theorem p_LDir{GB:Gh}{l:LnQ}[hl:LB l]:PF GB Tryz.prog 205 [eLn l] (eZ l.dir):=by
 refine fn Tryz.func205 rfl rfl Tryz.ntmps205 rfl rfl (fun C=>?_)
 refine cl rfl (p_FNeg (q:=(l.a:Rat))) rfl<|?_
 exact rz rfl rfl
theorem p_PDot{GB:Gh}{p q:PtQ}{i j:Nat}[hp:BPt p i][hq:BPt q j](hi:i≤40000000:=by decide)(hj:j≤40000000:=by decide):PF GB Tryz.prog 150 [eZ p,eZ q] (eF (p.dot q)):=by
 refine fn Tryz.func150 rfl rfl Tryz.ntmps150 rfl rfl (fun C=>?_)
 refine cl rfl (p_FMul (p:=p.x) (q:=q.x) (by omega) (by omega)) rfl<|cl rfl (p_FMul (p:=p.y) (q:=q.y) (by omega) (by omega)) rfl<|cl rfl (p_FAdd (p:=p.x*q.x) (q:=p.y*q.y) (by omega) (by omega)) rfl<|?_
 exact rz rfl rfl
theorem p_PCross{GB:Gh}{p q:PtQ}{i j:Nat}[hp:BPt p i][hq:BPt q j](hi:i≤40000000:=by decide)(hj:j≤40000000:=by decide):PF GB Tryz.prog 292 [eZ p,eZ q] (eF (p.cross q)):=by
 refine fn Tryz.func292 rfl rfl Tryz.ntmps292 rfl rfl (fun C=>?_)
 refine cl rfl (p_FMul (p:=p.x) (q:=q.y) (by omega) (by omega)) rfl<|cl rfl (p_FMul (p:=p.y) (q:=q.x) (by omega) (by omega)) rfl<|cl rfl (p_FSub (p:=p.x*q.y) (q:=p.y*q.x) (by omega) (by omega)) rfl<|?_
 exact rz rfl rfl
theorem p_PScale{GB:Gh}{p:PtQ}{c:Rat}{i j:Nat}[hp:BPt p i][hc:BQ c j](hi:i≤40000000:=by decide)(hj:j≤40000000:=by decide):PF GB Tryz.prog 157 [eZ p,eF c] (eZ (p.scale c)):=by
 refine fn Tryz.func157 rfl rfl Tryz.ntmps157 rfl rfl (fun C=>?_)
 refine cl rfl (p_FMul (p:=p.x) (q:=c) (by omega) (by omega)) rfl<|cl rfl (p_FMul (p:=p.y) (q:=c) (by omega) (by omega)) rfl<|?_
 exact rz rfl rfl
theorem p_PAdd{GB:Gh}{p q:PtQ}{i j:Nat}[hp:BPt p i][hq:BPt q j](hi:i≤40000000:=by decide)(hj:j≤40000000:=by decide):PF GB Tryz.prog 156 [eZ p,eZ q] (eZ (p.add q)):=by
 refine fn Tryz.func156 rfl rfl Tryz.ntmps156 rfl rfl (fun C=>?_)
 refine cl rfl (p_FAdd (by omega) (by omega)) rfl<|cl rfl (p_FAdd (by omega) (by omega)) rfl<|?_
 exact rz rfl rfl
theorem p_LBase{GB:Gh}{l:LnQ}[hl:LB l]:PF GB Tryz.prog 204 [eLn l] (eZ l.base):=by
 refine fn Tryz.func204 rfl rfl Tryz.ntmps204 rfl rfl (fun C=>?_)
 refine cl rfl p_LNor rfl<|cl rfl (p_FNeg (q:=(l.c:Rat))) rfl<|cl rfl (p_PDot (p:=l.nor) (q:=l.nor)) rfl<|cl rfl (p_FQuo (p:= -(l.c:Rat)) (q:=l.nor.dot l.nor)) rfl<|?_
 refine cl rfl (p_PScale (p:=l.nor)) rfl<|?_
 exact rz rfl rfl
theorem p_LValue{GB:Gh}{l:LnQ}{p:PtQ}{i:Nat}[hl:LB l][hp:BPt p i](hi:i≤10000000:=by decide):PF GB Tryz.prog 153 [eLn l,eZ p] (eF (l.value p)):=by
 refine fn Tryz.func153 rfl rfl Tryz.ntmps153 rfl rfl (fun C=>?_)
 refine cl rfl (p_LNor (l:=l)) rfl<|cl rfl (p_PDot (p:=l.nor) (q:=p) (by omega) (by omega)) rfl<|cl rfl (p_FAdd (p:=l.nor.dot p) (q:=(l.c:Rat)) (by omega) (by omega)) rfl<|?_
 exact rz rfl rfl
theorem p_LSide{GB:Gh}{l:LnQ}{p:PtQ}{i:Nat}[hl:LB l][hp:BPt p i](hi:i≤10000000:=by decide):PF GB Tryz.prog 289 [eLn l,eZ p] (vI (l.value p).num.sign):=by
 refine fn Tryz.func289 rfl rfl Tryz.ntmps289 rfl rfl (fun C=>?_)
 refine cl rfl (p_LValue (l:=l) (p:=p) hi) rfl<|cl rfl (p_FSign (q:=l.value p) (by omega)) rfl<|?_
 exact rz rfl rfl
theorem p_LAt{GB:Gh}{l:LnQ}{t:Rat}{i:Nat}[hl:LB l][ht:BQ t i](hi:i≤10000000:=by decide):PF GB Tryz.prog 146 [eLn l,eF t] (eZ (l.at t)):=by
 refine fn Tryz.func146 rfl rfl Tryz.ntmps146 rfl rfl (fun C=>?_)
 refine cl rfl (p_LBase (l:=l)) rfl<|cl rfl (p_LDir (l:=l)) rfl<|cl rfl (p_PScale (p:=l.dir) (c:=t) (by omega) (by omega)) rfl<|cl rfl (p_PAdd (p:=l.base) (q:=l.dir.scale t) (by omega) (by omega)) rfl<|?_
 exact rz rfl rfl
theorem p_empty{GB:Gh}{v:IvQ}{i j:Nat}[h1:BQ v.lo i][h2:BQ v.hi j](hi:i≤40000000:=by decide)(hj:j≤40000000:=by decide):PF GB Tryz.prog 299 [eW v] (vB v.empty):=by
 refine fn Tryz.func299 rfl rfl Tryz.ntmps299 rfl rfl (fun C=>?_)
 refine csb 6 rfl rfl rfl (fun hg6=>?_) (fun hg6=>?_)
 ·
  refine csb 11 rfl rfl rfl (fun hg11=>?_) (fun hg11=>?_)
  ·
   refine cl rfl (p_FCmp (p:=v.lo) (q:=v.hi) (by omega) (by omega)) rfl<|?_
   exact rz rfl (by unfold IvQ.empty;simp_all [vB,tupD])
  ·
   exact rz rfl (by unfold IvQ.empty;simp_all [vB,tupD])
 ·
  exact rz rfl (by unfold IvQ.empty;simp_all [vB,tupD])
instance IvQ.meet_lo (v w:IvQ) (i j:Nat) [h1:BQ v.lo i] [h3:BQ w.lo j]:BQ (v.meet w).lo (i+j):=by
 have a:=h1.mono (Nat.le_add_right i j)
 have b:=h3.mono (Nat.le_add_left j i)
 unfold IvQ.meet;dsimp only;(repeat' split)<;>assumption
instance IvQ.meet_hi (v w:IvQ) (i j:Nat) [h1:BQ v.hi i] [h3:BQ w.hi j]:BQ (v.meet w).hi (i+j):=by
 have a:=h1.mono (Nat.le_add_right i j)
 have b:=h3.mono (Nat.le_add_left j i)
 unfold IvQ.meet;dsimp only;(repeat' split)<;>assumption
theorem p_Meet{GB:Gh}{v w:IvQ}{i j:Nat}[h1:BQ v.lo i][h2:BQ v.hi i][h3:BQ w.lo j][h4:BQ w.hi j](hi:i≤10000000:=by decide)(hj:j≤10000000:=by decide):PF GB Tryz.prog 290 [eW v,eW w] (.tp [eW (v.meet w),vB (!(v.meet w).empty)]):=by
 refine fn (fu:=⟨16⟩) Tryz.func290 rfl rfl Tryz.ntmps290 rfl rfl (fun C=>?_)
 refine mg (fu:=⟨1⟩) (X:=Unit) (fun _=>[(6, .ov 6 0)]) (fun _=>[(6,some (.o 244 [.d (vI (fn_ (v.meet w).lo)), .d (vI (fd_ (v.meet w).lo)), .d (fp_ (v.meet w).lo), .d (vI (fn_ v.hi)), .d (vI (fd_ v.hi)), .d (fp_ v.hi), .d (.v (.bool (v.nl&&w.nl))), .d (.v (.bool (v.nh)))] true))]) (fun _=>True) [6] [6] rfl ?_ (fun _=>rfl) (fun _ _=>?_)
 ·
  refine gx rfl<|?_
  refine bb (v1:=fun hc8=>by simp only[allP];kernel_rfl) rfl rfl rfl (fun hc8=>?_) (fun hc8=>?_)
  ·
   have em:(v.meet w).lo=w.lo:=by unfold IvQ.meet;simp_all
   have eb:(v.nl&&w.nl)=w.nl:=by simp_all
   exact at_ () trivial (hO:=⟨by rw[em,eb]<;>rfl,by repeat (first|exact trivial|refine And.intro rfl ?_)⟩)
  ·
   refine bb rfl rfl rfl (fun hc17=>?_) (fun hc17=>?_)
   ·
    refine cl rfl (p_FMax (p:=v.lo) (q:=w.lo) (by omega) (by omega)) rfl<|?_
    have em:(v.meet w).lo=(if v.lo<w.lo then w.lo else v.lo):=by unfold IvQ.meet;simp_all
    have eb:(v.nl&&w.nl)=v.nl:=by simp_all
    exact at_ () trivial (hO:=⟨by rw[em,eb]<;>rfl,by repeat (first|exact trivial|refine And.intro rfl ?_)⟩)
   ·
    have em:(v.meet w).lo=v.lo:=by unfold IvQ.meet;simp_all
    have eb:(v.nl&&w.nl)=v.nl:=by simp_all
    exact at_ () trivial (hO:=⟨by rw[em,eb]<;>rfl,by repeat (first|exact trivial|refine And.intro rfl ?_)⟩)
 ·
  refine mg (X:=Unit) (fun _=>[(6, .ov 6 0)]) (fun _=>[(6,some (.o 244 [.d (vI (fn_ (v.meet w).lo)), .d (vI (fd_ (v.meet w).lo)), .d (fp_ (v.meet w).lo), .d (vI (fn_ (v.meet w).hi)), .d (vI (fd_ (v.meet w).hi)), .d (fp_ (v.meet w).hi), .d (.v (.bool (v.nl&&w.nl))), .d (.v (.bool (v.nh&&w.nh)))] true))]) (fun _=>True) [6] [6] rfl ?_ (fun _=>rfl) (fun _ _=>?_)
  ·
   refine gx rfl<|?_
   refine bb (v1:=fun hc27=>by simp only[allP];kernel_rfl) rfl rfl rfl (fun hc27=>?_) (fun hc27=>?_)
   ·
    have em:(v.meet w).hi=w.hi:=by unfold IvQ.meet;simp_all
    have eb:(v.nh&&w.nh)=w.nh:=by simp_all
    exact at_ () trivial (hO:=⟨by rw[em,eb]<;>rfl,by repeat (first|exact trivial|refine And.intro rfl ?_)⟩)
   ·
    refine bb rfl rfl rfl (fun hc36=>?_) (fun hc36=>?_)
    ·
     refine cl rfl (p_FMin (p:=v.hi) (q:=w.hi) (by omega) (by omega)) rfl<|?_
     have em:(v.meet w).hi=(if w.hi<v.hi then w.hi else v.hi):=by unfold IvQ.meet;simp_all
     have eb:(v.nh&&w.nh)=v.nh:=by simp_all
     exact at_ () trivial (hO:=⟨by rw[em,eb]<;>rfl,by repeat (first|exact trivial|refine And.intro rfl ?_)⟩)
    ·
     have em:(v.meet w).hi=v.hi:=by unfold IvQ.meet;simp_all
     have eb:(v.nh&&w.nh)=v.nh:=by simp_all
     exact at_ () trivial (hO:=⟨by rw[em,eb]<;>rfl,by repeat (first|exact trivial|refine And.intro rfl ?_)⟩)
  ·
   refine cl rfl (p_empty (v:=v.meet w) (i:=i+j) (j:=i+j) (by omega) (by omega)) rfl<|?_
   exact rz rfl rfl
theorem BQ.z1:BQ (0:Rat) 1:=⟨by decide,by decide⟩
theorem p_MeetLo{GB:Gh}{v:IvQ}{t:Rat}{i j:Nat}[h1:BQ v.lo i][h2:BQ v.hi i][h3:BQ t j](hi:i≤10000000:=by decide)(hj:j≤9999999:=by decide):PF GB Tryz.prog 290 [eW v, .ag [vI (fn_ t),vI (fd_ t),fp_ t,vI 0,vI 0, .v (.pointer none), .v (.bool false), .v (.bool true)]] (.tp [eW (v.meet ⟨t,0,false,true⟩),vB (!(v.meet ⟨t,0,false,true⟩).empty)]):=
 (p_Meet (v:=v) (w:=⟨t,0,false,true⟩) (j:=j+1) (h3:=h3.mono (by omega)) (h4:=BQ.z1.mono (by omega)) hi (by omega)).ofI fun G vs hv=>isl_F2 (fun y hy=>by
  obtain⟨l,rfl,g⟩:=is_ag.1 hy
  exact is_ag.2 ⟨l,rfl,isl_z' [_,_,_] g⟩) hv
theorem p_MeetHi{GB:Gh}{v:IvQ}{t:Rat}{i j:Nat}[h1:BQ v.lo i][h2:BQ v.hi i][h3:BQ t j](hi:i≤10000000:=by decide)(hj:j≤9999999:=by decide):PF GB Tryz.prog 290 [eW v, .ag [vI 0,vI 0, .v (.pointer none),vI (fn_ t),vI (fd_ t),fp_ t, .v (.bool true), .v (.bool false)]] (.tp [eW (v.meet ⟨0,t,true,false⟩),vB (!(v.meet ⟨0,t,true,false⟩).empty)]):=
 (p_Meet (v:=v) (w:=⟨0,t,true,false⟩) (j:=j+1) (h4:=h3.mono (by omega)) (h3:=BQ.z1.mono (by omega)) hi (by omega)).ofI fun G vs hv=>isl_F2 (fun y hy=>by
  obtain⟨l,rfl,g⟩:=is_ag.1 hy
  exact is_ag.2 ⟨l,rfl,isl_z g⟩) hv
instance BQ.cutK (l m:LnQ) [LB l] [LB m]:BQ (l.cutK m) 400:=BQ.mono (inferInstance:BQ (m.nor.dot l.dir) _) (by decide)
instance BQ.cutC (l m:LnQ) [LB l] [LB m]:BQ (l.cutC m) 2500:=BQ.mono (inferInstance:BQ (m.value l.base) _) (by decide)
theorem p_Cut{GB:Gh}{l m:LnQ}{v:IvQ}{i:Nat}[hl:LB l][hm:LB m][h1:BQ v.lo i][h2:BQ v.hi i](hi:i≤10000000:=by decide):PF GB Tryz.prog 273 [eLn l,eW v,eLn m] (.tp [eW (l.cutV v m),vB (l.cutB v m)]):=by
 refine fn Tryz.func273 rfl rfl Tryz.ntmps273 rfl rfl (fun C=>?_)
 refine cl rfl (p_LNor (l:=m)) rfl<|cl rfl (p_LDir (l:=l)) rfl<|cl rfl (p_PDot (p:=m.nor) (q:=l.dir)) rfl<|cl rfl (p_LBase (l:=l)) rfl<|?_
 refine cl rfl (p_LValue (l:=m) (p:=l.base)) rfl<|cl rfl (p_FSign (q:=l.cutK m)) rfl<|?_
 refine br rfl rfl rfl (fun hc21=>?_) (fun hc21=>?_)
 ·
  refine cl rfl (p_FSign (q:=l.cutC m)) rfl<|?_
  exact rz rfl (by unfold LnQ.cutV LnQ.cutB;rw[if_pos hc21,if_pos hc21];rfl)
 ·
  refine br rfl rfl rfl (fun hc27=>?_) (fun hc27=>?_)
  ·
   refine cl rfl (p_FQuo (p:=l.cutC m) (q:=l.cutK m)) rfl<|cl rfl (p_FNeg (q:=l.cutC m/l.cutK m)) rfl<|cl rfl (p_MeetLo (v:=v) (t:= -(l.cutC m/l.cutK m)) hi) rfl<|?_
   exact rz rfl (by unfold LnQ.cutB LnQ.cutV;rw[if_neg hc21,if_neg hc21,if_pos hc27];rfl)
  ·
   refine cl rfl (p_FQuo (p:=l.cutC m) (q:=l.cutK m)) rfl<|cl rfl (p_FNeg (q:=l.cutC m/l.cutK m)) rfl<|cl rfl (p_MeetHi (v:=v) (t:= -(l.cutC m/l.cutK m)) hi) rfl<|?_
   exact rz rfl (by unfold LnQ.cutB LnQ.cutV;rw[if_neg hc21,if_neg hc21,if_neg hc27];rfl)
theorem p_Sample{GB:Gh}{v:IvQ}{i:Nat}[h1:BQ v.lo i][h2:BQ v.hi i](hi:i≤10000000:=by decide):PF GB Tryz.prog 147 [eW v] (eF v.sample):=by
 refine fn Tryz.func147 rfl rfl Tryz.ntmps147 rfl rfl (fun C=>?_)
 refine csb 6 rfl rfl rfl (fun hg6=>?_) (fun hg6=>?_)
 ·
  refine bb rfl rfl rfl (fun hc3=>?_) (fun hc3=>?_)
  ·
   exact rzI rfl (by unfold IvQ.sample;rw[hg6,hc3];exact is_0)
  ·
   refine bb rfl rfl rfl (fun hc11=>?_) (fun hc11=>?_)
   ·
    refine cl rfl (p_Int (m:=1) (by decide)) rfl<|cl rfl (p_FSub (p:=v.hi) (q:=((1:Int):Rat)) (by omega) (by decide)) rfl<|?_
    exact rz rfl (by unfold IvQ.sample;simp_all [tupD]<;>rfl)
   ·
    refine bb rfl rfl rfl (fun hc18=>?_) (fun hc18=>?_)
    ·
     refine cl rfl (p_Int (m:=1) (by decide)) rfl<|cl rfl (p_FAdd (p:=v.lo) (q:=((1:Int):Rat)) (by omega) (by decide)) rfl<|?_
     exact rz rfl (by unfold IvQ.sample;simp_all [tupD]<;>rfl)
    ·
     refine cl rfl (p_FAdd (p:=v.lo) (q:=v.hi) (by omega) (by omega)) rfl<|cl rfl (p_FHalf (q:=v.lo+v.hi) (by omega)) rfl<|?_
     exact rz rfl (by unfold IvQ.sample;simp_all [tupD]<;>rfl)
 ·
  refine bb rfl rfl rfl (fun hc11=>?_) (fun hc11=>?_)
  ·
   refine cl rfl (p_Int (m:=1) (by decide)) rfl<|cl rfl (p_FSub (p:=v.hi) (q:=((1:Int):Rat)) (by omega) (by decide)) rfl<|?_
   exact rz rfl (by unfold IvQ.sample;simp_all [tupD]<;>rfl)
  ·
   refine bb rfl rfl rfl (fun hc18=>?_) (fun hc18=>?_)
   ·
    refine cl rfl (p_Int (m:=1) (by decide)) rfl<|cl rfl (p_FAdd (p:=v.lo) (q:=((1:Int):Rat)) (by omega) (by decide)) rfl<|?_
    exact rz rfl (by unfold IvQ.sample;simp_all [tupD]<;>rfl)
   ·
    refine cl rfl (p_FAdd (p:=v.lo) (q:=v.hi) (by omega) (by omega)) rfl<|cl rfl (p_FHalf (q:=v.lo+v.hi) (by omega)) rfl<|?_
    exact rz rfl (by unfold IvQ.sample;simp_all [tupD]<;>rfl)
end Go.Sx
end
