/-
  The program's rational numbers: sums, products, comparisons. What the reference computes of lines and points. Package cells: All. Trees, nodes and lines as deep values; bridges to what was shown before. Reference: whole numbers as fractions, lines reversed, rows of lines; what is the same. Reference: points and lines of any size; spans. Reference: directions by angle; spans; the edge of a side. Reference: the edge of a side of a cell. The program's points, lines and intervals. Reference: points near an edge; the interior of a cell; the place of a line.
-/
import Derived.Test.YtopfgminkdfpkaaGreatDoorMw10
set_option linter.unusedSimpArgs false
set_option maxHeartbeats 4000000
set_option maxRecDepth 100000
set_option linter.unusedVariables false
section
namespace Go.Sx
open Go Go.Proofs
variable {GB:Gh}
theorem aCq{m:Int}{g:Nat}(hg:(g:Int)∣m)(hb:m.natAbs<4611686018427387904):IntKind.i64.wrap (m.tdiv g)=m/g:=by
 rw[Int.tdiv_eq_ediv_of_dvd hg]
 have:=Int.natAbs_ediv_le_natAbs m g
 exact as2 (by omega)
def tm(a b:Int):Int:=if(a*b).natAbs<4611686018427387904 then a*b else 0
theorem aBS(a b:Int):(tm a b).natAbs<4611686018427387904:=by unfold tm;split<;>omega
theorem asF{a b:Int}(h:(a*b).natAbs<4611686018427387904):tm a b=a*b:=if_pos h
theorem aB8{a b:Int}(h: ¬(a*b).natAbs<4611686018427387904):DV.tp [vI 0, .v (.bool false)]= .tp [vI (tm a b),vB (decide ((a*b).natAbs<4611686018427387904))]:=by unfold tm;rw[if_neg h,decide_eq_false h];rfl
theorem aza{a b:Int}{x:Int}(h:(a*b).natAbs<4611686018427387904)(e:x=a*b):DV.tp [vI x, .v (.bool true)]= .tp [vI (tm a b),vB (decide ((a*b).natAbs<4611686018427387904))]:=by unfold tm;rw[if_pos h,decide_eq_true h,e];rfl
theorem azl(n:Nat):eI (n:Int)= .ag [.v (.bool false),dN n]:=by unfold eI;rw[decide_eq_false (by omega),Int.natAbs_natCast]
theorem aCk{p q:Rat}(hp:p.den=1)(hq:q.den=1):rgcd p q=((Nat.gcd p.num.natAbs q.num.natAbs:Nat):Int):=by
 conv=>lhs;rw[al3 hp,al3 hq]
 exact agv _ _
theorem aBe(q:Rat):mkRat (zv (decide (q.num<0)) q.den) q.num.natAbs=q⁻¹:=by
 rw[Rat.inv_def]
 by_cases h:q.num<0
 ·rw[decide_eq_true h];exact alX h
 ·rw[decide_eq_false h,←Rat.divInt_ofNat,Int.natAbs_of_nonneg (by omega)];rfl
instance BQ.inv (q:Rat) (i:Nat) [h:BQ q i]:BQ q⁻¹ i:=by
 have h1:=h.hn
 have h2:=h.hd
 have h3:=q.den_nz
 rcases Int.lt_trichotomy q.num 0 with k|k|k
 ·obtain⟨e1,e2⟩:=ajE k;exact⟨by omega,by omega⟩
 ·have e:q=0:=Rat.num_eq_zero.1 k
  have e0:(0:Rat)⁻¹=0:=Rat.inv_zero
  rw[e] at h1 h2⊢;rw[e0];exact⟨h1,h2⟩
 ·obtain⟨e1,e2⟩:=aj0 k;exact⟨by omega,by omega⟩
instance BQ.half:BQ (mkRat 1 2) 2:=⟨by decide,by decide⟩
theorem azC{x y:Nat}(hx:x<18446744073709551616)(hy:y<18446744073709551616):PF GB Tryz.prog 265 [.v (.int .u64 (x:Nat)), .v (.int .u64 (y:Nat))] (.tp [.v (.int .u64 ((x*y/18446744073709551616:Nat):Int)), .v (.int .u64 ((x*y%18446744073709551616:Nat):Int))]):=fun G vs _ hv=>by
 obtain⟨v,m,rfl,h1,h2⟩:=aab.1 hv
 obtain⟨u,m',rfl,h3,h4⟩:=aab.1 h2
 cases aaJ.1 h4
 rw[aaV.1 h1,aaV.1 h3]
 exact(aoM hx hy).mono fun v G' _ h=>by subst h;exact aeL.2 ⟨_,rfl, .cons (aaV.2 rfl) (.cons (aaV.2 rfl) .nil)⟩
theorem aDA{a b:Nat}(ha:a<18446744073709551616)(hb:b<18446744073709551616):PF GB Tryz.prog 267 [.v (.int .u64 (a:Nat)), .v (.int .u64 (b:Nat))] (.v (.int .u64 (Nat.gcd a b:Nat))):=by
 refine fn Tryz.func267 J J Tryz.ntmps267 J J (fun C=>?_)
 refine lp (X:=Nat×Nat) (fun⟨u,v⟩=>[(1, .d (.v (.int .u64 (v:Nat)))),(0, .d (.v (.int .u64 (u:Nat))))]) (fun⟨u,v⟩=>[]) (fun⟨u,v⟩=>u<18446744073709551616∧v<18446744073709551616∧Nat.gcd u v=Nat.gcd a b) (fun⟨u,v⟩=>v) (a,b) rfl ⟨ha,hb,rfl⟩ (fun _=>rfl) (fun⟨u,v⟩ hk=>?_)
 dsimp only at hk⊢
 obtain⟨h1,h2,h3⟩:=hk
 refine br (v1:=fun hc6=>by simp only[aai];exact⟨by omega,by kernel_rfl⟩) J J J (fun hc6=>?_) (fun hc6=>?_)
 ·
  have hm:=Nat.mod_lt u (show 0<v by omega)
  exact at_ (v,u%v) (by dsimp only;exact⟨⟨h2,by omega,by rw[←h3,Nat.gcd_comm u v,Nat.gcd_rec v u,Nat.gcd_comm]⟩,hm⟩)
 ·
  exact rz rfl (by rw[←h3,show v=0 by omega,Nat.gcd_zero_right];rfl)
theorem akk{m:Int}(h:m.natAbs<9223372036854775808):PF GB Tryz.prog 113 [vI m] (eF (m:Rat)):=by
 refine fn Tryz.func113 J J Tryz.ntmps113 J J (fun C=>?_)
 refine cs 5 J J J (fun hg5=>?_) (fun hg5=>?_)
 ·
  refine cl rfl (ajr (m:=m) (by omega) (by omega)) rfl<|rf (fu:=⟨0⟩) J J<|?_
  refine eqF 11 (.d (dN 1)) rfl (by unfold dN;rw[aor];rfl) ?_
  refine gx rfl<|cl rfl (ae6 (n:=decide (m<0)) (a:=m.natAbs) (i:=63) (h:=⟨h⟩) (d:=1)) rfl<|?_
  exact rz rfl (by rw[adQ,show mkRat m 1=(m:Rat) from Rat.mkRat_one ..];rfl)
 ·
  refine br J J J (fun hc8=>?_) (fun hc8=>?_)
  ·
   refine cl rfl (ajr (m:=m) (by omega) (by omega)) rfl<|rf (fu:=⟨0⟩) J J<|?_
   refine eqF 11 (.d (dN 1)) rfl (by unfold dN;rw[aor];rfl) ?_
   refine gx rfl<|cl rfl (ae6 (n:=decide (m<0)) (a:=m.natAbs) (i:=63) (h:=⟨h⟩) (d:=1)) rfl<|?_
   exact rz rfl (by rw[adQ,show mkRat m 1=(m:Rat) from Rat.mkRat_one ..];rfl)
  ·
   exact rzI rfl (aGg (by omega))
theorem aiV{a b:Int}(ha:a.natAbs<4611686018427387904)(hb:b.natAbs<4611686018427387904):PF GB Tryz.prog 226 [vI a,vI b] (.tp [vI (tm a b),vB (decide ((a*b).natAbs<4611686018427387904))]):=by
 have hab:=Int.natAbs_mul a b
 refine fn Tryz.func226 J J Tryz.ntmps226 J J (fun C=>?_)
 refine cl rfl (ava (m:=a) (by omega)) rfl<|cl rfl (ava (m:=b) (by omega)) rfl<|cl rfl (azC (x:=a.natAbs) (y:=b.natAbs) (by omega) (by omega)) rfl<|?_
 refine cs 18 J J J (fun hg18=>?_) (fun hg18=>?_)
 ·
  exact rz rfl (aB8 (by omega))
 ·
  refine br J J J (fun hc21=>?_) (fun hc21=>?_)
  ·
   exact rz rfl (aB8 (by omega))
  ·
   refine bb J J J (fun hc26=>?_) (fun hc26=>?_)
   ·
    have hs:=ane a b
    rw[if_neg (by simpa using hc26)] at hs
    exact rz rfl (aza (by omega) (by rw[hs,←hab];omega))
   ·
    have hs:=ane a b
    rw[if_pos (by simpa using hc26)] at hs
    exact rz rfl (aza (by omega) (by rw[hs,←hab];omega))
theorem aqq{m:Int}{d:Nat}(h:m.natAbs<4611686018427387904)(h0:0<d)(hd:d<4611686018427387904):PF GB Tryz.prog 227 [vI m,vI (d:Nat)] (eF (mkRat m d)):=by
 have hg:Nat.gcd m.natAbs d≤d:=Nat.gcd_le_right _ h0
 have hg0:0<Nat.gcd m.natAbs d:=Nat.gcd_pos_of_pos_right _ h0
 obtain⟨e1,e2⟩:=asw (m:=m) h0
 have e3:=Int.natAbs_ediv_le_natAbs m (Nat.gcd m.natAbs d:Nat)
 have e4:=Nat.div_le_self d (Nat.gcd m.natAbs d)
 have e5:=Nat.div_pos hg hg0
 refine fn Tryz.func227 J J Tryz.ntmps227 J J (fun C=>?_)
 refine cl rfl (ava (m:=m) (by omega)) rfl<|cl rfl (aDA (a:=m.natAbs) (b:=d) (by omega) (by omega)) rfl<|?_
 refine br (fu1:=⟨4⟩) J J J (fun hc13=>?_) (fun hc13=>?_)
 ·
  refine eqF 16 (.d (vI (m/(Nat.gcd m.natAbs d:Nat)))) rfl (by rw[aCq (Int.dvd_natAbs.1 (Int.natCast_dvd_natCast.2 (Nat.gcd_dvd_left _ _))) h];rfl) ?_
  refine gx (fu:=⟨3⟩) rfl<|?_
  refine eqF 19 (.d (vI ((d/Nat.gcd m.natAbs d:Nat)))) rfl (by rw[aCq (Int.natCast_dvd_natCast.2 (Nat.gcd_dvd_right _ _)) (by rw[Int.natAbs_natCast];exact hd)];rfl) ?_
  refine gx (hv:=by simp only[aai];exact⟨by kernel_rfl,by omega⟩) rfl<|?_
  exact rzI rfl (axw (fun k=>k ⟨by rw[e1];omega,by rw[e2];omega⟩) e1 (by rw[e2]) rfl)
 ·
  exact rzI rfl (by have h1:Nat.gcd m.natAbs d=1:=(by omega);rw[h1,Nat.div_one] at e2;rw[h1,Int.natCast_one,Int.ediv_one] at e1;exact axw (fun k=>k ⟨by rw[e1];omega,by rw[e2];omega⟩) e1 (by rw[e2]) rfl)
theorem ahZ{p q:Rat}{i j:Nat}[h:BQ p i][k:BQ q j](hi:i≤100000000:=by decide)(hj:j≤100000000:=by decide):PF GB Tryz.prog 184 [eF p,eF q] (eF (p*q)):=by
 refine fn (fu:=⟨8⟩) Tryz.func184 J J Tryz.ntmps184 J J (fun C=>?_)
 refine mg (X:=Unit) (fun _=>[(2, .ov 2 0),(3, .ov 3 0),(4, .ov 4 0)]) (fun _=>[(2,some (.o 102 [.d (vI (fn_ p)), .d (vI (fd_ p)), .d (fp_ p)] true)),(3,some (.o 102 [.d (vI (fn_ q)), .d (vI (fd_ q)), .d (fp_ q)] true)),(4,some (.o 102 [.d (.v (.int .i64 0)), .d (.v (.int .i64 0)), .d (.v (.pointer none))] true))]) (fun _=>True) [2,3,4] [2,3,4] rfl ?_ (fun _=>rfl) (fun _ _=>?_)
 ·
  refine gx rfl<|?_
  refine cs 12 J J J (fun hg12=>?_) (fun hg12=>?_)
  ·
   refine br (fu1:=⟨4⟩) J J J (fun hc16=>?_) (fun hc16=>?_)
   ·
    have hp:=bgF hg12
    have hq:=bgF hc16
    have p1:=aqg hp
    have p2:=ar8 hp
    have p3:=adN hp
    have p4:=adO hp
    have p5:=p.den_nz
    have q1:=aqg hq
    have q2:=ar8 hq
    have q3:=adN hq
    have q4:=adO hq
    have q5:=q.den_nz
    refine eqF 19 (.d (vI p.num)) rfl (by rw[p1]) ?_
    refine gx (fu:=⟨2⟩) rfl<|?_
    refine eqF 21 (.d (vI q.num)) rfl (by rw[q1]) ?_
    refine gx rfl<|cl (fu:=⟨12⟩) rfl (aiV (a:=p.num) (b:=q.num) (by omega) (by omega)) rfl<|?_
    refine eqF 28 (.d (vI (p.den:Nat))) rfl (by congr 3;omega) ?_
    refine gx (fu:=⟨3⟩) rfl<|?_
    refine eqF 31 (.d (vI (q.den:Nat))) rfl (by congr 3;omega) ?_
    refine gx rfl<|cl rfl (aiV (a:=(p.den:Nat)) (b:=(q.den:Nat)) (by omega) (by omega)) rfl<|?_
    refine csd 36 J J J (fun hg36=>?_) (fun hg36=>?_)
    ·
     refine bd (fu1:=⟨3⟩) J J J (fun hc38=>?_) (fun hc38=>?_)
     ·
      have hd1:p.den*q.den<4611686018427387904:=by omega
      refine eqF 39 (.d (vI (p.num*q.num))) rfl (by rw[asF hg36]) ?_
      refine gx (fu:=⟨1⟩) rfl<|?_
      refine eqF 40 (.d (vI ((p.den*q.den:Nat)))) rfl (by rw[asF hc38];rfl) ?_
      refine gx rfl<|cl rfl (aqq (m:=p.num*q.num) (d:=p.den*q.den) hg36 (Nat.mul_pos (by omega) (by omega)) hd1) rfl<|?_
      exact rz rfl (by rw[←aeu];rfl)
     ·
      exact at_ () trivial
    ·
     exact at_ () trivial
   ·
    exact at_ () trivial
  ·
   exact at_ () trivial
 ·
  refine cl rfl (apt (q:=p) (by omega)) rfl<|cl rfl (apt (q:=q) (by omega)) rfl<|cl rfl (atD (a:=p.num) (b:=q.num) (by omega) (by omega)) rfl<|?_
  refine cl rfl (aje (q:=p) (by omega)) rfl<|cl rfl (aje (q:=q) (by omega)) rfl<|cl rfl (arx (a:=p.den) (b:=q.den) (by omega) (by omega)) rfl<|?_
  refine cl rfl (ae6 (n:=decide (p.num*q.num<0)) (a:=(p.num*q.num).natAbs) (d:=p.den*q.den) (i:=i+j) (j:=i+j) (by omega) (by omega)) rfl<|?_
  exact rz rfl (by rw[adQ,←aeu];rfl)
theorem agP{p q:Rat}{i j:Nat}[h:BQ p i][k:BQ q j](hi:i≤100000000:=by decide)(hj:j≤100000000:=by decide):PF GB Tryz.prog 181 [eF p,eF q] (eF (p+q)):=by
 refine fn (fu:=⟨8⟩) Tryz.func181 J J Tryz.ntmps181 J J (fun C=>?_)
 refine mg (X:=Unit) (fun _=>[(2, .ov 2 0),(3, .ov 3 0),(4, .ov 4 0)]) (fun _=>[(2,some (.o 102 [.d (vI (fn_ p)), .d (vI (fd_ p)), .d (fp_ p)] true)),(3,some (.o 102 [.d (vI (fn_ q)), .d (vI (fd_ q)), .d (fp_ q)] true)),(4,some (.o 102 [.d (.v (.int .i64 0)), .d (.v (.int .i64 0)), .d (.v (.pointer none))] true))]) (fun _=>True) [2,3,4] [2,3,4] rfl ?_ (fun _=>rfl) (fun _ _=>?_)
 ·
  refine gx rfl<|?_
  refine cs 16 J J J (fun hg16=>?_) (fun hg16=>?_)
  ·
   refine br (fu1:=⟨1⟩) J J J (fun hc20=>?_) (fun hc20=>?_)
   ·
    have hp:=bgF hg16
    have hq:=bgF hc20
    have p1:=aqg hp
    have p2:=ar8 hp
    have p3:=adN hp
    have p4:=adO hp
    have p5:=p.den_nz
    have q1:=aqg hq
    have q2:=ar8 hq
    have q3:=adN hq
    have q4:=adO hq
    have q5:=q.den_nz
    refine mg (fu:=⟨4⟩) (X:=Unit) (fun _=>[(2, .ov 2 0),(3, .ov 3 0),(4, .ov 4 0)]) (fun _=>[(2,some (.o 102 [.d (vI (fn_ p)), .d (vI (fd_ p)), .d (fp_ p)] true)),(3,some (.o 102 [.d (vI (fn_ q)), .d (vI (fd_ q)), .d (fp_ q)] true)),(4,some (.o 102 [.d (.v (.int .i64 0)), .d (.v (.int .i64 0)), .d (.v (.pointer none))] true))]) (fun _=>True) [2,3,4] [2,3,4] rfl ?_ (fun _=>rfl) (fun _ _=>?_)
    ·
     refine gx rfl<|?_
     refine cs 24 J J J (fun hg24=>?_) (fun hg24=>?_)
     ·
      refine br (fu1:=⟨4⟩) J J J (fun hc28=>?_) (fun hc28=>?_)
      ·
       refine eqF 30 (.d (vI p.num)) rfl (by rw[p1]) ?_
       refine gx (fu:=⟨2⟩) rfl<|?_
       refine eqF 32 (.d (vI q.num)) rfl (by rw[q1]) ?_
       refine gx rfl<|cl rfl (akk (m:=p.num+q.num) (by omega)) rfl<|?_
       exact rz rfl (by rw[al3 (q:=p) (by omega),al3 (q:=q) (by omega),←Rat.intCast_add];rfl)
      ·
       exact at_ () trivial
     ·
      exact at_ () trivial
    ·
     refine eqF 37 (.d (vI p.num)) rfl (by rw[p1]) ?_
     refine gx (fu:=⟨3⟩) rfl<|?_
     refine eqF 40 (.d (vI (q.den:Nat))) rfl (by congr 3;omega) ?_
     refine gx rfl<|cl (fu:=⟨11⟩) rfl (aiV (a:=p.num) (b:=(q.den:Nat)) (by omega) (by omega)) rfl<|?_
     refine eqF 46 (.d (vI q.num)) rfl (by rw[q1]) ?_
     refine gx (fu:=⟨3⟩) rfl<|?_
     refine eqF 49 (.d (vI (p.den:Nat))) rfl (by congr 3;omega) ?_
     refine gx rfl<|cl (fu:=⟨12⟩) rfl (aiV (a:=q.num) (b:=(p.den:Nat)) (by omega) (by omega)) rfl<|?_
     refine eqF 56 (.d (vI (p.den:Nat))) rfl (by congr 3;omega) ?_
     refine gx (fu:=⟨3⟩) rfl<|?_
     refine eqF 59 (.d (vI (q.den:Nat))) rfl (by congr 3;omega) ?_
     refine gx rfl<|cl (fu:=⟨3⟩) rfl (aiV (a:=(p.den:Nat)) (b:=(q.den:Nat)) (by omega) (by omega)) rfl<|?_
     have t1:=aBS p.num (q.den:Nat)
     have t2:=aBS q.num (p.den:Nat)
     have t3:=aBS (p.den:Nat) (q.den:Nat)
     refine gx rfl<|?_
     refine csd 67 J J J (fun hg67=>?_) (fun hg67=>?_)
     ·
      refine csd 70 J J J (fun hg70=>?_) (fun hg70=>?_)
      ·
       refine csd 73 J J J (fun hg73=>?_) (fun hg73=>?_)
       ·
        refine cs 77 J J J (fun hg77=>?_) (fun hg77=>?_)
        ·
         refine br (fu1:=⟨3⟩) J J J (fun hc80=>?_) (fun hc80=>?_)
         ·
          have u1:=asF hg67
          have u2:=asF hg70
          have u3:=asF hg73
          have hd1:p.den*q.den<4611686018427387904:=by omega
          refine eqF 81 (.d (vI (p.num*(q.den:Nat)+q.num*(p.den:Nat)))) rfl (by rw[u1,u2];rfl) ?_
          refine gx (fu:=⟨1⟩) rfl<|?_
          refine eqF 82 (.d (vI ((p.den*q.den:Nat)))) rfl (by rw[u3];rfl) ?_
          refine gx rfl<|cl rfl (aqq (m:=p.num*(q.den:Nat)+q.num*(p.den:Nat)) (d:=p.den*q.den) (by omega) (Nat.mul_pos (by omega) (by omega)) hd1) rfl<|?_
          exact rz rfl (by rw[←aev];rfl)
         ·
          exact at_ () trivial
        ·
         exact at_ () trivial
       ·
        exact at_ () trivial
      ·
       exact at_ () trivial
     ·
      exact at_ () trivial
   ·
    exact at_ () trivial
  ·
   exact at_ () trivial
 ·
  refine cl rfl (apt (q:=p) (by omega)) rfl<|cl (fu:=⟨1⟩) rfl (aje (q:=q) (by omega)) rfl<|?_
  refine eqF 88 (.d (eI (q.den:Nat))) rfl (by rw[azl]) ?_
  refine gx rfl<|cl rfl (atD (a:=p.num) (b:=(q.den:Nat)) (by omega) (by omega)) rfl<|cl rfl (apt (q:=q) (by omega)) rfl<|cl (fu:=⟨1⟩) rfl (aje (q:=p) (by omega)) rfl<|?_
  refine eqF 94 (.d (eI (p.den:Nat))) rfl (by rw[azl]) ?_
  refine gx rfl<|cl rfl (atD (a:=q.num) (b:=(p.den:Nat)) (by omega) (by omega)) rfl<|cl rfl (aCT (a:=p.num*(q.den:Nat)) (b:=q.num*(p.den:Nat)) (i:=i+j) (j:=j+i) (by omega) (by omega)) rfl<|?_
  refine cl rfl (aje (q:=p) (by omega)) rfl<|cl rfl (aje (q:=q) (by omega)) rfl<|cl rfl (arx (a:=p.den) (b:=q.den) (by omega) (by omega)) rfl<|?_
  refine cl rfl (ae6 (n:=decide (p.num*(q.den:Nat)+q.num*(p.den:Nat)<0)) (a:=(p.num*(q.den:Nat)+q.num*(p.den:Nat)).natAbs) (d:=p.den*q.den) (i:=i+j+(j+i)+1) (j:=i+j) (by omega) (by omega)) rfl<|?_
  exact rz rfl (by rw[adQ,←aev];rfl)
theorem akQ{p q:Rat}{i j:Nat}[h:BQ p i][k:BQ q j](hi:i≤100000000:=by decide)(hj:j≤100000000:=by decide):PF GB Tryz.prog 180 [eF p,eF q] (eF (p-q)):=by
 refine fn Tryz.func180 J J Tryz.ntmps180 J J (fun C=>?_)
 refine cl rfl (ag6 (q:=q) (by omega)) rfl<|cl rfl (agP (p:=p) (q:= -q) (by omega) (by omega)) rfl<|?_
 exact rz rfl (by rw[←Rat.sub_eq_add_neg];rfl)
theorem aEf{q:Rat}{i:Nat}[h:BQ q i](hi:i≤400000000:=by decide):PF GB Tryz.prog 187 [eF q] (eF q⁻¹):=by
 refine fn Tryz.func187 J J Tryz.ntmps187 J J (fun C=>?_)
 refine br (v1:=fun hc3=>by simp only[aai];exact⟨⟨hc3,hc3⟩,hc3⟩) J J J (fun hc3=>?_) (fun hc3=>?_)
 ·
  refine cl rfl (ae6 (n:=decide (q.num<0)) (a:=q.den) (d:=q.num.natAbs) (by omega) (by omega)) rfl<|?_
  exact rz rfl (by rw[aBe];rfl)
 ·
  have q1:=aqg (arK hc3)
  have q2:=ar8 (arK hc3)
  have q3:=adN (arK hc3)
  have q4:=adO (arK hc3)
  have q5:=q.den_nz
  refine br J J J (fun hc26=>?_) (fun hc26=>?_)
  ·
   exact rzI rfl (by obtain⟨e1,e2⟩:=ajE (q:=q) (by omega);exact axw (fun k=>k ⟨by omega,by omega⟩) (by omega) (by omega) rfl)
  ·
   refine br J J J (fun hc39=>?_) (fun hc39=>?_)
   ·
    exact rzI rfl (by rw[Rat.num_eq_zero.1 (show q.num=0 by omega),Rat.inv_zero];exact aB0)
   ·
    exact rzI rfl (by obtain⟨e1,e2⟩:=aj0 (q:=q) (by omega);exact axw (fun k=>k ⟨by omega,by omega⟩) (by omega) (by omega) rfl)
theorem apT{p q:Rat}{i j:Nat}[h:BQ p i][k:BQ q j](hi:i≤100000000:=by decide)(hj:j≤100000000:=by decide):PF GB Tryz.prog 118 [eF p,eF q] (eF (p/q)):=by
 refine fn Tryz.func118 J J Tryz.ntmps118 J J (fun C=>?_)
 refine cl rfl (aEf (q:=q) (by omega)) rfl<|cl rfl (ahZ (p:=p) (q:=q⁻¹) (by omega) (by omega)) rfl<|?_
 exact rz rfl (by rw[Rat.div_def];rfl)
theorem aDR{G:Gh}{q r:DV}{t:List DV}{vs:List Value}(h: ∀y,Is G r y→Is G q y)(hv:IsLs G (r::t) vs):IsLs G (q::t) vs:=by
 obtain⟨y,m,rfl,h1,h2⟩:=aab.1 hv
 exact .cons (h _ h1) h2
theorem ass{G:Gh}{a q r:DV}{t:List DV}{vs:List Value}(h: ∀y,Is G r y→Is G q y)(hv:IsLs G (a::r::t) vs):IsLs G (a::q::t) vs:=by
 obtain⟨y,m,rfl,h1,h2⟩:=aab.1 hv
 exact .cons h1 (aDR h h2)
theorem aBt{q:Rat}{i:Nat}[h:BQ q i](hi:i≤100000000:=by decide):PF GB Tryz.prog 184 [eF q, .ag [vI 1,vI 1, .v (.pointer none)]] (eF (q*mkRat 1 2)):=
 (ahZ (p:=q) (q:=mkRat 1 2) hi).ofI fun G vs hv=>ass (fun y hy=>axw (q:=mkRat 1 2) (fun k=>k ⟨by decide,by decide⟩) (by decide) (by decide) rfl G y hy) hv
theorem aoN{q:Rat}{i:Nat}[h:BQ q i](hi:i≤100000000:=by decide):PF GB Tryz.prog 122 [eF q] (eF (q*mkRat 1 2)):=by
 refine fn Tryz.func122 J J Tryz.ntmps122 J J (fun C=>?_)
 refine cl rfl (aBt (q:=q) (by omega)) rfl<|?_
 exact rz J J
theorem aj1{p q:Rat}{i j:Nat}[h:BQ p i][k:BQ q j](hi:i≤100000000:=by decide)(hj:j≤100000000:=by decide):PF GB Tryz.prog 186 [eF p,eF q] (vI (aa1 p q)):=by
 refine fn Tryz.func186 J J Tryz.ntmps186 J J (fun C=>?_)
 refine cs 8 J J J (fun hg8=>?_) (fun hg8=>?_)
 ·
  refine cs 13 J J J (fun hg13=>?_) (fun hg13=>?_)
  ·
   refine br J J J (fun hc19=>?_) (fun hc19=>?_)
   ·
    have hp:=bgF hg8
    have hq:=bgF hg13
    have p1:=aqg hp
    have p2:=ar8 hp
    have p3:=adN hp
    have p4:=adO hp
    have p5:=p.den_nz
    have q1:=aqg hq
    have q2:=ar8 hq
    have q3:=adN hq
    have q4:=adO hq
    have q5:=q.den_nz
    have hl:=auT (a:=p) (b:=q) (by omega)
    have hr:=auT (a:=q) (b:=p) (by omega)
    unfold aa1
    refine br J J J (fun hc20=>?_) (fun hc20=>?_)
    ·
     exact rz rfl (by rw[if_pos (hl.2 (by omega))];rfl)
    ·
     refine br J J J (fun hc26=>?_) (fun hc26=>?_)
     ·
      exact rz rfl (by rw[if_neg (fun e=>by have:=hl.1 e;omega),if_pos (hr.2 (by omega))];rfl)
     ·
      exact rz rfl (by rw[if_neg (fun e=>by have:=hl.1 e;omega),if_neg (fun e=>by have:=hr.1 e;omega)];rfl)
   ·
    refine cl rfl (akQ (p:=p) (q:=q) (by omega) (by omega)) rfl<|cl rfl (ads (q:=p-q) (by omega)) rfl<|?_
    exact rz rfl (by rw[aiB];rfl)
  ·
   refine cl rfl (akQ (p:=p) (q:=q) (by omega) (by omega)) rfl<|cl rfl (ads (q:=p-q) (by omega)) rfl<|?_
   exact rz rfl (by rw[aiB];rfl)
 ·
  refine cl rfl (akQ (p:=p) (q:=q) (by omega) (by omega)) rfl<|cl rfl (ads (q:=p-q) (by omega)) rfl<|?_
  exact rz rfl (by rw[aiB];rfl)
theorem ais{p q:Rat}{i j:Nat}[h:BQ p i][k:BQ q j](hi:i≤100000000:=by decide)(hj:j≤100000000:=by decide):PF GB Tryz.prog 253 [eF p,eF q] (vB (decide (p=q))):=by
 refine fn Tryz.func253 J J Tryz.ntmps253 J J (fun C=>?_)
 refine cl rfl (aj1 (p:=p) (q:=q) hi hj) rfl<|?_
 exact rz rfl (by show DV.v (.bool (decide _))= .v (.bool _);congr 2;exact decide_eq_decide.2 (ae8 p q))
theorem aCn{p q:Rat}{i j:Nat}[h:BQ p i][k:BQ q j](hi:i≤100000000:=by decide)(hj:j≤100000000:=by decide):PF GB Tryz.prog 317 [eF p,eF q] (eF (if p<q then q else p)):=by
 refine fn Tryz.func317 J J Tryz.ntmps317 J J (fun C=>?_)
 refine cl rfl (aj1 (p:=q) (q:=p) hj hi) rfl<|?_
 refine br J J J (fun hc8=>?_) (fun hc8=>?_)
 ·
  exact rz rfl (by rw[if_pos ((arg q p).1 hc8)];rfl)
 ·
  exact rz rfl (by rw[if_neg (fun e=>hc8 ((arg q p).2 e))];rfl)
theorem ayS{p q:Rat}{i j:Nat}[h:BQ p i][k:BQ q j](hi:i≤100000000:=by decide)(hj:j≤100000000:=by decide):PF GB Tryz.prog 116 [eF p,eF q] (eF (if q<p then q else p)):=by
 refine fn Tryz.func116 J J Tryz.ntmps116 J J (fun C=>?_)
 refine cl rfl (aj1 (p:=q) (q:=p) hj hi) rfl<|?_
 refine br J J J (fun hc8=>?_) (fun hc8=>?_)
 ·
  exact rz rfl (by rw[if_pos ((ap9 q p).1 hc8)];rfl)
 ·
  exact rz rfl (by rw[if_neg (fun e=>hc8 ((ap9 q p).2 e))];rfl)
theorem ah0{p q:Rat}{i j:Nat}[h:BQ p i][k:BQ q j](hi:i≤100000000:=by decide)(hj:j≤100000000:=by decide):PF GB Tryz.prog 252 [eF p,eF q] (eF (rgcd p q)):=by
 refine fn (fu:=⟨8⟩) Tryz.func252 J J Tryz.ntmps252 J J (fun C=>?_)
 refine mg (X:=Unit) (fun _=>[(2, .ov 2 0),(3, .ov 3 0),(4, .ov 4 0)]) (fun _=>[(2,some (.o 102 [.d (vI (fn_ p)), .d (vI (fd_ p)), .d (fp_ p)] true)),(3,some (.o 102 [.d (vI (fn_ q)), .d (vI (fd_ q)), .d (fp_ q)] true)),(4,some (.o 102 [.d (.v (.int .i64 0)), .d (.v (.int .i64 0)), .d (.v (.pointer none))] true))]) (fun _=>True) [2,3,4] [2,3,4] rfl ?_ (fun _=>rfl) (fun _ _=>?_)
 ·
  refine gx rfl<|?_
  refine cs 10 J J J (fun hg10=>?_) (fun hg10=>?_)
  ·
   refine cs 15 J J J (fun hg15=>?_) (fun hg15=>?_)
   ·
    have hp:=bgF hg10
    have hq:=bgF hg15
    have p1:=aqg hp
    have p2:=ar8 hp
    have p3:=adN hp
    have p4:=adO hp
    have p5:=p.den_nz
    have q1:=aqg hq
    have q2:=ar8 hq
    have q3:=adN hq
    have q4:=adO hq
    have q5:=q.den_nz
    refine cs 20 J J J (fun hg20=>?_) (fun hg20=>?_)
    ·
     refine br (fu1:=⟨4⟩) J J J (fun hc24=>?_) (fun hc24=>?_)
     ·
      have hg:=aCg p3 q3
      refine eqF 26 (.d (vI p.num)) rfl (by rw[p1]) ?_
      refine gx rfl<|cl (fu:=⟨2⟩) rfl (ava (m:=p.num) (by omega)) rfl<|?_
      refine eqF 29 (.d (vI q.num)) rfl (by rw[q1]) ?_
      refine gx rfl<|cl rfl (ava (m:=q.num) (by omega)) rfl<|cl (hv:=by simp only[aai];exact⟨by omega,by kernel_rfl⟩) rfl (aDA (a:=p.num.natAbs) (b:=q.num.natAbs) (by omega) (by omega)) rfl<|?_
      exact rzI rfl (by rw[aCk (p:=p) (q:=q) (by omega) (by omega)];exact aGg (by rw[Int.natAbs_natCast];exact hg))
     ·
      exact at_ () trivial
    ·
     exact at_ () trivial
   ·
    exact at_ () trivial
  ·
   exact at_ () trivial
 ·
  refine cl rfl (aje (q:=p) (by omega)) rfl<|cl rfl (aje (q:=q) (by omega)) rfl<|cl rfl (arx (a:=p.den) (b:=q.den) (by omega) (by omega)) rfl<|?_
  refine cl rfl (apt (q:=p) (by omega)) rfl<|cl rfl (aje (q:=q) (by omega)) rfl<|cl rfl (arx (a:=p.num.natAbs) (b:=q.den) (by omega) (by omega)) rfl<|?_
  refine cl rfl (apt (q:=q) (by omega)) rfl<|cl rfl (aje (q:=p) (by omega)) rfl<|cl rfl (arx (a:=q.num.natAbs) (b:=p.den) (by omega) (by omega)) rfl<|?_
  refine cl rfl (aCm (a:=p.num.natAbs*q.den) (b:=q.num.natAbs*p.den) (i:=i+j) (j:=j+i) (by omega) (by omega)) rfl<|cl rfl (ae6 (n:=false) (a:=Nat.gcd (p.num.natAbs*q.den) (q.num.natAbs*p.den)) (d:=p.den*q.den) (i:=i+j+(j+i)) (j:=i+j) (by omega) (by omega)) rfl<|?_
  exact rz J J
end Go.Sx
end
section
namespace Go.Sx
open Go
def crossI(l m:LnQ):Int:=l.a*m.b-m.a*l.b
def meetX(l m:LnQ):Int:=l.b*m.c-m.b*l.c
def meetY(l m:LnQ):Int:=m.a*l.c-l.a*m.c
def ace(l m:LnQ):PtQ:=if crossI l m=0 then⟨0,0⟩ else⟨(meetX l m:Rat)/(crossI l m:Rat),(meetY l m:Rat)/(crossI l m:Rat)⟩
def acg(l:LnQ)(p:PtQ):Rat:=p.dot l.dir/l.dir.dot l.dir
theorem aBV(l:LnQ):l.dir.dot l.dir=l.nor.dot l.nor:=by
 simp only[LnQ.dir,LnQ.nor,PtQ.dot];grind
theorem anp{l:LnQ}(h:l.Ne):0<l.dir.dot l.dir:=by rw[aBV];exact agI h
theorem ac1(l m:LnQ):((crossI l m:Int):Rat)=(l.a:Rat)*m.b-(m.a:Rat)*l.b:=by
 unfold crossI;rw[Rat.intCast_sub,Rat.intCast_mul,Rat.intCast_mul]
theorem ahA(l m:LnQ):((meetX l m:Int):Rat)=(l.b:Rat)*m.c-(m.b:Rat)*l.c:=by
 unfold meetX;rw[Rat.intCast_sub,Rat.intCast_mul,Rat.intCast_mul]
theorem akT(l m:LnQ):((meetY l m:Int):Rat)=(m.a:Rat)*l.c-(l.a:Rat)*m.c:=by
 unfold meetY;rw[Rat.intCast_sub,Rat.intCast_mul,Rat.intCast_mul]
theorem afY(l m:LnQ):l.cutK m= -((crossI l m:Int):Rat):=by
 rw[ac1];simp only[LnQ.cutK,LnQ.nor,LnQ.dir,PtQ.dot];grind
theorem aqF(l m:LnQ):m.dir.cross l.dir=l.cutK m:=by
 simp only[LnQ.cutK,LnQ.nor,LnQ.dir,PtQ.dot,PtQ.cross];grind
theorem apP{l:LnQ}:(⟨-((l.c:Rat)/l.dir.dot l.dir)*(l.a:Rat), -((l.c:Rat)/l.dir.dot l.dir)*(l.b:Rat)⟩:PtQ)=l.base:=by
 unfold LnQ.base
 rw[aBV]
 simp only[LnQ.nor,PtQ.scale,PtQ.mk.injEq]
 constructor<;>grind
theorem auV(l:LnQ)(t:Rat):acR l.base l.dir t=l.at t:=by
 simp only[acR,LnQ.at,PtQ.add,PtQ.scale,PtQ.mk.injEq]
 constructor<;>grind
theorem afR{l m:LnQ}(hl:l.Ne)(h:crossI l m≠0):acg l (ace l m)= -(l.cutC m/l.cutK m):=by
 have hd:((crossI l m:Int):Rat)≠0:=fun e=>h (Rat.intCast_eq_zero_iff.1 e)
 have hn:=anp hl
 obtain⟨q,q1,q2⟩:=anI hl
 rw[afY]
 unfold acg ace LnQ.cutC
 rw[if_neg h,q2,adq,ahA,akT]
 have hc:=ac1 l m
 rw[aBV] at hn⊢
 simp only[LnQ.dir,LnQ.nor,PtQ.dot] at hn q1⊢
 generalize ((crossI l m:Int):Rat)=d at*
 generalize (l.a:Rat)=a at*
 generalize (l.b:Rat)=b at*
 generalize (l.c:Rat)=c at*
 generalize (m.a:Rat)=x at*
 generalize (m.b:Rat)=y at*
 generalize (m.c:Rat)=z at*
 have hn':a*a+b*b≠0:=by grind
 have e:((b*z-y*c)/d*b+(x*c-a*z)/d* -a)=((b*z-y*c)*b-(x*c-a*z)*a)/d:=by grind
 rw[e]
 have k1:(b*z-y*c)*b-(x*c-a*z)*a=(a*a+b*b)*(x*(a*q)+y*(b*q)+z):=by grind
 rw[k1]
 grind
theorem arp{l m:LnQ}(hl:l.Ne)(h:crossI l m≠0):acg l (ace l m)*((crossI l m*(l.a*l.a+l.b*l.b):Int):Rat)=((meetX l m*l.b-meetY l m*l.a:Int):Rat):=by
 have hd:((crossI l m:Int):Rat)≠0:=fun e=>h (Rat.intCast_eq_zero_iff.1 e)
 have hn:=anp hl
 unfold acg ace
 rw[if_neg h]
 simp only[Rat.intCast_mul,Rat.intCast_sub,Rat.intCast_add]
 simp only[LnQ.dir,PtQ.dot] at hn⊢
 generalize ((crossI l m:Int):Rat)=d at*
 generalize ((meetX l m:Int):Rat)=x at*
 generalize ((meetY l m:Int):Rat)=y at*
 generalize (l.a:Rat)=a at*
 generalize (l.b:Rat)=b at*
 have hn':b*b+ -a* -a≠0:=by grind
 grind
theorem ahG(l m:LnQ)(t:List LnQ)(v:IvQ):adb l (m::t) v=if m=l then adb l t v else if l.cutB v m then adb l t (l.cutV v m) else none:=rfl
def aig(v:IvQ)(t:Rat):IvQ:=if v.nl=true∨0<aa1 t v.lo then⟨t,v.hi,false,v.nh⟩ else v
def aih(v:IvQ)(t:Rat):IvQ:=if v.nh=true∨aa1 t v.hi<0 then⟨v.lo,t,v.nl,false⟩ else v
structure IvZ (v:IvQ):Prop where
 lo:v.nl=true→v.lo=0
 hi:v.nh=true→v.hi=0
theorem at3(a b:Rat):0<aa1 a b↔b<a:=by
 unfold aa1;split
 ·constructor
  ·intro h;exact absurd h (by decide)
  ·intro h;grind
 ·split
  ·exact⟨fun _=>by assumption,fun _=>by decide⟩
  ·constructor
   ·intro h;exact absurd h (by decide)
   ·intro h;exact absurd h (by assumption)
theorem akg(a b:Rat):aa1 a b<0↔a<b:=by
 unfold aa1;split
 ·exact⟨fun _=>by assumption,fun _=>by decide⟩
 ·split
  ·constructor
   ·intro h;exact absurd h (by decide)
   ·intro h;grind
  ·constructor
   ·intro h;exact absurd h (by decide)
   ·intro h;exact absurd h (by assumption)
theorem alj{v:IvQ}(h:IvZ v)(t:Rat):aig v t=v.meet ⟨t,0,false,true⟩:=by
 obtain⟨lo,hi,nl,nh⟩:=v
 obtain⟨h1,h2⟩:=h
 unfold aig IvQ.meet
 simp only[at3] at*
 cases nl<;>cases nh<;>simp at* <;>(try (split<;>split<;>simp_all<;>grind))<;>grind
theorem aku{v:IvQ}(h:IvZ v)(t:Rat):aih v t=v.meet ⟨0,t,true,false⟩:=by
 obtain⟨lo,hi,nl,nh⟩:=v
 obtain⟨h1,h2⟩:=h
 unfold aih IvQ.meet
 simp only[akg] at*
 cases nl<;>cases nh<;>simp at* <;>(try (split<;>split<;>simp_all<;>grind))<;>grind
theorem IvZ.all:IvZ IvQ.all:=⟨fun _=>rfl,fun _=>rfl⟩
theorem IvZ.lo'{v:IvQ}(h:IvZ v)(t:Rat):IvZ (aig v t):=by
 obtain⟨lo,hi,nl,nh⟩:=v
 unfold aig;split
 ·exact⟨fun h=>by simp at h,h.hi⟩
 ·exact h
theorem IvZ.hi'{v:IvQ}(h:IvZ v)(t:Rat):IvZ (aih v t):=by
 obtain⟨lo,hi,nl,nh⟩:=v
 unfold aih;split
 ·exact⟨h.lo,fun h=>by simp at h⟩
 ·exact h
theorem agR{l m:LnQ}{v:IvQ}(h:crossI l m=0):l.cutV v m=v∧(l.cutB v m=true↔0<m.value l.base):=by
 have hk:l.cutK m=0:=by rw[afY,h];rfl
 exact ag3 v hk
theorem aAc{l m:LnQ}{v:IvQ}(hl:l.Ne)(hz:IvZ v)(h:0<m.dir.cross l.dir):crossI l m≠0∧l.cutV v m=aig v (acg l (ace l m))∧l.cutB v m=!(aig v (acg l (ace l m))).empty:=by
 rw[aqF] at h
 have hc:crossI l m≠0:=fun e=>by rw[afY,e] at h;exact absurd h (by decide)
 obtain⟨h1,h2⟩:=ang v h
 refine⟨hc,?_,?_⟩
 ·rw[alj hz,afR hl hc,h1]
 ·rw[alj hz,afR hl hc,←h1]
  rw[←agE] at h2
  cases hb:l.cutB v m<;>cases he:(l.cutV v m).empty<;>simp_all
theorem azS{l m:LnQ}{v:IvQ}(hl:l.Ne)(hz:IvZ v)(h0:crossI l m≠0)(h: ¬0<m.dir.cross l.dir):l.cutV v m=aih v (acg l (ace l m))∧l.cutB v m=!(aih v (acg l (ace l m))).empty:=by
 rw[aqF] at h
 have hk:l.cutK m≠0:=fun e=>by
  rw[afY] at e
  have:((crossI l m:Int):Rat)=0:=by grind
  exact h0 (Rat.intCast_eq_zero_iff.1 this)
 obtain⟨h1,h2⟩:=anW (l:=l) (m:=m) v (by grind)
 refine⟨?_,?_⟩
 ·rw[aku hz,afR hl h0,h1]
 ·rw[aku hz,afR hl h0,←h1]
  rw[←agE] at h2
  cases hb:l.cutB v m<;>cases he:(l.cutV v m).empty<;>simp_all
end Go.Sx
end
section
namespace Go.Sx
open Go Go.Proofs
variable {GB:Gh}

def cT:Tr→List DV
 | .leaf b=>[.v (.bool true), .v (.bool b), .v (.bool false), .sl [], .v (.bool false), .sl [], .v (.bool false), .sl [], .v (.pointer none), .v (.pointer none)]
 | .node l x y=>[.v (.bool false), .v (.bool false), .v (.bool (decide (l.a<0))),dN l.a.natAbs, .v (.bool (decide (l.b<0))),dN l.b.natAbs, .v (.bool (decide (l.c<0))),dN l.c.natAbs, .pt (cT x), .pt (cT y)]
def eT(t:Tr):DV:= .pt (cT t)
def eN(n:NQ):DV:= .ag [.v (.bool (decide (n.l.a<0))),dN n.l.a.natAbs, .v (.bool (decide (n.l.b<0))),dN n.l.b.natAbs, .v (.bool (decide (n.l.c<0))),dN n.l.c.natAbs, .v (.int .i64 n.a), .v (.int .i64 n.b)]
def eA(t:Tr):DV:= .ag [.v (.int .i64 (t.num 0)), .sl ((t.wr 0).map eN)]
structure BL (l:LnQ) (k:Nat):Prop where
 a:l.a.natAbs<2^k
 b:l.b.natAbs<2^k
 c:l.c.natAbs<2^k
theorem aE5(ns:List NQ):adx 8 (ns.map eN):=fun d hd=>by
 obtain⟨n,_,rfl⟩:=List.mem_map.1 hd;exact⟨rfl,rfl⟩
theorem Tr.all_wr{p:LnQ→Prop}: ∀{t:Tr} (n:Nat),t.all p→ ∀x∈t.wr n,p x.l
 | .leaf b,n,_,x,hx=>by cases hx
 | .node l u v,n,⟨h1,h2,h3⟩,x,hx=>by
  simp only[Tr.wr,List.cons_append,List.mem_cons,List.mem_append] at hx
  rcases hx with rfl|hx|hx
  ·exact h1
  ·exact u.all_wr _ h2 x hx
  ·exact v.all_wr _ h3 x hx
structure LS (l:LnQ):Prop where
 ok:l.ok
 a:l.a.natAbs≤4
 b:l.b.natAbs≤4
 c:l.c.natAbs≤40000
theorem LS.bl{l:LnQ}(h:LS l):BL l 96:=⟨by have:=h.a;omega,by have:=h.b;omega,by have:=h.c;omega⟩
theorem aeM{xs:List LnQ}{i:Nat}(h:i<xs.length):(xs.map eL)[(i:Int).toNat]? =some (eL xs[i]):=by simp[h]
theorem ae5(xs:List LnQ):(xs.map eL).length=xs.length:=List.length_map ..
theorem asG{α:Type}{xs:List α}{i:Nat}{p:α→Prop}(h: ∀x∈xs.take i,p x)(hi:i<xs.length)(hy:p xs[i]): ∀x∈xs.take (i+1),p x:=by
 intro x hx
 rw[List.take_succ_eq_append_getElem hi] at hx
 simp only[List.mem_append,List.mem_singleton] at hx
 rcases hx with hx|rfl
 ·exact h x hx
 ·exact hy
theorem asA{a b:Int}(h:decide (a<0)=decide (b<0)):decide (a.natAbs=b.natAbs)=decide (a=b):=by
 have h':a<0↔b<0:=by simpa using h
 exact decide_eq_decide.2 ⟨fun e=>by omega,fun e=>by rw[e]⟩
theorem LnQ.ext'{l m:LnQ}(h1:l.a=m.a)(h2:l.b=m.b)(h3:l.c=m.c):l=m:=by cases l;cases m;simp_all
instance:DecidableEq NQ:=fun x y=>decidable_of_iff (x.l=y.l∧x.a=y.a∧x.b=y.b) (by
 cases x;cases y;simp)
theorem acl(ls:List LnQ):adx 6 (ls.map eL):=fun d hd=>by
 obtain⟨n,_,rfl⟩:=List.mem_map.1 hd;exact⟨rfl,rfl⟩
theorem aBg{a b:Nat}(hl:(dg a).length=(dg b).length)(h: ∀j,j<(dg a).length→(dg a).getD j 0=(dg b).getD j 0):a=b:=by
 have e:dg a=dg b:=by
  apply List.ext_getElem hl
  intro i h1 h2
  have:=h i h1
  rw[List.getD_eq_getElem?_getD,List.getD_eq_getElem?_getD,List.getElem?_eq_getElem h1,List.getElem?_eq_getElem h2] at this
  exact this
 rw[←aaR a,e,aaR]
theorem aiL{z:Int}:PF GB Tryz.prog 88 [eI z] (eQ (z:Rat)):=by
 refine fn Tryz.func88 J J Tryz.ntmps88 J J (fun C=>?_)
 exact rz rfl (by rw[ap6];rfl)
theorem akB{l:LnQ}:PF GB Tryz.prog 107 [eL l] (eL l.rev):=by
 refine fn Tryz.func107 J J Tryz.ntmps107 J J (fun C=>?_)
 refine cl rfl ai6 rfl<|cl rfl ai6 rfl<|cl rfl ai6 rfl<|?_
 exact rz J J
theorem aph{a b i j:Nat}[ha:BN a i][hb:BN b j](hi:i≤400000000:=by decide):PF GB Tryz.prog 127 [dN a,dN b] (vB (decide (a=b))):=by
 have hla:=aaB (dg a)
 have hlb:=aaB (dg b)
 have hba:=aa4 ha.h
 refine fn Tryz.func127 J J Tryz.ntmps127 J J (fun C=>?_)
 refine br (fu2:=⟨7⟩) J J J (fun hc10=>?_) (fun hc10=>?_)
 ·
  exact rz rfl (by rw[decide_eq_false (fun e:a=b=>hc10 (by rw[e]))];rfl)
 ·
  refine eqF 12 (.d (vI ((dg a).length:Nat))) rfl (by rw[hla];rfl) ?_
  refine gx rfl<|?_
  refine lp (X:=Nat) (fun i=>[(13, .d (vI (i:Nat))),(12, .d (vI ((dg a).length:Nat))),(0, .d (dN a)),(1, .d (dN b))]) (fun i=>[]) (fun i=>i≤(dg a).length∧ ∀j,j<i→(dg a).getD j 0=(dg b).getD j 0) (fun i=>(dg a).length-i) 0 rfl ⟨Nat.zero_le _,fun j hj=>absurd hj (by omega)⟩ (fun _=>rfl) (fun i hk=>?_)
  obtain⟨h1,h2⟩:=hk
  refine br J J J (fun hc14=>?_) (fun hc14=>?_)
  ·
   refine ix _ rfl (abd (by omega)) rfl<|ix _ rfl (abd (by omega)) rfl<|?_
   refine br J J J (fun hc24=>?_) (fun hc24=>?_)
   ·
    exact rz rfl (by rw[decide_eq_false (fun e:a=b=>hc24 (by rw[e]))];rfl)
   ·
    exact at_ (i+1) ⟨⟨by omega,fun j hj=>by by_cases q:j=i;(subst q;omega);exact h2 j (by omega)⟩,(by omega)⟩
  ·
   exact rz rfl (by rw[decide_eq_true (aBg (by omega) (fun j hj=>h2 j (by omega)))];rfl)
theorem at7{a b:Int}{i j:Nat}[ha:BI a i][hb:BI b j](hi:i≤400000000:=by decide):PF GB Tryz.prog 126 [eI a,eI b] (vB (decide (a=b))):=by
 refine fn (fu:=⟨14⟩) Tryz.func126 J J Tryz.ntmps126 J J (fun C=>?_)
 refine eqF 9 (.d (.v (.bool (decide (decide (a<0)=decide (b<0)))))) rfl (by congr 2) ?_
 refine gx rfl<|?_
 refine csd 10 J J J (fun hg10=>?_) (fun hg10=>?_)
 ·
  refine cl rfl (aph (by omega)) rfl<|?_
  exact rz rfl (by show DV.v (.bool _)=DV.v (.bool _);rw[←asA hg10])
 ·
  exact rz rfl (by rw[decide_eq_false (fun e:a=b=>hg10 (by rw[e]))];rfl)
class LB (l:LnQ):Prop where bl:BL l 96
instance LB.a (l:LnQ) [h:LB l]:BI l.a 96:=⟨h.bl.a⟩
instance LB.b (l:LnQ) [h:LB l]:BI l.b 96:=⟨h.bl.b⟩
instance LB.c (l:LnQ) [h:LB l]:BI l.c 96:=⟨h.bl.c⟩
class BPt (p:PtQ) (k:outParam Nat):Prop where
 x:BQ p.x k
 y:BQ p.y k
instance BPt.ix (p:PtQ) (k:Nat) [h:BPt p k]:BQ p.x k:=h.x
instance BPt.iy (p:PtQ) (k:Nat) [h:BPt p k]:BQ p.y k:=h.y
instance BPt.dir (l:LnQ) [LB l]:BPt l.dir 97:=⟨inferInstanceAs (BQ (l.b:Rat) 97),inferInstanceAs (BQ (-(l.a:Rat)) 97)⟩
instance BQ.dot (p q:PtQ) (i j:Nat) [BPt p i] [BPt q j]:BQ (p.dot q) (i+j+(i+j)+1):=inferInstanceAs (BQ (p.x*q.x+p.y*q.y) _)
instance BQ.cross (p q:PtQ) (i j:Nat) [BPt p i] [BPt q j]:BQ (p.cross q) (i+j+(i+j)+1):=inferInstanceAs (BQ (p.x*q.y-p.y*q.x) _)
instance BPt.mov (p q:PtQ) (c:Rat) (i j k:Nat) [BPt p i] [BPt q j] [BQ c k]:BPt (acR p q c) (i+(k+j)+1):=⟨inferInstanceAs (BQ (p.x+c*q.x) _),inferInstanceAs (BQ (p.y+c*q.y) _)⟩
instance BQ.value (l:LnQ) (p:PtQ) (i:Nat) [LB l] [BPt p i]:BQ (l.value p) (96+1+i+(96+1+i)+1+(96+1)+1):=inferInstanceAs (BQ ((l.a:Rat)*p.x+(l.b:Rat)*p.y+(l.c:Rat)) _)
theorem aCF{l:LnQ}(h:l.Ne):l.dir.dot l.dir≠0:=by have:=anp h;grind
theorem ajO{l:LnQ}:PF GB Tryz.prog 128 [eL l] (eP l.dir):=by
 refine fn Tryz.func128 J J Tryz.ntmps128 J J (fun C=>?_)
 refine cl rfl aiL rfl<|cl rfl aiL rfl<|cl rfl aic rfl<|?_
 exact rz J J
theorem aBa{p q:PtQ}{i j:Nat}[hp:BPt p i][hq:BPt q j](hi:i≤200000:=by decide)(hj:j≤200000:=by decide):PF GB Tryz.prog 159 [eP p,eP q] (eQ (p.dot q)):=by
 refine fn Tryz.func159 J J Tryz.ntmps159 J J (fun C=>?_)
 refine cl rfl (abi (by omega) (by omega)) rfl<|cl rfl (abi (by omega) (by omega)) rfl<|cl rfl (aeh (by omega) (by omega)) rfl<|?_
 exact rz J J
theorem agm{p q:PtQ}{i j:Nat}[hp:BPt p i][hq:BPt q j](hi:i≤200000:=by decide)(hj:j≤200000:=by decide):PF GB Tryz.prog 132 [eP p,eP q] (eQ (p.cross q)):=by
 refine fn Tryz.func132 J J Tryz.ntmps132 J J (fun C=>?_)
 refine cl rfl (abi (by omega) (by omega)) rfl<|cl rfl (abi (by omega) (by omega)) rfl<|cl rfl (ako (by omega) (by omega)) rfl<|?_
 exact rz J J
theorem aj9{p q:PtQ}{c:Rat}{i j k:Nat}[hp:BPt p i][hq:BPt q j][hc:BQ c k](hi:i≤200000:=by decide)(hj:j≤200000:=by decide)(hk:k≤200000:=by decide):PF GB Tryz.prog 100 [eP p,eQ c,eP q] (eP (acR p q c)):=by
 refine fn Tryz.func100 J J Tryz.ntmps100 J J (fun C=>?_)
 refine cl rfl (abi (by omega) (by omega)) rfl<|cl rfl (aeh (by omega) (by omega)) rfl<|cl rfl (abi (by omega) (by omega)) rfl<|cl rfl (aeh (by omega) (by omega)) rfl<|?_
 exact rz J J
theorem amt{l:LnQ}{p:PtQ}{i:Nat}[hl:LB l][hp:BPt p i](hi:i≤400000:=by decide):PF GB Tryz.prog 166 [eL l,eP p] (eQ (l.value p)):=by
 refine fn Tryz.func166 J J Tryz.ntmps166 J J (fun C=>?_)
 refine cl rfl (aiL (z:=l.a)) rfl<|cl rfl (abi (by omega) (by omega)) rfl<|cl rfl (aiL (z:=l.b)) rfl<|cl rfl (abi (by omega) (by omega)) rfl<|?_
 refine cl rfl (aeh (by omega) (by omega)) rfl<|cl rfl (aiL (z:=l.c)) rfl<|cl rfl (aeh (by omega) (by omega)) rfl<|?_
 exact rz J J
theorem aiO{l:LnQ}{p:PtQ}{i:Nat}[hl:LB l][hp:BPt p i](hi:i≤400000:=by decide):PF GB Tryz.prog 91 [eL l,eP p] (vI (l.value p).num.sign):=by
 refine fn Tryz.func91 J J Tryz.ntmps91 J J (fun C=>?_)
 refine cl rfl (amt hi) rfl<|cl rfl q_S rfl<|?_
 exact rz J J
theorem aq4{l:LnQ}[hl:LB l](hn:l.Ne):PF GB Tryz.prog 81 [eL l] (eP l.base):=by
 refine fn Tryz.func81 J J Tryz.ntmps81 J J (fun C=>?_)
 refine cl rfl ajO rfl<|cl rfl (aiL (z:=l.c)) rfl<|cl rfl aBa rfl<|cl rfl (aj2 (aCF hn)) rfl<|cl rfl aic rfl<|cl rfl (aiL (z:=l.a)) rfl<|?_
 refine cl rfl abi rfl<|cl rfl (aiL (z:=l.b)) rfl<|cl rfl abi rfl<|?_
 exact rz rfl (by rw[←apP];rfl)
instance BPt.base (l:LnQ) [LB l]:BPt l.base 900:=by
 rw[←apP]
 constructor
 ·exact BQ.mono (inferInstance:BQ (-((l.c:Rat)/l.dir.dot l.dir)*(l.a:Rat)) _) (by decide)
 ·exact BQ.mono (inferInstance:BQ (-((l.c:Rat)/l.dir.dot l.dir)*(l.b:Rat)) _) (by decide)
theorem aGm{l:LnQ}{t:Rat}{k:Nat}[hl:LB l][ht:BQ t k](hn:l.Ne)(hk:k≤200000:=by decide):PF GB Tryz.prog 72 [eL l,eQ t] (eP (l.at t)):=by
 refine fn Tryz.func72 J J Tryz.ntmps72 J J (fun C=>?_)
 refine cl rfl (aq4 hn) rfl<|cl rfl ajO rfl<|cl rfl (aj9 (by decide) (by decide) hk) rfl<|?_
 exact rz rfl (by rw[←auV];rfl)
theorem amf{l:LnQ}{p:PtQ}{k:Nat}[hl:LB l][hp:BPt p k](hn:l.Ne)(hk:k≤200000:=by decide):PF GB Tryz.prog 260 [eL l,eP p] (eQ (acg l p)):=by
 refine fn Tryz.func260 J J Tryz.ntmps260 J J (fun C=>?_)
 refine cl rfl ajO rfl<|cl rfl (aBa (by omega) (by decide)) rfl<|cl rfl (aBa (by omega) (by decide)) rfl<|cl rfl (aj2 (aCF hn) (by omega) (by decide)) rfl<|?_
 exact rz J J
instance BI.crossI (l m:LnQ) [LB l] [LB m]:BI (crossI l m) 385:=inferInstanceAs (BI (l.a*m.b-m.a*l.b) 385)
instance BI.meetX (l m:LnQ) [LB l] [LB m]:BI (meetX l m) 385:=inferInstanceAs (BI (l.b*m.c-m.b*l.c) 385)
instance BI.meetY (l m:LnQ) [LB l] [LB m]:BI (meetY l m) 385:=inferInstanceAs (BI (m.a*l.c-l.a*m.c) 385)
instance BPt.imeet (l m:LnQ) [LB l] [LB m]:BPt (ace l m) 772:=by
 unfold ace
 split
 ·exact⟨BQ.mono (k:=1) ⟨by decide,by decide⟩ (by decide),BQ.mono (k:=1) ⟨by decide,by decide⟩ (by decide)⟩
 ·exact⟨inferInstanceAs (BQ ((meetX l m:Rat)/(crossI l m:Rat)) 772),inferInstanceAs (BQ ((meetY l m:Rat)/(crossI l m:Rat)) 772)⟩
theorem alk(l m:LnQ):(((l.a:Rat)*(m.b:Rat)-(m.a:Rat)*(l.b:Rat)).num.sign=0)↔crossI l m=0:=by
 rw[abh,←ac1]
 exact Rat.intCast_eq_zero_iff
theorem apN{l m:LnQ}(h:crossI l m≠0):(l.a:Rat)*(m.b:Rat)-(m.a:Rat)*(l.b:Rat)≠0:=by
 rw[←ac1]
 exact fun e=>h (Rat.intCast_eq_zero_iff.1 e)
theorem ash{l m:LnQ}[hl:LB l][hm:LB m]:PF GB Tryz.prog 71 [eL l,eL m] (.tp [eP (ace l m),vB (decide (crossI l m≠0))]):=by
 refine fn Tryz.func71 J J Tryz.ntmps71 J J (fun C=>?_)
 refine cl rfl (aiL (z:=l.a)) rfl<|cl rfl (aiL (z:=m.b)) rfl<|cl rfl abi rfl<|cl rfl (aiL (z:=m.a)) rfl<|cl rfl (aiL (z:=l.b)) rfl<|?_
 refine cl rfl abi rfl<|cl rfl ako rfl<|cl rfl q_S rfl<|?_
 refine br J J J (fun hc26=>?_) (fun hc26=>?_)
 ·
  have hcr:=(alk l m).1 hc26
  exact rz rfl (by unfold ace;rw[if_pos hcr,decide_eq_false (fun e=>e hcr)];show DV.tp [.ag [_, .sl [], .sl [],_, .sl [], .sl []],_]= .tp [eP ⟨0,0⟩,_];unfold eP dD;simp only[show(0:Rat).num=0 from rfl,show(0:Rat).den=1 from rfl,Int.natAbs_zero,adv];rfl)
 ·
  have hcr:crossI l m≠0:=fun e=>hc26 ((alk l m).2 e)
  refine cl rfl (aiL (z:=l.b)) rfl<|cl rfl (aiL (z:=m.c)) rfl<|cl rfl abi rfl<|cl rfl (aiL (z:=m.b)) rfl<|cl rfl (aiL (z:=l.c)) rfl<|?_
  refine cl rfl abi rfl<|cl rfl ako rfl<|cl rfl (aiL (z:=m.a)) rfl<|cl rfl (aiL (z:=l.c)) rfl<|cl rfl abi rfl<|cl rfl (aiL (z:=l.a)) rfl<|?_
  refine cl rfl (aiL (z:=m.c)) rfl<|cl rfl abi rfl<|cl rfl ako rfl<|cl rfl (aj2 (apN hcr)) rfl<|cl rfl (aj2 (apN hcr)) rfl<|?_
  exact rz rfl (by unfold ace;rw[if_neg hcr,decide_eq_true hcr,ahA,akT,ac1];rfl)
def agt(l m:LnQ):Int:=if(l.a-m.a).sign≠0 then(l.a-m.a).sign else if(l.b-m.b).sign≠0 then(l.b-m.b).sign else(l.c-m.c).sign
theorem afu(l m:LnQ):agt l m=0↔l=m:=by
 unfold agt
 constructor
 ·intro h
  split at h
  ·contradiction
  ·split at h
   ·contradiction
   ·rename_i h1 h2
    have a1:=Int.sign_eq_zero_iff_zero.1 (Decidable.not_not.1 h1)
    have a2:=Int.sign_eq_zero_iff_zero.1 (Decidable.not_not.1 h2)
    have a3:=Int.sign_eq_zero_iff_zero.1 h
    exact LnQ.ext' (by omega) (by omega) (by omega)
 ·rintro rfl
  simp
theorem aqd{l m:LnQ}[hl:LB l][hm:LB m]:PF GB Tryz.prog 90 [eL l,eL m] (vI (agt l m)):=by
 refine fn Tryz.func90 J J Tryz.ntmps90 J J (fun C=>?_)
 refine cl rfl (ahK (a:=l.a) (b:=m.a)) rfl<|?_
 refine br J J J (fun hc13=>?_) (fun hc13=>?_)
 ·
  exact rz rfl (by show vI _=_;unfold agt;rw[if_pos hc13])
 ·
  refine cl rfl (ahK (a:=l.b) (b:=m.b)) rfl<|?_
  refine br J J J (fun hc21=>?_) (fun hc21=>?_)
  ·
   exact rz rfl (by show vI _=_;unfold agt;rw[if_neg hc13,if_pos hc21])
  ·
   refine cl rfl (ahK (a:=l.c) (b:=m.c)) rfl<|?_
   exact rz rfl (by show vI _=_;unfold agt;rw[if_neg hc13,if_neg hc21])
theorem avk{v:PtQ}:PF GB Tryz.prog 193 [eP v] (vI v.half):=by
 refine fn Tryz.func193 J J Tryz.ntmps193 J J (fun C=>?_)
 refine cl rfl (q_S (q:=v.x)) rfl<|cl rfl (q_S (q:=v.y)) rfl<|?_
 refine cs 13 J J J (fun hg13=>?_) (fun hg13=>?_)
 ·
  refine br J J J (fun hc16=>?_) (fun hc16=>?_)
  ·
   exact rz rfl (by show vI _=vI _;unfold PtQ.half;generalize v.x.num.sign=sx at*;generalize v.y.num.sign=sy at*;congr 1;(repeat' split)<;>omega)
  ·
   refine cs 19 J J J (fun hg19=>?_) (fun hg19=>?_)
   ·
    exact rz rfl (by show vI _=vI _;unfold PtQ.half;generalize v.x.num.sign=sx at*;generalize v.y.num.sign=sy at*;congr 1;(repeat' split)<;>omega)
   ·
    refine cs 22 J J J (fun hg22=>?_) (fun hg22=>?_)
    ·
     refine br J J J (fun hc26=>?_) (fun hc26=>?_)
     ·
      exact rz rfl (by show vI _=vI _;unfold PtQ.half;generalize v.x.num.sign=sx at*;generalize v.y.num.sign=sy at*;congr 1;(repeat' split)<;>omega)
     ·
      exact rz rfl (by show vI _=vI _;unfold PtQ.half;generalize v.x.num.sign=sx at*;generalize v.y.num.sign=sy at*;congr 1;(repeat' split)<;>omega)
    ·
     exact rz rfl (by show vI _=vI _;unfold PtQ.half;generalize v.x.num.sign=sx at*;generalize v.y.num.sign=sy at*;congr 1;(repeat' split)<;>omega)
 ·
  refine cs 19 J J J (fun hg19=>?_) (fun hg19=>?_)
  ·
   exact rz rfl (by show vI _=vI _;unfold PtQ.half;generalize v.x.num.sign=sx at*;generalize v.y.num.sign=sy at*;congr 1;(repeat' split)<;>omega)
  ·
   refine cs 22 J J J (fun hg22=>?_) (fun hg22=>?_)
   ·
    refine br J J J (fun hc26=>?_) (fun hc26=>?_)
    ·
     exact rz rfl (by show vI _=vI _;unfold PtQ.half;generalize v.x.num.sign=sx at*;generalize v.y.num.sign=sy at*;congr 1;(repeat' split)<;>omega)
    ·
     exact rz rfl (by show vI _=vI _;unfold PtQ.half;generalize v.x.num.sign=sx at*;generalize v.y.num.sign=sy at*;congr 1;(repeat' split)<;>omega)
   ·
    exact rz rfl (by show vI _=vI _;unfold PtQ.half;generalize v.x.num.sign=sx at*;generalize v.y.num.sign=sy at*;congr 1;(repeat' split)<;>omega)
theorem aD2(z:Int): -1≤z.sign∧z.sign≤1:=by
 rcases Int.lt_trichotomy z 0 with h|h|h
 ·rw[Int.sign_eq_neg_one_of_neg h];omega
 ·rw[h];decide
 ·rw[Int.sign_eq_one_of_pos h];omega
theorem ao3{u v:PtQ}{i j:Nat}[hu:BPt u i][hv:BPt v j](hi:i≤200000:=by decide)(hj:j≤200000:=by decide):PF GB Tryz.prog 130 [eP u,eP v] (vI (abY u v)):=by
 refine fn Tryz.func130 J J Tryz.ntmps130 J J (fun C=>?_)
 refine cl rfl (avk (v:=u)) rfl<|cl rfl (avk (v:=v)) rfl<|?_
 refine br J J J (fun hc13=>?_) (fun hc13=>?_)
 ·
  refine br J J J (fun hc16=>?_) (fun hc16=>?_)
  ·
   exact rz rfl (by show vI _=vI _;unfold abY;rw[if_pos hc16])
  ·
   exact rz rfl (by show vI _=vI _;unfold abY;rw[if_neg hc16,if_pos (by omega)])
 ·
  refine cl rfl (agm hi hj) rfl<|cl (hv:=by simp only[aai];exact(by have:=aD2 (u.cross v).num;omega)) rfl q_S rfl<|?_
  exact rz rfl (by show vI _=vI _;unfold abY;rw[if_neg (by omega),if_neg (by omega)])
instance BQ.i1:BQ (((1:Int):Rat)) 2:=⟨by decide,by decide⟩
def eV(v:IvQ):DV:= .ag [.v (.bool (decide (v.lo.num<0))),dN v.lo.num.natAbs,dD v.lo.den, .v (.bool (decide (v.hi.num<0))),dN v.hi.num.natAbs,dD v.hi.den, .v (.bool v.nl), .v (.bool v.nh)]
theorem aCL:eV IvQ.all= .ag [.v (.bool false), .sl [], .sl [], .v (.bool false), .sl [], .sl [], .v (.bool true), .v (.bool true)]:=by
 unfold eV IvQ.all dD
 simp only[show(0:Rat).num=0 from rfl,show(0:Rat).den=1 from rfl,Int.natAbs_zero,adv];rfl
theorem ao2:eQ 0= .ag [.v (.bool false), .sl [], .sl []]:=by
 unfold eQ dD
 simp only[show(0:Rat).num=0 from rfl,show(0:Rat).den=1 from rfl,Int.natAbs_zero,adv];rfl
def abR(v:IvQ):Rat:=if v.nl=true∧v.nh=true then 0 else if v.nl=true then v.hi-1 else if v.nh=true then v.lo+1 else(v.lo+v.hi)/2
theorem ay0:PF GB Tryz.prog 259 [] (eV IvQ.all):=by
 refine fn Tryz.func259 J J Tryz.ntmps259 J J (fun C=>?_)
 exact rz rfl (by rw[aCL];rfl)
theorem awp{v:IvQ}{i:Nat}[hl:BQ v.lo i][hh:BQ v.hi i](hi:i≤100000:=by decide):PF GB Tryz.prog 225 [eV v] (eQ (abR v)):=by
 refine fn Tryz.func225 J J Tryz.ntmps225 J J (fun C=>?_)
 refine csb 6 J J J (fun hg6=>?_) (fun hg6=>?_)
 ·
  refine bb J J J (fun hc3=>?_) (fun hc3=>?_)
  ·
   exact rz rfl (by unfold abR;rw[if_pos ⟨hg6,hc3⟩,ao2];rfl)
  ·
   refine bb J J J (fun hc11=>?_) (fun hc11=>?_)
   ·
    refine cl rfl (akj (n:=1) (by decide) (by decide)) rfl<|cl rfl (ako (a:=v.hi) (b:=((1:Int):Rat)) (by omega) (by decide)) rfl<|?_
    exact rz rfl (by unfold abR;rw[if_neg (by simp[hc3]),if_pos hc11];rfl)
   ·
    refine bb J J J (fun hc18=>?_) (fun hc18=>?_)
    ·
     refine cl rfl (akj (n:=1) (by decide) (by decide)) rfl<|cl rfl (aeh (a:=v.lo) (b:=((1:Int):Rat)) (by omega) (by decide)) rfl<|?_
     exact rz rfl (by simp[hg6] at hc11)
    ·
     refine cl rfl (awK (a:=v.lo) (b:=v.hi) (by omega) (by omega)) rfl<|?_
     exact rz rfl (by simp[hg6] at hc11)
 ·
  refine bb J J J (fun hc11=>?_) (fun hc11=>?_)
  ·
   refine cl rfl (akj (n:=1) (by decide) (by decide)) rfl<|cl rfl (ako (a:=v.hi) (b:=((1:Int):Rat)) (by omega) (by decide)) rfl<|?_
   exact rz rfl (by simp[hg6] at hc11)
  ·
   refine bb J J J (fun hc18=>?_) (fun hc18=>?_)
   ·
    refine cl rfl (akj (n:=1) (by decide) (by decide)) rfl<|cl rfl (aeh (a:=v.lo) (b:=((1:Int):Rat)) (by omega) (by decide)) rfl<|?_
    exact rz rfl (by unfold abR;rw[if_neg (by simp[hg6]),if_neg (by simp[hg6]),if_pos hc18];rfl)
   ·
    refine cl rfl (awK (a:=v.lo) (b:=v.hi) (by omega) (by omega)) rfl<|?_
    exact rz rfl (by unfold abR;rw[if_neg (by simp[hg6]),if_neg (by simp[hg6]),if_neg (by simp[hc18])];rfl)
theorem BQ.of_fracI{q:Rat}{n D:Int}{i:Nat}(hd:0<D.natAbs)(h:q*((D.natAbs:Nat):Rat)=(n:Rat))(hn:BI n i)(hD:BI D i):BQ q i:=BQ.of_frac hd h hn.h hD.h
theorem ard{m:Int}{i j:Nat}(h:BI m i)(hij:i≤j):BI m j:=⟨Nat.lt_of_lt_of_le h.h (Nat.pow_le_pow_right (by decide) hij)⟩
theorem aix{l m:LnQ}[LB l][LB m](hn:l.Ne)(h:crossI l m≠0):BQ (acg l (ace l m)) 1200:=by
 have e:=arp hn h
 have hA:BI (crossI l m*(l.a*l.a+l.b*l.b)) _:=inferInstance
 have hB:BI (meetX l m*l.b-meetY l m*l.a) _:=inferInstance
 have hne:crossI l m*(l.a*l.a+l.b*l.b)≠0:=by
  intro q
  rcases Int.mul_eq_zero.1 q with q|q
  ·exact h q
  ·have h1:=anp hn
   simp only[LnQ.dir,PtQ.dot] at h1
   have h2:((l.a*l.a+l.b*l.b:Int):Rat)=((0:Int):Rat):=by rw[q]
   rw[Rat.intCast_add,Rat.intCast_mul,Rat.intCast_mul] at h2
   have h3:((0:Int):Rat)=0:=rfl
   rw[h3] at h2
   grind
 have hA':=ard (j:=1200) hA (by decide)
 have hB':=ard (j:=1200) hB (by decide)
 generalize crossI l m*(l.a*l.a+l.b*l.b)=D at*
 generalize meetX l m*l.b-meetY l m*l.a=M at*
 by_cases hD:0<D
 ·refine BQ.of_fracI (n:=M) (D:=D) (by omega) ?_ hB' hA'
  rw[←e]
  congr 1
  have:((D.natAbs:Nat):Int)=D:=by omega
  rw[←this];rfl
 ·refine BQ.of_fracI (n:= -M) (D:=D) (by omega) ?_ (BI.neg M 1200 (h:=hB')) hA'
  rw[Rat.intCast_neg,←e]
  have:((D.natAbs:Nat):Rat)= -(D:Rat):=by
   have h1:((D.natAbs:Nat):Int)= -D:=by omega
   rw[←Rat.intCast_neg,←h1];rfl
  rw[this];grind
theorem ayt(k:Rat):k.num.sign≤0↔ ¬0<k:=by rw[←ae9];omega
theorem awQ{w:IvQ}(h1: ¬w.nl=true)(h2: ¬w.nh=true)(h3:0≤aa1 w.lo w.hi):w.empty=true:=by
 unfold IvQ.empty
 simp[h1,h2,h3]
theorem anx{w:IvQ}(h:w.nl=true):w.empty=false:=by unfold IvQ.empty;simp[h]
theorem am9{w:IvQ}(h:w.nh=true):w.empty=false:=by unfold IvQ.empty;simp[h]
theorem ant{w:IvQ}(h: ¬0≤aa1 w.lo w.hi):w.empty=false:=by unfold IvQ.empty;simp[h]
def acE(l:LnQ):List LnQ→IvQ→IvQ×Bool
 |[],v=>(v,true)
 |m::t,v=>if m=l then acE l t v else if l.cutB v m=true then acE l t (l.cutV v m) else(l.cutV v m,false)
theorem aeG{l:LnQ}: ∀{c:List LnQ} {v:IvQ},(acE l c v).2=(adb l c v).isSome
 |[],v=>rfl
 |m::t,v=>by
  rw[acE,ahG]
  split
  ·exact aeG
  ·split
   ·exact aeG
   ·rfl
structure Stp (l:LnQ) (c:List LnQ) (k:Nat) (v:IvQ):Prop where
 le:k≤c.length
 p:adb l (c.drop k) v=adb l c IvQ.all
 e:acE l (c.drop k) v=acE l c IvQ.all
 z:IvZ v
 lo:BQ v.lo 1200
 hi:BQ v.hi 1200
theorem Stp.skip{l:LnQ}{c:List LnQ}{k:Nat}{v:IvQ}(h:Stp l c k v)(hk:k<c.length)(e:c[k]=l):Stp l c (k+1) v:=
 ⟨hk,by have:=h.p;rw[List.drop_eq_getElem_cons hk,ahG,if_pos e] at this;exact this,by have:=h.e;rw[List.drop_eq_getElem_cons hk,acE,if_pos e] at this;exact this,h.z,h.lo,h.hi⟩
theorem Stp.cut{l:LnQ}{c:List LnQ}{k:Nat}{v w:IvQ}(h:Stp l c k v)(hk:k<c.length)(e:c[k]≠l)(hb:l.cutB v c[k]=true)(hw:l.cutV v c[k]=w)(z:IvZ w)(lo:BQ w.lo 1200)(hi:BQ w.hi 1200):Stp l c (k+1) w:=
 ⟨hk,by have:=h.p;rw[List.drop_eq_getElem_cons hk,ahG,if_neg e,if_pos hb,hw] at this;exact this,by have:=h.e;rw[List.drop_eq_getElem_cons hk,acE,if_neg e,if_pos hb,hw] at this;exact this,z,lo,hi⟩
theorem Stp.no{l:LnQ}{c:List LnQ}{k:Nat}{v w:IvQ}(h:Stp l c k v)(hk:k<c.length)(e:c[k]≠l)(hb:l.cutB v c[k]=false)(hw:l.cutV v c[k]=w):acE l c IvQ.all=(w,false):=by
 rw[←h.e,List.drop_eq_getElem_cons hk,acE,if_neg e,if_neg (by rw[hb];decide),hw]
theorem Stp.yes{l:LnQ}{c:List LnQ}{k:Nat}{v:IvQ}(h:Stp l c k v)(hk:c.length≤k):acE l c IvQ.all=(v,true):=by
 rw[←h.e,List.drop_eq_nil_of_le hk];rfl
theorem Stp.all{l:LnQ}{c:List LnQ}:Stp l c 0 IvQ.all:=⟨Nat.zero_le _,by rw[List.drop_zero],by rw[List.drop_zero],IvZ.all,BQ.mono (k:=1) ⟨by decide,by decide⟩ (by decide),BQ.mono (k:=1) ⟨by decide,by decide⟩ (by decide)⟩
theorem at9{v:IvQ}{t:Rat}(h:v.nl=true∨0<aa1 t v.lo):(⟨t,v.hi,false,v.nh⟩:IvQ)=aig v t:=by unfold aig;rw[if_pos h]
theorem aAi{v:IvQ}{t:Rat}(h: ¬v.nl=true)(h2: ¬0<aa1 t v.lo):v=aig v t:=by unfold aig;rw[if_neg (fun e=>e.elim h h2)]
theorem atm{v:IvQ}{t:Rat}(h:v.nh=true∨aa1 t v.hi<0):(⟨v.lo,t,v.nl,false⟩:IvQ)=aih v t:=by unfold aih;rw[if_pos h]
theorem aAC{v:IvQ}{t:Rat}(h: ¬v.nh=true)(h2: ¬aa1 t v.hi<0):v=aih v t:=by unfold aih;rw[if_neg (fun e=>e.elim h h2)]
def aro(l m:LnQ)(v:IvQ):IvQ:=if 0<(m.dir.cross l.dir).num.sign then aig v (acg l (ace l m)) else aih v (acg l (ace l m))
theorem aj8{l m:LnQ}{v:IvQ}[LB l][LB m](hn:l.Ne)(hz:IvZ v)(hlo:BQ v.lo 1200)(hhi:BQ v.hi 1200)(h0:crossI l m≠0):l.cutV v m=aro l m v∧l.cutB v m=!(aro l m v).empty∧IvZ (aro l m v)∧BQ (aro l m v).lo 1200∧BQ (aro l m v).hi 1200:=by
 have hb:=aix (l:=l) (m:=m) hn h0
 unfold aro
 split
 ·rename_i h
  obtain⟨_,h1,h2⟩:=aAc hn hz ((ae9 _).1 h)
  refine⟨h1,h2,hz.lo' _,?_⟩
  unfold aig;split
  ·exact⟨hb,hhi⟩
  ·exact⟨hlo,hhi⟩
 ·rename_i h
  obtain⟨h1,h2⟩:=azS hn hz h0 (fun e=>h ((ae9 _).2 e))
  refine⟨h1,h2,hz.hi' _,?_⟩
  unfold aih;split
  ·exact⟨hlo,hb⟩
  ·exact⟨hlo,hhi⟩
theorem aii{l:LnQ}[LB l](hn:l.Ne): ∀{c:List LnQ} {v:IvQ},(∀m∈c,LB m)→IvZ v→BQ v.lo 1200→BQ v.hi 1200→BQ (acE l c v).1.lo 1200∧BQ (acE l c v).1.hi 1200
 |[],v,_,_,h1,h2=>⟨h1,h2⟩
 |m::t,v,hc,hz,h1,h2=>by
  haveI:=hc m List.mem_cons_self
  have hw:IvZ (l.cutV v m)∧BQ (l.cutV v m).lo 1200∧BQ (l.cutV v m).hi 1200:=by
   by_cases h0:crossI l m=0
   ·rw[(agR (v:=v) h0).1];exact⟨hz,h1,h2⟩
   ·obtain⟨u1,_,u3,u4,u5⟩:=aj8 (v:=v) hn hz h1 h2 h0
    rw[u1];exact⟨u3,u4,u5⟩
  have hc':=fun m hm=>hc m (List.mem_cons_of_mem _ hm)
  rw[acE]
  split
  ·exact aii hn hc' hz h1 h2
  ·split
   ·exact aii hn hc' hw.1 hw.2.1 hw.2.2
   ·exact hw.2
theorem ay8{c:List LnQ}{i:Nat}(hc: ∀m∈c,LB m)(hok: ∀m∈c,m.ok)(hn:c.length≤1000)(hi:i<c.length):PF GB Tryz.prog 218 [.sl (c.map eL),vI (i:Nat)] (.tp [eV (acE (c[i]'hi) c IvQ.all).1,vB (acE (c[i]'hi) c IvQ.all).2]):=by
 have hcl:=ae5 c
 obtain⟨l,hl⟩: ∃l,l=c[i]:=⟨_,rfl⟩
 rw[←hl]
 haveI hlb:LB l:=hl▸hc _ (List.getElem_mem hi)
 have hlo:l.ok:=hl▸hok _ (List.getElem_mem hi)
 refine fn Tryz.func218 J J Tryz.ntmps218 J J (fun C=>?_)
 refine ix (fu:=⟨1⟩) _ rfl (aeM hi) rfl<|?_
 refine eqF 16 (.d (eL l)) rfl (by rw[hl];rfl) ?_
 refine gx rfl<|cl (fu:=⟨9⟩) rfl ay0 rfl<|?_
 refine eqF 19 (.d (vI (c.length:Nat))) rfl (by rw[hcl];rfl) ?_
 refine gx rfl<|?_
 refine lp (X:=IvQ×Nat) (fun⟨v,k⟩=>[(20, .d (vI (k:Nat))),(19, .d (vI (c.length:Nat))),(18, .d (.sl (c.map eL))),(1, .d (vI (i:Nat))),(6, .ov 6 0),(7, .ov 7 0),(4, .ov 4 0)]) (fun⟨v,k⟩=>[(7,some (.o 292 [.d ((.v (.bool (decide (v.lo.num<0))))), .d (dN v.lo.num.natAbs), .d (dD v.lo.den), .d ((.v (.bool (decide (v.hi.num<0))))), .d (dN v.hi.num.natAbs), .d (dD v.hi.den), .d ((.v (.bool v.nl))), .d ((.v (.bool v.nh)))] true)),(6,some (.o 88 [.d ((.v (.bool (decide (l.a<0))))), .d (dN l.a.natAbs), .d ((.v (.bool (decide (l.b<0))))), .d (dN l.b.natAbs), .d ((.v (.bool (decide (l.c<0))))), .d (dN l.c.natAbs)] true)),(4,some (.o 292 [.ff, .nl, .nl, .ff, .nl, .nl, .ff, .ff] true))]) (fun⟨v,k⟩=>Stp l c k v) (fun⟨v,k⟩=>c.length-k) ⟨IvQ.all,0⟩ rfl Stp.all (fun _=>rfl) (fun⟨v,k⟩ hk=>?_)
 try dsimp only at hk⊢
 have hS:=hk
 refine br J J J (fun hc21=>?_) (fun hc21=>?_)
 ·
  have hk:k<c.length:=by omega
  obtain⟨m,hm⟩: ∃m,m=c[k]:=⟨_,rfl⟩
  haveI hmb:LB m:=hm▸hc _ (List.getElem_mem hk)
  have hmo:m.ok:=hm▸hok _ (List.getElem_mem hk)
  refine ix (fu:=⟨1⟩) _ rfl (aeM hk) rfl<|?_
  refine eqF 24 (.d (eL m)) rfl (by rw[hm];rfl) ?_
  refine gx rfl<|?_
  refine cs 28 J J J (fun hg28=>?_) (fun hg28=>?_)
  ·
   have hinv:Stp l c (k+1) v:=hS.skip hk (by rw[hl];congr 1;omega)
   exact at_ ⟨v,k+1⟩ (by dsimp only;exact⟨hinv,(by omega)⟩)
  ·
   refine cl rfl (aqd (l:=l) (m:=m)) rfl<|?_
   refine br J J J (fun hc33=>?_) (fun hc33=>?_)
   ·
    have hinv:Stp l c (k+1) v:=hS.skip hk (by rw[←hm,(afu l m).1 hc33])
    exact at_ ⟨v,k+1⟩ (by dsimp only;exact⟨hinv,(by omega)⟩)
   ·
    have hne:c[k]≠l:=fun e=>hc33 ((afu l m).2 (by rw[hm,e]))
    refine cl (fu:=⟨13⟩) rfl (ash (l:=l) (m:=m)) rfl<|?_
    refine eqF 41 (.d (.v (.bool (decide (crossI l m=0))))) rfl (by simp) ?_
    refine gx rfl<|?_
    refine bd J J J (fun hc41=>?_) (fun hc41=>?_)
    ·
     refine cl rfl (aq4 hlo.ne) rfl<|cl rfl (aiO (l:=m) (p:=l.base)) rfl<|?_
     refine br J J J (fun hc46=>?_) (fun hc46=>?_)
     ·
      have hno:=hS.no (w:=v) hk hne (by have:=(agR (v:=v) hc41).2;rw[←hm];cases hb:l.cutB v m with|false=>rfl|true=>exact absurd (this.1 hb) ((ayt _).1 hc46)) (by rw[←hm];exact(agR (v:=v) hc41).1)
      exact rz rfl (by rw[hno];rfl)
     ·
      have hinv:Stp l c (k+1) v:=by have:=agR (v:=v) hc41;exact hS.cut hk hne (by rw[←hm];exact this.2.2 (by have:=mt (ayt (m.value l.base)).2 hc46;exact Decidable.not_not.1 this)) (by rw[←hm];exact this.1) hS.z hS.lo hS.hi
      exact at_ ⟨v,k+1⟩ (by dsimp only;exact⟨hinv,(by omega)⟩)
    ·
     obtain⟨u1,u2,u3,u4,u5⟩:=aj8 (v:=v) hlo.ne hS.z hS.lo hS.hi hc41
     haveI htb:=aix hlo.ne hc41
     haveI hvl:=hS.lo
     haveI hvh:=hS.hi
     refine cl (fu:=⟨0⟩) rfl (amf (l:=l) (p:=ace l m) hlo.ne) rfl<|?_
     obtain⟨t,ht⟩: ∃t,t=acg l (ace l m):=⟨_,rfl⟩
     refine eqF 50 (.d (eQ t)) rfl (by rw[ht]) ?_
     rw[←ht] at htb
     refine gx (fu:=⟨5⟩) rfl<|?_
     refine mg (X:=IvQ) (fun w=>[(20, .d (vI (k:Nat))),(19, .d (vI (c.length:Nat))),(18, .d (.sl (c.map eL))),(1, .d (vI (i:Nat))),(6, .ov 6 0),(7, .ov 7 0),(4, .ov 4 0)]) (fun w=>[(7,some (.o 292 [.d ((.v (.bool (decide (w.lo.num<0))))), .d (dN w.lo.num.natAbs), .d (dD w.lo.den), .d ((.v (.bool (decide (w.hi.num<0))))), .d (dN w.hi.num.natAbs), .d (dD w.hi.den), .d ((.v (.bool w.nl))), .d ((.v (.bool w.nh)))] true)),(6,some (.o 88 [.d ((.v (.bool (decide (l.a<0))))), .d (dN l.a.natAbs), .d ((.v (.bool (decide (l.b<0))))), .d (dN l.b.natAbs), .d ((.v (.bool (decide (l.c<0))))), .d (dN l.c.natAbs)] true)),(4,some (.o 292 [.ff, .nl, .nl, .ff, .nl, .nl, .ff, .ff] true))]) (fun w=>w=aro l m v) [20,19,18,1,6,7,4] [7,6,4] rfl ?_ (fun _=>rfl) (fun w hw=>?_)
     ·
      refine gx rfl<|cl rfl (ajO (l:=m)) rfl<|cl rfl (ajO (l:=l)) rfl<|cl rfl (agm (p:=m.dir) (q:=l.dir)) rfl<|cl rfl (q_S (q:=m.dir.cross l.dir)) rfl<|?_
      refine br J J J (fun hc57=>?_) (fun hc57=>?_)
      ·
       refine csb 60 J J J (fun hg60=>?_) (fun hg60=>?_)
       ·
        refine dpE 7 J J J ?_
        exact at_ ⟨t,v.hi,false,v.nh⟩ (by unfold aro;rw[if_pos hc57,←ht];exact at9 (.inl hg60))
       ·
        refine cl rfl (q_C (a:=t) (b:=v.lo)) rfl<|?_
        refine br J J J (fun hc66=>?_) (fun hc66=>?_)
        ·
         refine dpE 7 J J J ?_
         exact at_ ⟨t,v.hi,false,v.nh⟩ (by unfold aro;rw[if_pos hc57,←ht];exact at9 (.inr hc66))
        ·
         exact at_ v (by unfold aro;rw[if_pos hc57,←ht];exact aAi (by simp[hg60]) hc66)
      ·
       refine csb 72 J J J (fun hg72=>?_) (fun hg72=>?_)
       ·
        refine dpE 7 J J J ?_
        exact at_ ⟨v.lo,t,v.nl,false⟩ (by unfold aro;rw[if_neg hc57,←ht];exact atm (.inl hg72))
       ·
        refine cl rfl (q_C (a:=t) (b:=v.hi)) rfl<|?_
        refine br J J J (fun hc78=>?_) (fun hc78=>?_)
        ·
         refine dpE 7 J J J ?_
         exact at_ ⟨v.lo,t,v.nl,false⟩ (by unfold aro;rw[if_neg hc57,←ht];exact atm (.inr hc78))
        ·
         exact at_ v (by unfold aro;rw[if_neg hc57,←ht];exact aAC (by simp[hg72]) hc78)
     ·
      rw[←hw] at u1 u2 u3 u4 u5
      haveI:=u4
      haveI:=u5
      refine csb 85 J J J (fun hg85=>?_) (fun hg85=>?_)
      ·
       refine csb 90 J J J (fun hg90=>?_) (fun hg90=>?_)
       ·
        refine cl rfl (q_C (a:=w.lo) (b:=w.hi)) rfl<|?_
        refine br J J J (fun hc97=>?_) (fun hc97=>?_)
        ·
         have hno:=hS.no (w:=w) hk hne (by rw[←hm,u2,awQ (by simpa using hg85) (by simpa using hg90) hc97];rfl) (by rw[←hm,u1])
         exact rz rfl (by rw[hno];rfl)
        ·
         have hinv:Stp l c (k+1) w:=hS.cut hk hne (by rw[←hm,u2,ant hc97];rfl) (by rw[←hm,u1]) u3 u4 u5
         exact at_ ⟨w,k+1⟩ (by dsimp only;exact⟨hinv,(by omega)⟩)
       ·
        have hinv:Stp l c (k+1) w:=hS.cut hk hne (by rw[←hm,u2,am9 (by simpa using hg90)];rfl) (by rw[←hm,u1]) u3 u4 u5
        exact at_ ⟨w,k+1⟩ (by dsimp only;exact⟨hinv,(by omega)⟩)
      ·
       have hinv:Stp l c (k+1) w:=hS.cut hk hne (by rw[←hm,u2,anx (by simpa using hg85)];rfl) (by rw[←hm,u1]) u3 u4 u5
       exact at_ ⟨w,k+1⟩ (by dsimp only;exact⟨hinv,(by omega)⟩)
 ·
  exact rz rfl (by rw[hS.yes (by omega)];rfl)
def eLn(l:LnQ):DV:= .ag [vI (fn_ (l.a:Rat)),vI (fd_ (l.a:Rat)),fp_ (l.a:Rat),vI (fn_ (l.b:Rat)),vI (fd_ (l.b:Rat)),fp_ (l.b:Rat),vI (fn_ (l.c:Rat)),vI (fd_ (l.c:Rat)),fp_ (l.c:Rat)]
def eZ(p:PtQ):DV:= .ag [vI (fn_ p.x),vI (fd_ p.x),fp_ p.x,vI (fn_ p.y),vI (fd_ p.y),fp_ p.y]
def eW(v:IvQ):DV:= .ag [vI (fn_ v.lo),vI (fd_ v.lo),fp_ v.lo,vI (fn_ v.hi),vI (fd_ v.hi),fp_ v.hi, .v (.bool v.nl), .v (.bool v.nh)]
theorem awV{G:Gh}{t:List DV}{vs:List Value}(h:IsLs G (vI 0::vI 0:: .v (.pointer none)::t) vs):IsLs G (vI (fn_ 0)::vI (fd_ 0)::fp_ 0::t) vs:=by
 obtain⟨y1,l1,rfl,k1,g1⟩:=aab.1 h
 obtain⟨y2,l2,rfl,k2,g2⟩:=aab.1 g1
 obtain⟨y3,l3,rfl,k3,g3⟩:=aab.1 g2
 have e:decide (Big 0)=false:=decide_eq_false fun h=>atJ h rfl
 exact .cons k1 (.cons k2 (.cons (ape.2 (.inl ⟨e,aaV.1 k3⟩)) g3))
theorem asy{G:Gh}(a:List DV){t:List DV}{vs:List Value}(h:IsLs G (a++vI 0::vI 0:: .v (.pointer none)::t) vs):IsLs G (a++vI (fn_ 0)::vI (fd_ 0)::fp_ 0::t) vs:=by
 obtain⟨x,y,rfl,h1,h2⟩:=h.unapp
 exact h1.app (awV h2)
theorem aB7(G:Gh)(y:Value)(k:Is G (.ag [vI 0,vI 0, .v (.pointer none),vI 0,vI 0, .v (.pointer none), .v (.bool true), .v (.bool true)]) y):Is G (eW IvQ.all) y:=by
 obtain⟨l,rfl,g⟩:=abL.1 k
 exact abL.2 ⟨l,rfl,awV (asy [vI 0,vI 0, .v (.pointer none)] g)⟩
def orI:List Int→Int
 |[]=>0
 |a::t=>if a≠0 then a else orI t
theorem BPt.nor(l:LnQ)[LB l]:BPt l.nor 97:=⟨inferInstanceAs (BQ (l.a:Rat) 97),inferInstanceAs (BQ (l.b:Rat) 97)⟩
attribute [instance] BPt.nor
instance BPt.scale (p:PtQ) (c:Rat) (i k:Nat) [BPt p i] [BQ c k]:BPt (p.scale c) (i+k):=⟨inferInstanceAs (BQ (p.x*c) _),inferInstanceAs (BQ (p.y*c) _)⟩
instance BPt.add (p q:PtQ) (i j:Nat) [BPt p i] [BPt q j]:BPt (p.add q) (i+j+1):=⟨inferInstanceAs (BQ (p.x+q.x) _),inferInstanceAs (BQ (p.y+q.y) _)⟩
instance LB.revA (l:LnQ) [h:LB l]:LB l.rev:=⟨⟨by rw[show l.rev.a= -l.a from rfl,Int.natAbs_neg];exact h.bl.a,by rw[show l.rev.b= -l.b from rfl,Int.natAbs_neg];exact h.bl.b,by rw[show l.rev.c= -l.c from rfl,Int.natAbs_neg];exact h.bl.c⟩⟩
theorem aFr:PF GB Tryz.prog 303 [] (eW IvQ.all):=by
 refine fn Tryz.func303 J J Tryz.ntmps303 J J (fun C=>?_)
 exact rzI rfl aB7
theorem am7{l:LnQ}:PF GB Tryz.prog 112 [eLn l] (eZ l.nor):=by
 refine fn Tryz.func112 J J Tryz.ntmps112 J J (fun C=>?_)
 exact rz J J
theorem aqa{l:LnQ}[hl:LB l]:PF GB Tryz.prog 179 [eLn l] (eZ l.dir):=by
 refine fn Tryz.func179 J J Tryz.ntmps179 J J (fun C=>?_)
 refine cl rfl (ag6 (q:=(l.a:Rat))) rfl<|?_
 exact rz J J
theorem aqP{p q:PtQ}{i j:Nat}[hp:BPt p i][hq:BPt q j](hi:i≤40000000:=by decide)(hj:j≤40000000:=by decide):PF GB Tryz.prog 114 [eZ p,eZ q] (eF (p.dot q)):=by
 refine fn Tryz.func114 J J Tryz.ntmps114 J J (fun C=>?_)
 refine cl rfl (ahZ (p:=p.x) (q:=q.x) (by omega) (by omega)) rfl<|cl rfl (ahZ (p:=p.y) (q:=q.y) (by omega) (by omega)) rfl<|cl rfl (agP (p:=p.x*q.x) (q:=p.y*q.y) (by omega) (by omega)) rfl<|?_
 exact rz J J
theorem awk{p q:PtQ}{i j:Nat}[hp:BPt p i][hq:BPt q j](hi:i≤40000000:=by decide)(hj:j≤40000000:=by decide):PF GB Tryz.prog 206 [eZ p,eZ q] (eF (p.cross q)):=by
 refine fn Tryz.func206 J J Tryz.ntmps206 J J (fun C=>?_)
 refine cl rfl (ahZ (p:=p.x) (q:=q.y) (by omega) (by omega)) rfl<|cl rfl (ahZ (p:=p.y) (q:=q.x) (by omega) (by omega)) rfl<|cl rfl (akQ (p:=p.x*q.y) (q:=p.y*q.x) (by omega) (by omega)) rfl<|?_
 exact rz J J
theorem alW{p:PtQ}{c:Rat}{i j:Nat}[hp:BPt p i][hc:BQ c j](hi:i≤40000000:=by decide)(hj:j≤40000000:=by decide):PF GB Tryz.prog 121 [eZ p,eF c] (eZ (p.scale c)):=by
 refine fn Tryz.func121 J J Tryz.ntmps121 J J (fun C=>?_)
 refine cl rfl (ahZ (p:=p.x) (q:=c) (by omega) (by omega)) rfl<|cl rfl (ahZ (p:=p.y) (q:=c) (by omega) (by omega)) rfl<|?_
 exact rz J J
theorem ayw{p q:PtQ}{i j:Nat}[hp:BPt p i][hq:BPt q j](hi:i≤40000000:=by decide)(hj:j≤40000000:=by decide):PF GB Tryz.prog 120 [eZ p,eZ q] (eZ (p.add q)):=by
 refine fn Tryz.func120 J J Tryz.ntmps120 J J (fun C=>?_)
 refine cl rfl (agP (by omega) (by omega)) rfl<|cl rfl (agP (by omega) (by omega)) rfl<|?_
 exact rz J J
theorem atg{l:LnQ}[hl:LB l]:PF GB Tryz.prog 178 [eLn l] (eZ l.base):=by
 refine fn Tryz.func178 J J Tryz.ntmps178 J J (fun C=>?_)
 refine cl rfl am7 rfl<|cl rfl (ag6 (q:=(l.c:Rat))) rfl<|cl rfl (aqP (p:=l.nor) (q:=l.nor)) rfl<|cl rfl (apT (p:= -(l.c:Rat)) (q:=l.nor.dot l.nor)) rfl<|?_
 refine cl rfl (alW (p:=l.nor)) rfl<|?_
 exact rz J J
theorem alA{l:LnQ}{p:PtQ}{i:Nat}[hl:LB l][hp:BPt p i](hi:i≤10000000:=by decide):PF GB Tryz.prog 117 [eLn l,eZ p] (eF (l.value p)):=by
 refine fn Tryz.func117 J J Tryz.ntmps117 J J (fun C=>?_)
 refine cl rfl (am7 (l:=l)) rfl<|cl rfl (aqP (p:=l.nor) (q:=p) (by omega) (by omega)) rfl<|cl rfl (agP (p:=l.nor.dot p) (q:=(l.c:Rat)) (by omega) (by omega)) rfl<|?_
 exact rz J J
theorem aAB{l:LnQ}{p:PtQ}{i:Nat}[hl:LB l][hp:BPt p i](hi:i≤10000000:=by decide):PF GB Tryz.prog 212 [eLn l,eZ p] (vI (l.value p).num.sign):=by
 refine fn Tryz.func212 J J Tryz.ntmps212 J J (fun C=>?_)
 refine cl rfl (alA (l:=l) (p:=p) hi) rfl<|cl rfl (ads (q:=l.value p) (by omega)) rfl<|?_
 exact rz J J
theorem aDC{l:LnQ}{t:Rat}{i:Nat}[hl:LB l][ht:BQ t i](hi:i≤10000000:=by decide):PF GB Tryz.prog 110 [eLn l,eF t] (eZ (l.at t)):=by
 refine fn Tryz.func110 J J Tryz.ntmps110 J J (fun C=>?_)
 refine cl rfl (atg (l:=l)) rfl<|cl rfl (aqa (l:=l)) rfl<|cl rfl (alW (p:=l.dir) (c:=t) (by omega) (by omega)) rfl<|cl rfl (ayw (p:=l.base) (q:=l.dir.scale t) (by omega) (by omega)) rfl<|?_
 exact rz J J
theorem aBA{v:IvQ}{i j:Nat}[h1:BQ v.lo i][h2:BQ v.hi j](hi:i≤40000000:=by decide)(hj:j≤40000000:=by decide):PF GB Tryz.prog 318 [eW v] (vB v.empty):=by
 refine fn Tryz.func318 J J Tryz.ntmps318 J J (fun C=>?_)
 refine csb 6 J J J (fun hg6=>?_) (fun hg6=>?_)
 ·
  refine csb 11 J J J (fun hg11=>?_) (fun hg11=>?_)
  ·
   refine cl rfl (aj1 (p:=v.lo) (q:=v.hi) (by omega) (by omega)) rfl<|?_
   exact rz rfl (by unfold IvQ.empty;simp_all [vB,afQ])
  ·
   exact rz rfl (by unfold IvQ.empty;simp_all [vB,afQ])
 ·
  exact rz rfl (by unfold IvQ.empty;simp_all [vB,afQ])
instance IvQ.meet_lo (v w:IvQ) (i j:Nat) [h1:BQ v.lo i] [h3:BQ w.lo j]:BQ (v.meet w).lo (i+j):=by
 have a:=h1.mono (Nat.le_add_right i j)
 have b:=h3.mono (Nat.le_add_left j i)
 unfold IvQ.meet;dsimp only;(repeat' split)<;>assumption
instance IvQ.meet_hi (v w:IvQ) (i j:Nat) [h1:BQ v.hi i] [h3:BQ w.hi j]:BQ (v.meet w).hi (i+j):=by
 have a:=h1.mono (Nat.le_add_right i j)
 have b:=h3.mono (Nat.le_add_left j i)
 unfold IvQ.meet;dsimp only;(repeat' split)<;>assumption
theorem ayG{v w:IvQ}{i j:Nat}[h1:BQ v.lo i][h2:BQ v.hi i][h3:BQ w.lo j][h4:BQ w.hi j](hi:i≤10000000:=by decide)(hj:j≤10000000:=by decide):PF GB Tryz.prog 304 [eW v,eW w] (.tp [eW (v.meet w),vB (!(v.meet w).empty)]):=by
 refine fn (fu:=⟨16⟩) Tryz.func304 J J Tryz.ntmps304 J J (fun C=>?_)
 refine mg (fu:=⟨1⟩) (X:=Unit) (fun _=>[(6, .ov 6 0)]) (fun _=>[(6,some (.o 185 [.d (vI (fn_ (v.meet w).lo)), .d (vI (fd_ (v.meet w).lo)), .d (fp_ (v.meet w).lo), .d (vI (fn_ v.hi)), .d (vI (fd_ v.hi)), .d (fp_ v.hi), .d (.v (.bool (v.nl&&w.nl))), .d (.v (.bool (v.nh)))] true))]) (fun _=>True) [6] [6] rfl ?_ (fun _=>rfl) (fun _ _=>?_)
 ·
  refine gx rfl<|?_
  refine bb (v1:=fun hc8=>by simp only[aai];kernel_rfl) J J J (fun hc8=>?_) (fun hc8=>?_)
  ·
   have em:(v.meet w).lo=w.lo:=by unfold IvQ.meet;simp_all
   have eb:(v.nl&&w.nl)=w.nl:=by simp_all
   exact at_ () trivial (hO:=⟨by rw[em,eb]<;>rfl,by repeat (first|exact trivial|refine And.intro rfl ?_)⟩)
  ·
   refine bb J J J (fun hc17=>?_) (fun hc17=>?_)
   ·
    refine cl rfl (aCn (p:=v.lo) (q:=w.lo) (by omega) (by omega)) rfl<|?_
    have em:(v.meet w).lo=(if v.lo<w.lo then w.lo else v.lo):=by unfold IvQ.meet;simp_all
    have eb:(v.nl&&w.nl)=v.nl:=by simp_all
    exact at_ () trivial (hO:=⟨by rw[em,eb]<;>rfl,by repeat (first|exact trivial|refine And.intro rfl ?_)⟩)
   ·
    have em:(v.meet w).lo=v.lo:=by unfold IvQ.meet;simp_all
    have eb:(v.nl&&w.nl)=v.nl:=by simp_all
    exact at_ () trivial (hO:=⟨by rw[em,eb]<;>rfl,by repeat (first|exact trivial|refine And.intro rfl ?_)⟩)
 ·
  refine mg (X:=Unit) (fun _=>[(6, .ov 6 0)]) (fun _=>[(6,some (.o 185 [.d (vI (fn_ (v.meet w).lo)), .d (vI (fd_ (v.meet w).lo)), .d (fp_ (v.meet w).lo), .d (vI (fn_ (v.meet w).hi)), .d (vI (fd_ (v.meet w).hi)), .d (fp_ (v.meet w).hi), .d (.v (.bool (v.nl&&w.nl))), .d (.v (.bool (v.nh&&w.nh)))] true))]) (fun _=>True) [6] [6] rfl ?_ (fun _=>rfl) (fun _ _=>?_)
  ·
   refine gx rfl<|?_
   refine bb (v1:=fun hc27=>by simp only[aai];kernel_rfl) J J J (fun hc27=>?_) (fun hc27=>?_)
   ·
    have em:(v.meet w).hi=w.hi:=by unfold IvQ.meet;simp_all
    have eb:(v.nh&&w.nh)=w.nh:=by simp_all
    exact at_ () trivial (hO:=⟨by rw[em,eb]<;>rfl,by repeat (first|exact trivial|refine And.intro rfl ?_)⟩)
   ·
    refine bb J J J (fun hc36=>?_) (fun hc36=>?_)
    ·
     refine cl rfl (ayS (p:=v.hi) (q:=w.hi) (by omega) (by omega)) rfl<|?_
     have em:(v.meet w).hi=(if w.hi<v.hi then w.hi else v.hi):=by unfold IvQ.meet;simp_all
     have eb:(v.nh&&w.nh)=v.nh:=by simp_all
     exact at_ () trivial (hO:=⟨by rw[em,eb]<;>rfl,by repeat (first|exact trivial|refine And.intro rfl ?_)⟩)
    ·
     have em:(v.meet w).hi=v.hi:=by unfold IvQ.meet;simp_all
     have eb:(v.nh&&w.nh)=v.nh:=by simp_all
     exact at_ () trivial (hO:=⟨by rw[em,eb]<;>rfl,by repeat (first|exact trivial|refine And.intro rfl ?_)⟩)
  ·
   refine cl rfl (aBA (v:=v.meet w) (i:=i+j) (j:=i+j) (by omega) (by omega)) rfl<|?_
   exact rz J J
theorem BQ.z1:BQ (0:Rat) 1:=⟨by decide,by decide⟩
theorem awu{v:IvQ}{t:Rat}{i j:Nat}[h1:BQ v.lo i][h2:BQ v.hi i][h3:BQ t j](hi:i≤10000000:=by decide)(hj:j≤9999999:=by decide):PF GB Tryz.prog 304 [eW v, .ag [vI (fn_ t),vI (fd_ t),fp_ t,vI 0,vI 0, .v (.pointer none), .v (.bool false), .v (.bool true)]] (.tp [eW (v.meet ⟨t,0,false,true⟩),vB (!(v.meet ⟨t,0,false,true⟩).empty)]):=
 (ayG (v:=v) (w:=⟨t,0,false,true⟩) (j:=j+1) (h3:=h3.mono (by omega)) (h4:=BQ.z1.mono (by omega)) hi (by omega)).ofI fun G vs hv=>ass (fun y hy=>by
  obtain⟨l,rfl,g⟩:=abL.1 hy
  exact abL.2 ⟨l,rfl,asy [_,_,_] g⟩) hv
theorem axp{v:IvQ}{t:Rat}{i j:Nat}[h1:BQ v.lo i][h2:BQ v.hi i][h3:BQ t j](hi:i≤10000000:=by decide)(hj:j≤9999999:=by decide):PF GB Tryz.prog 304 [eW v, .ag [vI 0,vI 0, .v (.pointer none),vI (fn_ t),vI (fd_ t),fp_ t, .v (.bool true), .v (.bool false)]] (.tp [eW (v.meet ⟨0,t,true,false⟩),vB (!(v.meet ⟨0,t,true,false⟩).empty)]):=
 (ayG (v:=v) (w:=⟨0,t,true,false⟩) (j:=j+1) (h4:=h3.mono (by omega)) (h3:=BQ.z1.mono (by omega)) hi (by omega)).ofI fun G vs hv=>ass (fun y hy=>by
  obtain⟨l,rfl,g⟩:=abL.1 hy
  exact abL.2 ⟨l,rfl,awV g⟩) hv
instance BQ.cutK (l m:LnQ) [LB l] [LB m]:BQ (l.cutK m) 400:=BQ.mono (inferInstance:BQ (m.nor.dot l.dir) _) (by decide)
instance BQ.cutC (l m:LnQ) [LB l] [LB m]:BQ (l.cutC m) 2500:=BQ.mono (inferInstance:BQ (m.value l.base) _) (by decide)
theorem aDi{l m:LnQ}{v:IvQ}{i:Nat}[hl:LB l][hm:LB m][h1:BQ v.lo i][h2:BQ v.hi i](hi:i≤10000000:=by decide):PF GB Tryz.prog 281 [eLn l,eW v,eLn m] (.tp [eW (l.cutV v m),vB (l.cutB v m)]):=by
 refine fn Tryz.func281 J J Tryz.ntmps281 J J (fun C=>?_)
 refine cl rfl (am7 (l:=m)) rfl<|cl rfl (aqa (l:=l)) rfl<|cl rfl (aqP (p:=m.nor) (q:=l.dir)) rfl<|cl rfl (atg (l:=l)) rfl<|?_
 refine cl rfl (alA (l:=m) (p:=l.base)) rfl<|cl rfl (ads (q:=l.cutK m)) rfl<|?_
 refine br J J J (fun hc21=>?_) (fun hc21=>?_)
 ·
  refine cl rfl (ads (q:=l.cutC m)) rfl<|?_
  exact rz rfl (by unfold LnQ.cutV LnQ.cutB;rw[if_pos hc21,if_pos hc21];rfl)
 ·
  refine br J J J (fun hc27=>?_) (fun hc27=>?_)
  ·
   refine cl rfl (apT (p:=l.cutC m) (q:=l.cutK m)) rfl<|cl rfl (ag6 (q:=l.cutC m/l.cutK m)) rfl<|cl rfl (awu (v:=v) (t:= -(l.cutC m/l.cutK m)) hi) rfl<|?_
   exact rz rfl (by unfold LnQ.cutB LnQ.cutV;rw[if_neg hc21,if_neg hc21,if_pos hc27];rfl)
  ·
   refine cl rfl (apT (p:=l.cutC m) (q:=l.cutK m)) rfl<|cl rfl (ag6 (q:=l.cutC m/l.cutK m)) rfl<|cl rfl (axp (v:=v) (t:= -(l.cutC m/l.cutK m)) hi) rfl<|?_
   exact rz rfl (by unfold LnQ.cutB LnQ.cutV;rw[if_neg hc21,if_neg hc21,if_neg hc27];rfl)
theorem aqR{v:IvQ}{i:Nat}[h1:BQ v.lo i][h2:BQ v.hi i](hi:i≤10000000:=by decide):PF GB Tryz.prog 111 [eW v] (eF v.sample):=by
 refine fn Tryz.func111 J J Tryz.ntmps111 J J (fun C=>?_)
 refine csb 6 J J J (fun hg6=>?_) (fun hg6=>?_)
 ·
  refine bb J J J (fun hc3=>?_) (fun hc3=>?_)
  ·
   exact rzI rfl (by unfold IvQ.sample;rw[hg6,hc3];exact aB0)
  ·
   refine bb J J J (fun hc11=>?_) (fun hc11=>?_)
   ·
    refine cl rfl (akk (m:=1) (by decide)) rfl<|cl rfl (akQ (p:=v.hi) (q:=((1:Int):Rat)) (by omega) (by decide)) rfl<|?_
    exact rz rfl (by unfold IvQ.sample;simp_all [afQ]<;>rfl)
   ·
    refine bb J J J (fun hc18=>?_) (fun hc18=>?_)
    ·
     refine cl rfl (akk (m:=1) (by decide)) rfl<|cl rfl (agP (p:=v.lo) (q:=((1:Int):Rat)) (by omega) (by decide)) rfl<|?_
     exact rz rfl (by unfold IvQ.sample;simp_all [afQ]<;>rfl)
    ·
     refine cl rfl (agP (p:=v.lo) (q:=v.hi) (by omega) (by omega)) rfl<|cl rfl (aoN (q:=v.lo+v.hi) (by omega)) rfl<|?_
     exact rz rfl (by unfold IvQ.sample;simp_all [afQ]<;>rfl)
 ·
  refine bb J J J (fun hc11=>?_) (fun hc11=>?_)
  ·
   refine cl rfl (akk (m:=1) (by decide)) rfl<|cl rfl (akQ (p:=v.hi) (q:=((1:Int):Rat)) (by omega) (by decide)) rfl<|?_
   exact rz rfl (by unfold IvQ.sample;simp_all [afQ]<;>rfl)
  ·
   refine bb J J J (fun hc18=>?_) (fun hc18=>?_)
   ·
    refine cl rfl (akk (m:=1) (by decide)) rfl<|cl rfl (agP (p:=v.lo) (q:=((1:Int):Rat)) (by omega) (by decide)) rfl<|?_
    exact rz rfl (by unfold IvQ.sample;simp_all [afQ]<;>rfl)
   ·
    refine cl rfl (agP (p:=v.lo) (q:=v.hi) (by omega) (by omega)) rfl<|cl rfl (aoN (q:=v.lo+v.hi) (by omega)) rfl<|?_
    exact rz rfl (by unfold IvQ.sample;simp_all [afQ]<;>rfl)
instance BQ.i1':BQ (1:Rat) 2:=⟨by decide,by decide⟩
instance BQ.i2':BQ (2:Rat) 2:=⟨by decide,by decide⟩
theorem amZ{v:IvQ}{i:Nat}[BQ v.lo i][BQ v.hi i]:BQ (abR v) (i+i+5):=by
 unfold abR
 split
 ·exact BQ.mono (k:=1) ⟨by decide,by decide⟩ (by omega)
 ·split
  ·exact BQ.mono (inferInstance:BQ (v.hi-1) _) (by omega)
  ·split
   ·exact BQ.mono (inferInstance:BQ (v.lo+1) _) (by omega)
   ·exact BQ.mono (inferInstance:BQ ((v.lo+v.hi)/2) _) (by omega)
instance BPt.at (l:LnQ) (t:Rat) (k:Nat) [LB l] [BQ t k]:BPt (l.at t) (900+(k+97)+1):=by
 rw[←auV];infer_instance
theorem ati{q:Rat}(h: ¬q.num.sign=0):q≠0:=fun e=>h ((abh q).2 e)
def aeq(d:PtQ):PtQ:=⟨-d.y,d.x⟩
instance BPt.turn (d:PtQ) (k:Nat) [BPt d k]:BPt (aeq d) k:=⟨inferInstanceAs (BQ (-d.y) k),inferInstanceAs (BQ d.x k)⟩
def anD(p v:PtQ)(m:LnQ):Rat:= -(m.value p/(m.value (acR p v ((1:Int):Rat))-m.value p))
def adA(p v:PtQ)(m:LnQ)(s:Rat):Rat:=if(m.value (acR p v ((1:Int):Rat))-m.value p).num.sign=0 then s else if(m.value p).num.sign=0 then s else if 0<(anD p v m).num.sign then(if aa1 (anD p v m/2) s<0 then anD p v m/2 else s) else s
def aks(p v:PtQ):List LnQ→Rat→Rat
 |[],s=>s
 |m::t,s=>aks p v t (adA p v m s)
def aw1(c:List LnQ)(p v:PtQ):PtQ:=acR p v (aks p v c ((1:Int):Rat))
theorem aes{c:List LnQ}{p v:PtQ}{k:Nat}{s s' r:Rat}{m:LnQ}(h:aks p v (c.drop k) s=r)(hk:k<c.length)(hm:m=c[k])(e:adA p v m s=s'):aks p v (c.drop (k+1)) s'=r:=by
 rw[List.drop_eq_getElem_cons hk] at h
 rw[←h,aks,←hm,e]
theorem aCX{c:List LnQ}{p v:PtQ}(hc: ∀m∈c,LB m)(hn:c.length≤1000)(hp:BPt p 4500)(hv:BPt v 97):PF GB Tryz.prog 224 [.sl (c.map eL),eP p,eP v] (eP (aw1 c p v)):=by
 have hcl:=ae5 c
 refine fn Tryz.func224 J J Tryz.ntmps224 J J (fun C=>?_)
 refine cl (fu:=⟨9⟩) rfl (akj (n:=1) (by decide) (by decide)) rfl<|?_
 refine eqF 14 (.d (vI (c.length:Nat))) rfl (by rw[hcl];rfl) ?_
 refine gx rfl<|?_
 refine lp (X:=Rat×Nat) (fun⟨s,k⟩=>[(15, .d (vI (k:Nat))),(14, .d (vI (c.length:Nat))),(13, .d (.sl (c.map eL))),(4, .ov 4 0),(5, .ov 5 0),(7, .ov 7 0),(6, .ov 6 0)]) (fun⟨s,k⟩=>[(7,some (.o 56 [.d ((.v (.bool (decide (s.num<0))))), .d (dN s.num.natAbs), .d (dD s.den)] true)),(6,some (.o 58 [.ff, .nl, .nl, .ff, .nl, .nl] true)),(5,some (.o 58 [.d ((.v (.bool (decide (v.x.num<0))))), .d (dN v.x.num.natAbs), .d (dD v.x.den), .d ((.v (.bool (decide (v.y.num<0))))), .d (dN v.y.num.natAbs), .d (dD v.y.den)] true)),(4,some (.o 58 [.d ((.v (.bool (decide (p.x.num<0))))), .d (dN p.x.num.natAbs), .d (dD p.x.den), .d ((.v (.bool (decide (p.y.num<0))))), .d (dN p.y.num.natAbs), .d (dD p.y.den)] true))]) (fun⟨s,k⟩=>k≤c.length∧BQ s 60000∧aks p v (c.drop k) s=aks p v c ((1:Int):Rat)) (fun⟨s,k⟩=>c.length-k) ⟨((1:Int):Rat),0⟩ rfl ⟨Nat.zero_le _,BQ.i1.mono (by decide),rfl⟩ (fun _=>rfl) (fun⟨s,k⟩ hk=>?_)
 try dsimp only at hk⊢
 obtain⟨hle,hsb,hns⟩:=hk
 refine br J J J (fun hc16=>?_) (fun hc16=>?_)
 ·
  have hk:k<c.length:=by omega
  obtain⟨m,hm⟩: ∃m,m=c[k]:=⟨_,rfl⟩
  haveI hmb:LB m:=hm▸hc _ (List.getElem_mem hk)
  have hinv:=hsb
  refine ix (fu:=⟨1⟩) _ rfl (aeM hk) rfl<|?_
  refine eqF 18 (.d (eL m)) rfl (by rw[hm];rfl) ?_
  refine gx rfl<|cl rfl (akj (n:=1) (by decide) (by decide)) rfl<|cl rfl (aj9 (p:=p) (q:=v) (c:=((1:Int):Rat))) rfl<|cl rfl (amt (l:=m) (p:=acR p v ((1:Int):Rat))) rfl<|?_
  refine cl rfl (amt (l:=m) (p:=p)) rfl<|cl rfl (ako (a:=m.value (acR p v ((1:Int):Rat))) (b:=m.value p)) rfl<|cl rfl (q_S (q:=m.value (acR p v ((1:Int):Rat))-m.value p)) rfl<|?_
  refine cs 32 J J J (fun hg32=>?_) (fun hg32=>?_)
  ·
   exact at_ ⟨s,k+1⟩ (by dsimp only;exact⟨⟨by omega,hinv,(aes hns hk hm (by unfold adA;rw[if_pos hg32]))⟩,(by omega)⟩)
  ·
   refine cl rfl (aiO (l:=m) (p:=p)) rfl<|?_
   refine br J J J (fun hc37=>?_) (fun hc37=>?_)
   ·
    exact at_ ⟨s,k+1⟩ (by dsimp only;exact⟨⟨by omega,hinv,(aes hns hk hm (by unfold adA;rw[if_neg hg32,if_pos hc37]))⟩,(by omega)⟩)
   ·
    refine cl rfl (amt (l:=m) (p:=p)) rfl<|cl rfl (aj2 (a:=m.value p) (b:=m.value (acR p v ((1:Int):Rat))-m.value p) (ati hg32)) rfl<|?_
    refine cl rfl (aic (q:=m.value p/(m.value (acR p v ((1:Int):Rat))-m.value p))) rfl<|cl (fu:=⟨0⟩) rfl (q_S (q:= -(m.value p/(m.value (acR p v ((1:Int):Rat))-m.value p)))) rfl<|?_
    refine csS (v2:=fun hg46=>by simp only[aai];exact⟨by kernel_rfl,by omega⟩) J J J J (fun hg46=>?_) (fun hg46=>?_)
    ·
     refine cl rfl (asZ (a:= -(m.value p/(m.value (acR p v ((1:Int):Rat))-m.value p)))) rfl<|cl rfl (q_C (a:= -(m.value p/(m.value (acR p v ((1:Int):Rat))-m.value p))/2) (b:=s)) rfl<|?_
     refine br J J J (fun hc53=>?_) (fun hc53=>?_)
     ·
      obtain⟨t,ht⟩: ∃t,t= -(m.value p/(m.value (acR p v ((1:Int):Rat))-m.value p)):=⟨_,rfl⟩
      haveI htb:BQ t 45000:=ht▸BQ.mono inferInstance (by decide)
      have hinv:BQ (t/2) 60000:=BQ.mono inferInstance (by decide)
      rw[←ht]
      refine cl rfl (asZ (a:=t)) rfl<|?_
      exact at_ ⟨t/2,k+1⟩ (by dsimp only;exact⟨⟨by omega,hinv,(aes hns hk hm (by unfold adA;rw[if_neg hg32,if_neg hc37,show anD p v m=t from ht.symm,if_pos (by rw[ht];exact hg46),if_pos (by rw[ht];exact hc53)]))⟩,(by omega)⟩)
     ·
      exact at_ ⟨s,k+1⟩ (by dsimp only;exact⟨⟨by omega,hinv,(aes hns hk hm (by unfold adA;rw[if_neg hg32,if_neg hc37,if_pos (show 0<(anD p v m).num.sign from hg46),if_neg (show¬aa1 (anD p v m/2) s<0 from hc53)]))⟩,(by omega)⟩)
    ·
     exact at_ ⟨s,k+1⟩ (by dsimp only;exact⟨⟨by omega,hinv,(aes hns hk hm (by unfold adA;rw[if_neg hg32,if_neg hc37,if_neg (show¬0<(anD p v m).num.sign from hg46)]))⟩,(by omega)⟩)
 ·
  refine cl rfl (aj9 (p:=p) (q:=v) (c:=s)) rfl<|?_
  exact rz rfl (by unfold aw1;rw[←hns,List.drop_eq_nil_of_le (by omega)];rfl)
def acI(c:List LnQ):List LnQ→PtQ
 |[]=>⟨0,0⟩
 |m::t=>if(acE m c IvQ.all).2=true then aw1 c (m.at (abR (acE m c IvQ.all).1)) (aeq m.dir) else acI c t
theorem arH{c:List LnQ}{k:Nat}{m:LnQ}(h:acI c (c.drop k)=acI c c)(hk:k<c.length)(hm:m=c[k])(e:(acE m c IvQ.all).2=true):acI c c=aw1 c (m.at (abR (acE m c IvQ.all).1)) (aeq m.dir):=by
 rw[←h,List.drop_eq_getElem_cons hk,acI,←hm,if_pos e]
theorem as0{c:List LnQ}{k:Nat}{m:LnQ}(h:acI c (c.drop k)=acI c c)(hk:k<c.length)(hm:m=c[k])(e: ¬(acE m c IvQ.all).2=true):acI c (c.drop (k+1))=acI c c:=by
 rw[←h,List.drop_eq_getElem_cons hk,acI,←hm,if_neg e]
theorem au7{c:List LnQ}{m:LnQ}(h:m∈c)(h2:(adb m c IvQ.all).isSome=true):acC c=true:=by
 unfold acC;rw[Bool.or_eq_true,List.any_eq_true];exact .inr ⟨m,h,h2⟩
theorem as9{c:List LnQ}(h:c=[]):acC c=true:=by subst h;rfl
theorem axu{c:List LnQ}(h:c≠[])(h2: ∀m∈c,(adb m c IvQ.all).isSome=false):acC c=false:=by
 rw[←Bool.not_eq_true];unfold acC;rw[Bool.or_eq_true,List.any_eq_true,List.isEmpty_iff]
 rintro (e|⟨m,h3,h4⟩)
 ·exact h e
 ·rw[h2 m h3] at h4;exact absurd h4 (by decide)
theorem atS:eP ⟨0,0⟩= .ag [.v (.bool false), .sl [], .sl [], .v (.bool false), .sl [], .sl []]:=by
 unfold eP dD
 simp only[show(0:Rat).num=0 from rfl,show(0:Rat).den=1 from rfl,Int.natAbs_zero,adv];rfl
theorem aps{c:List LnQ}(hc: ∀m∈c,LB m)(hok: ∀m∈c,m.ok)(hn:c.length≤1000):PF GB Tryz.prog 176 [.sl (c.map eL)] (.tp [eP (acI c c),vB (acC c)]):=by
 have hcl:=ae5 c
 refine fn Tryz.func176 J J Tryz.ntmps176 J J (fun C=>?_)
 refine br (fu2:=⟨7⟩) J J J (fun hc11=>?_) (fun hc11=>?_)
 ·
  exact rz rfl (by rw[List.eq_nil_of_length_eq_zero (l:=c) (by omega),as9 rfl];show _=DV.tp [eP ⟨0,0⟩,_];rw[atS];rfl)
 ·
  refine eqF 14 (.d (vI (c.length:Nat))) rfl (by rw[hcl];rfl) ?_
  refine gx rfl<|?_
  refine lp (X:=Nat) (fun k=>[(15, .d (vI (k:Nat))),(14, .d (vI (c.length:Nat))),(13, .d (.sl (c.map eL))),(0, .d (.sl (c.map eL))),(2, .ov 2 0)]) (fun k=>[(2,some (.o 58 [.ff, .nl, .nl, .ff, .nl, .nl] true))]) (fun k=>k≤c.length∧(∀m∈c.take k,(adb m c IvQ.all).isSome=false)∧acI c (c.drop k)=acI c c) (fun k=>c.length-k) 0 rfl ⟨Nat.zero_le _,fun m hm=>absurd hm (by simp),rfl⟩ (fun _=>rfl) (fun k hk=>?_)
  obtain⟨hle,hno,hip⟩:=hk
  refine br J J J (fun hc16=>?_) (fun hc16=>?_)
  ·
   have hk:k<c.length:=by omega
   obtain⟨m,hm⟩: ∃m,m=c[k]:=⟨_,rfl⟩
   haveI hmb:LB m:=hm▸hc _ (List.getElem_mem hk)
   have hmo:m.ok:=hm▸hok _ (List.getElem_mem hk)
   refine ix (fu:=⟨1⟩) _ rfl (aeM hk) rfl<|?_
   refine eqF 19 (.d (eL m)) rfl (by rw[hm];rfl) ?_
   refine gx rfl<|cl (fu:=⟨0⟩) rfl (ay8 hc hok hn hk) rfl<|?_
   refine eqF 23 (.d (.tp [eV (acE m c IvQ.all).1,vB (acE m c IvQ.all).2])) rfl (by rw[hm]) ?_
   refine gx rfl<|?_
   refine bb J J J (fun hc26=>?_) (fun hc26=>?_)
   ·
    have hbd:=aii (v:=IvQ.all) hmo.ne hc IvZ.all (BQ.mono (k:=1) ⟨by decide,by decide⟩ (by decide)) (BQ.mono (k:=1) ⟨by decide,by decide⟩ (by decide))
    obtain⟨s,hs⟩: ∃s,s=(acE m c IvQ.all).1:=⟨_,rfl⟩
    rw[←hs] at hbd
    haveI:=hbd.1
    haveI:=hbd.2
    haveI hsb:=amZ (v:=s) (i:=1200)
    have hpt:BPt (m.at (abR s)) 4500:=by have:=BPt.at m (abR s) (1200+1200+5);exact⟨this.x.mono (by decide),this.y.mono (by decide)⟩
    have hin:acC c=true:=au7 (hm▸List.getElem_mem hk) (by rw[←aeG];exact hc26)
    have hpn:=arH hip hk hm hc26
    rw[←hs] at hpn⊢
    refine cl rfl (ajO (l:=m)) rfl<|cl rfl (awp (v:=s)) rfl<|cl rfl (aGm (l:=m) (t:=abR s) hmo.ne) rfl<|cl rfl (aic (q:=m.dir.y)) rfl<|?_
    refine cl rfl (aCX (p:=m.at (abR s)) (v:=aeq m.dir) hc hn (hpt) inferInstance) rfl<|?_
    exact rz rfl (by rw[hin,hpn];rfl)
   ·
    exact at_ (k+1) ⟨⟨by omega,asG hno hk (by rw[←hm,←aeG];exact hc26),as0 hip hk hm (by rw[hc26];decide)⟩,(by omega)⟩
  ·
   exact rz rfl (by rw[axu (fun e=>hc11 (by rw[e];rfl)) (fun m hm=>hno m (by rw[List.take_of_length_le (by omega)];exact hm)),←hip,List.drop_eq_nil_of_le (by omega)];show _=DV.tp [eP ⟨0,0⟩,_];rw[atS];rfl)
end Go.Sx
end
