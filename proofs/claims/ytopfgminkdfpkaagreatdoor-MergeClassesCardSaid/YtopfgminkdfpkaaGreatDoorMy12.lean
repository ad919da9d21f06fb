/- Part 12 of a proof. -/
import Derived.Test.YtopfgminkdfpkaaGreatDoorMy11
set_option linter.unusedSimpArgs false
set_option maxHeartbeats 4000000
set_option maxRecDepth 100000
set_option linter.unusedVariables false
section
namespace Go.Sx
open Go Go.Proofs Tryz
variable {GB:Gh}
theorem aBc{m:Int}{g:Nat}(hg:(g:Int)∣m)(hb:m.natAbs<4611686018427387904):IntKind.i64.wrap (m.tdiv g)=m/g:=by
 rw[Int.tdiv_eq_ediv_of_dvd hg]
 have:=mU m g
 exact asi (by omega)
def tm(a b:Int):Int:=if(a*b).natAbs<4611686018427387904 then a*b else 0
theorem azE(a b:Int):(tm a b).natAbs<4611686018427387904:=by unfold tm;split<;>omega
theorem aue{a b:Int}(h:(a*b).natAbs<4611686018427387904):tm a b=a*b:=if_pos h
theorem aDo{a b:Int}(h: ¬(a*b).natAbs<4611686018427387904):DV.tp [vI 0, .v (.bool false)]= .tp [vI (tm a b),vB (decide ((a*b).natAbs<4611686018427387904))]:=by unfold tm;rw[if_neg h,decide_eq_false h];rfl
theorem axp{a b:Int}{x:Int}(h:(a*b).natAbs<4611686018427387904)(e:x=a*b):DV.tp [vI x, .v (.bool true)]= .tp [vI (tm a b),vB (decide ((a*b).natAbs<4611686018427387904))]:=by unfold tm;rw[if_pos h,decide_eq_true h,e];rfl
theorem axH(n:Nat):eI (n:Int)= .ag [.v (.bool false),dN n]:=by unfold eI;rw[decide_eq_false (by omega),jJ]
theorem aCn{p q:Rat}(hp:p.den=1)(hq:q.den=1):rgcd p q=((Nat.gcd p.num.natAbs q.num.natAbs:Nat):Int):=by
 conv=>lhs;rw[ak9 hp,ak9 hq]
 exact agN _ _
theorem az9(q:Rat):mkRat (zv (decide (q.num<0)) q.den) q.num.natAbs=q⁻¹:=by
 rw[Rat.inv_def]
 by_cases h:q.num<0
 ·rw[decide_eq_true h];exact alL h
 ·rw[decide_eq_false h,←Rat.divInt_ofNat,mN (by omega)];rfl
instance BQ.inv (q:Rat) (i:Nat) [h:BQ q i]:BQ q⁻¹ i:=by
 have h1:=h.hn
 have h2:=h.hd
 have h3:=q.den_nz
 rcases kY q.num 0 with k|k|k
 ·obtain⟨e1,e2⟩:=ajd k;exact⟨by omega,by omega⟩
 ·have e:q=0:=lK.1 k
  have e0:(0:Rat)⁻¹=0:=Rat.inv_zero
  rw[e] at h1 h2⊢;rw[e0];exact⟨h1,h2⟩
 ·obtain⟨e1,e2⟩:=ajA k;exact⟨by omega,by omega⟩
instance BQ.half:BQ (mkRat 1 2) 2:=⟨by decide,by decide⟩
theorem aAe{x y:Nat}(hx:x<18446744073709551616)(hy:y<18446744073709551616):PF GB prog 265 [.v (.int .u64 (x:Nat)), .v (.int .u64 (y:Nat))] (.tp [.v (.int .u64 ((x*y/18446744073709551616:Nat):Int)), .v (.int .u64 ((x*y%18446744073709551616:Nat):Int))]):=fun G vs _ hv=>by
 obtain⟨v,m,rfl,h1,h2⟩:=aab.1 hv
 obtain⟨u,m',rfl,h3,h4⟩:=aab.1 h2
 cases aaG.1 h4
 rw[aaP.1 h1,aaP.1 h3]
 exact(aot hx hy).mono fun v G' _ h=>by subst h;exact adL.2 ⟨_,rfl, .cons (aaP.2 rfl) (.cons (aaP.2 rfl) .nil)⟩
theorem aDc{a b:Nat}(ha:a<18446744073709551616)(hb:b<18446744073709551616):PF GB prog 267 [.v (.int .u64 (a:Nat)), .v (.int .u64 (b:Nat))] (.v (.int .u64 (Nat.gcd a b:Nat))):=by
 refine fn func267 J J ntmps267 J J (fun C=>?_)
 refine lp (X:=Nat×Nat) (fun⟨u,v⟩=>[(1, .d (.v (.int .u64 (v:Nat)))),(0, .d (.v (.int .u64 (u:Nat))))]) (fun⟨u,v⟩=>[]) (fun⟨u,v⟩=>u<18446744073709551616∧v<18446744073709551616∧Nat.gcd u v=Nat.gcd a b) (fun⟨u,v⟩=>v) (a,b) rfl ⟨ha,hb,rfl⟩ (fun _=>rfl) (fun⟨u,v⟩ hk=>?_)
 dsimp only at hk⊢
 obtain⟨h1,h2,h3⟩:=hk
 refine br (v1:=fun hc6=>by simp only[aai];exact⟨by omega,by kernel_rfl⟩) J J J (fun hc6=>?_) (fun hc6=>?_)
 ·
  have hm:=dQ u (show 0<v by omega)
  exact at_ (v,u%v) (by dsimp only;exact⟨⟨h2,by omega,by rw[←h3,iZ u v,sX v u,iZ]⟩,hm⟩)
 ·
  exact rz rfl (by rw[←h3,show v=0 by omega,mJ];rfl)
theorem ajS{m:Int}(h:m.natAbs<9223372036854775808):PF GB prog 113 [vI m] (eF (m:Rat)):=by
 refine fn func113 J J ntmps113 J J (fun C=>?_)
 refine cs 5 J J J (fun hg5=>?_) (fun hg5=>?_)
 ·
  refine cl rfl (ai6 (m:=m) (by omega) (by omega)) rfl<|rf (fu:=⟨0⟩) J J<|?_
  refine eqF 11 (.d (dN 1)) rfl (by unfold dN;rw[amk];rfl) ?_
  refine gx rfl<|cl rfl (ad3 (n:=decide (m<0)) (a:=m.natAbs) (i:=63) (h:=⟨h⟩) (d:=1)) rfl<|?_
  exact rz rfl (by rw[adn,show mkRat m 1=(m:Rat) from rX ..];rfl)
 ·
  refine br J J J (fun hc8=>?_) (fun hc8=>?_)
  ·
   refine cl rfl (ai6 (m:=m) (by omega) (by omega)) rfl<|rf (fu:=⟨0⟩) J J<|?_
   refine eqF 11 (.d (dN 1)) rfl (by unfold dN;rw[amk];rfl) ?_
   refine gx rfl<|cl rfl (ad3 (n:=decide (m<0)) (a:=m.natAbs) (i:=63) (h:=⟨h⟩) (d:=1)) rfl<|?_
   exact rz rfl (by rw[adn,show mkRat m 1=(m:Rat) from rX ..];rfl)
  ·
   exact rzI rfl (aE9 (by omega))
theorem ajK{a b:Int}(ha:a.natAbs<4611686018427387904)(hb:b.natAbs<4611686018427387904):PF GB prog 226 [vI a,vI b] (.tp [vI (tm a b),vB (decide ((a*b).natAbs<4611686018427387904))]):=by
 have hab:=iV a b
 refine fn func226 J J ntmps226 J J (fun C=>?_)
 refine cl rfl (asf (m:=a) (by omega)) rfl<|cl rfl (asf (m:=b) (by omega)) rfl<|cl rfl (aAe (x:=a.natAbs) (y:=b.natAbs) (by omega) (by omega)) rfl<|?_
 refine cs 18 J J J (fun hg18=>?_) (fun hg18=>?_)
 ·
  exact rz rfl (aDo (by omega))
 ·
  refine br J J J (fun hc21=>?_) (fun hc21=>?_)
  ·
   exact rz rfl (aDo (by omega))
  ·
   refine bb J J J (fun hc26=>?_) (fun hc26=>?_)
   ·
    have hs:=amT a b
    rw[if_neg (by simpa using hc26)] at hs
    exact rz rfl (axp (by omega) (by rw[hs,←hab];omega))
   ·
    have hs:=amT a b
    rw[if_pos (by simpa using hc26)] at hs
    exact rz rfl (axp (by omega) (by rw[hs,←hab];omega))
theorem apT{m:Int}{d:Nat}(h:m.natAbs<4611686018427387904)(h0:0<d)(hd:d<4611686018427387904):PF GB prog 227 [vI m,vI (d:Nat)] (eF (mkRat m d)):=by
 have hg:Nat.gcd m.natAbs d≤d:=Nat.gcd_le_right _ h0
 have hg0:0<Nat.gcd m.natAbs d:=nJ _ h0
 obtain⟨e1,e2⟩:=asQ (m:=m) h0
 have e3:=mU m (Nat.gcd m.natAbs d:Nat)
 have e4:=jM d (Nat.gcd m.natAbs d)
 have e5:=Nat.div_pos hg hg0
 refine fn func227 J J ntmps227 J J (fun C=>?_)
 refine cl rfl (asf (m:=m) (by omega)) rfl<|cl rfl (aDc (a:=m.natAbs) (b:=d) (by omega) (by omega)) rfl<|?_
 refine br (fu1:=⟨4⟩) J J J (fun hc13=>?_) (fun hc13=>?_)
 ·
  refine eqF 16 (.d (vI (m/(Nat.gcd m.natAbs d:Nat)))) rfl (by rw[aBc (Int.dvd_natAbs.1 (qX.2 (rQ _ _))) h];rfl) ?_
  refine gx (fu:=⟨3⟩) rfl<|?_
  refine eqF 19 (.d (vI ((d/Nat.gcd m.natAbs d:Nat)))) rfl (by rw[aBc (qX.2 (qT _ _)) (by rw[jJ];exact hd)];rfl) ?_
  refine gx (hv:=by simp only[aai];exact⟨by kernel_rfl,by omega⟩) rfl<|?_
  exact rzI rfl (av5 (fun k=>k ⟨by rw[e1];omega,by rw[e2];omega⟩) e1 (by rw[e2]) rfl)
 ·
  exact rzI rfl (by have h1:Nat.gcd m.natAbs d=1:=(by omega);rw[h1,sJ] at e2;rw[h1,Int.natCast_one,Int.ediv_one] at e1;exact av5 (fun k=>k ⟨by rw[e1];omega,by rw[e2];omega⟩) e1 (by rw[e2]) rfl)
theorem ahN{p q:Rat}{i j:Nat}[h:BQ p i][k:BQ q j](hi:i≤100000000:=by decide)(hj:j≤100000000:=by decide):PF GB prog 184 [eF p,eF q] (eF (p*q)):=by
 refine fn (fu:=⟨8⟩) func184 J J ntmps184 J J (fun C=>?_)
 refine mg (X:=Unit) (fun _=>[(2, .ov 2 0),(3, .ov 3 0),(4, .ov 4 0)]) (fun _=>[(2,some (.o 102 [.d (vI (fn_ p)), .d (vI (fd_ p)), .d (fp_ p)] true)),(3,some (.o 102 [.d (vI (fn_ q)), .d (vI (fd_ q)), .d (fp_ q)] true)),(4,some (.o 102 [.d (.v (.int .i64 0)), .d (.v (.int .i64 0)), .d (.v (.pointer none))] true))]) (fun _=>True) [2,3,4] [2,3,4] rfl ?_ (fun _=>rfl) (fun _ _=>?_)
 ·
  refine gx rfl<|?_
  refine cs 12 J J J (fun hg12=>?_) (fun hg12=>?_)
  ·
   refine br (fu1:=⟨4⟩) J J J (fun hc16=>?_) (fun hc16=>?_)
   ·
    have hp:=bgF hg12
    have hq:=bgF hc16
    have p1:=ao1 hp
    have p2:=ari hp
    have p3:=adC hp
    have p4:=adQ hp
    have p5:=p.den_nz
    have q1:=ao1 hq
    have q2:=ari hq
    have q3:=adC hq
    have q4:=adQ hq
    have q5:=q.den_nz
    refine eqF 19 (.d (vI p.num)) rfl (by rw[p1]) ?_
    refine gx (fu:=⟨2⟩) rfl<|?_
    refine eqF 21 (.d (vI q.num)) rfl (by rw[q1]) ?_
    refine gx rfl<|cl (fu:=⟨12⟩) rfl (ajK (a:=p.num) (b:=q.num) (by omega) (by omega)) rfl<|?_
    refine eqF 28 (.d (vI (p.den:Nat))) rfl (by congr 3;omega) ?_
    refine gx (fu:=⟨3⟩) rfl<|?_
    refine eqF 31 (.d (vI (q.den:Nat))) rfl (by congr 3;omega) ?_
    refine gx rfl<|cl rfl (ajK (a:=(p.den:Nat)) (b:=(q.den:Nat)) (by omega) (by omega)) rfl<|?_
    refine csd 36 J J J (fun hg36=>?_) (fun hg36=>?_)
    ·
     refine bd (fu1:=⟨3⟩) J J J (fun hc38=>?_) (fun hc38=>?_)
     ·
      have hd1:p.den*q.den<4611686018427387904:=by omega
      refine eqF 39 (.d (vI (p.num*q.num))) rfl (by rw[aue hg36]) ?_
      refine gx (fu:=⟨1⟩) rfl<|?_
      refine eqF 40 (.d (vI ((p.den*q.den:Nat)))) rfl (by rw[aue hc38];rfl) ?_
      refine gx rfl<|cl rfl (apT (m:=p.num*q.num) (d:=p.den*q.den) hg36 (iY (by omega) (by omega)) hd1) rfl<|?_
      exact rz rfl (by rw[←aen];rfl)
     ·
      exact at_ () trivial
    ·
     exact at_ () trivial
   ·
    exact at_ () trivial
  ·
   exact at_ () trivial
 ·
  refine cl rfl (ald (q:=p) (by omega)) rfl<|cl rfl (ald (q:=q) (by omega)) rfl<|cl rfl (atb (a:=p.num) (b:=q.num) (by omega) (by omega)) rfl<|?_
  refine cl rfl (ajT (q:=p) (by omega)) rfl<|cl rfl (ajT (q:=q) (by omega)) rfl<|cl rfl (aq0 (a:=p.den) (b:=q.den) (by omega) (by omega)) rfl<|?_
  refine cl rfl (ad3 (n:=decide (p.num*q.num<0)) (a:=(p.num*q.num).natAbs) (d:=p.den*q.den) (i:=i+j) (j:=i+j) (by omega) (by omega)) rfl<|?_
  exact rz rfl (by rw[adn,←aen];rfl)
theorem agx{p q:Rat}{i j:Nat}[h:BQ p i][k:BQ q j](hi:i≤100000000:=by decide)(hj:j≤100000000:=by decide):PF GB prog 181 [eF p,eF q] (eF (p+q)):=by
 refine fn (fu:=⟨8⟩) func181 J J ntmps181 J J (fun C=>?_)
 refine mg (X:=Unit) (fun _=>[(2, .ov 2 0),(3, .ov 3 0),(4, .ov 4 0)]) (fun _=>[(2,some (.o 102 [.d (vI (fn_ p)), .d (vI (fd_ p)), .d (fp_ p)] true)),(3,some (.o 102 [.d (vI (fn_ q)), .d (vI (fd_ q)), .d (fp_ q)] true)),(4,some (.o 102 [.d (.v (.int .i64 0)), .d (.v (.int .i64 0)), .d (.v (.pointer none))] true))]) (fun _=>True) [2,3,4] [2,3,4] rfl ?_ (fun _=>rfl) (fun _ _=>?_)
 ·
  refine gx rfl<|?_
  refine cs 16 J J J (fun hg16=>?_) (fun hg16=>?_)
  ·
   refine br (fu1:=⟨1⟩) J J J (fun hc20=>?_) (fun hc20=>?_)
   ·
    have hp:=bgF hg16
    have hq:=bgF hc20
    have p1:=ao1 hp
    have p2:=ari hp
    have p3:=adC hp
    have p4:=adQ hp
    have p5:=p.den_nz
    have q1:=ao1 hq
    have q2:=ari hq
    have q3:=adC hq
    have q4:=adQ hq
    have q5:=q.den_nz
    refine mg (fu:=⟨4⟩) (X:=Unit) (fun _=>[(2, .ov 2 0),(3, .ov 3 0),(4, .ov 4 0)]) (fun _=>[(2,some (.o 102 [.d (vI (fn_ p)), .d (vI (fd_ p)), .d (fp_ p)] true)),(3,some (.o 102 [.d (vI (fn_ q)), .d (vI (fd_ q)), .d (fp_ q)] true)),(4,some (.o 102 [.d (.v (.int .i64 0)), .d (.v (.int .i64 0)), .d (.v (.pointer none))] true))]) (fun _=>True) [2,3,4] [2,3,4] rfl ?_ (fun _=>rfl) (fun _ _=>?_)
    ·
     refine gx rfl<|?_
     refine cs 24 J J J (fun hg24=>?_) (fun hg24=>?_)
     ·
      refine br (fu1:=⟨4⟩) J J J (fun hc28=>?_) (fun hc28=>?_)
      ·
       refine eqF 30 (.d (vI p.num)) rfl (by rw[p1]) ?_
       refine gx (fu:=⟨2⟩) rfl<|?_
       refine eqF 32 (.d (vI q.num)) rfl (by rw[q1]) ?_
       refine gx rfl<|cl rfl (ajS (m:=p.num+q.num) (by omega)) rfl<|?_
       exact rz rfl (by rw[ak9 (q:=p) (by omega),ak9 (q:=q) (by omega),←pR];rfl)
      ·
       exact at_ () trivial
     ·
      exact at_ () trivial
    ·
     refine eqF 37 (.d (vI p.num)) rfl (by rw[p1]) ?_
     refine gx (fu:=⟨3⟩) rfl<|?_
     refine eqF 40 (.d (vI (q.den:Nat))) rfl (by congr 3;omega) ?_
     refine gx rfl<|cl (fu:=⟨11⟩) rfl (ajK (a:=p.num) (b:=(q.den:Nat)) (by omega) (by omega)) rfl<|?_
     refine eqF 46 (.d (vI q.num)) rfl (by rw[q1]) ?_
     refine gx (fu:=⟨3⟩) rfl<|?_
     refine eqF 49 (.d (vI (p.den:Nat))) rfl (by congr 3;omega) ?_
     refine gx rfl<|cl (fu:=⟨12⟩) rfl (ajK (a:=q.num) (b:=(p.den:Nat)) (by omega) (by omega)) rfl<|?_
     refine eqF 56 (.d (vI (p.den:Nat))) rfl (by congr 3;omega) ?_
     refine gx (fu:=⟨3⟩) rfl<|?_
     refine eqF 59 (.d (vI (q.den:Nat))) rfl (by congr 3;omega) ?_
     refine gx rfl<|cl (fu:=⟨3⟩) rfl (ajK (a:=(p.den:Nat)) (b:=(q.den:Nat)) (by omega) (by omega)) rfl<|?_
     have t1:=azE p.num (q.den:Nat)
     have t2:=azE q.num (p.den:Nat)
     have t3:=azE (p.den:Nat) (q.den:Nat)
     refine gx rfl<|?_
     refine csd 67 J J J (fun hg67=>?_) (fun hg67=>?_)
     ·
      refine csd 70 J J J (fun hg70=>?_) (fun hg70=>?_)
      ·
       refine csd 73 J J J (fun hg73=>?_) (fun hg73=>?_)
       ·
        refine cs 77 J J J (fun hg77=>?_) (fun hg77=>?_)
        ·
         refine br (fu1:=⟨3⟩) J J J (fun hc80=>?_) (fun hc80=>?_)
         ·
          have u1:=aue hg67
          have u2:=aue hg70
          have u3:=aue hg73
          have hd1:p.den*q.den<4611686018427387904:=by omega
          refine eqF 81 (.d (vI (p.num*(q.den:Nat)+q.num*(p.den:Nat)))) rfl (by rw[u1,u2];rfl) ?_
          refine gx (fu:=⟨1⟩) rfl<|?_
          refine eqF 82 (.d (vI ((p.den*q.den:Nat)))) rfl (by rw[u3];rfl) ?_
          refine gx rfl<|cl rfl (apT (m:=p.num*(q.den:Nat)+q.num*(p.den:Nat)) (d:=p.den*q.den) (by omega) (iY (by omega) (by omega)) hd1) rfl<|?_
          exact rz rfl (by rw[←aeq];rfl)
         ·
          exact at_ () trivial
        ·
         exact at_ () trivial
       ·
        exact at_ () trivial
      ·
       exact at_ () trivial
     ·
      exact at_ () trivial
   ·
    exact at_ () trivial
  ·
   exact at_ () trivial
 ·
  refine cl rfl (ald (q:=p) (by omega)) rfl<|cl (fu:=⟨1⟩) rfl (ajT (q:=q) (by omega)) rfl<|?_
  refine eqF 88 (.d (eI (q.den:Nat))) rfl (by rw[axH]) ?_
  refine gx rfl<|cl rfl (atb (a:=p.num) (b:=(q.den:Nat)) (by omega) (by omega)) rfl<|cl rfl (ald (q:=q) (by omega)) rfl<|cl (fu:=⟨1⟩) rfl (ajT (q:=p) (by omega)) rfl<|?_
  refine eqF 94 (.d (eI (p.den:Nat))) rfl (by rw[axH]) ?_
  refine gx rfl<|cl rfl (atb (a:=q.num) (b:=(p.den:Nat)) (by omega) (by omega)) rfl<|cl rfl (aC5 (a:=p.num*(q.den:Nat)) (b:=q.num*(p.den:Nat)) (i:=i+j) (j:=j+i) (by omega) (by omega)) rfl<|?_
  refine cl rfl (ajT (q:=p) (by omega)) rfl<|cl rfl (ajT (q:=q) (by omega)) rfl<|cl rfl (aq0 (a:=p.den) (b:=q.den) (by omega) (by omega)) rfl<|?_
  refine cl rfl (ad3 (n:=decide (p.num*(q.den:Nat)+q.num*(p.den:Nat)<0)) (a:=(p.num*(q.den:Nat)+q.num*(p.den:Nat)).natAbs) (d:=p.den*q.den) (i:=i+j+(j+i)+1) (j:=i+j) (by omega) (by omega)) rfl<|?_
  exact rz rfl (by rw[adn,←aeq];rfl)
theorem akE{p q:Rat}{i j:Nat}[h:BQ p i][k:BQ q j](hi:i≤100000000:=by decide)(hj:j≤100000000:=by decide):PF GB prog 180 [eF p,eF q] (eF (p-q)):=by
 refine fn func180 J J ntmps180 J J (fun C=>?_)
 refine cl rfl (afb (q:=q) (by omega)) rfl<|cl rfl (agx (p:=p) (q:= -q) (by omega) (by omega)) rfl<|?_
 exact rz rfl (by rw[←Rat.sub_eq_add_neg];rfl)
theorem ays{q:Rat}{i:Nat}[h:BQ q i](hi:i≤400000000:=by decide):PF GB prog 187 [eF q] (eF q⁻¹):=by
 refine fn func187 J J ntmps187 J J (fun C=>?_)
 refine br (v1:=fun hc3=>by simp only[aai];exact⟨⟨hc3,hc3⟩,hc3⟩) J J J (fun hc3=>?_) (fun hc3=>?_)
 ·
  refine cl rfl (ad3 (n:=decide (q.num<0)) (a:=q.den) (d:=q.num.natAbs) (by omega) (by omega)) rfl<|?_
  exact rz rfl (by rw[az9];rfl)
 ·
  have q1:=ao1 (aq9 hc3)
  have q2:=ari (aq9 hc3)
  have q3:=adC (aq9 hc3)
  have q4:=adQ (aq9 hc3)
  have q5:=q.den_nz
  refine br J J J (fun hc26=>?_) (fun hc26=>?_)
  ·
   exact rzI rfl (by obtain⟨e1,e2⟩:=ajd (q:=q) (by omega);exact av5 (fun k=>k ⟨by omega,by omega⟩) (by omega) (by omega) rfl)
  ·
   refine br J J J (fun hc39=>?_) (fun hc39=>?_)
   ·
    exact rzI rfl (by rw[lK.1 (show q.num=0 by omega),Rat.inv_zero];exact aBM)
   ·
    exact rzI rfl (by obtain⟨e1,e2⟩:=ajA (q:=q) (by omega);exact av5 (fun k=>k ⟨by omega,by omega⟩) (by omega) (by omega) rfl)
theorem ati{p q:Rat}{i j:Nat}[h:BQ p i][k:BQ q j](hi:i≤100000000:=by decide)(hj:j≤100000000:=by decide):PF GB prog 118 [eF p,eF q] (eF (p/q)):=by
 refine fn func118 J J ntmps118 J J (fun C=>?_)
 refine cl rfl (ays (q:=q) (by omega)) rfl<|cl rfl (ahN (p:=p) (q:=q⁻¹) (by omega) (by omega)) rfl<|?_
 exact rz rfl (by rw[Rat.div_def];rfl)
theorem aDa{G:Gh}{q r:DV}{t:List DV}{vs:List Value}(h: ∀y,Is G r y→Is G q y)(hv:IsLs G (r::t) vs):IsLs G (q::t) vs:=by
 obtain⟨y,m,rfl,h1,h2⟩:=aab.1 hv
 exact .cons (h _ h1) h2
theorem atG{G:Gh}{a q r:DV}{t:List DV}{vs:List Value}(h: ∀y,Is G r y→Is G q y)(hv:IsLs G (a::r::t) vs):IsLs G (a::q::t) vs:=by
 obtain⟨y,m,rfl,h1,h2⟩:=aab.1 hv
 exact .cons h1 (aDa h h2)
theorem azh{q:Rat}{i:Nat}[h:BQ q i](hi:i≤100000000:=by decide):PF GB prog 184 [eF q, .ag [vI 1,vI 1, .v (.pointer none)]] (eF (q*mkRat 1 2)):=
 (ahN (p:=q) (q:=mkRat 1 2) hi).ofI fun G vs hv=>atG (fun y hy=>av5 (q:=mkRat 1 2) (fun k=>k ⟨by decide,by decide⟩) (by decide) (by decide) rfl G y hy) hv
theorem auC{q:Rat}{i:Nat}[h:BQ q i](hi:i≤100000000:=by decide):PF GB prog 122 [eF q] (eF (q*mkRat 1 2)):=by
 refine fn func122 J J ntmps122 J J (fun C=>?_)
 refine cl rfl (azh (q:=q) (by omega)) rfl<|?_
 exact rz J J
theorem ajO{p q:Rat}{i j:Nat}[h:BQ p i][k:BQ q j](hi:i≤100000000:=by decide)(hj:j≤100000000:=by decide):PF GB prog 186 [eF p,eF q] (vI (abh p q)):=by
 refine fn func186 J J ntmps186 J J (fun C=>?_)
 refine cs 8 J J J (fun hg8=>?_) (fun hg8=>?_)
 ·
  refine cs 13 J J J (fun hg13=>?_) (fun hg13=>?_)
  ·
   refine br J J J (fun hc19=>?_) (fun hc19=>?_)
   ·
    have hp:=bgF hg8
    have hq:=bgF hg13
    have p1:=ao1 hp
    have p2:=ari hp
    have p3:=adC hp
    have p4:=adQ hp
    have p5:=p.den_nz
    have q1:=ao1 hq
    have q2:=ari hq
    have q3:=adC hq
    have q4:=adQ hq
    have q5:=q.den_nz
    have hl:=ary (a:=p) (b:=q) (by omega)
    have hr:=ary (a:=q) (b:=p) (by omega)
    unfold abh
    refine br J J J (fun hc20=>?_) (fun hc20=>?_)
    ·
     exact rz rfl (by rw[if_pos (hl.2 (by omega))];rfl)
    ·
     refine br J J J (fun hc26=>?_) (fun hc26=>?_)
     ·
      exact rz rfl (by rw[if_neg (fun e=>by have:=hl.1 e;omega),if_pos (hr.2 (by omega))];rfl)
     ·
      exact rz rfl (by rw[if_neg (fun e=>by have:=hl.1 e;omega),if_neg (fun e=>by have:=hr.1 e;omega)];rfl)
   ·
    refine cl rfl (akE (p:=p) (q:=q) (by omega) (by omega)) rfl<|cl rfl (acW (q:=p-q) (by omega)) rfl<|?_
    exact rz rfl (by rw[ah4];rfl)
  ·
   refine cl rfl (akE (p:=p) (q:=q) (by omega) (by omega)) rfl<|cl rfl (acW (q:=p-q) (by omega)) rfl<|?_
   exact rz rfl (by rw[ah4];rfl)
 ·
  refine cl rfl (akE (p:=p) (q:=q) (by omega) (by omega)) rfl<|cl rfl (acW (q:=p-q) (by omega)) rfl<|?_
  exact rz rfl (by rw[ah4];rfl)
theorem aij{p q:Rat}{i j:Nat}[h:BQ p i][k:BQ q j](hi:i≤100000000:=by decide)(hj:j≤100000000:=by decide):PF GB prog 253 [eF p,eF q] (vB (decide (p=q))):=by
 refine fn func253 J J ntmps253 J J (fun C=>?_)
 refine cl rfl (ajO (p:=p) (q:=q) hi hj) rfl<|?_
 exact rz rfl (by show DV.v (.bool (decide _))= .v (.bool _);congr 2;exact decide_eq_decide.2 (aeF p q))
theorem aAR{p q:Rat}{i j:Nat}[h:BQ p i][k:BQ q j](hi:i≤100000000:=by decide)(hj:j≤100000000:=by decide):PF GB prog 317 [eF p,eF q] (eF (if p<q then q else p)):=by
 refine fn func317 J J ntmps317 J J (fun C=>?_)
 refine cl rfl (ajO (p:=q) (q:=p) hj hi) rfl<|?_
 refine br J J J (fun hc8=>?_) (fun hc8=>?_)
 ·
  exact rz rfl (by rw[if_pos ((apX q p).1 hc8)];rfl)
 ·
  exact rz rfl (by rw[if_neg (fun e=>hc8 ((apX q p).2 e))];rfl)
theorem aDs{p q:Rat}{i j:Nat}[h:BQ p i][k:BQ q j](hi:i≤100000000:=by decide)(hj:j≤100000000:=by decide):PF GB prog 116 [eF p,eF q] (eF (if q<p then q else p)):=by
 refine fn func116 J J ntmps116 J J (fun C=>?_)
 refine cl rfl (ajO (p:=q) (q:=p) hj hi) rfl<|?_
 refine br J J J (fun hc8=>?_) (fun hc8=>?_)
 ·
  exact rz rfl (by rw[if_pos ((ao7 q p).1 hc8)];rfl)
 ·
  exact rz rfl (by rw[if_neg (fun e=>hc8 ((ao7 q p).2 e))];rfl)
theorem agR{p q:Rat}{i j:Nat}[h:BQ p i][k:BQ q j](hi:i≤100000000:=by decide)(hj:j≤100000000:=by decide):PF GB prog 252 [eF p,eF q] (eF (rgcd p q)):=by
 refine fn (fu:=⟨8⟩) func252 J J ntmps252 J J (fun C=>?_)
 refine mg (X:=Unit) (fun _=>[(2, .ov 2 0),(3, .ov 3 0),(4, .ov 4 0)]) (fun _=>[(2,some (.o 102 [.d (vI (fn_ p)), .d (vI (fd_ p)), .d (fp_ p)] true)),(3,some (.o 102 [.d (vI (fn_ q)), .d (vI (fd_ q)), .d (fp_ q)] true)),(4,some (.o 102 [.d (.v (.int .i64 0)), .d (.v (.int .i64 0)), .d (.v (.pointer none))] true))]) (fun _=>True) [2,3,4] [2,3,4] rfl ?_ (fun _=>rfl) (fun _ _=>?_)
 ·
  refine gx rfl<|?_
  refine cs 10 J J J (fun hg10=>?_) (fun hg10=>?_)
  ·
   refine cs 15 J J J (fun hg15=>?_) (fun hg15=>?_)
   ·
    have hp:=bgF hg10
    have hq:=bgF hg15
    have p1:=ao1 hp
    have p2:=ari hp
    have p3:=adC hp
    have p4:=adQ hp
    have p5:=p.den_nz
    have q1:=ao1 hq
    have q2:=ari hq
    have q3:=adC hq
    have q4:=adQ hq
    have q5:=q.den_nz
    refine cs 20 J J J (fun hg20=>?_) (fun hg20=>?_)
    ·
     refine br (fu1:=⟨4⟩) J J J (fun hc24=>?_) (fun hc24=>?_)
     ·
      have hg:=aC3 p3 q3
      refine eqF 26 (.d (vI p.num)) rfl (by rw[p1]) ?_
      refine gx rfl<|cl (fu:=⟨2⟩) rfl (asf (m:=p.num) (by omega)) rfl<|?_
      refine eqF 29 (.d (vI q.num)) rfl (by rw[q1]) ?_
      refine gx rfl<|cl rfl (asf (m:=q.num) (by omega)) rfl<|cl (hv:=by simp only[aai];exact⟨by omega,by kernel_rfl⟩) rfl (aDc (a:=p.num.natAbs) (b:=q.num.natAbs) (by omega) (by omega)) rfl<|?_
      exact rzI rfl (by rw[aCn (p:=p) (q:=q) (by omega) (by omega)];exact aE9 (by rw[jJ];exact hg))
     ·
      exact at_ () trivial
    ·
     exact at_ () trivial
   ·
    exact at_ () trivial
  ·
   exact at_ () trivial
 ·
  refine cl rfl (ajT (q:=p) (by omega)) rfl<|cl rfl (ajT (q:=q) (by omega)) rfl<|cl rfl (aq0 (a:=p.den) (b:=q.den) (by omega) (by omega)) rfl<|?_
  refine cl rfl (ald (q:=p) (by omega)) rfl<|cl rfl (ajT (q:=q) (by omega)) rfl<|cl rfl (aq0 (a:=p.num.natAbs) (b:=q.den) (by omega) (by omega)) rfl<|?_
  refine cl rfl (ald (q:=q) (by omega)) rfl<|cl rfl (ajT (q:=p) (by omega)) rfl<|cl rfl (aq0 (a:=q.num.natAbs) (b:=p.den) (by omega) (by omega)) rfl<|?_
  refine cl rfl (aDi (a:=p.num.natAbs*q.den) (b:=q.num.natAbs*p.den) (i:=i+j) (j:=j+i) (by omega) (by omega)) rfl<|cl rfl (ad3 (n:=false) (a:=Nat.gcd (p.num.natAbs*q.den) (q.num.natAbs*p.den)) (d:=p.den*q.den) (i:=i+j+(j+i)) (j:=i+j) (by omega) (by omega)) rfl<|?_
  exact rz J J

def cT:Tr→List DV
 | .leaf b=>[.v (.bool true), .v (.bool b), .v (.bool false), .sl [], .v (.bool false), .sl [], .v (.bool false), .sl [], .v (.pointer none), .v (.pointer none)]
 | .node l x y=>[.v (.bool false), .v (.bool false), .v (.bool (decide (l.a<0))),dN l.a.natAbs, .v (.bool (decide (l.b<0))),dN l.b.natAbs, .v (.bool (decide (l.c<0))),dN l.c.natAbs, .pt (cT x), .pt (cT y)]
def eT(t:Tr):DV:= .pt (cT t)
def eN(n:NQ):DV:= .ag [.v (.bool (decide (n.l.a<0))),dN n.l.a.natAbs, .v (.bool (decide (n.l.b<0))),dN n.l.b.natAbs, .v (.bool (decide (n.l.c<0))),dN n.l.c.natAbs, .v (.int .i64 n.a), .v (.int .i64 n.b)]
def eA(t:Tr):DV:= .ag [.v (.int .i64 (t.num 0)), .sl ((t.wr 0).map eN)]
theorem akN{G:Gh}{k:Nat}{z:IV}{m:Int}(h:IsI k G z m):Is G (.v (.bool (decide (m<0)))) (.bool z.neg)∧Is G (dN m.natAbs) (.slice z.a.a z.a.n z.a.c):=
 ⟨aaP.2 (by rw[h.neg]),(aAu h.abs.lt).2 ⟨_,rfl,h.abs⟩⟩
theorem aul{G:Gh}{k:Nat}{m:Int}{u v:Value}(hm:m.natAbs<2^k)(h1:Is G (.v (.bool (decide (m<0)))) u)(h2:Is G (dN m.natAbs) v): ∃z:IV,u= .bool z.neg∧v= .slice z.a.a z.a.n z.a.c∧IsI k G z m:=by
 obtain⟨x,rfl,hx⟩:=(aAu hm).1 h2
 exact⟨⟨decide (m<0),x⟩,aaP.1 h1,rfl,rfl,hx⟩
structure BL (l:LnQ) (k:Nat):Prop where
 a:l.a.natAbs<2^k
 b:l.b.natAbs<2^k
 c:l.c.natAbs<2^k
theorem aBB{G:Gh}{k:Nat}{l:LnQ}{v:Value}(hl:BL l k)(h:Is G (eL l) v): ∃a b c:IV,v= .agg ⟨[.bool a.neg, .slice a.a.a a.a.n a.a.c, .bool b.neg, .slice b.a.a b.a.n b.a.c, .bool c.neg, .slice c.a.a c.a.n c.a.c]⟩∧IsI k G a l.a∧IsI k G b l.b∧IsI k G c l.c:=by
 obtain⟨m,rfl,g⟩:=abF.1 h
 clear h
 obtain⟨v1,m,rfl,h1,h⟩:=aab.1 g
 obtain⟨v2,m,rfl,h2,h⟩:=aab.1 h
 obtain⟨v3,m,rfl,h3,h⟩:=aab.1 h
 obtain⟨v4,m,rfl,h4,h⟩:=aab.1 h
 obtain⟨v5,m,rfl,h5,h⟩:=aab.1 h
 obtain⟨v6,m,rfl,h6,h⟩:=aab.1 h
 rw[aaG] at h;subst h
 obtain⟨a,rfl,rfl,ha⟩:=aul hl.a h1 h2
 obtain⟨b,rfl,rfl,hb⟩:=aul hl.b h3 h4
 obtain⟨c,rfl,rfl,hc⟩:=aul hl.c h5 h6
 exact⟨a,b,c,rfl,ha,hb,hc⟩
theorem azr{G:Gh}{k:Nat}{n:NQ}{z:ND}(h:auT k G z n):Is G (eN n) z.val:=by
 refine abF.2 ⟨_,rfl, .cons (akN h.a).1 (.cons (akN h.a).2 (.cons (akN h.b).1 (.cons (akN h.b).2 (.cons (akN h.c).1 (.cons (akN h.c).2 (.cons (aaP.2 ?_) (.cons (aaP.2 ?_) .nil)))))))⟩
 ·rw[h.l]
 ·rw[h.r]
theorem atH{G:Gh}{k:Nat}: ∀{ns:List NQ} {zs:List ND},agl (auT k G) zs ns→IsLs G (ns.map eN) (zs.map ND.val)
 |_,_, .nil=> .nil
 |_,_, .cons h t=> .cons (azr h) (atH t)
theorem aEA(ns:List NQ):adx 8 (ns.map eN):=fun d hd=>by
 obtain⟨n,_,rfl⟩:=bL.1 hd;exact⟨rfl,rfl⟩
theorem aBk{G:Gh}{k:Nat}{t:Tr}{x:SV}(h:aF1 k G x (t.wr 0)):Is G (eA t) (.agg ⟨[.int .i64 (t.num 0), .slice x.a x.n x.c]⟩):=by
 obtain⟨zs,h1,h2⟩:=h
 exact abF.2 ⟨_,rfl, .cons (aaP.2 rfl) (.cons (adm.2 ⟨8,x,_,rfl,h1,atH h2⟩) .nil)⟩
theorem Tr.all_wr{p:LnQ→Prop}: ∀{t:Tr} (n:Nat),t.all p→ ∀x∈t.wr n,p x.l
 | .leaf b,n,_,x,hx=>by cases hx
 | .node l u v,n,⟨h1,h2,h3⟩,x,hx=>by
  simp only[Tr.wr,iJ,aU,bV] at hx
  rcases hx with rfl|hx|hx
  ·exact h1
  ·exact u.all_wr _ h2 x hx
  ·exact v.all_wr _ h3 x hx
structure LS (l:LnQ):Prop where
 ok:l.ok
 a:l.a.natAbs≤4
 b:l.b.natAbs≤4
 c:l.c.natAbs≤40000
theorem LS.bl{l:LnQ}(h:LS l):BL l 96:=⟨by have:=h.a;omega,by have:=h.b;omega,by have:=h.c;omega⟩
theorem aeA{xs:List LnQ}{i:Nat}(h:i<xs.length):(xs.map eL)[(i:Int).toNat]? =some (eL xs[i]):=by simp[h]
theorem aeG(xs:List LnQ):(xs.map eL).length=xs.length:=aJ ..
theorem asI{α:Type}{xs:List α}{i:Nat}{p:α→Prop}(h: ∀x∈xs.take i,p x)(hi:i<xs.length)(hy:p xs[i]): ∀x∈xs.take (i+1),p x:=by
 intro x hx
 rw[fW hi] at hx
 simp only[bV,aS] at hx
 rcases hx with hx|rfl
 ·exact h x hx
 ·exact hy
theorem LnQ.ext'{l m:LnQ}(h1:l.a=m.a)(h2:l.b=m.b)(h3:l.c=m.c):l=m:=by cases l;cases m;simp_all
instance:DecidableEq NQ:=fun x y=>decidable_of_iff (x.l=y.l∧x.a=y.a∧x.b=y.b) (by
 cases x;cases y;simp)
theorem abI(ls:List LnQ):adx 6 (ls.map eL):=fun d hd=>by
 obtain⟨n,_,rfl⟩:=bL.1 hd;exact⟨rfl,rfl⟩
theorem akp{z:Int}:PF GB prog 88 [eI z] (eQ (z:Rat)):=by
 refine fn func88 J J ntmps88 J J (fun C=>?_)
 exact rz rfl (by rw[apO];rfl)
theorem aj0{l:LnQ}:PF GB prog 107 [eL l] (eL l.rev):=by
 refine fn func107 J J ntmps107 J J (fun C=>?_)
 refine cl rfl aiQ rfl<|cl rfl aiQ rfl<|cl rfl aiQ rfl<|?_
 exact rz J J
class LB (l:LnQ):Prop where bl:BL l 96
instance LB.a (l:LnQ) [h:LB l]:BI l.a 96:=⟨h.bl.a⟩
instance LB.b (l:LnQ) [h:LB l]:BI l.b 96:=⟨h.bl.b⟩
instance LB.c (l:LnQ) [h:LB l]:BI l.c 96:=⟨h.bl.c⟩
class BPt (p:PtQ) (k:outParam Nat):Prop where
 x:BQ p.x k
 y:BQ p.y k
instance BPt.ix (p:PtQ) (k:Nat) [h:BPt p k]:BQ p.x k:=h.x
instance BPt.iy (p:PtQ) (k:Nat) [h:BPt p k]:BQ p.y k:=h.y
instance BPt.dir (l:LnQ) [LB l]:BPt l.dir 97:=⟨inferInstanceAs (BQ (l.b:Rat) 97),inferInstanceAs (BQ (-(l.a:Rat)) 97)⟩
instance BQ.dot (p q:PtQ) (i j:Nat) [BPt p i] [BPt q j]:BQ (p.dot q) (i+j+(i+j)+1):=inferInstanceAs (BQ (p.x*q.x+p.y*q.y) _)
instance BQ.cross (p q:PtQ) (i j:Nat) [BPt p i] [BPt q j]:BQ (p.cross q) (i+j+(i+j)+1):=inferInstanceAs (BQ (p.x*q.y-p.y*q.x) _)
instance BPt.mov (p q:PtQ) (c:Rat) (i j k:Nat) [BPt p i] [BPt q j] [BQ c k]:BPt (adH p q c) (i+(k+j)+1):=⟨inferInstanceAs (BQ (p.x+c*q.x) _),inferInstanceAs (BQ (p.y+c*q.y) _)⟩
instance BQ.value (l:LnQ) (p:PtQ) (i:Nat) [LB l] [BPt p i]:BQ (l.value p) (96+1+i+(96+1+i)+1+(96+1)+1):=inferInstanceAs (BQ ((l.a:Rat)*p.x+(l.b:Rat)*p.y+(l.c:Rat)) _)
theorem aBv{l:LnQ}(h:l.Ne):l.dir.dot l.dir≠0:=by have:=al7 h;grind
theorem ant{l:LnQ}:PF GB prog 128 [eL l] (eP l.dir):=by
 refine fn func128 J J ntmps128 J J (fun C=>?_)
 refine cl rfl akp rfl<|cl rfl akp rfl<|cl rfl aop rfl<|?_
 exact rz J J
theorem aAB{p q:PtQ}{i j:Nat}[hp:BPt p i][hq:BPt q j](hi:i≤200000:=by decide)(hj:j≤200000:=by decide):PF GB prog 159 [eP p,eP q] (eQ (p.dot q)):=by
 refine fn func159 J J ntmps159 J J (fun C=>?_)
 refine cl rfl (abt (by omega) (by omega)) rfl<|cl rfl (abt (by omega) (by omega)) rfl<|cl rfl (ae3 (by omega) (by omega)) rfl<|?_
 exact rz J J
theorem ak0{p q:PtQ}{i j:Nat}[hp:BPt p i][hq:BPt q j](hi:i≤200000:=by decide)(hj:j≤200000:=by decide):PF GB prog 132 [eP p,eP q] (eQ (p.cross q)):=by
 refine fn func132 J J ntmps132 J J (fun C=>?_)
 refine cl rfl (abt (by omega) (by omega)) rfl<|cl rfl (abt (by omega) (by omega)) rfl<|cl rfl (aln (by omega) (by omega)) rfl<|?_
 exact rz J J
theorem amr{p q:PtQ}{c:Rat}{i j k:Nat}[hp:BPt p i][hq:BPt q j][hc:BQ c k](hi:i≤200000:=by decide)(hj:j≤200000:=by decide)(hk:k≤200000:=by decide):PF GB prog 100 [eP p,eQ c,eP q] (eP (adH p q c)):=by
 refine fn func100 J J ntmps100 J J (fun C=>?_)
 refine cl rfl (abt (by omega) (by omega)) rfl<|cl rfl (ae3 (by omega) (by omega)) rfl<|cl rfl (abt (by omega) (by omega)) rfl<|cl rfl (ae3 (by omega) (by omega)) rfl<|?_
 exact rz J J
theorem akT{l:LnQ}{p:PtQ}{i:Nat}[hl:LB l][hp:BPt p i](hi:i≤400000:=by decide):PF GB prog 166 [eL l,eP p] (eQ (l.value p)):=by
 refine fn func166 J J ntmps166 J J (fun C=>?_)
 refine cl rfl (akp (z:=l.a)) rfl<|cl rfl (abt (by omega) (by omega)) rfl<|cl rfl (akp (z:=l.b)) rfl<|cl rfl (abt (by omega) (by omega)) rfl<|?_
 refine cl rfl (ae3 (by omega) (by omega)) rfl<|cl rfl (akp (z:=l.c)) rfl<|cl rfl (ae3 (by omega) (by omega)) rfl<|?_
 exact rz J J
theorem apD{l:LnQ}{p:PtQ}{i:Nat}[hl:LB l][hp:BPt p i](hi:i≤400000:=by decide):PF GB prog 91 [eL l,eP p] (vI (l.value p).num.sign):=by
 refine fn func91 J J ntmps91 J J (fun C=>?_)
 refine cl rfl (akT hi) rfl<|cl rfl q_S rfl<|?_
 exact rz J J
theorem aus{l:LnQ}[hl:LB l](hn:l.Ne):PF GB prog 81 [eL l] (eP l.base):=by
 refine fn func81 J J ntmps81 J J (fun C=>?_)
 refine cl rfl ant rfl<|cl rfl (akp (z:=l.c)) rfl<|cl rfl aAB rfl<|cl rfl (aj3 (aBv hn)) rfl<|cl rfl aop rfl<|cl rfl (akp (z:=l.a)) rfl<|?_
 refine cl rfl abt rfl<|cl rfl (akp (z:=l.b)) rfl<|cl rfl abt rfl<|?_
 exact rz rfl (by rw[←apG];rfl)
instance BPt.base (l:LnQ) [LB l]:BPt l.base 900:=by
 rw[←apG]
 constructor
 ·exact BQ.mono (inferInstance:BQ (-((l.c:Rat)/l.dir.dot l.dir)*(l.a:Rat)) _) (by decide)
 ·exact BQ.mono (inferInstance:BQ (-((l.c:Rat)/l.dir.dot l.dir)*(l.b:Rat)) _) (by decide)
theorem aEB{l:LnQ}{t:Rat}{k:Nat}[hl:LB l][ht:BQ t k](hn:l.Ne)(hk:k≤200000:=by decide):PF GB prog 72 [eL l,eQ t] (eP (l.at t)):=by
 refine fn func72 J J ntmps72 J J (fun C=>?_)
 refine cl rfl (aus hn) rfl<|cl rfl ant rfl<|cl rfl (amr (by decide) (by decide) hk) rfl<|?_
 exact rz rfl (by rw[←auu];rfl)
theorem alA{l:LnQ}{p:PtQ}{k:Nat}[hl:LB l][hp:BPt p k](hn:l.Ne)(hk:k≤200000:=by decide):PF GB prog 260 [eL l,eP p] (eQ (acl l p)):=by
 refine fn func260 J J ntmps260 J J (fun C=>?_)
 refine cl rfl ant rfl<|cl rfl (aAB (by omega) (by decide)) rfl<|cl rfl (aAB (by omega) (by decide)) rfl<|cl rfl (aj3 (aBv hn) (by omega) (by decide)) rfl<|?_
 exact rz J J
instance BI.crossI (l m:LnQ) [LB l] [LB m]:BI (crossI l m) 385:=inferInstanceAs (BI (l.a*m.b-m.a*l.b) 385)
instance BI.meetX (l m:LnQ) [LB l] [LB m]:BI (meetX l m) 385:=inferInstanceAs (BI (l.b*m.c-m.b*l.c) 385)
instance BI.meetY (l m:LnQ) [LB l] [LB m]:BI (meetY l m) 385:=inferInstanceAs (BI (m.a*l.c-l.a*m.c) 385)
instance BPt.imeet (l m:LnQ) [LB l] [LB m]:BPt (acR l m) 772:=by
 unfold acR
 split
 ·exact⟨BQ.mono (k:=1) ⟨by decide,by decide⟩ (by decide),BQ.mono (k:=1) ⟨by decide,by decide⟩ (by decide)⟩
 ·exact⟨inferInstanceAs (BQ ((meetX l m:Rat)/(crossI l m:Rat)) 772),inferInstanceAs (BQ ((meetY l m:Rat)/(crossI l m:Rat)) 772)⟩
theorem aj5(l m:LnQ):(((l.a:Rat)*(m.b:Rat)-(m.a:Rat)*(l.b:Rat)).num.sign=0)↔crossI l m=0:=by
 rw[aby,←aei]
 exact cY
theorem aqs{l m:LnQ}(h:crossI l m≠0):(l.a:Rat)*(m.b:Rat)-(m.a:Rat)*(l.b:Rat)≠0:=by
 rw[←aei]
 exact fun e=>h (cY.1 e)
theorem as8{l m:LnQ}[hl:LB l][hm:LB m]:PF GB prog 71 [eL l,eL m] (.tp [eP (acR l m),vB (decide (crossI l m≠0))]):=by
 refine fn func71 J J ntmps71 J J (fun C=>?_)
 refine cl rfl (akp (z:=l.a)) rfl<|cl rfl (akp (z:=m.b)) rfl<|cl rfl abt rfl<|cl rfl (akp (z:=m.a)) rfl<|cl rfl (akp (z:=l.b)) rfl<|?_
 refine cl rfl abt rfl<|cl rfl aln rfl<|cl rfl q_S rfl<|?_
 refine br J J J (fun hc26=>?_) (fun hc26=>?_)
 ·
  have hcr:=(aj5 l m).1 hc26
  exact rz rfl (by unfold acR;rw[if_pos hcr,decide_eq_false (fun e=>e hcr)];show DV.tp [.ag [_, .sl [], .sl [],_, .sl [], .sl []],_]= .tp [eP ⟨0,0⟩,_];unfold eP dD;simp only[show(0:Rat).num=0 from rfl,show(0:Rat).den=1 from rfl,kQ,adj];rfl)
 ·
  have hcr:crossI l m≠0:=fun e=>hc26 ((aj5 l m).2 e)
  refine cl rfl (akp (z:=l.b)) rfl<|cl rfl (akp (z:=m.c)) rfl<|cl rfl abt rfl<|cl rfl (akp (z:=m.b)) rfl<|cl rfl (akp (z:=l.c)) rfl<|?_
  refine cl rfl abt rfl<|cl rfl aln rfl<|cl rfl (akp (z:=m.a)) rfl<|cl rfl (akp (z:=l.c)) rfl<|cl rfl abt rfl<|cl rfl (akp (z:=l.a)) rfl<|?_
  refine cl rfl (akp (z:=m.c)) rfl<|cl rfl abt rfl<|cl rfl aln rfl<|cl rfl (aj3 (aqs hcr)) rfl<|cl rfl (aj3 (aqs hcr)) rfl<|?_
  exact rz rfl (by unfold acR;rw[if_neg hcr,decide_eq_true hcr,akt,akC,aei];rfl)
def ael(l m:LnQ):Int:=if(l.a-m.a).sign≠0 then(l.a-m.a).sign else if(l.b-m.b).sign≠0 then(l.b-m.b).sign else(l.c-m.c).sign
theorem agE(l m:LnQ):ael l m=0↔l=m:=by
 unfold ael
 constructor
 ·intro h
  split at h
  ·contradiction
  ·split at h
   ·contradiction
   ·rename_i h1 h2
    have a1:=iT.1 (Decidable.not_not.1 h1)
    have a2:=iT.1 (Decidable.not_not.1 h2)
    have a3:=iT.1 h
    exact LnQ.ext' (by omega) (by omega) (by omega)
 ·rintro rfl
  simp
theorem aiE{l m:LnQ}[hl:LB l][hm:LB m]:PF GB prog 90 [eL l,eL m] (vI (ael l m)):=by
 refine fn func90 J J ntmps90 J J (fun C=>?_)
 refine cl rfl (ahn (a:=l.a) (b:=m.a)) rfl<|?_
 refine br J J J (fun hc13=>?_) (fun hc13=>?_)
 ·
  exact rz rfl (by show vI _=_;unfold ael;rw[if_pos hc13])
 ·
  refine cl rfl (ahn (a:=l.b) (b:=m.b)) rfl<|?_
  refine br J J J (fun hc21=>?_) (fun hc21=>?_)
  ·
   exact rz rfl (by show vI _=_;unfold ael;rw[if_neg hc13,if_pos hc21])
  ·
   refine cl rfl (ahn (a:=l.c) (b:=m.c)) rfl<|?_
   exact rz rfl (by show vI _=_;unfold ael;rw[if_neg hc13,if_neg hc21])
theorem ax3{v:PtQ}:PF GB prog 193 [eP v] (vI v.half):=by
 refine fn func193 J J ntmps193 J J (fun C=>?_)
 refine cl rfl (q_S (q:=v.x)) rfl<|cl rfl (q_S (q:=v.y)) rfl<|?_
 refine cs 13 J J J (fun hg13=>?_) (fun hg13=>?_)
 ·
  refine br J J J (fun hc16=>?_) (fun hc16=>?_)
  ·
   exact rz rfl (by show vI _=vI _;unfold PtQ.half;generalize v.x.num.sign=sx at*;generalize v.y.num.sign=sy at*;congr 1;(repeat' split)<;>omega)
  ·
   refine cs 19 J J J (fun hg19=>?_) (fun hg19=>?_)
   ·
    exact rz rfl (by show vI _=vI _;unfold PtQ.half;generalize v.x.num.sign=sx at*;generalize v.y.num.sign=sy at*;congr 1;(repeat' split)<;>omega)
   ·
    refine cs 22 J J J (fun hg22=>?_) (fun hg22=>?_)
    ·
     refine br J J J (fun hc26=>?_) (fun hc26=>?_)
     ·
      exact rz rfl (by show vI _=vI _;unfold PtQ.half;generalize v.x.num.sign=sx at*;generalize v.y.num.sign=sy at*;congr 1;(repeat' split)<;>omega)
     ·
      exact rz rfl (by show vI _=vI _;unfold PtQ.half;generalize v.x.num.sign=sx at*;generalize v.y.num.sign=sy at*;congr 1;(repeat' split)<;>omega)
    ·
     exact rz rfl (by show vI _=vI _;unfold PtQ.half;generalize v.x.num.sign=sx at*;generalize v.y.num.sign=sy at*;congr 1;(repeat' split)<;>omega)
 ·
  refine cs 19 J J J (fun hg19=>?_) (fun hg19=>?_)
  ·
   exact rz rfl (by show vI _=vI _;unfold PtQ.half;generalize v.x.num.sign=sx at*;generalize v.y.num.sign=sy at*;congr 1;(repeat' split)<;>omega)
  ·
   refine cs 22 J J J (fun hg22=>?_) (fun hg22=>?_)
   ·
    refine br J J J (fun hc26=>?_) (fun hc26=>?_)
    ·
     exact rz rfl (by show vI _=vI _;unfold PtQ.half;generalize v.x.num.sign=sx at*;generalize v.y.num.sign=sy at*;congr 1;(repeat' split)<;>omega)
    ·
     exact rz rfl (by show vI _=vI _;unfold PtQ.half;generalize v.x.num.sign=sx at*;generalize v.y.num.sign=sy at*;congr 1;(repeat' split)<;>omega)
   ·
    exact rz rfl (by show vI _=vI _;unfold PtQ.half;generalize v.x.num.sign=sx at*;generalize v.y.num.sign=sy at*;congr 1;(repeat' split)<;>omega)
theorem aC8(z:Int): -1≤z.sign∧z.sign≤1:=by
 rcases kY z 0 with h|h|h
 ·rw[dT h];omega
 ·rw[h];decide
 ·rw[eJ h];omega
theorem aAz{u v:PtQ}{i j:Nat}[hu:BPt u i][hv:BPt v j](hi:i≤200000:=by decide)(hj:j≤200000:=by decide):PF GB prog 130 [eP u,eP v] (vI (aaC u v)):=by
 refine fn func130 J J ntmps130 J J (fun C=>?_)
 refine cl rfl (ax3 (v:=u)) rfl<|cl rfl (ax3 (v:=v)) rfl<|?_
 refine br J J J (fun hc13=>?_) (fun hc13=>?_)
 ·
  refine br J J J (fun hc16=>?_) (fun hc16=>?_)
  ·
   exact rz rfl (by show vI _=vI _;unfold aaC;rw[if_pos hc16])
  ·
   exact rz rfl (by show vI _=vI _;unfold aaC;rw[if_neg hc16,if_pos (by omega)])
 ·
  refine cl rfl (ak0 hi hj) rfl<|cl (hv:=by simp only[aai];exact(by have:=aC8 (u.cross v).num;omega)) rfl q_S rfl<|?_
  exact rz rfl (by show vI _=vI _;unfold aaC;rw[if_neg (by omega),if_neg (by omega)])
instance BQ.i1:BQ (((1:Int):Rat)) 2:=⟨by decide,by decide⟩
def eV(v:IvQ):DV:= .ag [.v (.bool (decide (v.lo.num<0))),dN v.lo.num.natAbs,dD v.lo.den, .v (.bool (decide (v.hi.num<0))),dN v.hi.num.natAbs,dD v.hi.den, .v (.bool v.nl), .v (.bool v.nh)]
theorem aBS:eV IvQ.all= .ag [.v (.bool false), .sl [], .sl [], .v (.bool false), .sl [], .sl [], .v (.bool true), .v (.bool true)]:=by
 unfold eV IvQ.all dD
 simp only[show(0:Rat).num=0 from rfl,show(0:Rat).den=1 from rfl,kQ,adj];rfl
theorem arN:eQ 0= .ag [.v (.bool false), .sl [], .sl []]:=by
 unfold eQ dD
 simp only[show(0:Rat).num=0 from rfl,show(0:Rat).den=1 from rfl,kQ,adj];rfl
def abV(v:IvQ):Rat:=if v.nl=true∧v.nh=true then 0 else if v.nl=true then v.hi-1 else if v.nh=true then v.lo+1 else(v.lo+v.hi)/2
theorem axC:PF GB prog 259 [] (eV IvQ.all):=by
 refine fn func259 J J ntmps259 J J (fun C=>?_)
 exact rz rfl (by rw[aBS];rfl)
theorem avM{v:IvQ}{i:Nat}[hl:BQ v.lo i][hh:BQ v.hi i](hi:i≤100000:=by decide):PF GB prog 225 [eV v] (eQ (abV v)):=by
 refine fn func225 J J ntmps225 J J (fun C=>?_)
 refine csb 6 J J J (fun hg6=>?_) (fun hg6=>?_)
 ·
  refine bb J J J (fun hc3=>?_) (fun hc3=>?_)
  ·
   exact rz rfl (by unfold abV;rw[if_pos ⟨hg6,hc3⟩,arN];rfl)
  ·
   refine bb J J J (fun hc11=>?_) (fun hc11=>?_)
   ·
    refine cl rfl (al0 (n:=1) (by decide) (by decide)) rfl<|cl rfl (aln (a:=v.hi) (b:=((1:Int):Rat)) (by omega) (by decide)) rfl<|?_
    exact rz rfl (by unfold abV;rw[if_neg (by simp[hc3]),if_pos hc11];rfl)
   ·
    refine bb J J J (fun hc18=>?_) (fun hc18=>?_)
    ·
     refine cl rfl (al0 (n:=1) (by decide) (by decide)) rfl<|cl rfl (ae3 (a:=v.lo) (b:=((1:Int):Rat)) (by omega) (by decide)) rfl<|?_
     exact rz rfl (by simp[hg6] at hc11)
    ·
     refine cl rfl (ay2 (a:=v.lo) (b:=v.hi) (by omega) (by omega)) rfl<|?_
     exact rz rfl (by simp[hg6] at hc11)
 ·
  refine bb J J J (fun hc11=>?_) (fun hc11=>?_)
  ·
   refine cl rfl (al0 (n:=1) (by decide) (by decide)) rfl<|cl rfl (aln (a:=v.hi) (b:=((1:Int):Rat)) (by omega) (by decide)) rfl<|?_
   exact rz rfl (by simp[hg6] at hc11)
  ·
   refine bb J J J (fun hc18=>?_) (fun hc18=>?_)
   ·
    refine cl rfl (al0 (n:=1) (by decide) (by decide)) rfl<|cl rfl (ae3 (a:=v.lo) (b:=((1:Int):Rat)) (by omega) (by decide)) rfl<|?_
    exact rz rfl (by unfold abV;rw[if_neg (by simp[hg6]),if_neg (by simp[hg6]),if_pos hc18];rfl)
   ·
    refine cl rfl (ay2 (a:=v.lo) (b:=v.hi) (by omega) (by omega)) rfl<|?_
    exact rz rfl (by unfold abV;rw[if_neg (by simp[hg6]),if_neg (by simp[hg6]),if_neg (by simp[hc18])];rfl)
theorem BQ.of_fracI{q:Rat}{n D:Int}{i:Nat}(hd:0<D.natAbs)(h:q*((D.natAbs:Nat):Rat)=(n:Rat))(hn:BI n i)(hD:BI D i):BQ q i:=BQ.of_frac hd h hn.h hD.h
theorem apl{m:Int}{i j:Nat}(h:BI m i)(hij:i≤j):BI m j:=⟨cN h.h (bJ (by decide) hij)⟩
theorem aik{l m:LnQ}[LB l][LB m](hn:l.Ne)(h:crossI l m≠0):BQ (acl l (acR l m)) 1200:=by
 have e:=arb hn h
 have hA:BI (crossI l m*(l.a*l.a+l.b*l.b)) _:=inferInstance
 have hB:BI (meetX l m*l.b-meetY l m*l.a) _:=inferInstance
 have hne:crossI l m*(l.a*l.a+l.b*l.b)≠0:=by
  intro q
  rcases rU.1 q with q|q
  ·exact h q
  ·have h1:=al7 hn
   simp only[LnQ.dir,PtQ.dot] at h1
   have h2:((l.a*l.a+l.b*l.b:Int):Rat)=((0:Int):Rat):=by rw[q]
   rw[pR,eK,eK] at h2
   have h3:((0:Int):Rat)=0:=rfl
   rw[h3] at h2
   grind
 have hA':=apl (j:=1200) hA (by decide)
 have hB':=apl (j:=1200) hB (by decide)
 generalize crossI l m*(l.a*l.a+l.b*l.b)=D at*
 generalize meetX l m*l.b-meetY l m*l.a=M at*
 by_cases hD:0<D
 ·refine BQ.of_fracI (n:=M) (D:=D) (by omega) ?_ hB' hA'
  rw[←e]
  congr 1
  have:((D.natAbs:Nat):Int)=D:=by omega
  rw[←this];rfl
 ·refine BQ.of_fracI (n:= -M) (D:=D) (by omega) ?_ (BI.neg M 1200 (h:=hB')) hA'
  rw[oZ,←e]
  have:((D.natAbs:Nat):Rat)= -(D:Rat):=by
   have h1:((D.natAbs:Nat):Int)= -D:=by omega
   rw[←oZ,←h1];rfl
  rw[this];grind
theorem axk(k:Rat):k.num.sign≤0↔ ¬0<k:=by rw[←ac3];omega
theorem aw2{w:IvQ}(h1: ¬w.nl=true)(h2: ¬w.nh=true)(h3:0≤abh w.lo w.hi):w.empty=true:=by
 unfold IvQ.empty
 simp[h1,h2,h3]
theorem al3{w:IvQ}(h:w.nl=true):w.empty=false:=by unfold IvQ.empty;simp[h]
theorem anu{w:IvQ}(h:w.nh=true):w.empty=false:=by unfold IvQ.empty;simp[h]
theorem al1{w:IvQ}(h: ¬0≤abh w.lo w.hi):w.empty=false:=by unfold IvQ.empty;simp[h]
def acH(l:LnQ):List LnQ→IvQ→IvQ×Bool
 |[],v=>(v,true)
 |m::t,v=>if m=l then acH l t v else if l.cutB v m=true then acH l t (l.cutV v m) else(l.cutV v m,false)
theorem aep{l:LnQ}: ∀{c:List LnQ} {v:IvQ},(acH l c v).2=(adg l c v).isSome
 |[],v=>rfl
 |m::t,v=>by
  rw[acH,aht]
  split
  ·exact aep
  ·split
   ·exact aep
   ·rfl
structure Stp (l:LnQ) (c:List LnQ) (k:Nat) (v:IvQ):Prop where
 le:k≤c.length
 p:adg l (c.drop k) v=adg l c IvQ.all
 e:acH l (c.drop k) v=acH l c IvQ.all
 z:IvZ v
 lo:BQ v.lo 1200
 hi:BQ v.hi 1200
theorem Stp.skip{l:LnQ}{c:List LnQ}{k:Nat}{v:IvQ}(h:Stp l c k v)(hk:k<c.length)(e:c[k]=l):Stp l c (k+1) v:=
 ⟨hk,by have:=h.p;rw[aN hk,aht,if_pos e] at this;exact this,by have:=h.e;rw[aN hk,acH,if_pos e] at this;exact this,h.z,h.lo,h.hi⟩
theorem Stp.cut{l:LnQ}{c:List LnQ}{k:Nat}{v w:IvQ}(h:Stp l c k v)(hk:k<c.length)(e:c[k]≠l)(hb:l.cutB v c[k]=true)(hw:l.cutV v c[k]=w)(z:IvZ w)(lo:BQ w.lo 1200)(hi:BQ w.hi 1200):Stp l c (k+1) w:=
 ⟨hk,by have:=h.p;rw[aN hk,aht,if_neg e,if_pos hb,hw] at this;exact this,by have:=h.e;rw[aN hk,acH,if_neg e,if_pos hb,hw] at this;exact this,z,lo,hi⟩
theorem Stp.no{l:LnQ}{c:List LnQ}{k:Nat}{v w:IvQ}(h:Stp l c k v)(hk:k<c.length)(e:c[k]≠l)(hb:l.cutB v c[k]=false)(hw:l.cutV v c[k]=w):acH l c IvQ.all=(w,false):=by
 rw[←h.e,aN hk,acH,if_neg e,if_neg (by rw[hb];decide),hw]
theorem Stp.yes{l:LnQ}{c:List LnQ}{k:Nat}{v:IvQ}(h:Stp l c k v)(hk:c.length≤k):acH l c IvQ.all=(v,true):=by
 rw[←h.e,jW hk];rfl
theorem Stp.all{l:LnQ}{c:List LnQ}:Stp l c 0 IvQ.all:=⟨bK _,by rw[hJ],by rw[hJ],IvZ.all,BQ.mono (k:=1) ⟨by decide,by decide⟩ (by decide),BQ.mono (k:=1) ⟨by decide,by decide⟩ (by decide)⟩
theorem arz{v:IvQ}{t:Rat}(h:v.nl=true∨0<abh t v.lo):(⟨t,v.hi,false,v.nh⟩:IvQ)=ahZ v t:=by unfold ahZ;rw[if_pos h]
theorem ayB{v:IvQ}{t:Rat}(h: ¬v.nl=true)(h2: ¬0<abh t v.lo):v=ahZ v t:=by unfold ahZ;rw[if_neg (fun e=>e.elim h h2)]
theorem asa{v:IvQ}{t:Rat}(h:v.nh=true∨abh t v.hi<0):(⟨v.lo,t,v.nl,false⟩:IvQ)=ah1 v t:=by unfold ah1;rw[if_pos h]
theorem azU{v:IvQ}{t:Rat}(h: ¬v.nh=true)(h2: ¬abh t v.hi<0):v=ah1 v t:=by unfold ah1;rw[if_neg (fun e=>e.elim h h2)]
def arf(l m:LnQ)(v:IvQ):IvQ:=if 0<(m.dir.cross l.dir).num.sign then ahZ v (acl l (acR l m)) else ah1 v (acl l (acR l m))
theorem ajq{l m:LnQ}{v:IvQ}[LB l][LB m](hn:l.Ne)(hz:IvZ v)(hlo:BQ v.lo 1200)(hhi:BQ v.hi 1200)(h0:crossI l m≠0):l.cutV v m=arf l m v∧l.cutB v m=!(arf l m v).empty∧IvZ (arf l m v)∧BQ (arf l m v).lo 1200∧BQ (arf l m v).hi 1200:=by
 have hb:=aik (l:=l) (m:=m) hn h0
 unfold arf
 split
 ·rename_i h
  obtain⟨_,h1,h2⟩:=aAA hn hz ((ac3 _).1 h)
  refine⟨h1,h2,hz.lo' _,?_⟩
  unfold ahZ;split
  ·exact⟨hb,hhi⟩
  ·exact⟨hlo,hhi⟩
 ·rename_i h
  obtain⟨h1,h2⟩:=aAc hn hz h0 (fun e=>h ((ac3 _).2 e))
  refine⟨h1,h2,hz.hi' _,?_⟩
  unfold ah1;split
  ·exact⟨hlo,hb⟩
  ·exact⟨hlo,hhi⟩
theorem ah8{l:LnQ}[LB l](hn:l.Ne): ∀{c:List LnQ} {v:IvQ},(∀m∈c,LB m)→IvZ v→BQ v.lo 1200→BQ v.hi 1200→BQ (acH l c v).1.lo 1200∧BQ (acH l c v).1.hi 1200
 |[],v,_,_,h1,h2=>⟨h1,h2⟩
 |m::t,v,hc,hz,h1,h2=>by
  haveI:=hc m aQ
  have hw:IvZ (l.cutV v m)∧BQ (l.cutV v m).lo 1200∧BQ (l.cutV v m).hi 1200:=by
   by_cases h0:crossI l m=0
   ·rw[(agS (v:=v) h0).1];exact⟨hz,h1,h2⟩
   ·obtain⟨u1,_,u3,u4,u5⟩:=ajq (v:=v) hn hz h1 h2 h0
    rw[u1];exact⟨u3,u4,u5⟩
  have hc':=fun m hm=>hc m (aX _ hm)
  rw[acH]
  split
  ·exact ah8 hn hc' hz h1 h2
  ·split
   ·exact ah8 hn hc' hw.1 hw.2.1 hw.2.2
   ·exact hw.2
theorem axi{c:List LnQ}{i:Nat}(hc: ∀m∈c,LB m)(hok: ∀m∈c,m.ok)(hn:c.length≤1000)(hi:i<c.length):PF GB prog 218 [.sl (c.map eL),vI (i:Nat)] (.tp [eV (acH (c[i]'hi) c IvQ.all).1,vB (acH (c[i]'hi) c IvQ.all).2]):=by
 have hcl:=aeG c
 obtain⟨l,hl⟩: ∃l,l=c[i]:=⟨_,rfl⟩
 rw[←hl]
 haveI hlb:LB l:=hl▸hc _ (cJ hi)
 have hlo:l.ok:=hl▸hok _ (cJ hi)
 refine fn func218 J J ntmps218 J J (fun C=>?_)
 refine ix (fu:=⟨1⟩) _ rfl (aeA hi) rfl<|?_
 refine eqF 16 (.d (eL l)) rfl (by rw[hl];rfl) ?_
 refine gx rfl<|cl (fu:=⟨9⟩) rfl axC rfl<|?_
 refine eqF 19 (.d (vI (c.length:Nat))) rfl (by rw[hcl];rfl) ?_
 refine gx rfl<|?_
 refine lp (X:=IvQ×Nat) (fun⟨v,k⟩=>[(20, .d (vI (k:Nat))),(19, .d (vI (c.length:Nat))),(18, .d (.sl (c.map eL))),(1, .d (vI (i:Nat))),(6, .ov 6 0),(7, .ov 7 0),(4, .ov 4 0)]) (fun⟨v,k⟩=>[(7,some (.o 292 [.d ((.v (.bool (decide (v.lo.num<0))))), .d (dN v.lo.num.natAbs), .d (dD v.lo.den), .d ((.v (.bool (decide (v.hi.num<0))))), .d (dN v.hi.num.natAbs), .d (dD v.hi.den), .d ((.v (.bool v.nl))), .d ((.v (.bool v.nh)))] true)),(6,some (.o 88 [.d ((.v (.bool (decide (l.a<0))))), .d (dN l.a.natAbs), .d ((.v (.bool (decide (l.b<0))))), .d (dN l.b.natAbs), .d ((.v (.bool (decide (l.c<0))))), .d (dN l.c.natAbs)] true)),(4,some (.o 292 [.ff, .nl, .nl, .ff, .nl, .nl, .ff, .ff] true))]) (fun⟨v,k⟩=>Stp l c k v) (fun⟨v,k⟩=>c.length-k) ⟨IvQ.all,0⟩ rfl Stp.all (fun _=>rfl) (fun⟨v,k⟩ hk=>?_)
 try dsimp only at hk⊢
 have hS:=hk
 refine br J J J (fun hc21=>?_) (fun hc21=>?_)
 ·
  have hk:k<c.length:=by omega
  obtain⟨m,hm⟩: ∃m,m=c[k]:=⟨_,rfl⟩
  haveI hmb:LB m:=hm▸hc _ (cJ hk)
  have hmo:m.ok:=hm▸hok _ (cJ hk)
  refine ix (fu:=⟨1⟩) _ rfl (aeA hk) rfl<|?_
  refine eqF 24 (.d (eL m)) rfl (by rw[hm];rfl) ?_
  refine gx rfl<|?_
  refine cs 28 J J J (fun hg28=>?_) (fun hg28=>?_)
  ·
   have hinv:Stp l c (k+1) v:=hS.skip hk (by rw[hl];congr 1;omega)
   exact at_ ⟨v,k+1⟩ (by dsimp only;exact⟨hinv,(by omega)⟩)
  ·
   refine cl rfl (aiE (l:=l) (m:=m)) rfl<|?_
   refine br J J J (fun hc33=>?_) (fun hc33=>?_)
   ·
    have hinv:Stp l c (k+1) v:=hS.skip hk (by rw[←hm,(agE l m).1 hc33])
    exact at_ ⟨v,k+1⟩ (by dsimp only;exact⟨hinv,(by omega)⟩)
   ·
    have hne:c[k]≠l:=fun e=>hc33 ((agE l m).2 (by rw[hm,e]))
    refine cl (fu:=⟨13⟩) rfl (as8 (l:=l) (m:=m)) rfl<|?_
    refine eqF 41 (.d (.v (.bool (decide (crossI l m=0))))) rfl (by simp) ?_
    refine gx rfl<|?_
    refine bd J J J (fun hc41=>?_) (fun hc41=>?_)
    ·
     refine cl rfl (aus hlo.ne) rfl<|cl rfl (apD (l:=m) (p:=l.base)) rfl<|?_
     refine br J J J (fun hc46=>?_) (fun hc46=>?_)
     ·
      have hno:=hS.no (w:=v) hk hne (by have:=(agS (v:=v) hc41).2;rw[←hm];cases hb:l.cutB v m with|false=>rfl|true=>exact absurd (this.1 hb) ((axk _).1 hc46)) (by rw[←hm];exact(agS (v:=v) hc41).1)
      exact rz rfl (by rw[hno];rfl)
     ·
      have hinv:Stp l c (k+1) v:=by have:=agS (v:=v) hc41;exact hS.cut hk hne (by rw[←hm];exact this.2.2 (by have:=mt (axk (m.value l.base)).2 hc46;exact Decidable.not_not.1 this)) (by rw[←hm];exact this.1) hS.z hS.lo hS.hi
      exact at_ ⟨v,k+1⟩ (by dsimp only;exact⟨hinv,(by omega)⟩)
    ·
     obtain⟨u1,u2,u3,u4,u5⟩:=ajq (v:=v) hlo.ne hS.z hS.lo hS.hi hc41
     haveI htb:=aik hlo.ne hc41
     haveI hvl:=hS.lo
     haveI hvh:=hS.hi
     refine cl (fu:=⟨0⟩) rfl (alA (l:=l) (p:=acR l m) hlo.ne) rfl<|?_
     obtain⟨t,ht⟩: ∃t,t=acl l (acR l m):=⟨_,rfl⟩
     refine eqF 50 (.d (eQ t)) rfl (by rw[ht]) ?_
     rw[←ht] at htb
     refine gx (fu:=⟨5⟩) rfl<|?_
     refine mg (X:=IvQ) (fun w=>[(20, .d (vI (k:Nat))),(19, .d (vI (c.length:Nat))),(18, .d (.sl (c.map eL))),(1, .d (vI (i:Nat))),(6, .ov 6 0),(7, .ov 7 0),(4, .ov 4 0)]) (fun w=>[(7,some (.o 292 [.d ((.v (.bool (decide (w.lo.num<0))))), .d (dN w.lo.num.natAbs), .d (dD w.lo.den), .d ((.v (.bool (decide (w.hi.num<0))))), .d (dN w.hi.num.natAbs), .d (dD w.hi.den), .d ((.v (.bool w.nl))), .d ((.v (.bool w.nh)))] true)),(6,some (.o 88 [.d ((.v (.bool (decide (l.a<0))))), .d (dN l.a.natAbs), .d ((.v (.bool (decide (l.b<0))))), .d (dN l.b.natAbs), .d ((.v (.bool (decide (l.c<0))))), .d (dN l.c.natAbs)] true)),(4,some (.o 292 [.ff, .nl, .nl, .ff, .nl, .nl, .ff, .ff] true))]) (fun w=>w=arf l m v) [20,19,18,1,6,7,4] [7,6,4] rfl ?_ (fun _=>rfl) (fun w hw=>?_)
     ·
      refine gx rfl<|cl rfl (ant (l:=m)) rfl<|cl rfl (ant (l:=l)) rfl<|cl rfl (ak0 (p:=m.dir) (q:=l.dir)) rfl<|cl rfl (q_S (q:=m.dir.cross l.dir)) rfl<|?_
      refine br J J J (fun hc57=>?_) (fun hc57=>?_)
      ·
       refine csb 60 J J J (fun hg60=>?_) (fun hg60=>?_)
       ·
        refine dpE 7 J J J ?_
        exact at_ ⟨t,v.hi,false,v.nh⟩ (by unfold arf;rw[if_pos hc57,←ht];exact arz (.inl hg60))
       ·
        refine cl rfl (q_C (a:=t) (b:=v.lo)) rfl<|?_
        refine br J J J (fun hc66=>?_) (fun hc66=>?_)
        ·
         refine dpE 7 J J J ?_
         exact at_ ⟨t,v.hi,false,v.nh⟩ (by unfold arf;rw[if_pos hc57,←ht];exact arz (.inr hc66))
        ·
         exact at_ v (by unfold arf;rw[if_pos hc57,←ht];exact ayB (by simp[hg60]) hc66)
      ·
       refine csb 72 J J J (fun hg72=>?_) (fun hg72=>?_)
       ·
        refine dpE 7 J J J ?_
        exact at_ ⟨v.lo,t,v.nl,false⟩ (by unfold arf;rw[if_neg hc57,←ht];exact asa (.inl hg72))
       ·
        refine cl rfl (q_C (a:=t) (b:=v.hi)) rfl<|?_
        refine br J J J (fun hc78=>?_) (fun hc78=>?_)
        ·
         refine dpE 7 J J J ?_
         exact at_ ⟨v.lo,t,v.nl,false⟩ (by unfold arf;rw[if_neg hc57,←ht];exact asa (.inr hc78))
        ·
         exact at_ v (by unfold arf;rw[if_neg hc57,←ht];exact azU (by simp[hg72]) hc78)
     ·
      rw[←hw] at u1 u2 u3 u4 u5
      haveI:=u4
      haveI:=u5
      refine csb 85 J J J (fun hg85=>?_) (fun hg85=>?_)
      ·
       refine csb 90 J J J (fun hg90=>?_) (fun hg90=>?_)
       ·
        refine cl rfl (q_C (a:=w.lo) (b:=w.hi)) rfl<|?_
        refine br J J J (fun hc97=>?_) (fun hc97=>?_)
        ·
         have hno:=hS.no (w:=w) hk hne (by rw[←hm,u2,aw2 (by simpa using hg85) (by simpa using hg90) hc97];rfl) (by rw[←hm,u1])
         exact rz rfl (by rw[hno];rfl)
        ·
         have hinv:Stp l c (k+1) w:=hS.cut hk hne (by rw[←hm,u2,al1 hc97];rfl) (by rw[←hm,u1]) u3 u4 u5
         exact at_ ⟨w,k+1⟩ (by dsimp only;exact⟨hinv,(by omega)⟩)
       ·
        have hinv:Stp l c (k+1) w:=hS.cut hk hne (by rw[←hm,u2,anu (by simpa using hg90)];rfl) (by rw[←hm,u1]) u3 u4 u5
        exact at_ ⟨w,k+1⟩ (by dsimp only;exact⟨hinv,(by omega)⟩)
      ·
       have hinv:Stp l c (k+1) w:=hS.cut hk hne (by rw[←hm,u2,al3 (by simpa using hg85)];rfl) (by rw[←hm,u1]) u3 u4 u5
       exact at_ ⟨w,k+1⟩ (by dsimp only;exact⟨hinv,(by omega)⟩)
 ·
  exact rz rfl (by rw[hS.yes (by omega)];rfl)
def eLn(l:LnQ):DV:= .ag [vI (fn_ (l.a:Rat)),vI (fd_ (l.a:Rat)),fp_ (l.a:Rat),vI (fn_ (l.b:Rat)),vI (fd_ (l.b:Rat)),fp_ (l.b:Rat),vI (fn_ (l.c:Rat)),vI (fd_ (l.c:Rat)),fp_ (l.c:Rat)]
def eZ(p:PtQ):DV:= .ag [vI (fn_ p.x),vI (fd_ p.x),fp_ p.x,vI (fn_ p.y),vI (fd_ p.y),fp_ p.y]
def eW(v:IvQ):DV:= .ag [vI (fn_ v.lo),vI (fd_ v.lo),fp_ v.lo,vI (fn_ v.hi),vI (fd_ v.hi),fp_ v.hi, .v (.bool v.nl), .v (.bool v.nh)]
theorem awK{G:Gh}{t:List DV}{vs:List Value}(h:IsLs G (vI 0::vI 0:: .v (.pointer none)::t) vs):IsLs G (vI (fn_ 0)::vI (fd_ 0)::fp_ 0::t) vs:=by
 obtain⟨y1,l1,rfl,k1,g1⟩:=aab.1 h
 obtain⟨y2,l2,rfl,k2,g2⟩:=aab.1 g1
 obtain⟨y3,l3,rfl,k3,g3⟩:=aab.1 g2
 have e:decide (Big 0)=false:=decide_eq_false fun h=>auJ h rfl
 exact .cons k1 (.cons k2 (.cons (an1.2 (.inl ⟨e,aaP.1 k3⟩)) g3))
theorem aum{G:Gh}(a:List DV){t:List DV}{vs:List Value}(h:IsLs G (a++vI 0::vI 0:: .v (.pointer none)::t) vs):IsLs G (a++vI (fn_ 0)::vI (fd_ 0)::fp_ 0::t) vs:=by
 obtain⟨x,y,rfl,h1,h2⟩:=h.unapp
 exact h1.app (awK h2)
theorem aBh(G:Gh)(y:Value)(k:Is G (.ag [vI 0,vI 0, .v (.pointer none),vI 0,vI 0, .v (.pointer none), .v (.bool true), .v (.bool true)]) y):Is G (eW IvQ.all) y:=by
 obtain⟨l,rfl,g⟩:=abF.1 k
 exact abF.2 ⟨l,rfl,awK (aum [vI 0,vI 0, .v (.pointer none)] g)⟩
def orI:List Int→Int
 |[]=>0
 |a::t=>if a≠0 then a else orI t
theorem BPt.nor(l:LnQ)[LB l]:BPt l.nor 97:=⟨inferInstanceAs (BQ (l.a:Rat) 97),inferInstanceAs (BQ (l.b:Rat) 97)⟩
attribute [instance] BPt.nor
instance BPt.scale (p:PtQ) (c:Rat) (i k:Nat) [BPt p i] [BQ c k]:BPt (p.scale c) (i+k):=⟨inferInstanceAs (BQ (p.x*c) _),inferInstanceAs (BQ (p.y*c) _)⟩
instance BPt.add (p q:PtQ) (i j:Nat) [BPt p i] [BPt q j]:BPt (p.add q) (i+j+1):=⟨inferInstanceAs (BQ (p.x+q.x) _),inferInstanceAs (BQ (p.y+q.y) _)⟩
instance LB.revA (l:LnQ) [h:LB l]:LB l.rev:=⟨⟨by rw[show l.rev.a= -l.a from rfl,iS];exact h.bl.a,by rw[show l.rev.b= -l.b from rfl,iS];exact h.bl.b,by rw[show l.rev.c= -l.c from rfl,iS];exact h.bl.c⟩⟩
theorem aD1:PF GB prog 303 [] (eW IvQ.all):=by
 refine fn func303 J J ntmps303 J J (fun C=>?_)
 exact rzI rfl aBh
theorem apA{l:LnQ}:PF GB prog 112 [eLn l] (eZ l.nor):=by
 refine fn func112 J J ntmps112 J J (fun C=>?_)
 exact rz J J
theorem anL{l:LnQ}[hl:LB l]:PF GB prog 179 [eLn l] (eZ l.dir):=by
 refine fn func179 J J ntmps179 J J (fun C=>?_)
 refine cl rfl (afb (q:=(l.a:Rat))) rfl<|?_
 exact rz J J
theorem aqf{p q:PtQ}{i j:Nat}[hp:BPt p i][hq:BPt q j](hi:i≤40000000:=by decide)(hj:j≤40000000:=by decide):PF GB prog 114 [eZ p,eZ q] (eF (p.dot q)):=by
 refine fn func114 J J ntmps114 J J (fun C=>?_)
 refine cl rfl (ahN (p:=p.x) (q:=q.x) (by omega) (by omega)) rfl<|cl rfl (ahN (p:=p.y) (q:=q.y) (by omega) (by omega)) rfl<|cl rfl (agx (p:=p.x*q.x) (q:=p.y*q.y) (by omega) (by omega)) rfl<|?_
 exact rz J J
theorem apt{p q:PtQ}{i j:Nat}[hp:BPt p i][hq:BPt q j](hi:i≤40000000:=by decide)(hj:j≤40000000:=by decide):PF GB prog 206 [eZ p,eZ q] (eF (p.cross q)):=by
 refine fn func206 J J ntmps206 J J (fun C=>?_)
 refine cl rfl (ahN (p:=p.x) (q:=q.y) (by omega) (by omega)) rfl<|cl rfl (ahN (p:=p.y) (q:=q.x) (by omega) (by omega)) rfl<|cl rfl (akE (p:=p.x*q.y) (q:=p.y*q.x) (by omega) (by omega)) rfl<|?_
 exact rz J J
theorem alN{p:PtQ}{c:Rat}{i j:Nat}[hp:BPt p i][hc:BQ c j](hi:i≤40000000:=by decide)(hj:j≤40000000:=by decide):PF GB prog 121 [eZ p,eF c] (eZ (p.scale c)):=by
 refine fn func121 J J ntmps121 J J (fun C=>?_)
 refine cl rfl (ahN (p:=p.x) (q:=c) (by omega) (by omega)) rfl<|cl rfl (ahN (p:=p.y) (q:=c) (by omega) (by omega)) rfl<|?_
 exact rz J J
theorem ax2{p q:PtQ}{i j:Nat}[hp:BPt p i][hq:BPt q j](hi:i≤40000000:=by decide)(hj:j≤40000000:=by decide):PF GB prog 120 [eZ p,eZ q] (eZ (p.add q)):=by
 refine fn func120 J J ntmps120 J J (fun C=>?_)
 refine cl rfl (agx (by omega) (by omega)) rfl<|cl rfl (agx (by omega) (by omega)) rfl<|?_
 exact rz J J
theorem auF{l:LnQ}[hl:LB l]:PF GB prog 178 [eLn l] (eZ l.base):=by
 refine fn func178 J J ntmps178 J J (fun C=>?_)
 refine cl rfl apA rfl<|cl rfl (afb (q:=(l.c:Rat))) rfl<|cl rfl (aqf (p:=l.nor) (q:=l.nor)) rfl<|cl rfl (ati (p:= -(l.c:Rat)) (q:=l.nor.dot l.nor)) rfl<|?_
 refine cl rfl (alN (p:=l.nor)) rfl<|?_
 exact rz J J
theorem apk{l:LnQ}{p:PtQ}{i:Nat}[hl:LB l][hp:BPt p i](hi:i≤10000000:=by decide):PF GB prog 117 [eLn l,eZ p] (eF (l.value p)):=by
 refine fn func117 J J ntmps117 J J (fun C=>?_)
 refine cl rfl (apA (l:=l)) rfl<|cl rfl (aqf (p:=l.nor) (q:=p) (by omega) (by omega)) rfl<|cl rfl (agx (p:=l.nor.dot p) (q:=(l.c:Rat)) (by omega) (by omega)) rfl<|?_
 exact rz J J
theorem aiJ{l:LnQ}{p:PtQ}{i:Nat}[hl:LB l][hp:BPt p i](hi:i≤10000000:=by decide):PF GB prog 212 [eLn l,eZ p] (vI (l.value p).num.sign):=by
 refine fn func212 J J ntmps212 J J (fun C=>?_)
 refine cl rfl (apk (l:=l) (p:=p) hi) rfl<|cl rfl (acW (q:=l.value p) (by omega)) rfl<|?_
 exact rz J J
theorem aD4{l:LnQ}{t:Rat}{i:Nat}[hl:LB l][ht:BQ t i](hi:i≤10000000:=by decide):PF GB prog 110 [eLn l,eF t] (eZ (l.at t)):=by
 refine fn func110 J J ntmps110 J J (fun C=>?_)
 refine cl rfl (auF (l:=l)) rfl<|cl rfl (anL (l:=l)) rfl<|cl rfl (alN (p:=l.dir) (c:=t) (by omega) (by omega)) rfl<|cl rfl (ax2 (p:=l.base) (q:=l.dir.scale t) (by omega) (by omega)) rfl<|?_
 exact rz J J
theorem az7{v:IvQ}{i j:Nat}[h1:BQ v.lo i][h2:BQ v.hi j](hi:i≤40000000:=by decide)(hj:j≤40000000:=by decide):PF GB prog 318 [eW v] (vB v.empty):=by
 refine fn func318 J J ntmps318 J J (fun C=>?_)
 refine csb 6 J J J (fun hg6=>?_) (fun hg6=>?_)
 ·
  refine csb 11 J J J (fun hg11=>?_) (fun hg11=>?_)
  ·
   refine cl rfl (ajO (p:=v.lo) (q:=v.hi) (by omega) (by omega)) rfl<|?_
   exact rz rfl (by unfold IvQ.empty;simp_all [vB,afy])
  ·
   exact rz rfl (by unfold IvQ.empty;simp_all [vB,afy])
 ·
  exact rz rfl (by unfold IvQ.empty;simp_all [vB,afy])
instance IvQ.meet_lo (v w:IvQ) (i j:Nat) [h1:BQ v.lo i] [h3:BQ w.lo j]:BQ (v.meet w).lo (i+j):=by
 have a:=h1.mono (nY i j)
 have b:=h3.mono (Nat.le_add_left j i)
 unfold IvQ.meet;dsimp only;(repeat' split)<;>assumption
instance IvQ.meet_hi (v w:IvQ) (i j:Nat) [h1:BQ v.hi i] [h3:BQ w.hi j]:BQ (v.meet w).hi (i+j):=by
 have a:=h1.mono (nY i j)
 have b:=h3.mono (Nat.le_add_left j i)
 unfold IvQ.meet;dsimp only;(repeat' split)<;>assumption
theorem ayj{v w:IvQ}{i j:Nat}[h1:BQ v.lo i][h2:BQ v.hi i][h3:BQ w.lo j][h4:BQ w.hi j](hi:i≤10000000:=by decide)(hj:j≤10000000:=by decide):PF GB prog 304 [eW v,eW w] (.tp [eW (v.meet w),vB (!(v.meet w).empty)]):=by
 refine fn (fu:=⟨16⟩) func304 J J ntmps304 J J (fun C=>?_)
 refine mg (fu:=⟨1⟩) (X:=Unit) (fun _=>[(6, .ov 6 0)]) (fun _=>[(6,some (.o 185 [.d (vI (fn_ (v.meet w).lo)), .d (vI (fd_ (v.meet w).lo)), .d (fp_ (v.meet w).lo), .d (vI (fn_ v.hi)), .d (vI (fd_ v.hi)), .d (fp_ v.hi), .d (.v (.bool (v.nl&&w.nl))), .d (.v (.bool (v.nh)))] true))]) (fun _=>True) [6] [6] rfl ?_ (fun _=>rfl) (fun _ _=>?_)
 ·
  refine gx rfl<|?_
  refine bb (v1:=fun hc8=>by simp only[aai];kernel_rfl) J J J (fun hc8=>?_) (fun hc8=>?_)
  ·
   have em:(v.meet w).lo=w.lo:=by unfold IvQ.meet;simp_all
   have eb:(v.nl&&w.nl)=w.nl:=by simp_all
   exact at_ () trivial (hO:=⟨by rw[em,eb]<;>rfl,by repeat (first|exact trivial|refine And.intro rfl ?_)⟩)
  ·
   refine bb J J J (fun hc17=>?_) (fun hc17=>?_)
   ·
    refine cl rfl (aAR (p:=v.lo) (q:=w.lo) (by omega) (by omega)) rfl<|?_
    have em:(v.meet w).lo=(if v.lo<w.lo then w.lo else v.lo):=by unfold IvQ.meet;simp_all
    have eb:(v.nl&&w.nl)=v.nl:=by simp_all
    exact at_ () trivial (hO:=⟨by rw[em,eb]<;>rfl,by repeat (first|exact trivial|refine And.intro rfl ?_)⟩)
   ·
    have em:(v.meet w).lo=v.lo:=by unfold IvQ.meet;simp_all
    have eb:(v.nl&&w.nl)=v.nl:=by simp_all
    exact at_ () trivial (hO:=⟨by rw[em,eb]<;>rfl,by repeat (first|exact trivial|refine And.intro rfl ?_)⟩)
 ·
  refine mg (X:=Unit) (fun _=>[(6, .ov 6 0)]) (fun _=>[(6,some (.o 185 [.d (vI (fn_ (v.meet w).lo)), .d (vI (fd_ (v.meet w).lo)), .d (fp_ (v.meet w).lo), .d (vI (fn_ (v.meet w).hi)), .d (vI (fd_ (v.meet w).hi)), .d (fp_ (v.meet w).hi), .d (.v (.bool (v.nl&&w.nl))), .d (.v (.bool (v.nh&&w.nh)))] true))]) (fun _=>True) [6] [6] rfl ?_ (fun _=>rfl) (fun _ _=>?_)
  ·
   refine gx rfl<|?_
   refine bb (v1:=fun hc27=>by simp only[aai];kernel_rfl) J J J (fun hc27=>?_) (fun hc27=>?_)
   ·
    have em:(v.meet w).hi=w.hi:=by unfold IvQ.meet;simp_all
    have eb:(v.nh&&w.nh)=w.nh:=by simp_all
    exact at_ () trivial (hO:=⟨by rw[em,eb]<;>rfl,by repeat (first|exact trivial|refine And.intro rfl ?_)⟩)
   ·
    refine bb J J J (fun hc36=>?_) (fun hc36=>?_)
    ·
     refine cl rfl (aDs (p:=v.hi) (q:=w.hi) (by omega) (by omega)) rfl<|?_
     have em:(v.meet w).hi=(if w.hi<v.hi then w.hi else v.hi):=by unfold IvQ.meet;simp_all
     have eb:(v.nh&&w.nh)=v.nh:=by simp_all
     exact at_ () trivial (hO:=⟨by rw[em,eb]<;>rfl,by repeat (first|exact trivial|refine And.intro rfl ?_)⟩)
    ·
     have em:(v.meet w).hi=v.hi:=by unfold IvQ.meet;simp_all
     have eb:(v.nh&&w.nh)=v.nh:=by simp_all
     exact at_ () trivial (hO:=⟨by rw[em,eb]<;>rfl,by repeat (first|exact trivial|refine And.intro rfl ?_)⟩)
  ·
   refine cl rfl (az7 (v:=v.meet w) (i:=i+j) (j:=i+j) (by omega) (by omega)) rfl<|?_
   exact rz J J
theorem BQ.z1:BQ (0:Rat) 1:=⟨by decide,by decide⟩
theorem awt{v:IvQ}{t:Rat}{i j:Nat}[h1:BQ v.lo i][h2:BQ v.hi i][h3:BQ t j](hi:i≤10000000:=by decide)(hj:j≤9999999:=by decide):PF GB prog 304 [eW v, .ag [vI (fn_ t),vI (fd_ t),fp_ t,vI 0,vI 0, .v (.pointer none), .v (.bool false), .v (.bool true)]] (.tp [eW (v.meet ⟨t,0,false,true⟩),vB (!(v.meet ⟨t,0,false,true⟩).empty)]):=
 (ayj (v:=v) (w:=⟨t,0,false,true⟩) (j:=j+1) (h3:=h3.mono (by omega)) (h4:=BQ.z1.mono (by omega)) hi (by omega)).ofI fun G vs hv=>atG (fun y hy=>by
  obtain⟨l,rfl,g⟩:=abF.1 hy
  exact abF.2 ⟨l,rfl,aum [_,_,_] g⟩) hv
theorem avD{v:IvQ}{t:Rat}{i j:Nat}[h1:BQ v.lo i][h2:BQ v.hi i][h3:BQ t j](hi:i≤10000000:=by decide)(hj:j≤9999999:=by decide):PF GB prog 304 [eW v, .ag [vI 0,vI 0, .v (.pointer none),vI (fn_ t),vI (fd_ t),fp_ t, .v (.bool true), .v (.bool false)]] (.tp [eW (v.meet ⟨0,t,true,false⟩),vB (!(v.meet ⟨0,t,true,false⟩).empty)]):=
 (ayj (v:=v) (w:=⟨0,t,true,false⟩) (j:=j+1) (h4:=h3.mono (by omega)) (h3:=BQ.z1.mono (by omega)) hi (by omega)).ofI fun G vs hv=>atG (fun y hy=>by
  obtain⟨l,rfl,g⟩:=abF.1 hy
  exact abF.2 ⟨l,rfl,awK g⟩) hv
instance BQ.cutK (l m:LnQ) [LB l] [LB m]:BQ (l.cutK m) 400:=BQ.mono (inferInstance:BQ (m.nor.dot l.dir) _) (by decide)
instance BQ.cutC (l m:LnQ) [LB l] [LB m]:BQ (l.cutC m) 2500:=BQ.mono (inferInstance:BQ (m.value l.base) _) (by decide)
theorem aBe{l m:LnQ}{v:IvQ}{i:Nat}[hl:LB l][hm:LB m][h1:BQ v.lo i][h2:BQ v.hi i](hi:i≤10000000:=by decide):PF GB prog 281 [eLn l,eW v,eLn m] (.tp [eW (l.cutV v m),vB (l.cutB v m)]):=by
 refine fn func281 J J ntmps281 J J (fun C=>?_)
 refine cl rfl (apA (l:=m)) rfl<|cl rfl (anL (l:=l)) rfl<|cl rfl (aqf (p:=m.nor) (q:=l.dir)) rfl<|cl rfl (auF (l:=l)) rfl<|?_
 refine cl rfl (apk (l:=m) (p:=l.base)) rfl<|cl rfl (acW (q:=l.cutK m)) rfl<|?_
 refine br J J J (fun hc21=>?_) (fun hc21=>?_)
 ·
  refine cl rfl (acW (q:=l.cutC m)) rfl<|?_
  exact rz rfl (by unfold LnQ.cutV LnQ.cutB;rw[if_pos hc21,if_pos hc21];rfl)
 ·
  refine br J J J (fun hc27=>?_) (fun hc27=>?_)
  ·
   refine cl rfl (ati (p:=l.cutC m) (q:=l.cutK m)) rfl<|cl rfl (afb (q:=l.cutC m/l.cutK m)) rfl<|cl rfl (awt (v:=v) (t:= -(l.cutC m/l.cutK m)) hi) rfl<|?_
   exact rz rfl (by unfold LnQ.cutB LnQ.cutV;rw[if_neg hc21,if_neg hc21,if_pos hc27];rfl)
  ·
   refine cl rfl (ati (p:=l.cutC m) (q:=l.cutK m)) rfl<|cl rfl (afb (q:=l.cutC m/l.cutK m)) rfl<|cl rfl (avD (v:=v) (t:= -(l.cutC m/l.cutK m)) hi) rfl<|?_
   exact rz rfl (by unfold LnQ.cutB LnQ.cutV;rw[if_neg hc21,if_neg hc21,if_neg hc27];rfl)
theorem aww{v:IvQ}{i:Nat}[h1:BQ v.lo i][h2:BQ v.hi i](hi:i≤10000000:=by decide):PF GB prog 111 [eW v] (eF v.sample):=by
 refine fn func111 J J ntmps111 J J (fun C=>?_)
 refine csb 6 J J J (fun hg6=>?_) (fun hg6=>?_)
 ·
  refine bb J J J (fun hc3=>?_) (fun hc3=>?_)
  ·
   exact rzI rfl (by unfold IvQ.sample;rw[hg6,hc3];exact aBM)
  ·
   refine bb J J J (fun hc11=>?_) (fun hc11=>?_)
   ·
    refine cl rfl (ajS (m:=1) (by decide)) rfl<|cl rfl (akE (p:=v.hi) (q:=((1:Int):Rat)) (by omega) (by decide)) rfl<|?_
    exact rz rfl (by unfold IvQ.sample;simp_all [afy]<;>rfl)
   ·
    refine bb J J J (fun hc18=>?_) (fun hc18=>?_)
    ·
     refine cl rfl (ajS (m:=1) (by decide)) rfl<|cl rfl (agx (p:=v.lo) (q:=((1:Int):Rat)) (by omega) (by decide)) rfl<|?_
     exact rz rfl (by unfold IvQ.sample;simp_all [afy]<;>rfl)
    ·
     refine cl rfl (agx (p:=v.lo) (q:=v.hi) (by omega) (by omega)) rfl<|cl rfl (auC (q:=v.lo+v.hi) (by omega)) rfl<|?_
     exact rz rfl (by unfold IvQ.sample;simp_all [afy]<;>rfl)
 ·
  refine bb J J J (fun hc11=>?_) (fun hc11=>?_)
  ·
   refine cl rfl (ajS (m:=1) (by decide)) rfl<|cl rfl (akE (p:=v.hi) (q:=((1:Int):Rat)) (by omega) (by decide)) rfl<|?_
   exact rz rfl (by unfold IvQ.sample;simp_all [afy]<;>rfl)
  ·
   refine bb J J J (fun hc18=>?_) (fun hc18=>?_)
   ·
    refine cl rfl (ajS (m:=1) (by decide)) rfl<|cl rfl (agx (p:=v.lo) (q:=((1:Int):Rat)) (by omega) (by decide)) rfl<|?_
    exact rz rfl (by unfold IvQ.sample;simp_all [afy]<;>rfl)
   ·
    refine cl rfl (agx (p:=v.lo) (q:=v.hi) (by omega) (by omega)) rfl<|cl rfl (auC (q:=v.lo+v.hi) (by omega)) rfl<|?_
    exact rz rfl (by unfold IvQ.sample;simp_all [afy]<;>rfl)
instance BQ.i1':BQ (1:Rat) 2:=⟨by decide,by decide⟩
instance BQ.i2':BQ (2:Rat) 2:=⟨by decide,by decide⟩
theorem amo{v:IvQ}{i:Nat}[BQ v.lo i][BQ v.hi i]:BQ (abV v) (i+i+5):=by
 unfold abV
 split
 ·exact BQ.mono (k:=1) ⟨by decide,by decide⟩ (by omega)
 ·split
  ·exact BQ.mono (inferInstance:BQ (v.hi-1) _) (by omega)
  ·split
   ·exact BQ.mono (inferInstance:BQ (v.lo+1) _) (by omega)
   ·exact BQ.mono (inferInstance:BQ ((v.lo+v.hi)/2) _) (by omega)
instance BPt.at (l:LnQ) (t:Rat) (k:Nat) [LB l] [BQ t k]:BPt (l.at t) (900+(k+97)+1):=by
 rw[←auu];infer_instance
theorem atR{q:Rat}(h: ¬q.num.sign=0):q≠0:=fun e=>h ((aby q).2 e)
def ae8(d:PtQ):PtQ:=⟨-d.y,d.x⟩
instance BPt.turn (d:PtQ) (k:Nat) [BPt d k]:BPt (ae8 d) k:=⟨inferInstanceAs (BQ (-d.y) k),inferInstanceAs (BQ d.x k)⟩
def amA(p v:PtQ)(m:LnQ):Rat:= -(m.value p/(m.value (adH p v ((1:Int):Rat))-m.value p))
def adt(p v:PtQ)(m:LnQ)(s:Rat):Rat:=if(m.value (adH p v ((1:Int):Rat))-m.value p).num.sign=0 then s else if(m.value p).num.sign=0 then s else if 0<(amA p v m).num.sign then(if abh (amA p v m/2) s<0 then amA p v m/2 else s) else s
def ajU(p v:PtQ):List LnQ→Rat→Rat
 |[],s=>s
 |m::t,s=>ajU p v t (adt p v m s)
def aw8(c:List LnQ)(p v:PtQ):PtQ:=adH p v (ajU p v c ((1:Int):Rat))
theorem aew{c:List LnQ}{p v:PtQ}{k:Nat}{s s' r:Rat}{m:LnQ}(h:ajU p v (c.drop k) s=r)(hk:k<c.length)(hm:m=c[k])(e:adt p v m s=s'):ajU p v (c.drop (k+1)) s'=r:=by
 rw[aN hk] at h
 rw[←h,ajU,←hm,e]
theorem aCd{c:List LnQ}{p v:PtQ}(hc: ∀m∈c,LB m)(hn:c.length≤1000)(hp:BPt p 4500)(hv:BPt v 97):PF GB prog 224 [.sl (c.map eL),eP p,eP v] (eP (aw8 c p v)):=by
 have hcl:=aeG c
 refine fn func224 J J ntmps224 J J (fun C=>?_)
 refine cl (fu:=⟨9⟩) rfl (al0 (n:=1) (by decide) (by decide)) rfl<|?_
 refine eqF 14 (.d (vI (c.length:Nat))) rfl (by rw[hcl];rfl) ?_
 refine gx rfl<|?_
 refine lp (X:=Rat×Nat) (fun⟨s,k⟩=>[(15, .d (vI (k:Nat))),(14, .d (vI (c.length:Nat))),(13, .d (.sl (c.map eL))),(4, .ov 4 0),(5, .ov 5 0),(7, .ov 7 0),(6, .ov 6 0)]) (fun⟨s,k⟩=>[(7,some (.o 56 [.d ((.v (.bool (decide (s.num<0))))), .d (dN s.num.natAbs), .d (dD s.den)] true)),(6,some (.o 58 [.ff, .nl, .nl, .ff, .nl, .nl] true)),(5,some (.o 58 [.d ((.v (.bool (decide (v.x.num<0))))), .d (dN v.x.num.natAbs), .d (dD v.x.den), .d ((.v (.bool (decide (v.y.num<0))))), .d (dN v.y.num.natAbs), .d (dD v.y.den)] true)),(4,some (.o 58 [.d ((.v (.bool (decide (p.x.num<0))))), .d (dN p.x.num.natAbs), .d (dD p.x.den), .d ((.v (.bool (decide (p.y.num<0))))), .d (dN p.y.num.natAbs), .d (dD p.y.den)] true))]) (fun⟨s,k⟩=>k≤c.length∧BQ s 60000∧ajU p v (c.drop k) s=ajU p v c ((1:Int):Rat)) (fun⟨s,k⟩=>c.length-k) ⟨((1:Int):Rat),0⟩ rfl ⟨bK _,BQ.i1.mono (by decide),rfl⟩ (fun _=>rfl) (fun⟨s,k⟩ hk=>?_)
 try dsimp only at hk⊢
 obtain⟨hle,hsb,hns⟩:=hk
 refine br J J J (fun hc16=>?_) (fun hc16=>?_)
 ·
  have hk:k<c.length:=by omega
  obtain⟨m,hm⟩: ∃m,m=c[k]:=⟨_,rfl⟩
  haveI hmb:LB m:=hm▸hc _ (cJ hk)
  have hinv:=hsb
  refine ix (fu:=⟨1⟩) _ rfl (aeA hk) rfl<|?_
  refine eqF 18 (.d (eL m)) rfl (by rw[hm];rfl) ?_
  refine gx rfl<|cl rfl (al0 (n:=1) (by decide) (by decide)) rfl<|cl rfl (amr (p:=p) (q:=v) (c:=((1:Int):Rat))) rfl<|cl rfl (akT (l:=m) (p:=adH p v ((1:Int):Rat))) rfl<|?_
  refine cl rfl (akT (l:=m) (p:=p)) rfl<|cl rfl (aln (a:=m.value (adH p v ((1:Int):Rat))) (b:=m.value p)) rfl<|cl rfl (q_S (q:=m.value (adH p v ((1:Int):Rat))-m.value p)) rfl<|?_
  refine cs 32 J J J (fun hg32=>?_) (fun hg32=>?_)
  ·
   exact at_ ⟨s,k+1⟩ (by dsimp only;exact⟨⟨by omega,hinv,(aew hns hk hm (by unfold adt;rw[if_pos hg32]))⟩,(by omega)⟩)
  ·
   refine cl rfl (apD (l:=m) (p:=p)) rfl<|?_
   refine br J J J (fun hc37=>?_) (fun hc37=>?_)
   ·
    exact at_ ⟨s,k+1⟩ (by dsimp only;exact⟨⟨by omega,hinv,(aew hns hk hm (by unfold adt;rw[if_neg hg32,if_pos hc37]))⟩,(by omega)⟩)
   ·
    refine cl rfl (akT (l:=m) (p:=p)) rfl<|cl rfl (aj3 (a:=m.value p) (b:=m.value (adH p v ((1:Int):Rat))-m.value p) (atR hg32)) rfl<|?_
    refine cl rfl (aop (q:=m.value p/(m.value (adH p v ((1:Int):Rat))-m.value p))) rfl<|cl (fu:=⟨0⟩) rfl (q_S (q:= -(m.value p/(m.value (adH p v ((1:Int):Rat))-m.value p)))) rfl<|?_
    refine csS (v2:=fun hg46=>by simp only[aai];exact⟨by kernel_rfl,by omega⟩) J J J J (fun hg46=>?_) (fun hg46=>?_)
    ·
     refine cl rfl (arT (a:= -(m.value p/(m.value (adH p v ((1:Int):Rat))-m.value p)))) rfl<|cl rfl (q_C (a:= -(m.value p/(m.value (adH p v ((1:Int):Rat))-m.value p))/2) (b:=s)) rfl<|?_
     refine br J J J (fun hc53=>?_) (fun hc53=>?_)
     ·
      obtain⟨t,ht⟩: ∃t,t= -(m.value p/(m.value (adH p v ((1:Int):Rat))-m.value p)):=⟨_,rfl⟩
      haveI htb:BQ t 45000:=ht▸BQ.mono inferInstance (by decide)
      have hinv:BQ (t/2) 60000:=BQ.mono inferInstance (by decide)
      rw[←ht]
      refine cl rfl (arT (a:=t)) rfl<|?_
      exact at_ ⟨t/2,k+1⟩ (by dsimp only;exact⟨⟨by omega,hinv,(aew hns hk hm (by unfold adt;rw[if_neg hg32,if_neg hc37,show amA p v m=t from ht.symm,if_pos (by rw[ht];exact hg46),if_pos (by rw[ht];exact hc53)]))⟩,(by omega)⟩)
     ·
      exact at_ ⟨s,k+1⟩ (by dsimp only;exact⟨⟨by omega,hinv,(aew hns hk hm (by unfold adt;rw[if_neg hg32,if_neg hc37,if_pos (show 0<(amA p v m).num.sign from hg46),if_neg (show¬abh (amA p v m/2) s<0 from hc53)]))⟩,(by omega)⟩)
    ·
     exact at_ ⟨s,k+1⟩ (by dsimp only;exact⟨⟨by omega,hinv,(aew hns hk hm (by unfold adt;rw[if_neg hg32,if_neg hc37,if_neg (show¬0<(amA p v m).num.sign from hg46)]))⟩,(by omega)⟩)
 ·
  refine cl rfl (amr (p:=p) (q:=v) (c:=s)) rfl<|?_
  exact rz rfl (by unfold aw8;rw[←hns,jW (by omega)];rfl)
def acJ(c:List LnQ):List LnQ→PtQ
 |[]=>⟨0,0⟩
 |m::t=>if(acH m c IvQ.all).2=true then aw8 c (m.at (abV (acH m c IvQ.all).1)) (ae8 m.dir) else acJ c t
theorem aqZ{c:List LnQ}{k:Nat}{m:LnQ}(h:acJ c (c.drop k)=acJ c c)(hk:k<c.length)(hm:m=c[k])(e:(acH m c IvQ.all).2=true):acJ c c=aw8 c (m.at (abV (acH m c IvQ.all).1)) (ae8 m.dir):=by
 rw[←h,aN hk,acJ,←hm,if_pos e]
theorem ar9{c:List LnQ}{k:Nat}{m:LnQ}(h:acJ c (c.drop k)=acJ c c)(hk:k<c.length)(hm:m=c[k])(e: ¬(acH m c IvQ.all).2=true):acJ c (c.drop (k+1))=acJ c c:=by
 rw[←h,aN hk,acJ,←hm,if_neg e]
theorem atg{c:List LnQ}{m:LnQ}(h:m∈c)(h2:(adg m c IvQ.all).isSome=true):acD c=true:=by
 unfold acD;rw[gM,kN];exact .inr ⟨m,h,h2⟩
theorem ar5{c:List LnQ}(h:c=[]):acD c=true:=by subst h;rfl
theorem aw9{c:List LnQ}(h:c≠[])(h2: ∀m∈c,(adg m c IvQ.all).isSome=false):acD c=false:=by
 rw[←lN];unfold acD;rw[gM,kN,List.isEmpty_iff]
 rintro (e|⟨m,h3,h4⟩)
 ·exact h e
 ·rw[h2 m h3] at h4;exact absurd h4 (by decide)
theorem asJ:eP ⟨0,0⟩= .ag [.v (.bool false), .sl [], .sl [], .v (.bool false), .sl [], .sl []]:=by
 unfold eP dD
 simp only[show(0:Rat).num=0 from rfl,show(0:Rat).den=1 from rfl,kQ,adj];rfl
theorem anP{c:List LnQ}(hc: ∀m∈c,LB m)(hok: ∀m∈c,m.ok)(hn:c.length≤1000):PF GB prog 176 [.sl (c.map eL)] (.tp [eP (acJ c c),vB (acD c)]):=by
 have hcl:=aeG c
 refine fn func176 J J ntmps176 J J (fun C=>?_)
 refine br (fu2:=⟨7⟩) J J J (fun hc11=>?_) (fun hc11=>?_)
 ·
  exact rz rfl (by rw[bT (l:=c) (by omega),ar5 rfl];show _=DV.tp [eP ⟨0,0⟩,_];rw[asJ];rfl)
 ·
  refine eqF 14 (.d (vI (c.length:Nat))) rfl (by rw[hcl];rfl) ?_
  refine gx rfl<|?_
  refine lp (X:=Nat) (fun k=>[(15, .d (vI (k:Nat))),(14, .d (vI (c.length:Nat))),(13, .d (.sl (c.map eL))),(0, .d (.sl (c.map eL))),(2, .ov 2 0)]) (fun k=>[(2,some (.o 58 [.ff, .nl, .nl, .ff, .nl, .nl] true))]) (fun k=>k≤c.length∧(∀m∈c.take k,(adg m c IvQ.all).isSome=false)∧acJ c (c.drop k)=acJ c c) (fun k=>c.length-k) 0 rfl ⟨bK _,fun m hm=>absurd hm (by simp),rfl⟩ (fun _=>rfl) (fun k hk=>?_)
  obtain⟨hle,hno,hip⟩:=hk
  refine br J J J (fun hc16=>?_) (fun hc16=>?_)
  ·
   have hk:k<c.length:=by omega
   obtain⟨m,hm⟩: ∃m,m=c[k]:=⟨_,rfl⟩
   haveI hmb:LB m:=hm▸hc _ (cJ hk)
   have hmo:m.ok:=hm▸hok _ (cJ hk)
   refine ix (fu:=⟨1⟩) _ rfl (aeA hk) rfl<|?_
   refine eqF 19 (.d (eL m)) rfl (by rw[hm];rfl) ?_
   refine gx rfl<|cl (fu:=⟨0⟩) rfl (axi hc hok hn hk) rfl<|?_
   refine eqF 23 (.d (.tp [eV (acH m c IvQ.all).1,vB (acH m c IvQ.all).2])) rfl (by rw[hm]) ?_
   refine gx rfl<|?_
   refine bb J J J (fun hc26=>?_) (fun hc26=>?_)
   ·
    have hbd:=ah8 (v:=IvQ.all) hmo.ne hc IvZ.all (BQ.mono (k:=1) ⟨by decide,by decide⟩ (by decide)) (BQ.mono (k:=1) ⟨by decide,by decide⟩ (by decide))
    obtain⟨s,hs⟩: ∃s,s=(acH m c IvQ.all).1:=⟨_,rfl⟩
    rw[←hs] at hbd
    haveI:=hbd.1
    haveI:=hbd.2
    haveI hsb:=amo (v:=s) (i:=1200)
    have hpt:BPt (m.at (abV s)) 4500:=by have:=BPt.at m (abV s) (1200+1200+5);exact⟨this.x.mono (by decide),this.y.mono (by decide)⟩
    have hin:acD c=true:=atg (hm▸cJ hk) (by rw[←aep];exact hc26)
    have hpn:=aqZ hip hk hm hc26
    rw[←hs] at hpn⊢
    refine cl rfl (ant (l:=m)) rfl<|cl rfl (avM (v:=s)) rfl<|cl rfl (aEB (l:=m) (t:=abV s) hmo.ne) rfl<|cl rfl (aop (q:=m.dir.y)) rfl<|?_
    refine cl rfl (aCd (p:=m.at (abV s)) (v:=ae8 m.dir) hc hn (hpt) inferInstance) rfl<|?_
    exact rz rfl (by rw[hin,hpn];rfl)
   ·
    exact at_ (k+1) ⟨⟨by omega,asI hno hk (by rw[←hm,←aep];exact hc26),ar9 hip hk hm (by rw[hc26];decide)⟩,(by omega)⟩
  ·
   exact rz rfl (by rw[aw9 (fun e=>hc11 (by rw[e];rfl)) (fun m hm=>hno m (by rw[aT (by omega)];exact hm)),←hip,jW (by omega)];show _=DV.tp [eP ⟨0,0⟩,_];rw[asJ];rfl)
end Go.Sx
end
