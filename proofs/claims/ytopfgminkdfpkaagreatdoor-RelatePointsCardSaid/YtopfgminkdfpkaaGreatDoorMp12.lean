/- Part 12 of a proof. -/
import Derived.Test.YtopfgminkdfpkaaGreatDoorMp11
set_option linter.unusedSimpArgs false
set_option maxHeartbeats 4000000
set_option maxRecDepth 100000
set_option linter.unusedVariables false
section
namespace Go.Sx
open Go Go.Proofs Tryz
variable {GB:Gh}
theorem aC6{m:Int}{g:Nat}(hg:(g:Int)∣m)(hb:m.natAbs<4611686018427387904):IntKind.i64.wrap (m.tdiv g)=m/g:=by
 rw[Int.tdiv_eq_ediv_of_dvd hg]
 have:=mK m g
 exact auy (by omega)
def tm(a b:Int):Int:=if(a*b).natAbs<4611686018427387904 then a*b else 0
theorem az1(a b:Int):(tm a b).natAbs<4611686018427387904:=by unfold tm;split<;>omega
theorem asg{a b:Int}(h:(a*b).natAbs<4611686018427387904):tm a b=a*b:=if_pos h
theorem aCc{a b:Int}(h: ¬(a*b).natAbs<4611686018427387904):DV.tp [vI 0, .v (.bool false)]= .tp [vI (tm a b),vB (decide ((a*b).natAbs<4611686018427387904))]:=by unfold tm;rw[if_neg h,decide_eq_false h];rfl
theorem axD{a b:Int}{x:Int}(h:(a*b).natAbs<4611686018427387904)(e:x=a*b):DV.tp [vI x, .v (.bool true)]= .tp [vI (tm a b),vB (decide ((a*b).natAbs<4611686018427387904))]:=by unfold tm;rw[if_pos h,decide_eq_true h,e];rfl
theorem axP(n:Nat):eI (n:Int)= .ag [.v (.bool false),dN n]:=by unfold eI;rw[decide_eq_false (by omega),jZ]
theorem aBD{p q:Rat}(hp:p.den=1)(hq:q.den=1):rgcd p q=((Nat.gcd p.num.natAbs q.num.natAbs:Nat):Int):=by
 conv=>lhs;rw[alc hp,alc hq]
 exact agV _ _
theorem azH(q:Rat):mkRat (zv (decide (q.num<0)) q.den) q.num.natAbs=q⁻¹:=by
 rw[Rat.inv_def]
 by_cases h:q.num<0
 ·rw[decide_eq_true h];exact al4 h
 ·rw[decide_eq_false h,←Rat.divInt_ofNat,mT (by omega)];rfl
instance BQ.inv (q:Rat) (i:Nat) [h:BQ q i]:BQ q⁻¹ i:=by
 have h1:=h.hn
 have h2:=h.hd
 have h3:=q.den_nz
 rcases kU q.num 0 with k|k|k
 ·obtain⟨e1,e2⟩:=aiJ k;exact⟨by omega,by omega⟩
 ·have e:q=0:=lX.1 k
  have e0:(0:Rat)⁻¹=0:=Rat.inv_zero
  rw[e] at h1 h2⊢;rw[e0];exact⟨h1,h2⟩
 ·obtain⟨e1,e2⟩:=aiY k;exact⟨by omega,by omega⟩
instance BQ.half:BQ (mkRat 1 2) 2:=⟨by decide,by decide⟩
theorem ayN{x y:Nat}(hx:x<18446744073709551616)(hy:y<18446744073709551616):PF GB prog 265 [.v (.int .u64 (x:Nat)), .v (.int .u64 (y:Nat))] (.tp [.v (.int .u64 ((x*y/18446744073709551616:Nat):Int)), .v (.int .u64 ((x*y%18446744073709551616:Nat):Int))]):=fun G vs _ hv=>by
 obtain⟨v,m,rfl,h1,h2⟩:=aac.1 hv
 obtain⟨u,m',rfl,h3,h4⟩:=aac.1 h2
 cases aaJ.1 h4
 rw[aaZ.1 h1,aaZ.1 h3]
 exact(aog hx hy).mono fun v G' _ h=>by subst h;exact adM.2 ⟨_,rfl, .cons (aaZ.2 rfl) (.cons (aaZ.2 rfl) .nil)⟩
theorem aA5{a b:Nat}(ha:a<18446744073709551616)(hb:b<18446744073709551616):PF GB prog 267 [.v (.int .u64 (a:Nat)), .v (.int .u64 (b:Nat))] (.v (.int .u64 (Nat.gcd a b:Nat))):=by
 refine fn func267 J J ntmps267 J J (fun C=>?_)
 refine lp (X:=Nat×Nat) (fun⟨u,v⟩=>[(1, .d (.v (.int .u64 (v:Nat)))),(0, .d (.v (.int .u64 (u:Nat))))]) (fun⟨u,v⟩=>[]) (fun⟨u,v⟩=>u<18446744073709551616∧v<18446744073709551616∧Nat.gcd u v=Nat.gcd a b) (fun⟨u,v⟩=>v) (a,b) rfl ⟨ha,hb,rfl⟩ (fun _=>rfl) (fun⟨u,v⟩ hk=>?_)
 dsimp only at hk⊢
 obtain⟨h1,h2,h3⟩:=hk
 refine br (v1:=fun hc6=>by simp only[aag];exact⟨by omega,by kernel_rfl⟩) J J J (fun hc6=>?_) (fun hc6=>?_)
 ·
  have hm:=dZ u (show 0<v by omega)
  exact at_ (v,u%v) (by dsimp only;exact⟨⟨h2,by omega,by rw[←h3,iK u v,sJ v u,iK]⟩,hm⟩)
 ·
  exact rz rfl (by rw[←h3,show v=0 by omega,lN];rfl)
theorem aj7{m:Int}(h:m.natAbs<9223372036854775808):PF GB prog 113 [vI m] (eF (m:Rat)):=by
 refine fn func113 J J ntmps113 J J (fun C=>?_)
 refine cs 5 J J J (fun hg5=>?_) (fun hg5=>?_)
 ·
  refine cl rfl (ai1 (m:=m) (by omega) (by omega)) rfl<|rf (fu:=⟨0⟩) J J<|?_
  refine eqF 11 (.d (dN 1)) rfl (by unfold dN;rw[ane];rfl) ?_
  refine gx rfl<|cl rfl (ad5 (n:=decide (m<0)) (a:=m.natAbs) (i:=63) (h:=⟨h⟩) (d:=1)) rfl<|?_
  exact rz rfl (by rw[adt,show mkRat m 1=(m:Rat) from rJ ..];rfl)
 ·
  refine br J J J (fun hc8=>?_) (fun hc8=>?_)
  ·
   refine cl rfl (ai1 (m:=m) (by omega) (by omega)) rfl<|rf (fu:=⟨0⟩) J J<|?_
   refine eqF 11 (.d (dN 1)) rfl (by unfold dN;rw[ane];rfl) ?_
   refine gx rfl<|cl rfl (ad5 (n:=decide (m<0)) (a:=m.natAbs) (i:=63) (h:=⟨h⟩) (d:=1)) rfl<|?_
   exact rz rfl (by rw[adt,show mkRat m 1=(m:Rat) from rJ ..];rfl)
  ·
   exact rzI rfl (aFL (by omega))
theorem ai9{a b:Int}(ha:a.natAbs<4611686018427387904)(hb:b.natAbs<4611686018427387904):PF GB prog 226 [vI a,vI b] (.tp [vI (tm a b),vB (decide ((a*b).natAbs<4611686018427387904))]):=by
 have hab:=iY a b
 refine fn func226 J J ntmps226 J J (fun C=>?_)
 refine cl rfl (atU (m:=a) (by omega)) rfl<|cl rfl (atU (m:=b) (by omega)) rfl<|cl rfl (ayN (x:=a.natAbs) (y:=b.natAbs) (by omega) (by omega)) rfl<|?_
 refine cs 18 J J J (fun hg18=>?_) (fun hg18=>?_)
 ·
  exact rz rfl (aCc (by omega))
 ·
  refine br J J J (fun hc21=>?_) (fun hc21=>?_)
  ·
   exact rz rfl (aCc (by omega))
  ·
   refine bb J J J (fun hc26=>?_) (fun hc26=>?_)
   ·
    have hs:=amh a b
    rw[if_neg (by simpa using hc26)] at hs
    exact rz rfl (axD (by omega) (by rw[hs,←hab];omega))
   ·
    have hs:=amh a b
    rw[if_pos (by simpa using hc26)] at hs
    exact rz rfl (axD (by omega) (by rw[hs,←hab];omega))
theorem aph{m:Int}{d:Nat}(h:m.natAbs<4611686018427387904)(h0:0<d)(hd:d<4611686018427387904):PF GB prog 227 [vI m,vI (d:Nat)] (eF (mkRat m d)):=by
 have hg:Nat.gcd m.natAbs d≤d:=Nat.gcd_le_right _ h0
 have hg0:0<Nat.gcd m.natAbs d:=mN _ h0
 obtain⟨e1,e2⟩:=auM (m:=m) h0
 have e3:=mK m (Nat.gcd m.natAbs d:Nat)
 have e4:=jM d (Nat.gcd m.natAbs d)
 have e5:=Nat.div_pos hg hg0
 refine fn func227 J J ntmps227 J J (fun C=>?_)
 refine cl rfl (atU (m:=m) (by omega)) rfl<|cl rfl (aA5 (a:=m.natAbs) (b:=d) (by omega) (by omega)) rfl<|?_
 refine br (fu1:=⟨4⟩) J J J (fun hc13=>?_) (fun hc13=>?_)
 ·
  refine eqF 16 (.d (vI (m/(Nat.gcd m.natAbs d:Nat)))) rfl (by rw[aC6 (Int.dvd_natAbs.1 (qX.2 (rZ _ _))) h];rfl) ?_
  refine gx (fu:=⟨3⟩) rfl<|?_
  refine eqF 19 (.d (vI ((d/Nat.gcd m.natAbs d:Nat)))) rfl (by rw[aC6 (qX.2 (qT _ _)) (by rw[jZ];exact hd)];rfl) ?_
  refine gx (hv:=by simp only[aag];exact⟨by kernel_rfl,by omega⟩) rfl<|?_
  exact rzI rfl (awf (fun k=>k ⟨by rw[e1];omega,by rw[e2];omega⟩) e1 (by rw[e2]) rfl)
 ·
  exact rzI rfl (by have h1:Nat.gcd m.natAbs d=1:=(by omega);rw[h1,sK] at e2;rw[h1,Int.natCast_one,Int.ediv_one] at e1;exact awf (fun k=>k ⟨by rw[e1];omega,by rw[e2];omega⟩) e1 (by rw[e2]) rfl)
theorem ah1{p q:Rat}{i j:Nat}[h:BQ p i][k:BQ q j](hi:i≤100000000:=by decide)(hj:j≤100000000:=by decide):PF GB prog 184 [eF p,eF q] (eF (p*q)):=by
 refine fn (fu:=⟨8⟩) func184 J J ntmps184 J J (fun C=>?_)
 refine mg (X:=Unit) (fun _=>[(2, .ov 2 0),(3, .ov 3 0),(4, .ov 4 0)]) (fun _=>[(2,some (.o 102 [.d (vI (fn_ p)), .d (vI (fd_ p)), .d (fp_ p)] true)),(3,some (.o 102 [.d (vI (fn_ q)), .d (vI (fd_ q)), .d (fp_ q)] true)),(4,some (.o 102 [.d (.v (.int .i64 0)), .d (.v (.int .i64 0)), .d (.v (.pointer none))] true))]) (fun _=>True) [2,3,4] [2,3,4] rfl ?_ (fun _=>rfl) (fun _ _=>?_)
 ·
  refine gx rfl<|?_
  refine cs 12 J J J (fun hg12=>?_) (fun hg12=>?_)
  ·
   refine br (fu1:=⟨4⟩) J J J (fun hc16=>?_) (fun hc16=>?_)
   ·
    have hp:=bgF hg12
    have hq:=bgF hc16
    have p1:=apJ hp
    have p2:=arv hp
    have p3:=adS hp
    have p4:=adH hp
    have p5:=p.den_nz
    have q1:=apJ hq
    have q2:=arv hq
    have q3:=adS hq
    have q4:=adH hq
    have q5:=q.den_nz
    refine eqF 19 (.d (vI p.num)) rfl (by rw[p1]) ?_
    refine gx (fu:=⟨2⟩) rfl<|?_
    refine eqF 21 (.d (vI q.num)) rfl (by rw[q1]) ?_
    refine gx rfl<|cl (fu:=⟨12⟩) rfl (ai9 (a:=p.num) (b:=q.num) (by omega) (by omega)) rfl<|?_
    refine eqF 28 (.d (vI (p.den:Nat))) rfl (by congr 3;omega) ?_
    refine gx (fu:=⟨3⟩) rfl<|?_
    refine eqF 31 (.d (vI (q.den:Nat))) rfl (by congr 3;omega) ?_
    refine gx rfl<|cl rfl (ai9 (a:=(p.den:Nat)) (b:=(q.den:Nat)) (by omega) (by omega)) rfl<|?_
    refine csd 36 J J J (fun hg36=>?_) (fun hg36=>?_)
    ·
     refine bd (fu1:=⟨3⟩) J J J (fun hc38=>?_) (fun hc38=>?_)
     ·
      have hd1:p.den*q.den<4611686018427387904:=by omega
      refine eqF 39 (.d (vI (p.num*q.num))) rfl (by rw[asg hg36]) ?_
      refine gx (fu:=⟨1⟩) rfl<|?_
      refine eqF 40 (.d (vI ((p.den*q.den:Nat)))) rfl (by rw[asg hc38];rfl) ?_
      refine gx rfl<|cl rfl (aph (m:=p.num*q.num) (d:=p.den*q.den) hg36 (iT (by omega) (by omega)) hd1) rfl<|?_
      exact rz rfl (by rw[←aer];rfl)
     ·
      exact at_ () trivial
    ·
     exact at_ () trivial
   ·
    exact at_ () trivial
  ·
   exact at_ () trivial
 ·
  refine cl rfl (aq8 (q:=p) (by omega)) rfl<|cl rfl (aq8 (q:=q) (by omega)) rfl<|cl rfl (asQ (a:=p.num) (b:=q.num) (by omega) (by omega)) rfl<|?_
  refine cl rfl (aj3 (q:=p) (by omega)) rfl<|cl rfl (aj3 (q:=q) (by omega)) rfl<|cl rfl (aqH (a:=p.den) (b:=q.den) (by omega) (by omega)) rfl<|?_
  refine cl rfl (ad5 (n:=decide (p.num*q.num<0)) (a:=(p.num*q.num).natAbs) (d:=p.den*q.den) (i:=i+j) (j:=i+j) (by omega) (by omega)) rfl<|?_
  exact rz rfl (by rw[adt,←aer];rfl)
theorem agQ{p q:Rat}{i j:Nat}[h:BQ p i][k:BQ q j](hi:i≤100000000:=by decide)(hj:j≤100000000:=by decide):PF GB prog 181 [eF p,eF q] (eF (p+q)):=by
 refine fn (fu:=⟨8⟩) func181 J J ntmps181 J J (fun C=>?_)
 refine mg (X:=Unit) (fun _=>[(2, .ov 2 0),(3, .ov 3 0),(4, .ov 4 0)]) (fun _=>[(2,some (.o 102 [.d (vI (fn_ p)), .d (vI (fd_ p)), .d (fp_ p)] true)),(3,some (.o 102 [.d (vI (fn_ q)), .d (vI (fd_ q)), .d (fp_ q)] true)),(4,some (.o 102 [.d (.v (.int .i64 0)), .d (.v (.int .i64 0)), .d (.v (.pointer none))] true))]) (fun _=>True) [2,3,4] [2,3,4] rfl ?_ (fun _=>rfl) (fun _ _=>?_)
 ·
  refine gx rfl<|?_
  refine cs 16 J J J (fun hg16=>?_) (fun hg16=>?_)
  ·
   refine br (fu1:=⟨1⟩) J J J (fun hc20=>?_) (fun hc20=>?_)
   ·
    have hp:=bgF hg16
    have hq:=bgF hc20
    have p1:=apJ hp
    have p2:=arv hp
    have p3:=adS hp
    have p4:=adH hp
    have p5:=p.den_nz
    have q1:=apJ hq
    have q2:=arv hq
    have q3:=adS hq
    have q4:=adH hq
    have q5:=q.den_nz
    refine mg (fu:=⟨4⟩) (X:=Unit) (fun _=>[(2, .ov 2 0),(3, .ov 3 0),(4, .ov 4 0)]) (fun _=>[(2,some (.o 102 [.d (vI (fn_ p)), .d (vI (fd_ p)), .d (fp_ p)] true)),(3,some (.o 102 [.d (vI (fn_ q)), .d (vI (fd_ q)), .d (fp_ q)] true)),(4,some (.o 102 [.d (.v (.int .i64 0)), .d (.v (.int .i64 0)), .d (.v (.pointer none))] true))]) (fun _=>True) [2,3,4] [2,3,4] rfl ?_ (fun _=>rfl) (fun _ _=>?_)
    ·
     refine gx rfl<|?_
     refine cs 24 J J J (fun hg24=>?_) (fun hg24=>?_)
     ·
      refine br (fu1:=⟨4⟩) J J J (fun hc28=>?_) (fun hc28=>?_)
      ·
       refine eqF 30 (.d (vI p.num)) rfl (by rw[p1]) ?_
       refine gx (fu:=⟨2⟩) rfl<|?_
       refine eqF 32 (.d (vI q.num)) rfl (by rw[q1]) ?_
       refine gx rfl<|cl rfl (aj7 (m:=p.num+q.num) (by omega)) rfl<|?_
       exact rz rfl (by rw[alc (q:=p) (by omega),alc (q:=q) (by omega),←pS];rfl)
      ·
       exact at_ () trivial
     ·
      exact at_ () trivial
    ·
     refine eqF 37 (.d (vI p.num)) rfl (by rw[p1]) ?_
     refine gx (fu:=⟨3⟩) rfl<|?_
     refine eqF 40 (.d (vI (q.den:Nat))) rfl (by congr 3;omega) ?_
     refine gx rfl<|cl (fu:=⟨11⟩) rfl (ai9 (a:=p.num) (b:=(q.den:Nat)) (by omega) (by omega)) rfl<|?_
     refine eqF 46 (.d (vI q.num)) rfl (by rw[q1]) ?_
     refine gx (fu:=⟨3⟩) rfl<|?_
     refine eqF 49 (.d (vI (p.den:Nat))) rfl (by congr 3;omega) ?_
     refine gx rfl<|cl (fu:=⟨12⟩) rfl (ai9 (a:=q.num) (b:=(p.den:Nat)) (by omega) (by omega)) rfl<|?_
     refine eqF 56 (.d (vI (p.den:Nat))) rfl (by congr 3;omega) ?_
     refine gx (fu:=⟨3⟩) rfl<|?_
     refine eqF 59 (.d (vI (q.den:Nat))) rfl (by congr 3;omega) ?_
     refine gx rfl<|cl (fu:=⟨3⟩) rfl (ai9 (a:=(p.den:Nat)) (b:=(q.den:Nat)) (by omega) (by omega)) rfl<|?_
     have t1:=az1 p.num (q.den:Nat)
     have t2:=az1 q.num (p.den:Nat)
     have t3:=az1 (p.den:Nat) (q.den:Nat)
     refine gx rfl<|?_
     refine csd 67 J J J (fun hg67=>?_) (fun hg67=>?_)
     ·
      refine csd 70 J J J (fun hg70=>?_) (fun hg70=>?_)
      ·
       refine csd 73 J J J (fun hg73=>?_) (fun hg73=>?_)
       ·
        refine cs 77 J J J (fun hg77=>?_) (fun hg77=>?_)
        ·
         refine br (fu1:=⟨3⟩) J J J (fun hc80=>?_) (fun hc80=>?_)
         ·
          have u1:=asg hg67
          have u2:=asg hg70
          have u3:=asg hg73
          have hd1:p.den*q.den<4611686018427387904:=by omega
          refine eqF 81 (.d (vI (p.num*(q.den:Nat)+q.num*(p.den:Nat)))) rfl (by rw[u1,u2];rfl) ?_
          refine gx (fu:=⟨1⟩) rfl<|?_
          refine eqF 82 (.d (vI ((p.den*q.den:Nat)))) rfl (by rw[u3];rfl) ?_
          refine gx rfl<|cl rfl (aph (m:=p.num*(q.den:Nat)+q.num*(p.den:Nat)) (d:=p.den*q.den) (by omega) (iT (by omega) (by omega)) hd1) rfl<|?_
          exact rz rfl (by rw[←aes];rfl)
         ·
          exact at_ () trivial
        ·
         exact at_ () trivial
       ·
        exact at_ () trivial
      ·
       exact at_ () trivial
     ·
      exact at_ () trivial
   ·
    exact at_ () trivial
  ·
   exact at_ () trivial
 ·
  refine cl rfl (aq8 (q:=p) (by omega)) rfl<|cl (fu:=⟨1⟩) rfl (aj3 (q:=q) (by omega)) rfl<|?_
  refine eqF 88 (.d (eI (q.den:Nat))) rfl (by rw[axP]) ?_
  refine gx rfl<|cl rfl (asQ (a:=p.num) (b:=(q.den:Nat)) (by omega) (by omega)) rfl<|cl rfl (aq8 (q:=q) (by omega)) rfl<|cl (fu:=⟨1⟩) rfl (aj3 (q:=p) (by omega)) rfl<|?_
  refine eqF 94 (.d (eI (p.den:Nat))) rfl (by rw[axP]) ?_
  refine gx rfl<|cl rfl (asQ (a:=q.num) (b:=(p.den:Nat)) (by omega) (by omega)) rfl<|cl rfl (aCy (a:=p.num*(q.den:Nat)) (b:=q.num*(p.den:Nat)) (i:=i+j) (j:=j+i) (by omega) (by omega)) rfl<|?_
  refine cl rfl (aj3 (q:=p) (by omega)) rfl<|cl rfl (aj3 (q:=q) (by omega)) rfl<|cl rfl (aqH (a:=p.den) (b:=q.den) (by omega) (by omega)) rfl<|?_
  refine cl rfl (ad5 (n:=decide (p.num*(q.den:Nat)+q.num*(p.den:Nat)<0)) (a:=(p.num*(q.den:Nat)+q.num*(p.den:Nat)).natAbs) (d:=p.den*q.den) (i:=i+j+(j+i)+1) (j:=i+j) (by omega) (by omega)) rfl<|?_
  exact rz rfl (by rw[adt,←aes];rfl)
theorem akZ{p q:Rat}{i j:Nat}[h:BQ p i][k:BQ q j](hi:i≤100000000:=by decide)(hj:j≤100000000:=by decide):PF GB prog 180 [eF p,eF q] (eF (p-q)):=by
 refine fn func180 J J ntmps180 J J (fun C=>?_)
 refine cl rfl (afg (q:=q) (by omega)) rfl<|cl rfl (agQ (p:=p) (q:= -q) (by omega) (by omega)) rfl<|?_
 exact rz rfl (by rw[←Rat.sub_eq_add_neg];rfl)
theorem ayh{q:Rat}{i:Nat}[h:BQ q i](hi:i≤400000000:=by decide):PF GB prog 187 [eF q] (eF q⁻¹):=by
 refine fn func187 J J ntmps187 J J (fun C=>?_)
 refine br (v1:=fun hc3=>by simp only[aag];exact⟨⟨hc3,hc3⟩,hc3⟩) J J J (fun hc3=>?_) (fun hc3=>?_)
 ·
  refine cl rfl (ad5 (n:=decide (q.num<0)) (a:=q.den) (d:=q.num.natAbs) (by omega) (by omega)) rfl<|?_
  exact rz rfl (by rw[azH];rfl)
 ·
  have q1:=apJ (aqX hc3)
  have q2:=arv (aqX hc3)
  have q3:=adS (aqX hc3)
  have q4:=adH (aqX hc3)
  have q5:=q.den_nz
  refine br J J J (fun hc26=>?_) (fun hc26=>?_)
  ·
   exact rzI rfl (by obtain⟨e1,e2⟩:=aiJ (q:=q) (by omega);exact awf (fun k=>k ⟨by omega,by omega⟩) (by omega) (by omega) rfl)
  ·
   refine br J J J (fun hc39=>?_) (fun hc39=>?_)
   ·
    exact rzI rfl (by rw[lX.1 (show q.num=0 by omega),Rat.inv_zero];exact aBJ)
   ·
    exact rzI rfl (by obtain⟨e1,e2⟩:=aiY (q:=q) (by omega);exact awf (fun k=>k ⟨by omega,by omega⟩) (by omega) (by omega) rfl)
theorem auX{p q:Rat}{i j:Nat}[h:BQ p i][k:BQ q j](hi:i≤100000000:=by decide)(hj:j≤100000000:=by decide):PF GB prog 118 [eF p,eF q] (eF (p/q)):=by
 refine fn func118 J J ntmps118 J J (fun C=>?_)
 refine cl rfl (ayh (q:=q) (by omega)) rfl<|cl rfl (ah1 (p:=p) (q:=q⁻¹) (by omega) (by omega)) rfl<|?_
 exact rz rfl (by rw[Rat.div_def];rfl)
theorem aBf{G:Gh}{q r:DV}{t:List DV}{vs:List Value}(h: ∀y,Is G r y→Is G q y)(hv:IsLs G (r::t) vs):IsLs G (q::t) vs:=by
 obtain⟨y,m,rfl,h1,h2⟩:=aac.1 hv
 exact .cons (h _ h1) h2
theorem atN{G:Gh}{a q r:DV}{t:List DV}{vs:List Value}(h: ∀y,Is G r y→Is G q y)(hv:IsLs G (a::r::t) vs):IsLs G (a::q::t) vs:=by
 obtain⟨y,m,rfl,h1,h2⟩:=aac.1 hv
 exact .cons h1 (aBf h h2)
theorem azD{q:Rat}{i:Nat}[h:BQ q i](hi:i≤100000000:=by decide):PF GB prog 184 [eF q, .ag [vI 1,vI 1, .v (.pointer none)]] (eF (q*mkRat 1 2)):=
 (ah1 (p:=q) (q:=mkRat 1 2) hi).ofI fun G vs hv=>atN (fun y hy=>awf (q:=mkRat 1 2) (fun k=>k ⟨by decide,by decide⟩) (by decide) (by decide) rfl G y hy) hv
theorem aso{q:Rat}{i:Nat}[h:BQ q i](hi:i≤100000000:=by decide):PF GB prog 122 [eF q] (eF (q*mkRat 1 2)):=by
 refine fn func122 J J ntmps122 J J (fun C=>?_)
 refine cl rfl (azD (q:=q) (by omega)) rfl<|?_
 exact rz J J
theorem aji{p q:Rat}{i j:Nat}[h:BQ p i][k:BQ q j](hi:i≤100000000:=by decide)(hj:j≤100000000:=by decide):PF GB prog 186 [eF p,eF q] (vI (aa2 p q)):=by
 refine fn func186 J J ntmps186 J J (fun C=>?_)
 refine cs 8 J J J (fun hg8=>?_) (fun hg8=>?_)
 ·
  refine cs 13 J J J (fun hg13=>?_) (fun hg13=>?_)
  ·
   refine br J J J (fun hc19=>?_) (fun hc19=>?_)
   ·
    have hp:=bgF hg8
    have hq:=bgF hg13
    have p1:=apJ hp
    have p2:=arv hp
    have p3:=adS hp
    have p4:=adH hp
    have p5:=p.den_nz
    have q1:=apJ hq
    have q2:=arv hq
    have q3:=adS hq
    have q4:=adH hq
    have q5:=q.den_nz
    have hl:=auV (a:=p) (b:=q) (by omega)
    have hr:=auV (a:=q) (b:=p) (by omega)
    unfold aa2
    refine br J J J (fun hc20=>?_) (fun hc20=>?_)
    ·
     exact rz rfl (by rw[if_pos (hl.2 (by omega))];rfl)
    ·
     refine br J J J (fun hc26=>?_) (fun hc26=>?_)
     ·
      exact rz rfl (by rw[if_neg (fun e=>by have:=hl.1 e;omega),if_pos (hr.2 (by omega))];rfl)
     ·
      exact rz rfl (by rw[if_neg (fun e=>by have:=hl.1 e;omega),if_neg (fun e=>by have:=hr.1 e;omega)];rfl)
   ·
    refine cl rfl (akZ (p:=p) (q:=q) (by omega) (by omega)) rfl<|cl rfl (acZ (q:=p-q) (by omega)) rfl<|?_
    exact rz rfl (by rw[aie];rfl)
  ·
   refine cl rfl (akZ (p:=p) (q:=q) (by omega) (by omega)) rfl<|cl rfl (acZ (q:=p-q) (by omega)) rfl<|?_
   exact rz rfl (by rw[aie];rfl)
 ·
  refine cl rfl (akZ (p:=p) (q:=q) (by omega) (by omega)) rfl<|cl rfl (acZ (q:=p-q) (by omega)) rfl<|?_
  exact rz rfl (by rw[aie];rfl)
theorem aiw{p q:Rat}{i j:Nat}[h:BQ p i][k:BQ q j](hi:i≤100000000:=by decide)(hj:j≤100000000:=by decide):PF GB prog 253 [eF p,eF q] (vB (decide (p=q))):=by
 refine fn func253 J J ntmps253 J J (fun C=>?_)
 refine cl rfl (aji (p:=p) (q:=q) hi hj) rfl<|?_
 exact rz rfl (by show DV.v (.bool (decide _))= .v (.bool _);congr 2;exact decide_eq_decide.2 (aeE p q))
theorem aBZ{p q:Rat}{i j:Nat}[h:BQ p i][k:BQ q j](hi:i≤100000000:=by decide)(hj:j≤100000000:=by decide):PF GB prog 317 [eF p,eF q] (eF (if p<q then q else p)):=by
 refine fn func317 J J ntmps317 J J (fun C=>?_)
 refine cl rfl (aji (p:=q) (q:=p) hj hi) rfl<|?_
 refine br J J J (fun hc8=>?_) (fun hc8=>?_)
 ·
  exact rz rfl (by rw[if_pos ((aqy q p).1 hc8)];rfl)
 ·
  exact rz rfl (by rw[if_neg (fun e=>hc8 ((aqy q p).2 e))];rfl)
theorem aCm{p q:Rat}{i j:Nat}[h:BQ p i][k:BQ q j](hi:i≤100000000:=by decide)(hj:j≤100000000:=by decide):PF GB prog 116 [eF p,eF q] (eF (if q<p then q else p)):=by
 refine fn func116 J J ntmps116 J J (fun C=>?_)
 refine cl rfl (aji (p:=q) (q:=p) hj hi) rfl<|?_
 refine br J J J (fun hc8=>?_) (fun hc8=>?_)
 ·
  exact rz rfl (by rw[if_pos ((aqo q p).1 hc8)];rfl)
 ·
  exact rz rfl (by rw[if_neg (fun e=>hc8 ((aqo q p).2 e))];rfl)
theorem agH{p q:Rat}{i j:Nat}[h:BQ p i][k:BQ q j](hi:i≤100000000:=by decide)(hj:j≤100000000:=by decide):PF GB prog 252 [eF p,eF q] (eF (rgcd p q)):=by
 refine fn (fu:=⟨8⟩) func252 J J ntmps252 J J (fun C=>?_)
 refine mg (X:=Unit) (fun _=>[(2, .ov 2 0),(3, .ov 3 0),(4, .ov 4 0)]) (fun _=>[(2,some (.o 102 [.d (vI (fn_ p)), .d (vI (fd_ p)), .d (fp_ p)] true)),(3,some (.o 102 [.d (vI (fn_ q)), .d (vI (fd_ q)), .d (fp_ q)] true)),(4,some (.o 102 [.d (.v (.int .i64 0)), .d (.v (.int .i64 0)), .d (.v (.pointer none))] true))]) (fun _=>True) [2,3,4] [2,3,4] rfl ?_ (fun _=>rfl) (fun _ _=>?_)
 ·
  refine gx rfl<|?_
  refine cs 10 J J J (fun hg10=>?_) (fun hg10=>?_)
  ·
   refine cs 15 J J J (fun hg15=>?_) (fun hg15=>?_)
   ·
    have hp:=bgF hg10
    have hq:=bgF hg15
    have p1:=apJ hp
    have p2:=arv hp
    have p3:=adS hp
    have p4:=adH hp
    have p5:=p.den_nz
    have q1:=apJ hq
    have q2:=arv hq
    have q3:=adS hq
    have q4:=adH hq
    have q5:=q.den_nz
    refine cs 20 J J J (fun hg20=>?_) (fun hg20=>?_)
    ·
     refine br (fu1:=⟨4⟩) J J J (fun hc24=>?_) (fun hc24=>?_)
     ·
      have hg:=aBY p3 q3
      refine eqF 26 (.d (vI p.num)) rfl (by rw[p1]) ?_
      refine gx rfl<|cl (fu:=⟨2⟩) rfl (atU (m:=p.num) (by omega)) rfl<|?_
      refine eqF 29 (.d (vI q.num)) rfl (by rw[q1]) ?_
      refine gx rfl<|cl rfl (atU (m:=q.num) (by omega)) rfl<|cl (hv:=by simp only[aag];exact⟨by omega,by kernel_rfl⟩) rfl (aA5 (a:=p.num.natAbs) (b:=q.num.natAbs) (by omega) (by omega)) rfl<|?_
      exact rzI rfl (by rw[aBD (p:=p) (q:=q) (by omega) (by omega)];exact aFL (by rw[jZ];exact hg))
     ·
      exact at_ () trivial
    ·
     exact at_ () trivial
   ·
    exact at_ () trivial
  ·
   exact at_ () trivial
 ·
  refine cl rfl (aj3 (q:=p) (by omega)) rfl<|cl rfl (aj3 (q:=q) (by omega)) rfl<|cl rfl (aqH (a:=p.den) (b:=q.den) (by omega) (by omega)) rfl<|?_
  refine cl rfl (aq8 (q:=p) (by omega)) rfl<|cl rfl (aj3 (q:=q) (by omega)) rfl<|cl rfl (aqH (a:=p.num.natAbs) (b:=q.den) (by omega) (by omega)) rfl<|?_
  refine cl rfl (aq8 (q:=q) (by omega)) rfl<|cl rfl (aj3 (q:=p) (by omega)) rfl<|cl rfl (aqH (a:=q.num.natAbs) (b:=p.den) (by omega) (by omega)) rfl<|?_
  refine cl rfl (aBw (a:=p.num.natAbs*q.den) (b:=q.num.natAbs*p.den) (i:=i+j) (j:=j+i) (by omega) (by omega)) rfl<|cl rfl (ad5 (n:=false) (a:=Nat.gcd (p.num.natAbs*q.den) (q.num.natAbs*p.den)) (d:=p.den*q.den) (i:=i+j+(j+i)) (j:=i+j) (by omega) (by omega)) rfl<|?_
  exact rz J J

def cT:Tr→List DV
 | .leaf b=>[.v (.bool true), .v (.bool b), .v (.bool false), .sl [], .v (.bool false), .sl [], .v (.bool false), .sl [], .v (.pointer none), .v (.pointer none)]
 | .node l x y=>[.v (.bool false), .v (.bool false), .v (.bool (decide (l.a<0))),dN l.a.natAbs, .v (.bool (decide (l.b<0))),dN l.b.natAbs, .v (.bool (decide (l.c<0))),dN l.c.natAbs, .pt (cT x), .pt (cT y)]
def eT(t:Tr):DV:= .pt (cT t)
def eN(n:NQ):DV:= .ag [.v (.bool (decide (n.l.a<0))),dN n.l.a.natAbs, .v (.bool (decide (n.l.b<0))),dN n.l.b.natAbs, .v (.bool (decide (n.l.c<0))),dN n.l.c.natAbs, .v (.int .i64 n.a), .v (.int .i64 n.b)]
def eA(t:Tr):DV:= .ag [.v (.int .i64 (t.num 0)), .sl ((t.wr 0).map eN)]
structure BL (l:LnQ) (k:Nat):Prop where
 a:l.a.natAbs<2^k
 b:l.b.natAbs<2^k
 c:l.c.natAbs<2^k
theorem aEe(ns:List NQ):ads 8 (ns.map eN):=fun d hd=>by
 obtain⟨n,_,rfl⟩:=bU.1 hd;exact⟨rfl,rfl⟩
theorem Tr.all_wr{p:LnQ→Prop}: ∀{t:Tr} (n:Nat),t.all p→ ∀x∈t.wr n,p x.l
 | .leaf b,n,_,x,hx=>by cases hx
 | .node l u v,n,⟨h1,h2,h3⟩,x,hx=>by
  simp only[Tr.wr,hJ,aW,bK] at hx
  rcases hx with rfl|hx|hx
  ·exact h1
  ·exact u.all_wr _ h2 x hx
  ·exact v.all_wr _ h3 x hx
structure LS (l:LnQ):Prop where
 ok:l.ok
 a:l.a.natAbs≤4
 b:l.b.natAbs≤4
 c:l.c.natAbs≤40000
theorem LS.bl{l:LnQ}(h:LS l):BL l 96:=⟨by have:=h.a;omega,by have:=h.b;omega,by have:=h.c;omega⟩
theorem ae4{xs:List LnQ}{i:Nat}(h:i<xs.length):(xs.map eL)[(i:Int).toNat]? =some (eL xs[i]):=by simp[h]
theorem aeO(xs:List LnQ):(xs.map eL).length=xs.length:=aJ ..
theorem auI{α:Type}{xs:List α}{i:Nat}{p:α→Prop}(h: ∀x∈xs.take i,p x)(hi:i<xs.length)(hy:p xs[i]): ∀x∈xs.take (i+1),p x:=by
 intro x hx
 rw[fW hi] at hx
 simp only[bK,aU] at hx
 rcases hx with hx|rfl
 ·exact h x hx
 ·exact hy
theorem LnQ.ext'{l m:LnQ}(h1:l.a=m.a)(h2:l.b=m.b)(h3:l.c=m.c):l=m:=by cases l;cases m;simp_all
instance:DecidableEq NQ:=fun x y=>decidable_of_iff (x.l=y.l∧x.a=y.a∧x.b=y.b) (by
 cases x;cases y;simp)
theorem abw(ls:List LnQ):ads 6 (ls.map eL):=fun d hd=>by
 obtain⟨n,_,rfl⟩:=bU.1 hd;exact⟨rfl,rfl⟩
theorem ajQ{z:Int}:PF GB prog 88 [eI z] (eQ (z:Rat)):=by
 refine fn func88 J J ntmps88 J J (fun C=>?_)
 exact rz rfl (by rw[apm];rfl)
theorem aiE{l:LnQ}:PF GB prog 107 [eL l] (eL l.rev):=by
 refine fn func107 J J ntmps107 J J (fun C=>?_)
 refine cl rfl ajg rfl<|cl rfl ajg rfl<|cl rfl ajg rfl<|?_
 exact rz J J
class LB (l:LnQ):Prop where bl:BL l 96
instance LB.a (l:LnQ) [h:LB l]:BI l.a 96:=⟨h.bl.a⟩
instance LB.b (l:LnQ) [h:LB l]:BI l.b 96:=⟨h.bl.b⟩
instance LB.c (l:LnQ) [h:LB l]:BI l.c 96:=⟨h.bl.c⟩
class BPt (p:PtQ) (k:outParam Nat):Prop where
 x:BQ p.x k
 y:BQ p.y k
instance BPt.ix (p:PtQ) (k:Nat) [h:BPt p k]:BQ p.x k:=h.x
instance BPt.iy (p:PtQ) (k:Nat) [h:BPt p k]:BQ p.y k:=h.y
instance BPt.dir (l:LnQ) [LB l]:BPt l.dir 97:=⟨inferInstanceAs (BQ (l.b:Rat) 97),inferInstanceAs (BQ (-(l.a:Rat)) 97)⟩
instance BQ.dot (p q:PtQ) (i j:Nat) [BPt p i] [BPt q j]:BQ (p.dot q) (i+j+(i+j)+1):=inferInstanceAs (BQ (p.x*q.x+p.y*q.y) _)
instance BQ.cross (p q:PtQ) (i j:Nat) [BPt p i] [BPt q j]:BQ (p.cross q) (i+j+(i+j)+1):=inferInstanceAs (BQ (p.x*q.y-p.y*q.x) _)
instance BPt.mov (p q:PtQ) (c:Rat) (i j k:Nat) [BPt p i] [BPt q j] [BQ c k]:BPt (adB p q c) (i+(k+j)+1):=⟨inferInstanceAs (BQ (p.x+c*q.x) _),inferInstanceAs (BQ (p.y+c*q.y) _)⟩
instance BQ.value (l:LnQ) (p:PtQ) (i:Nat) [LB l] [BPt p i]:BQ (l.value p) (96+1+i+(96+1+i)+1+(96+1)+1):=inferInstanceAs (BQ ((l.a:Rat)*p.x+(l.b:Rat)*p.y+(l.c:Rat)) _)
theorem aB4{l:LnQ}(h:l.Ne):l.dir.dot l.dir≠0:=by have:=anE h;grind
theorem amc{l:LnQ}:PF GB prog 128 [eL l] (eP l.dir):=by
 refine fn func128 J J ntmps128 J J (fun C=>?_)
 refine cl rfl ajQ rfl<|cl rfl ajQ rfl<|cl rfl anf rfl<|?_
 exact rz J J
theorem ayQ{p q:PtQ}{i j:Nat}[hp:BPt p i][hq:BPt q j](hi:i≤200000:=by decide)(hj:j≤200000:=by decide):PF GB prog 159 [eP p,eP q] (eQ (p.dot q)):=by
 refine fn func159 J J ntmps159 J J (fun C=>?_)
 refine cl rfl (abl (by omega) (by omega)) rfl<|cl rfl (abl (by omega) (by omega)) rfl<|cl rfl (ad6 (by omega) (by omega)) rfl<|?_
 exact rz J J
theorem ak5{p q:PtQ}{i j:Nat}[hp:BPt p i][hq:BPt q j](hi:i≤200000:=by decide)(hj:j≤200000:=by decide):PF GB prog 132 [eP p,eP q] (eQ (p.cross q)):=by
 refine fn func132 J J ntmps132 J J (fun C=>?_)
 refine cl rfl (abl (by omega) (by omega)) rfl<|cl rfl (abl (by omega) (by omega)) rfl<|cl rfl (aj8 (by omega) (by omega)) rfl<|?_
 exact rz J J
theorem amx{p q:PtQ}{c:Rat}{i j k:Nat}[hp:BPt p i][hq:BPt q j][hc:BQ c k](hi:i≤200000:=by decide)(hj:j≤200000:=by decide)(hk:k≤200000:=by decide):PF GB prog 100 [eP p,eQ c,eP q] (eP (adB p q c)):=by
 refine fn func100 J J ntmps100 J J (fun C=>?_)
 refine cl rfl (abl (by omega) (by omega)) rfl<|cl rfl (ad6 (by omega) (by omega)) rfl<|cl rfl (abl (by omega) (by omega)) rfl<|cl rfl (ad6 (by omega) (by omega)) rfl<|?_
 exact rz J J
theorem alk{l:LnQ}{p:PtQ}{i:Nat}[hl:LB l][hp:BPt p i](hi:i≤400000:=by decide):PF GB prog 166 [eL l,eP p] (eQ (l.value p)):=by
 refine fn func166 J J ntmps166 J J (fun C=>?_)
 refine cl rfl (ajQ (z:=l.a)) rfl<|cl rfl (abl (by omega) (by omega)) rfl<|cl rfl (ajQ (z:=l.b)) rfl<|cl rfl (abl (by omega) (by omega)) rfl<|?_
 refine cl rfl (ad6 (by omega) (by omega)) rfl<|cl rfl (ajQ (z:=l.c)) rfl<|cl rfl (ad6 (by omega) (by omega)) rfl<|?_
 exact rz J J
theorem am2{l:LnQ}{p:PtQ}{i:Nat}[hl:LB l][hp:BPt p i](hi:i≤400000:=by decide):PF GB prog 91 [eL l,eP p] (vI (l.value p).num.sign):=by
 refine fn func91 J J ntmps91 J J (fun C=>?_)
 refine cl rfl (alk hi) rfl<|cl rfl q_S rfl<|?_
 exact rz J J
theorem apn{l:LnQ}[hl:LB l](hn:l.Ne):PF GB prog 81 [eL l] (eP l.base):=by
 refine fn func81 J J ntmps81 J J (fun C=>?_)
 refine cl rfl amc rfl<|cl rfl (ajQ (z:=l.c)) rfl<|cl rfl ayQ rfl<|cl rfl (ajN (aB4 hn)) rfl<|cl rfl anf rfl<|cl rfl (ajQ (z:=l.a)) rfl<|?_
 refine cl rfl abl rfl<|cl rfl (ajQ (z:=l.b)) rfl<|cl rfl abl rfl<|?_
 exact rz rfl (by rw[←aqf];rfl)
instance BPt.base (l:LnQ) [LB l]:BPt l.base 900:=by
 rw[←aqf]
 constructor
 ·exact BQ.mono (inferInstance:BQ (-((l.c:Rat)/l.dir.dot l.dir)*(l.a:Rat)) _) (by decide)
 ·exact BQ.mono (inferInstance:BQ (-((l.c:Rat)/l.dir.dot l.dir)*(l.b:Rat)) _) (by decide)
theorem aFm{l:LnQ}{t:Rat}{k:Nat}[hl:LB l][ht:BQ t k](hn:l.Ne)(hk:k≤200000:=by decide):PF GB prog 72 [eL l,eQ t] (eP (l.at t)):=by
 refine fn func72 J J ntmps72 J J (fun C=>?_)
 refine cl rfl (apn hn) rfl<|cl rfl amc rfl<|cl rfl (amx (by decide) (by decide) hk) rfl<|?_
 exact rz rfl (by rw[←aue];rfl)
theorem alu{l:LnQ}{p:PtQ}{k:Nat}[hl:LB l][hp:BPt p k](hn:l.Ne)(hk:k≤200000:=by decide):PF GB prog 260 [eL l,eP p] (eQ (acr l p)):=by
 refine fn func260 J J ntmps260 J J (fun C=>?_)
 refine cl rfl amc rfl<|cl rfl (ayQ (by omega) (by decide)) rfl<|cl rfl (ayQ (by omega) (by decide)) rfl<|cl rfl (ajN (aB4 hn) (by omega) (by decide)) rfl<|?_
 exact rz J J
instance BI.crossI (l m:LnQ) [LB l] [LB m]:BI (crossI l m) 385:=inferInstanceAs (BI (l.a*m.b-m.a*l.b) 385)
instance BI.meetX (l m:LnQ) [LB l] [LB m]:BI (meetX l m) 385:=inferInstanceAs (BI (l.b*m.c-m.b*l.c) 385)
instance BI.meetY (l m:LnQ) [LB l] [LB m]:BI (meetY l m) 385:=inferInstanceAs (BI (m.a*l.c-l.a*m.c) 385)
instance BPt.imeet (l m:LnQ) [LB l] [LB m]:BPt (ach l m) 772:=by
 unfold ach
 split
 ·exact⟨BQ.mono (k:=1) ⟨by decide,by decide⟩ (by decide),BQ.mono (k:=1) ⟨by decide,by decide⟩ (by decide)⟩
 ·exact⟨inferInstanceAs (BQ ((meetX l m:Rat)/(crossI l m:Rat)) 772),inferInstanceAs (BQ ((meetY l m:Rat)/(crossI l m:Rat)) 772)⟩
theorem akv(l m:LnQ):(((l.a:Rat)*(m.b:Rat)-(m.a:Rat)*(l.b:Rat)).num.sign=0)↔crossI l m=0:=by
 rw[abN,←ac1]
 exact cZ
theorem ap1{l m:LnQ}(h:crossI l m≠0):(l.a:Rat)*(m.b:Rat)-(m.a:Rat)*(l.b:Rat)≠0:=by
 rw[←ac1]
 exact fun e=>h (cZ.1 e)
theorem asv{l m:LnQ}[hl:LB l][hm:LB m]:PF GB prog 71 [eL l,eL m] (.tp [eP (ach l m),vB (decide (crossI l m≠0))]):=by
 refine fn func71 J J ntmps71 J J (fun C=>?_)
 refine cl rfl (ajQ (z:=l.a)) rfl<|cl rfl (ajQ (z:=m.b)) rfl<|cl rfl abl rfl<|cl rfl (ajQ (z:=m.a)) rfl<|cl rfl (ajQ (z:=l.b)) rfl<|?_
 refine cl rfl abl rfl<|cl rfl aj8 rfl<|cl rfl q_S rfl<|?_
 refine br J J J (fun hc26=>?_) (fun hc26=>?_)
 ·
  have hcr:=(akv l m).1 hc26
  exact rz rfl (by unfold ach;rw[if_pos hcr,decide_eq_false (fun e=>e hcr)];show DV.tp [.ag [_, .sl [], .sl [],_, .sl [], .sl []],_]= .tp [eP ⟨0,0⟩,_];unfold eP dD;simp only[show(0:Rat).num=0 from rfl,show(0:Rat).den=1 from rfl,jN,adq];rfl)
 ·
  have hcr:crossI l m≠0:=fun e=>hc26 ((akv l m).2 e)
  refine cl rfl (ajQ (z:=l.b)) rfl<|cl rfl (ajQ (z:=m.c)) rfl<|cl rfl abl rfl<|cl rfl (ajQ (z:=m.b)) rfl<|cl rfl (ajQ (z:=l.c)) rfl<|?_
  refine cl rfl abl rfl<|cl rfl aj8 rfl<|cl rfl (ajQ (z:=m.a)) rfl<|cl rfl (ajQ (z:=l.c)) rfl<|cl rfl abl rfl<|cl rfl (ajQ (z:=l.a)) rfl<|?_
  refine cl rfl (ajQ (z:=m.c)) rfl<|cl rfl abl rfl<|cl rfl aj8 rfl<|cl rfl (ajN (ap1 hcr)) rfl<|cl rfl (ajN (ap1 hcr)) rfl<|?_
  exact rz rfl (by unfold ach;rw[if_neg hcr,decide_eq_true hcr,aho,akP,ac1];rfl)
def aeC(l m:LnQ):Int:=if(l.a-m.a).sign≠0 then(l.a-m.a).sign else if(l.b-m.b).sign≠0 then(l.b-m.b).sign else(l.c-m.c).sign
theorem afk(l m:LnQ):aeC l m=0↔l=m:=by
 unfold aeC
 constructor
 ·intro h
  split at h
  ·contradiction
  ·split at h
   ·contradiction
   ·rename_i h1 h2
    have a1:=fK.1 (Decidable.not_not.1 h1)
    have a2:=fK.1 (Decidable.not_not.1 h2)
    have a3:=fK.1 h
    exact LnQ.ext' (by omega) (by omega) (by omega)
 ·rintro rfl
  simp
theorem aiS{l m:LnQ}[hl:LB l][hm:LB m]:PF GB prog 90 [eL l,eL m] (vI (aeC l m)):=by
 refine fn func90 J J ntmps90 J J (fun C=>?_)
 refine cl rfl (ahB (a:=l.a) (b:=m.a)) rfl<|?_
 refine br J J J (fun hc13=>?_) (fun hc13=>?_)
 ·
  exact rz rfl (by show vI _=_;unfold aeC;rw[if_pos hc13])
 ·
  refine cl rfl (ahB (a:=l.b) (b:=m.b)) rfl<|?_
  refine br J J J (fun hc21=>?_) (fun hc21=>?_)
  ·
   exact rz rfl (by show vI _=_;unfold aeC;rw[if_neg hc13,if_pos hc21])
  ·
   refine cl rfl (ahB (a:=l.c) (b:=m.c)) rfl<|?_
   exact rz rfl (by show vI _=_;unfold aeC;rw[if_neg hc13,if_neg hc21])
theorem axS{v:PtQ}:PF GB prog 193 [eP v] (vI v.half):=by
 refine fn func193 J J ntmps193 J J (fun C=>?_)
 refine cl rfl (q_S (q:=v.x)) rfl<|cl rfl (q_S (q:=v.y)) rfl<|?_
 refine cs 13 J J J (fun hg13=>?_) (fun hg13=>?_)
 ·
  refine br J J J (fun hc16=>?_) (fun hc16=>?_)
  ·
   exact rz rfl (by show vI _=vI _;unfold PtQ.half;generalize v.x.num.sign=sx at*;generalize v.y.num.sign=sy at*;congr 1;(repeat' split)<;>omega)
  ·
   refine cs 19 J J J (fun hg19=>?_) (fun hg19=>?_)
   ·
    exact rz rfl (by show vI _=vI _;unfold PtQ.half;generalize v.x.num.sign=sx at*;generalize v.y.num.sign=sy at*;congr 1;(repeat' split)<;>omega)
   ·
    refine cs 22 J J J (fun hg22=>?_) (fun hg22=>?_)
    ·
     refine br J J J (fun hc26=>?_) (fun hc26=>?_)
     ·
      exact rz rfl (by show vI _=vI _;unfold PtQ.half;generalize v.x.num.sign=sx at*;generalize v.y.num.sign=sy at*;congr 1;(repeat' split)<;>omega)
     ·
      exact rz rfl (by show vI _=vI _;unfold PtQ.half;generalize v.x.num.sign=sx at*;generalize v.y.num.sign=sy at*;congr 1;(repeat' split)<;>omega)
    ·
     exact rz rfl (by show vI _=vI _;unfold PtQ.half;generalize v.x.num.sign=sx at*;generalize v.y.num.sign=sy at*;congr 1;(repeat' split)<;>omega)
 ·
  refine cs 19 J J J (fun hg19=>?_) (fun hg19=>?_)
  ·
   exact rz rfl (by show vI _=vI _;unfold PtQ.half;generalize v.x.num.sign=sx at*;generalize v.y.num.sign=sy at*;congr 1;(repeat' split)<;>omega)
  ·
   refine cs 22 J J J (fun hg22=>?_) (fun hg22=>?_)
   ·
    refine br J J J (fun hc26=>?_) (fun hc26=>?_)
    ·
     exact rz rfl (by show vI _=vI _;unfold PtQ.half;generalize v.x.num.sign=sx at*;generalize v.y.num.sign=sy at*;congr 1;(repeat' split)<;>omega)
    ·
     exact rz rfl (by show vI _=vI _;unfold PtQ.half;generalize v.x.num.sign=sx at*;generalize v.y.num.sign=sy at*;congr 1;(repeat' split)<;>omega)
   ·
    exact rz rfl (by show vI _=vI _;unfold PtQ.half;generalize v.x.num.sign=sx at*;generalize v.y.num.sign=sy at*;congr 1;(repeat' split)<;>omega)
theorem aBS(z:Int): -1≤z.sign∧z.sign≤1:=by
 rcases kU z 0 with h|h|h
 ·rw[dS h];omega
 ·rw[h];decide
 ·rw[eJ h];omega
theorem aAy{u v:PtQ}{i j:Nat}[hu:BPt u i][hv:BPt v j](hi:i≤200000:=by decide)(hj:j≤200000:=by decide):PF GB prog 130 [eP u,eP v] (vI (aaD u v)):=by
 refine fn func130 J J ntmps130 J J (fun C=>?_)
 refine cl rfl (axS (v:=u)) rfl<|cl rfl (axS (v:=v)) rfl<|?_
 refine br J J J (fun hc13=>?_) (fun hc13=>?_)
 ·
  refine br J J J (fun hc16=>?_) (fun hc16=>?_)
  ·
   exact rz rfl (by show vI _=vI _;unfold aaD;rw[if_pos hc16])
  ·
   exact rz rfl (by show vI _=vI _;unfold aaD;rw[if_neg hc16,if_pos (by omega)])
 ·
  refine cl rfl (ak5 hi hj) rfl<|cl (hv:=by simp only[aag];exact(by have:=aBS (u.cross v).num;omega)) rfl q_S rfl<|?_
  exact rz rfl (by show vI _=vI _;unfold aaD;rw[if_neg (by omega),if_neg (by omega)])
instance BQ.i1:BQ (((1:Int):Rat)) 2:=⟨by decide,by decide⟩
def eV(v:IvQ):DV:= .ag [.v (.bool (decide (v.lo.num<0))),dN v.lo.num.natAbs,dD v.lo.den, .v (.bool (decide (v.hi.num<0))),dN v.hi.num.natAbs,dD v.hi.den, .v (.bool v.nl), .v (.bool v.nh)]
theorem aDf:eV IvQ.all= .ag [.v (.bool false), .sl [], .sl [], .v (.bool false), .sl [], .sl [], .v (.bool true), .v (.bool true)]:=by
 unfold eV IvQ.all dD
 simp only[show(0:Rat).num=0 from rfl,show(0:Rat).den=1 from rfl,jN,adq];rfl
theorem aol:eQ 0= .ag [.v (.bool false), .sl [], .sl []]:=by
 unfold eQ dD
 simp only[show(0:Rat).num=0 from rfl,show(0:Rat).den=1 from rfl,jN,adq];rfl
def ab0(v:IvQ):Rat:=if v.nl=true∧v.nh=true then 0 else if v.nl=true then v.hi-1 else if v.nh=true then v.lo+1 else(v.lo+v.hi)/2
theorem axx:PF GB prog 259 [] (eV IvQ.all):=by
 refine fn func259 J J ntmps259 J J (fun C=>?_)
 exact rz rfl (by rw[aDf];rfl)
theorem awJ{v:IvQ}{i:Nat}[hl:BQ v.lo i][hh:BQ v.hi i](hi:i≤100000:=by decide):PF GB prog 225 [eV v] (eQ (ab0 v)):=by
 refine fn func225 J J ntmps225 J J (fun C=>?_)
 refine csb 6 J J J (fun hg6=>?_) (fun hg6=>?_)
 ·
  refine bb J J J (fun hc3=>?_) (fun hc3=>?_)
  ·
   exact rz rfl (by unfold ab0;rw[if_pos ⟨hg6,hc3⟩,aol];rfl)
  ·
   refine bb J J J (fun hc11=>?_) (fun hc11=>?_)
   ·
    refine cl rfl (alz (n:=1) (by decide) (by decide)) rfl<|cl rfl (aj8 (a:=v.hi) (b:=((1:Int):Rat)) (by omega) (by decide)) rfl<|?_
    exact rz rfl (by unfold ab0;rw[if_neg (by simp[hc3]),if_pos hc11];rfl)
   ·
    refine bb J J J (fun hc18=>?_) (fun hc18=>?_)
    ·
     refine cl rfl (alz (n:=1) (by decide) (by decide)) rfl<|cl rfl (ad6 (a:=v.lo) (b:=((1:Int):Rat)) (by omega) (by decide)) rfl<|?_
     exact rz rfl (by simp[hg6] at hc11)
    ·
     refine cl rfl (awn (a:=v.lo) (b:=v.hi) (by omega) (by omega)) rfl<|?_
     exact rz rfl (by simp[hg6] at hc11)
 ·
  refine bb J J J (fun hc11=>?_) (fun hc11=>?_)
  ·
   refine cl rfl (alz (n:=1) (by decide) (by decide)) rfl<|cl rfl (aj8 (a:=v.hi) (b:=((1:Int):Rat)) (by omega) (by decide)) rfl<|?_
   exact rz rfl (by simp[hg6] at hc11)
  ·
   refine bb J J J (fun hc18=>?_) (fun hc18=>?_)
   ·
    refine cl rfl (alz (n:=1) (by decide) (by decide)) rfl<|cl rfl (ad6 (a:=v.lo) (b:=((1:Int):Rat)) (by omega) (by decide)) rfl<|?_
    exact rz rfl (by unfold ab0;rw[if_neg (by simp[hg6]),if_neg (by simp[hg6]),if_pos hc18];rfl)
   ·
    refine cl rfl (awn (a:=v.lo) (b:=v.hi) (by omega) (by omega)) rfl<|?_
    exact rz rfl (by unfold ab0;rw[if_neg (by simp[hg6]),if_neg (by simp[hg6]),if_neg (by simp[hc18])];rfl)
theorem BQ.of_fracI{q:Rat}{n D:Int}{i:Nat}(hd:0<D.natAbs)(h:q*((D.natAbs:Nat):Rat)=(n:Rat))(hn:BI n i)(hD:BI D i):BQ q i:=BQ.of_frac hd h hn.h hD.h
theorem apM{m:Int}{i j:Nat}(h:BI m i)(hij:i≤j):BI m j:=⟨cM h.h (bW (by decide) hij)⟩
theorem ail{l m:LnQ}[LB l][LB m](hn:l.Ne)(h:crossI l m≠0):BQ (acr l (ach l m)) 1200:=by
 have e:=aq7 hn h
 have hA:BI (crossI l m*(l.a*l.a+l.b*l.b)) _:=inferInstance
 have hB:BI (meetX l m*l.b-meetY l m*l.a) _:=inferInstance
 have hne:crossI l m*(l.a*l.a+l.b*l.b)≠0:=by
  intro q
  rcases rT.1 q with q|q
  ·exact h q
  ·have h1:=anE hn
   simp only[LnQ.dir,PtQ.dot] at h1
   have h2:((l.a*l.a+l.b*l.b:Int):Rat)=((0:Int):Rat):=by rw[q]
   rw[pS,eK,eK] at h2
   have h3:((0:Int):Rat)=0:=rfl
   rw[h3] at h2
   grind
 have hA':=apM (j:=1200) hA (by decide)
 have hB':=apM (j:=1200) hB (by decide)
 generalize crossI l m*(l.a*l.a+l.b*l.b)=D at*
 generalize meetX l m*l.b-meetY l m*l.a=M at*
 by_cases hD:0<D
 ·refine BQ.of_fracI (n:=M) (D:=D) (by omega) ?_ hB' hA'
  rw[←e]
  congr 1
  have:((D.natAbs:Nat):Int)=D:=by omega
  rw[←this];rfl
 ·refine BQ.of_fracI (n:= -M) (D:=D) (by omega) ?_ (BI.neg M 1200 (h:=hB')) hA'
  rw[oQ,←e]
  have:((D.natAbs:Nat):Rat)= -(D:Rat):=by
   have h1:((D.natAbs:Nat):Int)= -D:=by omega
   rw[←oQ,←h1];rfl
  rw[this];grind
theorem axM(k:Rat):k.num.sign≤0↔ ¬0<k:=by rw[←acC];omega
theorem awI{w:IvQ}(h1: ¬w.nl=true)(h2: ¬w.nh=true)(h3:0≤aa2 w.lo w.hi):w.empty=true:=by
 unfold IvQ.empty
 simp[h1,h2,h3]
theorem amu{w:IvQ}(h:w.nl=true):w.empty=false:=by unfold IvQ.empty;simp[h]
theorem amp{w:IvQ}(h:w.nh=true):w.empty=false:=by unfold IvQ.empty;simp[h]
theorem anJ{w:IvQ}(h: ¬0≤aa2 w.lo w.hi):w.empty=false:=by unfold IvQ.empty;simp[h]
def acK(l:LnQ):List LnQ→IvQ→IvQ×Bool
 |[],v=>(v,true)
 |m::t,v=>if m=l then acK l t v else if l.cutB v m=true then acK l t (l.cutV v m) else(l.cutV v m,false)
theorem aex{l:LnQ}: ∀{c:List LnQ} {v:IvQ},(acK l c v).2=(adb l c v).isSome
 |[],v=>rfl
 |m::t,v=>by
  rw[acK,ahv]
  split
  ·exact aex
  ·split
   ·exact aex
   ·rfl
structure Stp (l:LnQ) (c:List LnQ) (k:Nat) (v:IvQ):Prop where
 le:k≤c.length
 p:adb l (c.drop k) v=adb l c IvQ.all
 e:acK l (c.drop k) v=acK l c IvQ.all
 z:IvZ v
 lo:BQ v.lo 1200
 hi:BQ v.hi 1200
theorem Stp.skip{l:LnQ}{c:List LnQ}{k:Nat}{v:IvQ}(h:Stp l c k v)(hk:k<c.length)(e:c[k]=l):Stp l c (k+1) v:=
 ⟨hk,by have:=h.p;rw[aS hk,ahv,if_pos e] at this;exact this,by have:=h.e;rw[aS hk,acK,if_pos e] at this;exact this,h.z,h.lo,h.hi⟩
theorem Stp.cut{l:LnQ}{c:List LnQ}{k:Nat}{v w:IvQ}(h:Stp l c k v)(hk:k<c.length)(e:c[k]≠l)(hb:l.cutB v c[k]=true)(hw:l.cutV v c[k]=w)(z:IvZ w)(lo:BQ w.lo 1200)(hi:BQ w.hi 1200):Stp l c (k+1) w:=
 ⟨hk,by have:=h.p;rw[aS hk,ahv,if_neg e,if_pos hb,hw] at this;exact this,by have:=h.e;rw[aS hk,acK,if_neg e,if_pos hb,hw] at this;exact this,z,lo,hi⟩
theorem Stp.no{l:LnQ}{c:List LnQ}{k:Nat}{v w:IvQ}(h:Stp l c k v)(hk:k<c.length)(e:c[k]≠l)(hb:l.cutB v c[k]=false)(hw:l.cutV v c[k]=w):acK l c IvQ.all=(w,false):=by
 rw[←h.e,aS hk,acK,if_neg e,if_neg (by rw[hb];decide),hw]
theorem Stp.yes{l:LnQ}{c:List LnQ}{k:Nat}{v:IvQ}(h:Stp l c k v)(hk:c.length≤k):acK l c IvQ.all=(v,true):=by
 rw[←h.e,jK hk];rfl
theorem Stp.all{l:LnQ}{c:List LnQ}:Stp l c 0 IvQ.all:=⟨bZ _,by rw[iX],by rw[iX],IvZ.all,BQ.mono (k:=1) ⟨by decide,by decide⟩ (by decide),BQ.mono (k:=1) ⟨by decide,by decide⟩ (by decide)⟩
theorem auP{v:IvQ}{t:Rat}(h:v.nl=true∨0<aa2 t v.lo):(⟨t,v.hi,false,v.nh⟩:IvQ)=ah8 v t:=by unfold ah8;rw[if_pos h]
theorem aAk{v:IvQ}{t:Rat}(h: ¬v.nl=true)(h2: ¬0<aa2 t v.lo):v=ah8 v t:=by unfold ah8;rw[if_neg (fun e=>e.elim h h2)]
theorem att{v:IvQ}{t:Rat}(h:v.nh=true∨aa2 t v.hi<0):(⟨v.lo,t,v.nl,false⟩:IvQ)=ah6 v t:=by unfold ah6;rw[if_pos h]
theorem ayL{v:IvQ}{t:Rat}(h: ¬v.nh=true)(h2: ¬aa2 t v.hi<0):v=ah6 v t:=by unfold ah6;rw[if_neg (fun e=>e.elim h h2)]
def aq0(l m:LnQ)(v:IvQ):IvQ:=if 0<(m.dir.cross l.dir).num.sign then ah8 v (acr l (ach l m)) else ah6 v (acr l (ach l m))
theorem aiA{l m:LnQ}{v:IvQ}[LB l][LB m](hn:l.Ne)(hz:IvZ v)(hlo:BQ v.lo 1200)(hhi:BQ v.hi 1200)(h0:crossI l m≠0):l.cutV v m=aq0 l m v∧l.cutB v m=!(aq0 l m v).empty∧IvZ (aq0 l m v)∧BQ (aq0 l m v).lo 1200∧BQ (aq0 l m v).hi 1200:=by
 have hb:=ail (l:=l) (m:=m) hn h0
 unfold aq0
 split
 ·rename_i h
  obtain⟨_,h1,h2⟩:=azw hn hz ((acC _).1 h)
  refine⟨h1,h2,hz.lo' _,?_⟩
  unfold ah8;split
  ·exact⟨hb,hhi⟩
  ·exact⟨hlo,hhi⟩
 ·rename_i h
  obtain⟨h1,h2⟩:=ayW hn hz h0 (fun e=>h ((acC _).2 e))
  refine⟨h1,h2,hz.hi' _,?_⟩
  unfold ah6;split
  ·exact⟨hlo,hb⟩
  ·exact⟨hlo,hhi⟩
theorem ais{l:LnQ}[LB l](hn:l.Ne): ∀{c:List LnQ} {v:IvQ},(∀m∈c,LB m)→IvZ v→BQ v.lo 1200→BQ v.hi 1200→BQ (acK l c v).1.lo 1200∧BQ (acK l c v).1.hi 1200
 |[],v,_,_,h1,h2=>⟨h1,h2⟩
 |m::t,v,hc,hz,h1,h2=>by
  haveI:=hc m aQ
  have hw:IvZ (l.cutV v m)∧BQ (l.cutV v m).lo 1200∧BQ (l.cutV v m).hi 1200:=by
   by_cases h0:crossI l m=0
   ·rw[(agT (v:=v) h0).1];exact⟨hz,h1,h2⟩
   ·obtain⟨u1,_,u3,u4,u5⟩:=aiA (v:=v) hn hz h1 h2 h0
    rw[u1];exact⟨u3,u4,u5⟩
  have hc':=fun m hm=>hc m (aX _ hm)
  rw[acK]
  split
  ·exact ais hn hc' hz h1 h2
  ·split
   ·exact ais hn hc' hw.1 hw.2.1 hw.2.2
   ·exact hw.2
theorem ays{c:List LnQ}{i:Nat}(hc: ∀m∈c,LB m)(hok: ∀m∈c,m.ok)(hn:c.length≤1000)(hi:i<c.length):PF GB prog 218 [.sl (c.map eL),vI (i:Nat)] (.tp [eV (acK (c[i]'hi) c IvQ.all).1,vB (acK (c[i]'hi) c IvQ.all).2]):=by
 have hcl:=aeO c
 obtain⟨l,hl⟩: ∃l,l=c[i]:=⟨_,rfl⟩
 rw[←hl]
 haveI hlb:LB l:=hl▸hc _ (cK hi)
 have hlo:l.ok:=hl▸hok _ (cK hi)
 refine fn func218 J J ntmps218 J J (fun C=>?_)
 refine ix (fu:=⟨1⟩) _ rfl (ae4 hi) rfl<|?_
 refine eqF 16 (.d (eL l)) rfl (by rw[hl];rfl) ?_
 refine gx rfl<|cl (fu:=⟨9⟩) rfl axx rfl<|?_
 refine eqF 19 (.d (vI (c.length:Nat))) rfl (by rw[hcl];rfl) ?_
 refine gx rfl<|?_
 refine lp (X:=IvQ×Nat) (fun⟨v,k⟩=>[(20, .d (vI (k:Nat))),(19, .d (vI (c.length:Nat))),(18, .d (.sl (c.map eL))),(1, .d (vI (i:Nat))),(6, .ov 6 0),(7, .ov 7 0),(4, .ov 4 0)]) (fun⟨v,k⟩=>[(7,some (.o 292 [.d ((.v (.bool (decide (v.lo.num<0))))), .d (dN v.lo.num.natAbs), .d (dD v.lo.den), .d ((.v (.bool (decide (v.hi.num<0))))), .d (dN v.hi.num.natAbs), .d (dD v.hi.den), .d ((.v (.bool v.nl))), .d ((.v (.bool v.nh)))] true)),(6,some (.o 88 [.d ((.v (.bool (decide (l.a<0))))), .d (dN l.a.natAbs), .d ((.v (.bool (decide (l.b<0))))), .d (dN l.b.natAbs), .d ((.v (.bool (decide (l.c<0))))), .d (dN l.c.natAbs)] true)),(4,some (.o 292 [.ff, .nl, .nl, .ff, .nl, .nl, .ff, .ff] true))]) (fun⟨v,k⟩=>Stp l c k v) (fun⟨v,k⟩=>c.length-k) ⟨IvQ.all,0⟩ rfl Stp.all (fun _=>rfl) (fun⟨v,k⟩ hk=>?_)
 try dsimp only at hk⊢
 have hS:=hk
 refine br J J J (fun hc21=>?_) (fun hc21=>?_)
 ·
  have hk:k<c.length:=by omega
  obtain⟨m,hm⟩: ∃m,m=c[k]:=⟨_,rfl⟩
  haveI hmb:LB m:=hm▸hc _ (cK hk)
  have hmo:m.ok:=hm▸hok _ (cK hk)
  refine ix (fu:=⟨1⟩) _ rfl (ae4 hk) rfl<|?_
  refine eqF 24 (.d (eL m)) rfl (by rw[hm];rfl) ?_
  refine gx rfl<|?_
  refine cs 28 J J J (fun hg28=>?_) (fun hg28=>?_)
  ·
   have hinv:Stp l c (k+1) v:=hS.skip hk (by rw[hl];congr 1;omega)
   exact at_ ⟨v,k+1⟩ (by dsimp only;exact⟨hinv,(by omega)⟩)
  ·
   refine cl rfl (aiS (l:=l) (m:=m)) rfl<|?_
   refine br J J J (fun hc33=>?_) (fun hc33=>?_)
   ·
    have hinv:Stp l c (k+1) v:=hS.skip hk (by rw[←hm,(afk l m).1 hc33])
    exact at_ ⟨v,k+1⟩ (by dsimp only;exact⟨hinv,(by omega)⟩)
   ·
    have hne:c[k]≠l:=fun e=>hc33 ((afk l m).2 (by rw[hm,e]))
    refine cl (fu:=⟨13⟩) rfl (asv (l:=l) (m:=m)) rfl<|?_
    refine eqF 41 (.d (.v (.bool (decide (crossI l m=0))))) rfl (by simp) ?_
    refine gx rfl<|?_
    refine bd J J J (fun hc41=>?_) (fun hc41=>?_)
    ·
     refine cl rfl (apn hlo.ne) rfl<|cl rfl (am2 (l:=m) (p:=l.base)) rfl<|?_
     refine br J J J (fun hc46=>?_) (fun hc46=>?_)
     ·
      have hno:=hS.no (w:=v) hk hne (by have:=(agT (v:=v) hc41).2;rw[←hm];cases hb:l.cutB v m with|false=>rfl|true=>exact absurd (this.1 hb) ((axM _).1 hc46)) (by rw[←hm];exact(agT (v:=v) hc41).1)
      exact rz rfl (by rw[hno];rfl)
     ·
      have hinv:Stp l c (k+1) v:=by have:=agT (v:=v) hc41;exact hS.cut hk hne (by rw[←hm];exact this.2.2 (by have:=mt (axM (m.value l.base)).2 hc46;exact Decidable.not_not.1 this)) (by rw[←hm];exact this.1) hS.z hS.lo hS.hi
      exact at_ ⟨v,k+1⟩ (by dsimp only;exact⟨hinv,(by omega)⟩)
    ·
     obtain⟨u1,u2,u3,u4,u5⟩:=aiA (v:=v) hlo.ne hS.z hS.lo hS.hi hc41
     haveI htb:=ail hlo.ne hc41
     haveI hvl:=hS.lo
     haveI hvh:=hS.hi
     refine cl (fu:=⟨0⟩) rfl (alu (l:=l) (p:=ach l m) hlo.ne) rfl<|?_
     obtain⟨t,ht⟩: ∃t,t=acr l (ach l m):=⟨_,rfl⟩
     refine eqF 50 (.d (eQ t)) rfl (by rw[ht]) ?_
     rw[←ht] at htb
     refine gx (fu:=⟨5⟩) rfl<|?_
     refine mg (X:=IvQ) (fun w=>[(20, .d (vI (k:Nat))),(19, .d (vI (c.length:Nat))),(18, .d (.sl (c.map eL))),(1, .d (vI (i:Nat))),(6, .ov 6 0),(7, .ov 7 0),(4, .ov 4 0)]) (fun w=>[(7,some (.o 292 [.d ((.v (.bool (decide (w.lo.num<0))))), .d (dN w.lo.num.natAbs), .d (dD w.lo.den), .d ((.v (.bool (decide (w.hi.num<0))))), .d (dN w.hi.num.natAbs), .d (dD w.hi.den), .d ((.v (.bool w.nl))), .d ((.v (.bool w.nh)))] true)),(6,some (.o 88 [.d ((.v (.bool (decide (l.a<0))))), .d (dN l.a.natAbs), .d ((.v (.bool (decide (l.b<0))))), .d (dN l.b.natAbs), .d ((.v (.bool (decide (l.c<0))))), .d (dN l.c.natAbs)] true)),(4,some (.o 292 [.ff, .nl, .nl, .ff, .nl, .nl, .ff, .ff] true))]) (fun w=>w=aq0 l m v) [20,19,18,1,6,7,4] [7,6,4] rfl ?_ (fun _=>rfl) (fun w hw=>?_)
     ·
      refine gx rfl<|cl rfl (amc (l:=m)) rfl<|cl rfl (amc (l:=l)) rfl<|cl rfl (ak5 (p:=m.dir) (q:=l.dir)) rfl<|cl rfl (q_S (q:=m.dir.cross l.dir)) rfl<|?_
      refine br J J J (fun hc57=>?_) (fun hc57=>?_)
      ·
       refine csb 60 J J J (fun hg60=>?_) (fun hg60=>?_)
       ·
        refine dpE 7 J J J ?_
        exact at_ ⟨t,v.hi,false,v.nh⟩ (by unfold aq0;rw[if_pos hc57,←ht];exact auP (.inl hg60))
       ·
        refine cl rfl (q_C (a:=t) (b:=v.lo)) rfl<|?_
        refine br J J J (fun hc66=>?_) (fun hc66=>?_)
        ·
         refine dpE 7 J J J ?_
         exact at_ ⟨t,v.hi,false,v.nh⟩ (by unfold aq0;rw[if_pos hc57,←ht];exact auP (.inr hc66))
        ·
         exact at_ v (by unfold aq0;rw[if_pos hc57,←ht];exact aAk (by simp[hg60]) hc66)
      ·
       refine csb 72 J J J (fun hg72=>?_) (fun hg72=>?_)
       ·
        refine dpE 7 J J J ?_
        exact at_ ⟨v.lo,t,v.nl,false⟩ (by unfold aq0;rw[if_neg hc57,←ht];exact att (.inl hg72))
       ·
        refine cl rfl (q_C (a:=t) (b:=v.hi)) rfl<|?_
        refine br J J J (fun hc78=>?_) (fun hc78=>?_)
        ·
         refine dpE 7 J J J ?_
         exact at_ ⟨v.lo,t,v.nl,false⟩ (by unfold aq0;rw[if_neg hc57,←ht];exact att (.inr hc78))
        ·
         exact at_ v (by unfold aq0;rw[if_neg hc57,←ht];exact ayL (by simp[hg72]) hc78)
     ·
      rw[←hw] at u1 u2 u3 u4 u5
      haveI:=u4
      haveI:=u5
      refine csb 85 J J J (fun hg85=>?_) (fun hg85=>?_)
      ·
       refine csb 90 J J J (fun hg90=>?_) (fun hg90=>?_)
       ·
        refine cl rfl (q_C (a:=w.lo) (b:=w.hi)) rfl<|?_
        refine br J J J (fun hc97=>?_) (fun hc97=>?_)
        ·
         have hno:=hS.no (w:=w) hk hne (by rw[←hm,u2,awI (by simpa using hg85) (by simpa using hg90) hc97];rfl) (by rw[←hm,u1])
         exact rz rfl (by rw[hno];rfl)
        ·
         have hinv:Stp l c (k+1) w:=hS.cut hk hne (by rw[←hm,u2,anJ hc97];rfl) (by rw[←hm,u1]) u3 u4 u5
         exact at_ ⟨w,k+1⟩ (by dsimp only;exact⟨hinv,(by omega)⟩)
       ·
        have hinv:Stp l c (k+1) w:=hS.cut hk hne (by rw[←hm,u2,amp (by simpa using hg90)];rfl) (by rw[←hm,u1]) u3 u4 u5
        exact at_ ⟨w,k+1⟩ (by dsimp only;exact⟨hinv,(by omega)⟩)
      ·
       have hinv:Stp l c (k+1) w:=hS.cut hk hne (by rw[←hm,u2,amu (by simpa using hg85)];rfl) (by rw[←hm,u1]) u3 u4 u5
       exact at_ ⟨w,k+1⟩ (by dsimp only;exact⟨hinv,(by omega)⟩)
 ·
  exact rz rfl (by rw[hS.yes (by omega)];rfl)
def eLn(l:LnQ):DV:= .ag [vI (fn_ (l.a:Rat)),vI (fd_ (l.a:Rat)),fp_ (l.a:Rat),vI (fn_ (l.b:Rat)),vI (fd_ (l.b:Rat)),fp_ (l.b:Rat),vI (fn_ (l.c:Rat)),vI (fd_ (l.c:Rat)),fp_ (l.c:Rat)]
def eZ(p:PtQ):DV:= .ag [vI (fn_ p.x),vI (fd_ p.x),fp_ p.x,vI (fn_ p.y),vI (fd_ p.y),fp_ p.y]
def eW(v:IvQ):DV:= .ag [vI (fn_ v.lo),vI (fd_ v.lo),fp_ v.lo,vI (fn_ v.hi),vI (fd_ v.hi),fp_ v.hi, .v (.bool v.nl), .v (.bool v.nh)]
theorem avm{G:Gh}{t:List DV}{vs:List Value}(h:IsLs G (vI 0::vI 0:: .v (.pointer none)::t) vs):IsLs G (vI (fn_ 0)::vI (fd_ 0)::fp_ 0::t) vs:=by
 obtain⟨y1,l1,rfl,k1,g1⟩:=aac.1 h
 obtain⟨y2,l2,rfl,k2,g2⟩:=aac.1 g1
 obtain⟨y3,l3,rfl,k3,g3⟩:=aac.1 g2
 have e:decide (Big 0)=false:=decide_eq_false fun h=>auG h rfl
 exact .cons k1 (.cons k2 (.cons (an7.2 (.inl ⟨e,aaZ.1 k3⟩)) g3))
theorem at0{G:Gh}(a:List DV){t:List DV}{vs:List Value}(h:IsLs G (a++vI 0::vI 0:: .v (.pointer none)::t) vs):IsLs G (a++vI (fn_ 0)::vI (fd_ 0)::fp_ 0::t) vs:=by
 obtain⟨x,y,rfl,h1,h2⟩:=h.unapp
 exact h1.app (avm h2)
theorem aBO(G:Gh)(y:Value)(k:Is G (.ag [vI 0,vI 0, .v (.pointer none),vI 0,vI 0, .v (.pointer none), .v (.bool true), .v (.bool true)]) y):Is G (eW IvQ.all) y:=by
 obtain⟨l,rfl,g⟩:=abU.1 k
 exact abU.2 ⟨l,rfl,avm (at0 [vI 0,vI 0, .v (.pointer none)] g)⟩
def orI:List Int→Int
 |[]=>0
 |a::t=>if a≠0 then a else orI t
theorem BPt.nor(l:LnQ)[LB l]:BPt l.nor 97:=⟨inferInstanceAs (BQ (l.a:Rat) 97),inferInstanceAs (BQ (l.b:Rat) 97)⟩
attribute [instance] BPt.nor
instance BPt.scale (p:PtQ) (c:Rat) (i k:Nat) [BPt p i] [BQ c k]:BPt (p.scale c) (i+k):=⟨inferInstanceAs (BQ (p.x*c) _),inferInstanceAs (BQ (p.y*c) _)⟩
instance BPt.add (p q:PtQ) (i j:Nat) [BPt p i] [BPt q j]:BPt (p.add q) (i+j+1):=⟨inferInstanceAs (BQ (p.x+q.x) _),inferInstanceAs (BQ (p.y+q.y) _)⟩
instance LB.revA (l:LnQ) [h:LB l]:LB l.rev:=⟨⟨by rw[show l.rev.a= -l.a from rfl,iL];exact h.bl.a,by rw[show l.rev.b= -l.b from rfl,iL];exact h.bl.b,by rw[show l.rev.c= -l.c from rfl,iL];exact h.bl.c⟩⟩
theorem aE7:PF GB prog 303 [] (eW IvQ.all):=by
 refine fn func303 J J ntmps303 J J (fun C=>?_)
 exact rzI rfl aBO
theorem ao3{l:LnQ}:PF GB prog 112 [eLn l] (eZ l.nor):=by
 refine fn func112 J J ntmps112 J J (fun C=>?_)
 exact rz J J
theorem amO{l:LnQ}[hl:LB l]:PF GB prog 179 [eLn l] (eZ l.dir):=by
 refine fn func179 J J ntmps179 J J (fun C=>?_)
 refine cl rfl (afg (q:=(l.a:Rat))) rfl<|?_
 exact rz J J
theorem apX{p q:PtQ}{i j:Nat}[hp:BPt p i][hq:BPt q j](hi:i≤40000000:=by decide)(hj:j≤40000000:=by decide):PF GB prog 114 [eZ p,eZ q] (eF (p.dot q)):=by
 refine fn func114 J J ntmps114 J J (fun C=>?_)
 refine cl rfl (ah1 (p:=p.x) (q:=q.x) (by omega) (by omega)) rfl<|cl rfl (ah1 (p:=p.y) (q:=q.y) (by omega) (by omega)) rfl<|cl rfl (agQ (p:=p.x*q.x) (q:=p.y*q.y) (by omega) (by omega)) rfl<|?_
 exact rz J J
theorem aoZ{p q:PtQ}{i j:Nat}[hp:BPt p i][hq:BPt q j](hi:i≤40000000:=by decide)(hj:j≤40000000:=by decide):PF GB prog 206 [eZ p,eZ q] (eF (p.cross q)):=by
 refine fn func206 J J ntmps206 J J (fun C=>?_)
 refine cl rfl (ah1 (p:=p.x) (q:=q.y) (by omega) (by omega)) rfl<|cl rfl (ah1 (p:=p.y) (q:=q.x) (by omega) (by omega)) rfl<|cl rfl (akZ (p:=p.x*q.y) (q:=p.y*q.x) (by omega) (by omega)) rfl<|?_
 exact rz J J
theorem ak1{p:PtQ}{c:Rat}{i j:Nat}[hp:BPt p i][hc:BQ c j](hi:i≤40000000:=by decide)(hj:j≤40000000:=by decide):PF GB prog 121 [eZ p,eF c] (eZ (p.scale c)):=by
 refine fn func121 J J ntmps121 J J (fun C=>?_)
 refine cl rfl (ah1 (p:=p.x) (q:=c) (by omega) (by omega)) rfl<|cl rfl (ah1 (p:=p.y) (q:=c) (by omega) (by omega)) rfl<|?_
 exact rz J J
theorem ayz{p q:PtQ}{i j:Nat}[hp:BPt p i][hq:BPt q j](hi:i≤40000000:=by decide)(hj:j≤40000000:=by decide):PF GB prog 120 [eZ p,eZ q] (eZ (p.add q)):=by
 refine fn func120 J J ntmps120 J J (fun C=>?_)
 refine cl rfl (agQ (by omega) (by omega)) rfl<|cl rfl (agQ (by omega) (by omega)) rfl<|?_
 exact rz J J
theorem arO{l:LnQ}[hl:LB l]:PF GB prog 178 [eLn l] (eZ l.base):=by
 refine fn func178 J J ntmps178 J J (fun C=>?_)
 refine cl rfl ao3 rfl<|cl rfl (afg (q:=(l.c:Rat))) rfl<|cl rfl (apX (p:=l.nor) (q:=l.nor)) rfl<|cl rfl (auX (p:= -(l.c:Rat)) (q:=l.nor.dot l.nor)) rfl<|?_
 refine cl rfl (ak1 (p:=l.nor)) rfl<|?_
 exact rz J J
theorem apK{l:LnQ}{p:PtQ}{i:Nat}[hl:LB l][hp:BPt p i](hi:i≤10000000:=by decide):PF GB prog 117 [eLn l,eZ p] (eF (l.value p)):=by
 refine fn func117 J J ntmps117 J J (fun C=>?_)
 refine cl rfl (ao3 (l:=l)) rfl<|cl rfl (apX (p:=l.nor) (q:=p) (by omega) (by omega)) rfl<|cl rfl (agQ (p:=l.nor.dot p) (q:=(l.c:Rat)) (by omega) (by omega)) rfl<|?_
 exact rz J J
theorem ajq{l:LnQ}{p:PtQ}{i:Nat}[hl:LB l][hp:BPt p i](hi:i≤10000000:=by decide):PF GB prog 212 [eLn l,eZ p] (vI (l.value p).num.sign):=by
 refine fn func212 J J ntmps212 J J (fun C=>?_)
 refine cl rfl (apK (l:=l) (p:=p) hi) rfl<|cl rfl (acZ (q:=l.value p) (by omega)) rfl<|?_
 exact rz J J
theorem aE4{l:LnQ}{t:Rat}{i:Nat}[hl:LB l][ht:BQ t i](hi:i≤10000000:=by decide):PF GB prog 110 [eLn l,eF t] (eZ (l.at t)):=by
 refine fn func110 J J ntmps110 J J (fun C=>?_)
 refine cl rfl (arO (l:=l)) rfl<|cl rfl (amO (l:=l)) rfl<|cl rfl (ak1 (p:=l.dir) (c:=t) (by omega) (by omega)) rfl<|cl rfl (ayz (p:=l.base) (q:=l.dir.scale t) (by omega) (by omega)) rfl<|?_
 exact rz J J
theorem aAo{v:IvQ}{i j:Nat}[h1:BQ v.lo i][h2:BQ v.hi j](hi:i≤40000000:=by decide)(hj:j≤40000000:=by decide):PF GB prog 318 [eW v] (vB v.empty):=by
 refine fn func318 J J ntmps318 J J (fun C=>?_)
 refine csb 6 J J J (fun hg6=>?_) (fun hg6=>?_)
 ·
  refine csb 11 J J J (fun hg11=>?_) (fun hg11=>?_)
  ·
   refine cl rfl (aji (p:=v.lo) (q:=v.hi) (by omega) (by omega)) rfl<|?_
   exact rz rfl (by unfold IvQ.empty;simp_all [vB,afU])
  ·
   exact rz rfl (by unfold IvQ.empty;simp_all [vB,afU])
 ·
  exact rz rfl (by unfold IvQ.empty;simp_all [vB,afU])
instance IvQ.meet_lo (v w:IvQ) (i j:Nat) [h1:BQ v.lo i] [h3:BQ w.lo j]:BQ (v.meet w).lo (i+j):=by
 have a:=h1.mono (lT i j)
 have b:=h3.mono (Nat.le_add_left j i)
 unfold IvQ.meet;dsimp only;(repeat' split)<;>assumption
instance IvQ.meet_hi (v w:IvQ) (i j:Nat) [h1:BQ v.hi i] [h3:BQ w.hi j]:BQ (v.meet w).hi (i+j):=by
 have a:=h1.mono (lT i j)
 have b:=h3.mono (Nat.le_add_left j i)
 unfold IvQ.meet;dsimp only;(repeat' split)<;>assumption
theorem axW{v w:IvQ}{i j:Nat}[h1:BQ v.lo i][h2:BQ v.hi i][h3:BQ w.lo j][h4:BQ w.hi j](hi:i≤10000000:=by decide)(hj:j≤10000000:=by decide):PF GB prog 304 [eW v,eW w] (.tp [eW (v.meet w),vB (!(v.meet w).empty)]):=by
 refine fn (fu:=⟨16⟩) func304 J J ntmps304 J J (fun C=>?_)
 refine mg (fu:=⟨1⟩) (X:=Unit) (fun _=>[(6, .ov 6 0)]) (fun _=>[(6,some (.o 185 [.d (vI (fn_ (v.meet w).lo)), .d (vI (fd_ (v.meet w).lo)), .d (fp_ (v.meet w).lo), .d (vI (fn_ v.hi)), .d (vI (fd_ v.hi)), .d (fp_ v.hi), .d (.v (.bool (v.nl&&w.nl))), .d (.v (.bool (v.nh)))] true))]) (fun _=>True) [6] [6] rfl ?_ (fun _=>rfl) (fun _ _=>?_)
 ·
  refine gx rfl<|?_
  refine bb (v1:=fun hc8=>by simp only[aag];kernel_rfl) J J J (fun hc8=>?_) (fun hc8=>?_)
  ·
   have em:(v.meet w).lo=w.lo:=by unfold IvQ.meet;simp_all
   have eb:(v.nl&&w.nl)=w.nl:=by simp_all
   exact at_ () trivial (hO:=⟨by rw[em,eb]<;>rfl,by repeat (first|exact trivial|refine And.intro rfl ?_)⟩)
  ·
   refine bb J J J (fun hc17=>?_) (fun hc17=>?_)
   ·
    refine cl rfl (aBZ (p:=v.lo) (q:=w.lo) (by omega) (by omega)) rfl<|?_
    have em:(v.meet w).lo=(if v.lo<w.lo then w.lo else v.lo):=by unfold IvQ.meet;simp_all
    have eb:(v.nl&&w.nl)=v.nl:=by simp_all
    exact at_ () trivial (hO:=⟨by rw[em,eb]<;>rfl,by repeat (first|exact trivial|refine And.intro rfl ?_)⟩)
   ·
    have em:(v.meet w).lo=v.lo:=by unfold IvQ.meet;simp_all
    have eb:(v.nl&&w.nl)=v.nl:=by simp_all
    exact at_ () trivial (hO:=⟨by rw[em,eb]<;>rfl,by repeat (first|exact trivial|refine And.intro rfl ?_)⟩)
 ·
  refine mg (X:=Unit) (fun _=>[(6, .ov 6 0)]) (fun _=>[(6,some (.o 185 [.d (vI (fn_ (v.meet w).lo)), .d (vI (fd_ (v.meet w).lo)), .d (fp_ (v.meet w).lo), .d (vI (fn_ (v.meet w).hi)), .d (vI (fd_ (v.meet w).hi)), .d (fp_ (v.meet w).hi), .d (.v (.bool (v.nl&&w.nl))), .d (.v (.bool (v.nh&&w.nh)))] true))]) (fun _=>True) [6] [6] rfl ?_ (fun _=>rfl) (fun _ _=>?_)
  ·
   refine gx rfl<|?_
   refine bb (v1:=fun hc27=>by simp only[aag];kernel_rfl) J J J (fun hc27=>?_) (fun hc27=>?_)
   ·
    have em:(v.meet w).hi=w.hi:=by unfold IvQ.meet;simp_all
    have eb:(v.nh&&w.nh)=w.nh:=by simp_all
    exact at_ () trivial (hO:=⟨by rw[em,eb]<;>rfl,by repeat (first|exact trivial|refine And.intro rfl ?_)⟩)
   ·
    refine bb J J J (fun hc36=>?_) (fun hc36=>?_)
    ·
     refine cl rfl (aCm (p:=v.hi) (q:=w.hi) (by omega) (by omega)) rfl<|?_
     have em:(v.meet w).hi=(if w.hi<v.hi then w.hi else v.hi):=by unfold IvQ.meet;simp_all
     have eb:(v.nh&&w.nh)=v.nh:=by simp_all
     exact at_ () trivial (hO:=⟨by rw[em,eb]<;>rfl,by repeat (first|exact trivial|refine And.intro rfl ?_)⟩)
    ·
     have em:(v.meet w).hi=v.hi:=by unfold IvQ.meet;simp_all
     have eb:(v.nh&&w.nh)=v.nh:=by simp_all
     exact at_ () trivial (hO:=⟨by rw[em,eb]<;>rfl,by repeat (first|exact trivial|refine And.intro rfl ?_)⟩)
  ·
   refine cl rfl (aAo (v:=v.meet w) (i:=i+j) (j:=i+j) (by omega) (by omega)) rfl<|?_
   exact rz J J
theorem BQ.z1:BQ (0:Rat) 1:=⟨by decide,by decide⟩
theorem axj{v:IvQ}{t:Rat}{i j:Nat}[h1:BQ v.lo i][h2:BQ v.hi i][h3:BQ t j](hi:i≤10000000:=by decide)(hj:j≤9999999:=by decide):PF GB prog 304 [eW v, .ag [vI (fn_ t),vI (fd_ t),fp_ t,vI 0,vI 0, .v (.pointer none), .v (.bool false), .v (.bool true)]] (.tp [eW (v.meet ⟨t,0,false,true⟩),vB (!(v.meet ⟨t,0,false,true⟩).empty)]):=
 (axW (v:=v) (w:=⟨t,0,false,true⟩) (j:=j+1) (h3:=h3.mono (by omega)) (h4:=BQ.z1.mono (by omega)) hi (by omega)).ofI fun G vs hv=>atN (fun y hy=>by
  obtain⟨l,rfl,g⟩:=abU.1 hy
  exact abU.2 ⟨l,rfl,at0 [_,_,_] g⟩) hv
theorem avp{v:IvQ}{t:Rat}{i j:Nat}[h1:BQ v.lo i][h2:BQ v.hi i][h3:BQ t j](hi:i≤10000000:=by decide)(hj:j≤9999999:=by decide):PF GB prog 304 [eW v, .ag [vI 0,vI 0, .v (.pointer none),vI (fn_ t),vI (fd_ t),fp_ t, .v (.bool true), .v (.bool false)]] (.tp [eW (v.meet ⟨0,t,true,false⟩),vB (!(v.meet ⟨0,t,true,false⟩).empty)]):=
 (axW (v:=v) (w:=⟨0,t,true,false⟩) (j:=j+1) (h4:=h3.mono (by omega)) (h3:=BQ.z1.mono (by omega)) hi (by omega)).ofI fun G vs hv=>atN (fun y hy=>by
  obtain⟨l,rfl,g⟩:=abU.1 hy
  exact abU.2 ⟨l,rfl,avm g⟩) hv
instance BQ.cutK (l m:LnQ) [LB l] [LB m]:BQ (l.cutK m) 400:=BQ.mono (inferInstance:BQ (m.nor.dot l.dir) _) (by decide)
instance BQ.cutC (l m:LnQ) [LB l] [LB m]:BQ (l.cutC m) 2500:=BQ.mono (inferInstance:BQ (m.value l.base) _) (by decide)
theorem aBi{l m:LnQ}{v:IvQ}{i:Nat}[hl:LB l][hm:LB m][h1:BQ v.lo i][h2:BQ v.hi i](hi:i≤10000000:=by decide):PF GB prog 281 [eLn l,eW v,eLn m] (.tp [eW (l.cutV v m),vB (l.cutB v m)]):=by
 refine fn func281 J J ntmps281 J J (fun C=>?_)
 refine cl rfl (ao3 (l:=m)) rfl<|cl rfl (amO (l:=l)) rfl<|cl rfl (apX (p:=m.nor) (q:=l.dir)) rfl<|cl rfl (arO (l:=l)) rfl<|?_
 refine cl rfl (apK (l:=m) (p:=l.base)) rfl<|cl rfl (acZ (q:=l.cutK m)) rfl<|?_
 refine br J J J (fun hc21=>?_) (fun hc21=>?_)
 ·
  refine cl rfl (acZ (q:=l.cutC m)) rfl<|?_
  exact rz rfl (by unfold LnQ.cutV LnQ.cutB;rw[if_pos hc21,if_pos hc21];rfl)
 ·
  refine br J J J (fun hc27=>?_) (fun hc27=>?_)
  ·
   refine cl rfl (auX (p:=l.cutC m) (q:=l.cutK m)) rfl<|cl rfl (afg (q:=l.cutC m/l.cutK m)) rfl<|cl rfl (axj (v:=v) (t:= -(l.cutC m/l.cutK m)) hi) rfl<|?_
   exact rz rfl (by unfold LnQ.cutB LnQ.cutV;rw[if_neg hc21,if_neg hc21,if_pos hc27];rfl)
  ·
   refine cl rfl (auX (p:=l.cutC m) (q:=l.cutK m)) rfl<|cl rfl (afg (q:=l.cutC m/l.cutK m)) rfl<|cl rfl (avp (v:=v) (t:= -(l.cutC m/l.cutK m)) hi) rfl<|?_
   exact rz rfl (by unfold LnQ.cutB LnQ.cutV;rw[if_neg hc21,if_neg hc21,if_neg hc27];rfl)
theorem avk{v:IvQ}{i:Nat}[h1:BQ v.lo i][h2:BQ v.hi i](hi:i≤10000000:=by decide):PF GB prog 111 [eW v] (eF v.sample):=by
 refine fn func111 J J ntmps111 J J (fun C=>?_)
 refine csb 6 J J J (fun hg6=>?_) (fun hg6=>?_)
 ·
  refine bb J J J (fun hc3=>?_) (fun hc3=>?_)
  ·
   exact rzI rfl (by unfold IvQ.sample;rw[hg6,hc3];exact aBJ)
  ·
   refine bb J J J (fun hc11=>?_) (fun hc11=>?_)
   ·
    refine cl rfl (aj7 (m:=1) (by decide)) rfl<|cl rfl (akZ (p:=v.hi) (q:=((1:Int):Rat)) (by omega) (by decide)) rfl<|?_
    exact rz rfl (by unfold IvQ.sample;simp_all [afU]<;>rfl)
   ·
    refine bb J J J (fun hc18=>?_) (fun hc18=>?_)
    ·
     refine cl rfl (aj7 (m:=1) (by decide)) rfl<|cl rfl (agQ (p:=v.lo) (q:=((1:Int):Rat)) (by omega) (by decide)) rfl<|?_
     exact rz rfl (by unfold IvQ.sample;simp_all [afU]<;>rfl)
    ·
     refine cl rfl (agQ (p:=v.lo) (q:=v.hi) (by omega) (by omega)) rfl<|cl rfl (aso (q:=v.lo+v.hi) (by omega)) rfl<|?_
     exact rz rfl (by unfold IvQ.sample;simp_all [afU]<;>rfl)
 ·
  refine bb J J J (fun hc11=>?_) (fun hc11=>?_)
  ·
   refine cl rfl (aj7 (m:=1) (by decide)) rfl<|cl rfl (akZ (p:=v.hi) (q:=((1:Int):Rat)) (by omega) (by decide)) rfl<|?_
   exact rz rfl (by unfold IvQ.sample;simp_all [afU]<;>rfl)
  ·
   refine bb J J J (fun hc18=>?_) (fun hc18=>?_)
   ·
    refine cl rfl (aj7 (m:=1) (by decide)) rfl<|cl rfl (agQ (p:=v.lo) (q:=((1:Int):Rat)) (by omega) (by decide)) rfl<|?_
    exact rz rfl (by unfold IvQ.sample;simp_all [afU]<;>rfl)
   ·
    refine cl rfl (agQ (p:=v.lo) (q:=v.hi) (by omega) (by omega)) rfl<|cl rfl (aso (q:=v.lo+v.hi) (by omega)) rfl<|?_
    exact rz rfl (by unfold IvQ.sample;simp_all [afU]<;>rfl)
instance BQ.i1':BQ (1:Rat) 2:=⟨by decide,by decide⟩
instance BQ.i2':BQ (2:Rat) 2:=⟨by decide,by decide⟩
theorem amm{v:IvQ}{i:Nat}[BQ v.lo i][BQ v.hi i]:BQ (ab0 v) (i+i+5):=by
 unfold ab0
 split
 ·exact BQ.mono (k:=1) ⟨by decide,by decide⟩ (by omega)
 ·split
  ·exact BQ.mono (inferInstance:BQ (v.hi-1) _) (by omega)
  ·split
   ·exact BQ.mono (inferInstance:BQ (v.lo+1) _) (by omega)
   ·exact BQ.mono (inferInstance:BQ ((v.lo+v.hi)/2) _) (by omega)
instance BPt.at (l:LnQ) (t:Rat) (k:Nat) [LB l] [BQ t k]:BPt (l.at t) (900+(k+97)+1):=by
 rw[←aue];infer_instance
theorem auu{q:Rat}(h: ¬q.num.sign=0):q≠0:=fun e=>h ((abN q).2 e)
def afe(d:PtQ):PtQ:=⟨-d.y,d.x⟩
instance BPt.turn (d:PtQ) (k:Nat) [BPt d k]:BPt (afe d) k:=⟨inferInstanceAs (BQ (-d.y) k),inferInstanceAs (BQ d.x k)⟩
def amX(p v:PtQ)(m:LnQ):Rat:= -(m.value p/(m.value (adB p v ((1:Int):Rat))-m.value p))
def adx(p v:PtQ)(m:LnQ)(s:Rat):Rat:=if(m.value (adB p v ((1:Int):Rat))-m.value p).num.sign=0 then s else if(m.value p).num.sign=0 then s else if 0<(amX p v m).num.sign then(if aa2 (amX p v m/2) s<0 then amX p v m/2 else s) else s
def aj5(p v:PtQ):List LnQ→Rat→Rat
 |[],s=>s
 |m::t,s=>aj5 p v t (adx p v m s)
def awC(c:List LnQ)(p v:PtQ):PtQ:=adB p v (aj5 p v c ((1:Int):Rat))
theorem aev{c:List LnQ}{p v:PtQ}{k:Nat}{s s' r:Rat}{m:LnQ}(h:aj5 p v (c.drop k) s=r)(hk:k<c.length)(hm:m=c[k])(e:adx p v m s=s'):aj5 p v (c.drop (k+1)) s'=r:=by
 rw[aS hk] at h
 rw[←h,aj5,←hm,e]
theorem aDd{c:List LnQ}{p v:PtQ}(hc: ∀m∈c,LB m)(hn:c.length≤1000)(hp:BPt p 4500)(hv:BPt v 97):PF GB prog 224 [.sl (c.map eL),eP p,eP v] (eP (awC c p v)):=by
 have hcl:=aeO c
 refine fn func224 J J ntmps224 J J (fun C=>?_)
 refine cl (fu:=⟨9⟩) rfl (alz (n:=1) (by decide) (by decide)) rfl<|?_
 refine eqF 14 (.d (vI (c.length:Nat))) rfl (by rw[hcl];rfl) ?_
 refine gx rfl<|?_
 refine lp (X:=Rat×Nat) (fun⟨s,k⟩=>[(15, .d (vI (k:Nat))),(14, .d (vI (c.length:Nat))),(13, .d (.sl (c.map eL))),(4, .ov 4 0),(5, .ov 5 0),(7, .ov 7 0),(6, .ov 6 0)]) (fun⟨s,k⟩=>[(7,some (.o 56 [.d ((.v (.bool (decide (s.num<0))))), .d (dN s.num.natAbs), .d (dD s.den)] true)),(6,some (.o 58 [.ff, .nl, .nl, .ff, .nl, .nl] true)),(5,some (.o 58 [.d ((.v (.bool (decide (v.x.num<0))))), .d (dN v.x.num.natAbs), .d (dD v.x.den), .d ((.v (.bool (decide (v.y.num<0))))), .d (dN v.y.num.natAbs), .d (dD v.y.den)] true)),(4,some (.o 58 [.d ((.v (.bool (decide (p.x.num<0))))), .d (dN p.x.num.natAbs), .d (dD p.x.den), .d ((.v (.bool (decide (p.y.num<0))))), .d (dN p.y.num.natAbs), .d (dD p.y.den)] true))]) (fun⟨s,k⟩=>k≤c.length∧BQ s 60000∧aj5 p v (c.drop k) s=aj5 p v c ((1:Int):Rat)) (fun⟨s,k⟩=>c.length-k) ⟨((1:Int):Rat),0⟩ rfl ⟨bZ _,BQ.i1.mono (by decide),rfl⟩ (fun _=>rfl) (fun⟨s,k⟩ hk=>?_)
 try dsimp only at hk⊢
 obtain⟨hle,hsb,hns⟩:=hk
 refine br J J J (fun hc16=>?_) (fun hc16=>?_)
 ·
  have hk:k<c.length:=by omega
  obtain⟨m,hm⟩: ∃m,m=c[k]:=⟨_,rfl⟩
  haveI hmb:LB m:=hm▸hc _ (cK hk)
  have hinv:=hsb
  refine ix (fu:=⟨1⟩) _ rfl (ae4 hk) rfl<|?_
  refine eqF 18 (.d (eL m)) rfl (by rw[hm];rfl) ?_
  refine gx rfl<|cl rfl (alz (n:=1) (by decide) (by decide)) rfl<|cl rfl (amx (p:=p) (q:=v) (c:=((1:Int):Rat))) rfl<|cl rfl (alk (l:=m) (p:=adB p v ((1:Int):Rat))) rfl<|?_
  refine cl rfl (alk (l:=m) (p:=p)) rfl<|cl rfl (aj8 (a:=m.value (adB p v ((1:Int):Rat))) (b:=m.value p)) rfl<|cl rfl (q_S (q:=m.value (adB p v ((1:Int):Rat))-m.value p)) rfl<|?_
  refine cs 32 J J J (fun hg32=>?_) (fun hg32=>?_)
  ·
   exact at_ ⟨s,k+1⟩ (by dsimp only;exact⟨⟨by omega,hinv,(aev hns hk hm (by unfold adx;rw[if_pos hg32]))⟩,(by omega)⟩)
  ·
   refine cl rfl (am2 (l:=m) (p:=p)) rfl<|?_
   refine br J J J (fun hc37=>?_) (fun hc37=>?_)
   ·
    exact at_ ⟨s,k+1⟩ (by dsimp only;exact⟨⟨by omega,hinv,(aev hns hk hm (by unfold adx;rw[if_neg hg32,if_pos hc37]))⟩,(by omega)⟩)
   ·
    refine cl rfl (alk (l:=m) (p:=p)) rfl<|cl rfl (ajN (a:=m.value p) (b:=m.value (adB p v ((1:Int):Rat))-m.value p) (auu hg32)) rfl<|?_
    refine cl rfl (anf (q:=m.value p/(m.value (adB p v ((1:Int):Rat))-m.value p))) rfl<|cl (fu:=⟨0⟩) rfl (q_S (q:= -(m.value p/(m.value (adB p v ((1:Int):Rat))-m.value p)))) rfl<|?_
    refine csS (v2:=fun hg46=>by simp only[aag];exact⟨by kernel_rfl,by omega⟩) J J J J (fun hg46=>?_) (fun hg46=>?_)
    ·
     refine cl rfl (arB (a:= -(m.value p/(m.value (adB p v ((1:Int):Rat))-m.value p)))) rfl<|cl rfl (q_C (a:= -(m.value p/(m.value (adB p v ((1:Int):Rat))-m.value p))/2) (b:=s)) rfl<|?_
     refine br J J J (fun hc53=>?_) (fun hc53=>?_)
     ·
      obtain⟨t,ht⟩: ∃t,t= -(m.value p/(m.value (adB p v ((1:Int):Rat))-m.value p)):=⟨_,rfl⟩
      haveI htb:BQ t 45000:=ht▸BQ.mono inferInstance (by decide)
      have hinv:BQ (t/2) 60000:=BQ.mono inferInstance (by decide)
      rw[←ht]
      refine cl rfl (arB (a:=t)) rfl<|?_
      exact at_ ⟨t/2,k+1⟩ (by dsimp only;exact⟨⟨by omega,hinv,(aev hns hk hm (by unfold adx;rw[if_neg hg32,if_neg hc37,show amX p v m=t from ht.symm,if_pos (by rw[ht];exact hg46),if_pos (by rw[ht];exact hc53)]))⟩,(by omega)⟩)
     ·
      exact at_ ⟨s,k+1⟩ (by dsimp only;exact⟨⟨by omega,hinv,(aev hns hk hm (by unfold adx;rw[if_neg hg32,if_neg hc37,if_pos (show 0<(amX p v m).num.sign from hg46),if_neg (show¬aa2 (amX p v m/2) s<0 from hc53)]))⟩,(by omega)⟩)
    ·
     exact at_ ⟨s,k+1⟩ (by dsimp only;exact⟨⟨by omega,hinv,(aev hns hk hm (by unfold adx;rw[if_neg hg32,if_neg hc37,if_neg (show¬0<(amX p v m).num.sign from hg46)]))⟩,(by omega)⟩)
 ·
  refine cl rfl (amx (p:=p) (q:=v) (c:=s)) rfl<|?_
  exact rz rfl (by unfold awC;rw[←hns,jK (by omega)];rfl)
def acQ(c:List LnQ):List LnQ→PtQ
 |[]=>⟨0,0⟩
 |m::t=>if(acK m c IvQ.all).2=true then awC c (m.at (ab0 (acK m c IvQ.all).1)) (afe m.dir) else acQ c t
theorem ark{c:List LnQ}{k:Nat}{m:LnQ}(h:acQ c (c.drop k)=acQ c c)(hk:k<c.length)(hm:m=c[k])(e:(acK m c IvQ.all).2=true):acQ c c=awC c (m.at (ab0 (acK m c IvQ.all).1)) (afe m.dir):=by
 rw[←h,aS hk,acQ,←hm,if_pos e]
theorem atV{c:List LnQ}{k:Nat}{m:LnQ}(h:acQ c (c.drop k)=acQ c c)(hk:k<c.length)(hm:m=c[k])(e: ¬(acK m c IvQ.all).2=true):acQ c (c.drop (k+1))=acQ c c:=by
 rw[←h,aS hk,acQ,←hm,if_neg e]
theorem auZ{c:List LnQ}{m:LnQ}(h:m∈c)(h2:(adb m c IvQ.all).isSome=true):acq c=true:=by
 unfold acq;rw[gN,kX];exact .inr ⟨m,h,h2⟩
theorem ash{c:List LnQ}(h:c=[]):acq c=true:=by subst h;rfl
theorem awi{c:List LnQ}(h:c≠[])(h2: ∀m∈c,(adb m c IvQ.all).isSome=false):acq c=false:=by
 rw[←lS];unfold acq;rw[gN,kX,List.isEmpty_iff]
 rintro (e|⟨m,h3,h4⟩)
 ·exact h e
 ·rw[h2 m h3] at h4;exact absurd h4 (by decide)
theorem ar1:eP ⟨0,0⟩= .ag [.v (.bool false), .sl [], .sl [], .v (.bool false), .sl [], .sl []]:=by
 unfold eP dD
 simp only[show(0:Rat).num=0 from rfl,show(0:Rat).den=1 from rfl,jN,adq];rfl
theorem aoj{c:List LnQ}(hc: ∀m∈c,LB m)(hok: ∀m∈c,m.ok)(hn:c.length≤1000):PF GB prog 176 [.sl (c.map eL)] (.tp [eP (acQ c c),vB (acq c)]):=by
 have hcl:=aeO c
 refine fn func176 J J ntmps176 J J (fun C=>?_)
 refine br (fu2:=⟨7⟩) J J J (fun hc11=>?_) (fun hc11=>?_)
 ·
  exact rz rfl (by rw[bS (l:=c) (by omega),ash rfl];show _=DV.tp [eP ⟨0,0⟩,_];rw[ar1];rfl)
 ·
  refine eqF 14 (.d (vI (c.length:Nat))) rfl (by rw[hcl];rfl) ?_
  refine gx rfl<|?_
  refine lp (X:=Nat) (fun k=>[(15, .d (vI (k:Nat))),(14, .d (vI (c.length:Nat))),(13, .d (.sl (c.map eL))),(0, .d (.sl (c.map eL))),(2, .ov 2 0)]) (fun k=>[(2,some (.o 58 [.ff, .nl, .nl, .ff, .nl, .nl] true))]) (fun k=>k≤c.length∧(∀m∈c.take k,(adb m c IvQ.all).isSome=false)∧acQ c (c.drop k)=acQ c c) (fun k=>c.length-k) 0 rfl ⟨bZ _,fun m hm=>absurd hm (by simp),rfl⟩ (fun _=>rfl) (fun k hk=>?_)
  obtain⟨hle,hno,hip⟩:=hk
  refine br J J J (fun hc16=>?_) (fun hc16=>?_)
  ·
   have hk:k<c.length:=by omega
   obtain⟨m,hm⟩: ∃m,m=c[k]:=⟨_,rfl⟩
   haveI hmb:LB m:=hm▸hc _ (cK hk)
   have hmo:m.ok:=hm▸hok _ (cK hk)
   refine ix (fu:=⟨1⟩) _ rfl (ae4 hk) rfl<|?_
   refine eqF 19 (.d (eL m)) rfl (by rw[hm];rfl) ?_
   refine gx rfl<|cl (fu:=⟨0⟩) rfl (ays hc hok hn hk) rfl<|?_
   refine eqF 23 (.d (.tp [eV (acK m c IvQ.all).1,vB (acK m c IvQ.all).2])) rfl (by rw[hm]) ?_
   refine gx rfl<|?_
   refine bb J J J (fun hc26=>?_) (fun hc26=>?_)
   ·
    have hbd:=ais (v:=IvQ.all) hmo.ne hc IvZ.all (BQ.mono (k:=1) ⟨by decide,by decide⟩ (by decide)) (BQ.mono (k:=1) ⟨by decide,by decide⟩ (by decide))
    obtain⟨s,hs⟩: ∃s,s=(acK m c IvQ.all).1:=⟨_,rfl⟩
    rw[←hs] at hbd
    haveI:=hbd.1
    haveI:=hbd.2
    haveI hsb:=amm (v:=s) (i:=1200)
    have hpt:BPt (m.at (ab0 s)) 4500:=by have:=BPt.at m (ab0 s) (1200+1200+5);exact⟨this.x.mono (by decide),this.y.mono (by decide)⟩
    have hin:acq c=true:=auZ (hm▸cK hk) (by rw[←aex];exact hc26)
    have hpn:=ark hip hk hm hc26
    rw[←hs] at hpn⊢
    refine cl rfl (amc (l:=m)) rfl<|cl rfl (awJ (v:=s)) rfl<|cl rfl (aFm (l:=m) (t:=ab0 s) hmo.ne) rfl<|cl rfl (anf (q:=m.dir.y)) rfl<|?_
    refine cl rfl (aDd (p:=m.at (ab0 s)) (v:=afe m.dir) hc hn (hpt) inferInstance) rfl<|?_
    exact rz rfl (by rw[hin,hpn];rfl)
   ·
    exact at_ (k+1) ⟨⟨by omega,auI hno hk (by rw[←hm,←aex];exact hc26),atV hip hk hm (by rw[hc26];decide)⟩,(by omega)⟩
  ·
   exact rz rfl (by rw[awi (fun e=>hc11 (by rw[e];rfl)) (fun m hm=>hno m (by rw[aT (by omega)];exact hm)),←hip,jK (by omega)];show _=DV.tp [eP ⟨0,0⟩,_];rw[ar1];rfl)
theorem ar7{es:List Int}{i:Nat}(h:i<es.length):(es.map vI)[(i:Int).toNat]? =some (vI (es.getD i 0)):=by simp[h]
theorem ao2{es:List Int}{i:Nat}(h:i<es.length):orI (es.drop i)=if es.getD i 0≠0 then es.getD i 0 else orI (es.drop (i+1)):=by
 rw[aS h,orI,aK,aZ h];rfl
theorem aGs{es:List Int}(hn:es.length≤1000000):PF GB prog 248 [.sl (es.map vI)] (vI (orI es)):=by
 have hel:(es.map vI).length=es.length:=by simp
 refine fn (fu:=⟨15⟩) func248 J J ntmps248 J J (fun C=>?_)
 refine eqF 7 (.d (vI (es.length:Nat))) rfl (by rw[hel]<;>rfl) ?_
 refine gx rfl<|?_
 refine lp (X:=Nat) (fun i=>[(8, .d (vI (i:Nat)))]) (fun i=>[]) (fun i=>i≤es.length∧orI es=orI (es.drop i)) (fun i=>es.length-i) 0 rfl ⟨bZ _,rfl⟩ (fun _=>rfl) (fun i hk=>?_)
 obtain⟨h1,h2⟩:=hk
 refine br J J J (fun hc9=>?_) (fun hc9=>?_)
 ·
  refine ix _ rfl (ar7 (by omega)) rfl<|?_
  refine br J J J (fun hc14=>?_) (fun hc14=>?_)
  ·
   exact rz rfl (by rw[h2,ao2 (by omega),if_pos hc14];rfl)
  ·
   exact at_ (i+1) ⟨⟨by omega,by rw[h2,ao2 (by omega),if_neg hc14]⟩,(by omega)⟩
 ·
  exact rz rfl (by rw[h2,fL (by omega)];rfl)
def lcq(l m:LnQ):Int:=orI [aa2 l.a m.a,aa2 l.b m.b,aa2 l.c m.c]
theorem avK(l m:LnQ):lcq l m=0↔l=m:=by
 unfold lcq orI orI orI orI
 have ha:=aeE (l.a:Rat) m.a
 have hb:=aeE (l.b:Rat) m.b
 have hc:=aeE (l.c:Rat) m.c
 rw[mW] at ha hb hc
 constructor
 ·intro h
  repeat' (split at h<;>try contradiction)
  all_goals exact LnQ.ext' (by omega) (by omega) (by omega)
 ·rintro rfl
  rw[if_neg (by simp[ha.2 rfl]),if_neg (by simp[hb.2 rfl]),if_neg (by simp[hc.2 rfl])]
theorem aC8{l m:LnQ}[hl:LB l][hm:LB m]:PF GB prog 201 [eLn l,eLn m] (vI (lcq l m)):=by
 refine fn func201 J J ntmps201 J J (fun C=>?_)
 refine cl rfl (aji (p:=(l.a:Rat)) (q:=(m.a:Rat))) rfl<|cl rfl (aji (p:=(l.b:Rat)) (q:=(m.b:Rat))) rfl<|cl rfl (aji (p:=(l.c:Rat)) (q:=(m.c:Rat))) rfl<|?_
 refine rf J J<|cl rfl (aGs (es:=[aa2 l.a m.a,aa2 l.b m.b,aa2 l.c m.c]) (nb rfl)) rfl<|?_
 exact rz J J
theorem awT{l m:LnQ}[hl:LB l][hm:LB m]:PF GB prog 142 [eLn l,eLn m] (vB (decide (l=m))):=by
 refine fn func142 J J ntmps142 J J (fun C=>?_)
 refine cl rfl (aC8 (l:=l) (m:=m)) rfl<|?_
 exact rz rfl (by show DV.v (.bool (decide _))= .v (.bool _);congr 2;exact decide_eq_decide.2 (avK l m))
theorem aA9{l:LnQ}[hl:LB l]:PF GB prog 247 [eLn l] (eLn l.rev):=by
 refine fn func247 J J ntmps247 J J (fun C=>?_)
 refine cl rfl (afg (q:=(l.a:Rat))) rfl<|cl rfl (afg (q:=(l.b:Rat))) rfl<|cl rfl (afg (q:=(l.c:Rat))) rfl<|?_
 exact rz rfl (by unfold eLn LnQ.rev;simp only[oQ];rfl)
theorem axB{p:PtQ}{i:Nat}[hp:BPt p i](hi:i≤10000000:=by decide):PF GB prog 256 [eZ p] (vI p.half):=by
 refine fn func256 J J ntmps256 J J (fun C=>?_)
 refine cl rfl (acZ (q:=p.y) (by omega)) rfl<|?_
 refine cs 10 J J J (fun hg10=>?_) (fun hg10=>?_)
 ·
  exact rz rfl (by unfold PtQ.half;(repeat' split)<;>first|rfl|(exfalso;omega))
 ·
  refine cs 13 J J J (fun hg13=>?_) (fun hg13=>?_)
  ·
   refine cl rfl (acZ (q:=p.x) (by omega)) rfl<|?_
   refine br J J J (fun hc7=>?_) (fun hc7=>?_)
   ·
    exact rz rfl (by unfold PtQ.half;(repeat' split)<;>first|rfl|(exfalso;omega))
   ·
    refine cs 23 J J J (fun hg23=>?_) (fun hg23=>?_)
    ·
     exact rz rfl (by unfold PtQ.half;(repeat' split)<;>first|rfl|(exfalso;omega))
    ·
     refine cl rfl (acZ (q:=p.x) (by omega)) rfl<|?_
     refine br J J J (fun hc20=>?_) (fun hc20=>?_)
     ·
      exact rz rfl (by unfold PtQ.half;(repeat' split)<;>first|rfl|(exfalso;omega))
     ·
      exact rz rfl (by unfold PtQ.half;(repeat' split)<;>first|rfl|(exfalso;omega))
  ·
   refine cs 23 J J J (fun hg23=>?_) (fun hg23=>?_)
   ·
    exact rz rfl (by unfold PtQ.half;(repeat' split)<;>first|rfl|(exfalso;omega))
   ·
    refine cl rfl (acZ (q:=p.x) (by omega)) rfl<|?_
    refine br J J J (fun hc20=>?_) (fun hc20=>?_)
    ·
     exact rz rfl (by unfold PtQ.half;(repeat' split)<;>first|rfl|(exfalso;omega))
    ·
     exact rz rfl (by unfold PtQ.half;(repeat' split)<;>first|rfl|(exfalso;omega))
theorem aoc{u v:PtQ}{i j:Nat}[hp:BPt u i][hq:BPt v j](hi:i≤10000000:=by decide)(hj:j≤10000000:=by decide):PF GB prog 209 [eZ u,eZ v] (vI (aaD u v)):=by
 refine fn func209 J J ntmps209 J J (fun C=>?_)
 refine cl rfl (axB (p:=u) hi) rfl<|cl rfl (axB (p:=v) hj) rfl<|?_
 refine br J J J (fun hc11=>?_) (fun hc11=>?_)
 ·
  exact rz rfl (by unfold aaD;rw[if_pos hc11];rfl)
 ·
  refine br J J J (fun hc15=>?_) (fun hc15=>?_)
  ·
   exact rz rfl (by unfold aaD;rw[if_neg hc11,if_pos hc15];rfl)
  ·
   refine cl rfl (aoZ (p:=u) (q:=v) (by omega) (by omega)) rfl<|cl (fu:=⟨0⟩) rfl (acZ (q:=u.cross v) (by omega)) rfl<|?_
   have hs:=Int.sign_trichotomy (u.cross v).num
   refine gx rfl<|?_
   exact rz rfl (by unfold aaD;rw[if_neg hc11,if_neg hc15];rfl)
theorem aBG{m:Int}:Nrm (dg m.natAbs)∧(decide (m<0)=true→0<(dg m.natAbs).length):=⟨(aaH _).2.2,fun h=>by
 have:0<m.natAbs:=by have:=of_decide_eq_true h;omega
 exact ahF.2 this⟩
theorem acd{m:Int}{i:Nat}[h:BI m i](hi:i≤1000000000:=by decide):PF GB prog 249 [eI m] (.v (.bool true)):=(amJ (neg:=decide (m<0)) (ds:=dg m.natAbs) (aaH _).2.1 (by have:=agA (a:=m.natAbs) hi;omega)).to (by unfold vB;rw[decide_eq_true aBG])
theorem aFE{l:LnQ}(h:l.ok):rgcd (rgcd (l.a:Rat) (l.b:Rat)) (l.c:Rat)=((1:Int):Rat):=by
 rw[agV,agV]
 have:=h.2
 simp only[jZ];rw[this];rfl
instance BQ.rgcd (p q:Rat) (i j:Nat) [h:BQ p i] [k:BQ q j]:BQ (rgcd p q) (i+j+(i+j)):=by
 unfold Sx.rgcd
 refine ahc (iT (abO p) (abO q)) ?_ ?_
 ·rw[jZ]
  have h1:=abn h.hn k.hd
  have h2:=abn k.hn h.hd
  rw[jV j i] at h2
  exact aob h1 h2
 ·have h1:=abn h.hd k.hd
  have:2^(i+j)≤2^(i+j+(i+j)):=bW (by decide) (by omega)
  omega
theorem aB1{l:LnQ}[hl:LB l](ho:l.ok):PF GB prog 204 [eL l] (.tp [eLn l,vB true]):=by
 refine fn func204 J J ntmps204 J J (fun C=>?_)
 refine cl (fu:=⟨0⟩) rfl (acd (m:=l.a)) rfl<|knF J J J<|cl (fu:=⟨0⟩) rfl (acd (m:=l.b)) rfl<|knF J J J<|cl (fu:=⟨0⟩) rfl (acd (m:=l.c)) rfl<|?_
 refine knF J J J<|cl rfl (aeX (m:=l.a)) rfl<|cl rfl (aeX (m:=l.b)) rfl<|cl rfl (aeX (m:=l.c)) rfl<|cl (fu:=⟨0⟩) rfl (akq (q:=(l.a:Rat))) rfl<|?_
 refine csS (fu2:=⟨4⟩) J J J J (fun hg35=>?_) (fun hg35=>?_)
 ·
  have ha:l.a=0:=cZ.1 hg35
  refine cl (fu:=⟨1⟩) rfl (akq (q:=(l.b:Rat))) rfl<|knF rfl (by first|rfl|(show some (decide _)=some false;rw[decide_eq_false (fun e=>ho.1 ⟨ha,cZ.1 e⟩)])) rfl<|?_
  refine cl rfl (agH (p:=(l.a:Rat)) (q:=(l.b:Rat))) rfl<|cl rfl (agH (p:=rgcd l.a l.b) (q:=(l.c:Rat))) rfl<|cl rfl (aj7 (m:=1) (by decide)) rfl<|?_
  refine cl (fu:=⟨0⟩) rfl (aiw (p:=rgcd (rgcd l.a l.b) l.c) (q:=((1:Int):Rat))) rfl<|knF rfl (by show some (!decide _)=some false;rw[aFE ho,decide_eq_true rfl];rfl) rfl<|?_
  exact rz J J
 ·
  refine knF rfl (by first|rfl|(show some (decide _)=some false;rw[decide_eq_false (fun e=>ho.1 ⟨ha,cZ.1 e⟩)])) rfl<|cl rfl (agH (p:=(l.a:Rat)) (q:=(l.b:Rat))) rfl<|?_
  refine cl rfl (agH (p:=rgcd l.a l.b) (q:=(l.c:Rat))) rfl<|cl rfl (aj7 (m:=1) (by decide)) rfl<|cl (fu:=⟨0⟩) rfl (aiw (p:=rgcd (rgcd l.a l.b) l.c) (q:=((1:Int):Rat))) rfl<|?_
  refine knF rfl (by show some (!decide _)=some false;rw[aFE ho,decide_eq_true rfl];rfl) rfl<|?_
  exact rz J J
end Go.Sx
end
