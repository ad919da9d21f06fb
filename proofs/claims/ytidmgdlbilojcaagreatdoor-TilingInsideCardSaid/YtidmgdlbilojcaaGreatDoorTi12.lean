import Derived.Test.YtidmgdlbilojcaaGreatDoorTi11
set_option linter.unusedSimpArgs false
set_option maxHeartbeats 4000000
set_option maxRecDepth 100000
set_option linter.unusedVariables false
section
namespace Go.Sx
open Go Go.Proofs Tryz
variable {GB:Gh}
theorem aDd{m:Int}{g:Nat}(hg:(g:Int)∣m)(hb:m.natAbs<4611686018427387904):IntKind.i64.wrap (m.tdiv g)=m/g:=by
 rw[Int.tdiv_eq_ediv_of_dvd hg]
 have:=nK m g
 exact anx (by omega)
def tm(a b:Int):Int:=if(a*b).natAbs<4611686018427387904 then a*b else 0
theorem aCk(a b:Int):(tm a b).natAbs<4611686018427387904:=by unfold tm;split<;>omega
theorem atu{a b:Int}(h:(a*b).natAbs<4611686018427387904):tm a b=a*b:=if_pos h
theorem aEx{a b:Int}(h: ¬(a*b).natAbs<4611686018427387904):DV.tp [vI 0, .v (.bool false)]= .tp [vI (tm a b),vB (decide ((a*b).natAbs<4611686018427387904))]:=by unfold tm;rw[if_neg h,decide_eq_false h];rfl
theorem ayK{a b:Int}{x:Int}(h:(a*b).natAbs<4611686018427387904)(e:x=a*b):DV.tp [vI x, .v (.bool true)]= .tp [vI (tm a b),vB (decide ((a*b).natAbs<4611686018427387904))]:=by unfold tm;rw[if_pos h,decide_eq_true h,e];rfl
theorem azf(n:Nat):eI (n:Int)= .ag [.v (.bool false),dN n]:=by unfold eI;rw[decide_eq_false (by omega),jZ]
theorem aDC{p q:Rat}(hp:p.den=1)(hq:q.den=1):rgcd p q=((Nat.gcd p.num.natAbs q.num.natAbs:Nat):Int):=by
 conv=>lhs;rw[al3 hp,al3 hq]
 exact ahf _ _
theorem aBv(q:Rat):mkRat (zv (decide (q.num<0)) q.den) q.num.natAbs=q⁻¹:=by
 rw[Rat.inv_def]
 by_cases h:q.num<0
 ·rw[decide_eq_true h];exact alU h
 ·rw[decide_eq_false h,←Rat.divInt_ofNat,nU (by omega)];rfl
instance BQ.inv (q:Rat) (i:Nat) [h:BQ q i]:BQ q⁻¹ i:=by
 have h1:=h.hn
 have h2:=h.hd
 have h3:=q.den_nz
 rcases lQ q.num 0 with k|k|k
 ·obtain⟨e1,e2⟩:=aj2 k;exact⟨by omega,by omega⟩
 ·have e:q=0:=lN.1 k
  have e0:(0:Rat)⁻¹=0:=Rat.inv_zero
  rw[e] at h1 h2⊢;rw[e0];exact⟨h1,h2⟩
 ·obtain⟨e1,e2⟩:=ajm k;exact⟨by omega,by omega⟩
instance BQ.half:BQ (mkRat 1 2) 2:=⟨by decide,by decide⟩
theorem aA3{x y:Nat}(hx:x<18446744073709551616)(hy:y<18446744073709551616):PF GB prog 212 [.v (.int .u64 (x:Nat)), .v (.int .u64 (y:Nat))] (.tp [.v (.int .u64 ((x*y/18446744073709551616:Nat):Int)), .v (.int .u64 ((x*y%18446744073709551616:Nat):Int))]):=fun G vs _ hv=>by
 obtain⟨v,m,rfl,h1,h2⟩:=aae.1 hv
 obtain⟨u,m',rfl,h3,h4⟩:=aae.1 h2
 cases aaJ.1 h4
 rw[aa4.1 h1,aa4.1 h3]
 exact(ape hx hy).mono fun v G' _ h=>by subst h;exact adS.2 ⟨_,rfl, .cons (aa4.2 rfl) (.cons (aa4.2 rfl) .nil)⟩
theorem aDe{a b:Nat}(ha:a<18446744073709551616)(hb:b<18446744073709551616):PF GB prog 214 [.v (.int .u64 (a:Nat)), .v (.int .u64 (b:Nat))] (.v (.int .u64 (Nat.gcd a b:Nat))):=by
 refine fn func214 J J ntmps214 J J (fun C=>?_)
 refine lp (X:=Nat×Nat) (fun⟨u,v⟩=>[(1, .d (.v (.int .u64 (v:Nat)))),(0, .d (.v (.int .u64 (u:Nat))))]) (fun⟨u,v⟩=>[]) (fun⟨u,v⟩=>u<18446744073709551616∧v<18446744073709551616∧Nat.gcd u v=Nat.gcd a b) (fun⟨u,v⟩=>v) (a,b) rfl ⟨ha,hb,rfl⟩ (fun _=>rfl) (fun⟨u,v⟩ hk=>?_)
 dsimp only at hk⊢
 obtain⟨h1,h2,h3⟩:=hk
 refine br (v1:=fun hc6=>by simp only[aaj];exact⟨by omega,by kernel_rfl⟩) J J J (fun hc6=>?_) (fun hc6=>?_)
 ·
  have hm:=cY u (show 0<v by omega)
  exact at_ (v,u%v) (by dsimp only;exact⟨⟨h2,by omega,by rw[←h3,iY u v,sM v u,iY]⟩,hm⟩)
 ·
  exact rz rfl (by rw[←h3,show v=0 by omega,nQ];rfl)
theorem aik{m:Int}(h:m.natAbs<9223372036854775808):PF GB prog 134 [vI m] (eF (m:Rat)):=by
 refine fn func134 J J ntmps134 J J (fun C=>?_)
 refine cs 5 J J J (fun hg5=>?_) (fun hg5=>?_)
 ·
  refine cl rfl (aju (m:=m) (by omega) (by omega)) rfl<|rf (fu:=⟨0⟩) J J<|?_
  refine eqF 11 (.d (dN 1)) rfl (by unfold dN;rw[an7];rfl) ?_
  refine gx rfl<|cl rfl (ad0 (n:=decide (m<0)) (a:=m.natAbs) (i:=63) (h:=⟨h⟩) (d:=1)) rfl<|?_
  exact rz rfl (by rw[adw,show mkRat m 1=(m:Rat) from rN ..];rfl)
 ·
  refine br J J J (fun hc8=>?_) (fun hc8=>?_)
  ·
   refine cl rfl (aju (m:=m) (by omega) (by omega)) rfl<|rf (fu:=⟨0⟩) J J<|?_
   refine eqF 11 (.d (dN 1)) rfl (by unfold dN;rw[an7];rfl) ?_
   refine gx rfl<|cl rfl (ad0 (n:=decide (m<0)) (a:=m.natAbs) (i:=63) (h:=⟨h⟩) (d:=1)) rfl<|?_
   exact rz rfl (by rw[adw,show mkRat m 1=(m:Rat) from rN ..];rfl)
  ·
   exact rzI rfl (aHt (by omega))
theorem aj4{a b:Int}(ha:a.natAbs<4611686018427387904)(hb:b.natAbs<4611686018427387904):PF GB prog 157 [vI a,vI b] (.tp [vI (tm a b),vB (decide ((a*b).natAbs<4611686018427387904))]):=by
 have hab:=jW a b
 refine fn func157 J J ntmps157 J J (fun C=>?_)
 refine cl rfl (atU (m:=a) (by omega)) rfl<|cl rfl (atU (m:=b) (by omega)) rfl<|cl rfl (aA3 (x:=a.natAbs) (y:=b.natAbs) (by omega) (by omega)) rfl<|?_
 refine cs 18 J J J (fun hg18=>?_) (fun hg18=>?_)
 ·
  exact rz rfl (aEx (by omega))
 ·
  refine br J J J (fun hc21=>?_) (fun hc21=>?_)
  ·
   exact rz rfl (aEx (by omega))
  ·
   refine bb J J J (fun hc26=>?_) (fun hc26=>?_)
   ·
    have hs:=aoh a b
    rw[if_neg (by simpa using hc26)] at hs
    exact rz rfl (ayK (by omega) (by rw[hs,←hab];omega))
   ·
    have hs:=aoh a b
    rw[if_pos (by simpa using hc26)] at hs
    exact rz rfl (ayK (by omega) (by rw[hs,←hab];omega))
theorem aqn{m:Int}{d:Nat}(h:m.natAbs<4611686018427387904)(h0:0<d)(hd:d<4611686018427387904):PF GB prog 158 [vI m,vI (d:Nat)] (eF (mkRat m d)):=by
 have hg:Nat.gcd m.natAbs d≤d:=Nat.gcd_le_right _ h0
 have hg0:0<Nat.gcd m.natAbs d:=nN _ h0
 obtain⟨e1,e2⟩:=aub (m:=m) h0
 have e3:=nK m (Nat.gcd m.natAbs d:Nat)
 have e4:=iT d (Nat.gcd m.natAbs d)
 have e5:=Nat.div_pos hg hg0
 refine fn func158 J J ntmps158 J J (fun C=>?_)
 refine cl rfl (atU (m:=m) (by omega)) rfl<|cl rfl (aDe (a:=m.natAbs) (b:=d) (by omega) (by omega)) rfl<|?_
 refine br (fu1:=⟨4⟩) J J J (fun hc13=>?_) (fun hc13=>?_)
 ·
  refine eqF 16 (.d (vI (m/(Nat.gcd m.natAbs d:Nat)))) rfl (by rw[aDd (Int.dvd_natAbs.1 (rQ.2 (mT _ _))) h];rfl) ?_
  refine gx (fu:=⟨3⟩) rfl<|?_
  refine eqF 19 (.d (vI ((d/Nat.gcd m.natAbs d:Nat)))) rfl (by rw[aDd (rQ.2 (nT _ _)) (by rw[jZ];exact hd)];rfl) ?_
  refine gx (hv:=by simp only[aaj];exact⟨by kernel_rfl,by omega⟩) rfl<|?_
  exact rzI rfl (awt (fun k=>k ⟨by rw[e1];omega,by rw[e2];omega⟩) e1 (by rw[e2]) rfl)
 ·
  exact rzI rfl (by have h1:Nat.gcd m.natAbs d=1:=(by omega);rw[h1,sN] at e2;rw[h1,Int.natCast_one,Int.ediv_one] at e1;exact awt (fun k=>k ⟨by rw[e1];omega,by rw[e2];omega⟩) e1 (by rw[e2]) rfl)
theorem ae8{p q:Rat}{i j:Nat}[h:BQ p i][k:BQ q j](hi:i≤100000000:=by decide)(hj:j≤100000000:=by decide):PF GB prog 121 [eF p,eF q] (eF (p*q)):=by
 refine fn (fu:=⟨8⟩) func121 J J ntmps121 J J (fun C=>?_)
 refine mg (X:=Unit) (fun _=>[(2, .ov 2 0),(3, .ov 3 0),(4, .ov 4 0)]) (fun _=>[(2,some (.o 96 [.d (vI (fn_ p)), .d (vI (fd_ p)), .d (fp_ p)] true)),(3,some (.o 96 [.d (vI (fn_ q)), .d (vI (fd_ q)), .d (fp_ q)] true)),(4,some (.o 96 [.d (.v (.int .i64 0)), .d (.v (.int .i64 0)), .d (.v (.pointer none))] true))]) (fun _=>True) [2,3,4] [2,3,4] rfl ?_ (fun _=>rfl) (fun _ _=>?_)
 ·
  refine gx rfl<|?_
  refine cs 12 J J J (fun hg12=>?_) (fun hg12=>?_)
  ·
   refine br (fu1:=⟨4⟩) J J J (fun hc16=>?_) (fun hc16=>?_)
   ·
    have hp:=bgF hg12
    have hq:=bgF hc16
    have p1:=ap6 hp
    have p2:=ar5 hp
    have p3:=adH hp
    have p4:=adN hp
    have p5:=p.den_nz
    have q1:=ap6 hq
    have q2:=ar5 hq
    have q3:=adH hq
    have q4:=adN hq
    have q5:=q.den_nz
    refine eqF 19 (.d (vI p.num)) rfl (by rw[p1]) ?_
    refine gx (fu:=⟨2⟩) rfl<|?_
    refine eqF 21 (.d (vI q.num)) rfl (by rw[q1]) ?_
    refine gx rfl<|cl (fu:=⟨12⟩) rfl (aj4 (a:=p.num) (b:=q.num) (by omega) (by omega)) rfl<|?_
    refine eqF 28 (.d (vI (p.den:Nat))) rfl (by congr 3;omega) ?_
    refine gx (fu:=⟨3⟩) rfl<|?_
    refine eqF 31 (.d (vI (q.den:Nat))) rfl (by congr 3;omega) ?_
    refine gx rfl<|cl rfl (aj4 (a:=(p.den:Nat)) (b:=(q.den:Nat)) (by omega) (by omega)) rfl<|?_
    refine csd 36 J J J (fun hg36=>?_) (fun hg36=>?_)
    ·
     refine bd (fu1:=⟨3⟩) J J J (fun hc38=>?_) (fun hc38=>?_)
     ·
      have hd1:p.den*q.den<4611686018427387904:=by omega
      refine eqF 39 (.d (vI (p.num*q.num))) rfl (by rw[atu hg36]) ?_
      refine gx (fu:=⟨1⟩) rfl<|?_
      refine eqF 40 (.d (vI ((p.den*q.den:Nat)))) rfl (by rw[atu hc38];rfl) ?_
      refine gx rfl<|cl rfl (aqn (m:=p.num*q.num) (d:=p.den*q.den) hg36 (iL (by omega) (by omega)) hd1) rfl<|?_
      exact rz rfl (by rw[←aeG];rfl)
     ·
      exact at_ () trivial
    ·
     exact at_ () trivial
   ·
    exact at_ () trivial
  ·
   exact at_ () trivial
 ·
  refine cl rfl (aov (q:=p) (by omega)) rfl<|cl rfl (aov (q:=q) (by omega)) rfl<|cl rfl (avt (a:=p.num) (b:=q.num) (by omega) (by omega)) rfl<|?_
  refine cl rfl (aj0 (q:=p) (by omega)) rfl<|cl rfl (aj0 (q:=q) (by omega)) rfl<|cl rfl (arD (a:=p.den) (b:=q.den) (by omega) (by omega)) rfl<|?_
  refine cl rfl (ad0 (n:=decide (p.num*q.num<0)) (a:=(p.num*q.num).natAbs) (d:=p.den*q.den) (i:=i+j) (j:=i+j) (by omega) (by omega)) rfl<|?_
  exact rz rfl (by rw[adw,←aeG];rfl)
theorem agE{p q:Rat}{i j:Nat}[h:BQ p i][k:BQ q j](hi:i≤100000000:=by decide)(hj:j≤100000000:=by decide):PF GB prog 98 [eF p,eF q] (eF (p+q)):=by
 refine fn (fu:=⟨8⟩) func98 J J ntmps98 J J (fun C=>?_)
 refine mg (X:=Unit) (fun _=>[(2, .ov 2 0),(3, .ov 3 0),(4, .ov 4 0)]) (fun _=>[(2,some (.o 96 [.d (vI (fn_ p)), .d (vI (fd_ p)), .d (fp_ p)] true)),(3,some (.o 96 [.d (vI (fn_ q)), .d (vI (fd_ q)), .d (fp_ q)] true)),(4,some (.o 96 [.d (.v (.int .i64 0)), .d (.v (.int .i64 0)), .d (.v (.pointer none))] true))]) (fun _=>True) [2,3,4] [2,3,4] rfl ?_ (fun _=>rfl) (fun _ _=>?_)
 ·
  refine gx rfl<|?_
  refine cs 16 J J J (fun hg16=>?_) (fun hg16=>?_)
  ·
   refine br (fu1:=⟨1⟩) J J J (fun hc20=>?_) (fun hc20=>?_)
   ·
    have hp:=bgF hg16
    have hq:=bgF hc20
    have p1:=ap6 hp
    have p2:=ar5 hp
    have p3:=adH hp
    have p4:=adN hp
    have p5:=p.den_nz
    have q1:=ap6 hq
    have q2:=ar5 hq
    have q3:=adH hq
    have q4:=adN hq
    have q5:=q.den_nz
    refine mg (fu:=⟨4⟩) (X:=Unit) (fun _=>[(2, .ov 2 0),(3, .ov 3 0),(4, .ov 4 0)]) (fun _=>[(2,some (.o 96 [.d (vI (fn_ p)), .d (vI (fd_ p)), .d (fp_ p)] true)),(3,some (.o 96 [.d (vI (fn_ q)), .d (vI (fd_ q)), .d (fp_ q)] true)),(4,some (.o 96 [.d (.v (.int .i64 0)), .d (.v (.int .i64 0)), .d (.v (.pointer none))] true))]) (fun _=>True) [2,3,4] [2,3,4] rfl ?_ (fun _=>rfl) (fun _ _=>?_)
    ·
     refine gx rfl<|?_
     refine cs 24 J J J (fun hg24=>?_) (fun hg24=>?_)
     ·
      refine br (fu1:=⟨4⟩) J J J (fun hc28=>?_) (fun hc28=>?_)
      ·
       refine eqF 30 (.d (vI p.num)) rfl (by rw[p1]) ?_
       refine gx (fu:=⟨2⟩) rfl<|?_
       refine eqF 32 (.d (vI q.num)) rfl (by rw[q1]) ?_
       refine gx rfl<|cl rfl (aik (m:=p.num+q.num) (by omega)) rfl<|?_
       exact rz rfl (by rw[al3 (q:=p) (by omega),al3 (q:=q) (by omega),←qR];rfl)
      ·
       exact at_ () trivial
     ·
      exact at_ () trivial
    ·
     refine eqF 37 (.d (vI p.num)) rfl (by rw[p1]) ?_
     refine gx (fu:=⟨3⟩) rfl<|?_
     refine eqF 40 (.d (vI (q.den:Nat))) rfl (by congr 3;omega) ?_
     refine gx rfl<|cl (fu:=⟨11⟩) rfl (aj4 (a:=p.num) (b:=(q.den:Nat)) (by omega) (by omega)) rfl<|?_
     refine eqF 46 (.d (vI q.num)) rfl (by rw[q1]) ?_
     refine gx (fu:=⟨3⟩) rfl<|?_
     refine eqF 49 (.d (vI (p.den:Nat))) rfl (by congr 3;omega) ?_
     refine gx rfl<|cl (fu:=⟨12⟩) rfl (aj4 (a:=q.num) (b:=(p.den:Nat)) (by omega) (by omega)) rfl<|?_
     refine eqF 56 (.d (vI (p.den:Nat))) rfl (by congr 3;omega) ?_
     refine gx (fu:=⟨3⟩) rfl<|?_
     refine eqF 59 (.d (vI (q.den:Nat))) rfl (by congr 3;omega) ?_
     refine gx rfl<|cl (fu:=⟨3⟩) rfl (aj4 (a:=(p.den:Nat)) (b:=(q.den:Nat)) (by omega) (by omega)) rfl<|?_
     have t1:=aCk p.num (q.den:Nat)
     have t2:=aCk q.num (p.den:Nat)
     have t3:=aCk (p.den:Nat) (q.den:Nat)
     refine gx rfl<|?_
     refine csd 67 J J J (fun hg67=>?_) (fun hg67=>?_)
     ·
      refine csd 70 J J J (fun hg70=>?_) (fun hg70=>?_)
      ·
       refine csd 73 J J J (fun hg73=>?_) (fun hg73=>?_)
       ·
        refine cs 77 J J J (fun hg77=>?_) (fun hg77=>?_)
        ·
         refine br (fu1:=⟨3⟩) J J J (fun hc80=>?_) (fun hc80=>?_)
         ·
          have u1:=atu hg67
          have u2:=atu hg70
          have u3:=atu hg73
          have hd1:p.den*q.den<4611686018427387904:=by omega
          refine eqF 81 (.d (vI (p.num*(q.den:Nat)+q.num*(p.den:Nat)))) rfl (by rw[u1,u2];rfl) ?_
          refine gx (fu:=⟨1⟩) rfl<|?_
          refine eqF 82 (.d (vI ((p.den*q.den:Nat)))) rfl (by rw[u3];rfl) ?_
          refine gx rfl<|cl rfl (aqn (m:=p.num*(q.den:Nat)+q.num*(p.den:Nat)) (d:=p.den*q.den) (by omega) (iL (by omega) (by omega)) hd1) rfl<|?_
          exact rz rfl (by rw[←aet];rfl)
         ·
          exact at_ () trivial
        ·
         exact at_ () trivial
       ·
        exact at_ () trivial
      ·
       exact at_ () trivial
     ·
      exact at_ () trivial
   ·
    exact at_ () trivial
  ·
   exact at_ () trivial
 ·
  refine cl rfl (aov (q:=p) (by omega)) rfl<|cl (fu:=⟨1⟩) rfl (aj0 (q:=q) (by omega)) rfl<|?_
  refine eqF 88 (.d (eI (q.den:Nat))) rfl (by rw[azf]) ?_
  refine gx rfl<|cl rfl (avt (a:=p.num) (b:=(q.den:Nat)) (by omega) (by omega)) rfl<|cl rfl (aov (q:=q) (by omega)) rfl<|cl (fu:=⟨1⟩) rfl (aj0 (q:=p) (by omega)) rfl<|?_
  refine eqF 94 (.d (eI (p.den:Nat))) rfl (by rw[azf]) ?_
  refine gx rfl<|cl rfl (avt (a:=q.num) (b:=(p.den:Nat)) (by omega) (by omega)) rfl<|cl rfl (aEj (a:=p.num*(q.den:Nat)) (b:=q.num*(p.den:Nat)) (i:=i+j) (j:=j+i) (by omega) (by omega)) rfl<|?_
  refine cl rfl (aj0 (q:=p) (by omega)) rfl<|cl rfl (aj0 (q:=q) (by omega)) rfl<|cl rfl (arD (a:=p.den) (b:=q.den) (by omega) (by omega)) rfl<|?_
  refine cl rfl (ad0 (n:=decide (p.num*(q.den:Nat)+q.num*(p.den:Nat)<0)) (a:=(p.num*(q.den:Nat)+q.num*(p.den:Nat)).natAbs) (d:=p.den*q.den) (i:=i+j+(j+i)+1) (j:=i+j) (by omega) (by omega)) rfl<|?_
  exact rz rfl (by rw[adw,←aet];rfl)
theorem ahZ{p q:Rat}{i j:Nat}[h:BQ p i][k:BQ q j](hi:i≤100000000:=by decide)(hj:j≤100000000:=by decide):PF GB prog 197 [eF p,eF q] (eF (p-q)):=by
 refine fn func197 J J ntmps197 J J (fun C=>?_)
 refine cl rfl (afw (q:=q) (by omega)) rfl<|cl rfl (agE (p:=p) (q:= -q) (by omega) (by omega)) rfl<|?_
 exact rz rfl (by rw[←Rat.sub_eq_add_neg];rfl)
theorem ay7{q:Rat}{i:Nat}[h:BQ q i](hi:i≤400000000:=by decide):PF GB prog 85 [eF q] (eF q⁻¹):=by
 refine fn func85 J J ntmps85 J J (fun C=>?_)
 refine br (v1:=fun hc3=>by simp only[aaj];exact⟨⟨hc3,hc3⟩,hc3⟩) J J J (fun hc3=>?_) (fun hc3=>?_)
 ·
  refine cl rfl (ad0 (n:=decide (q.num<0)) (a:=q.den) (d:=q.num.natAbs) (by omega) (by omega)) rfl<|?_
  exact rz rfl (by rw[aBv];rfl)
 ·
  have q1:=ap6 (arv hc3)
  have q2:=ar5 (arv hc3)
  have q3:=adH (arv hc3)
  have q4:=adN (arv hc3)
  have q5:=q.den_nz
  refine br J J J (fun hc26=>?_) (fun hc26=>?_)
  ·
   exact rzI rfl (by obtain⟨e1,e2⟩:=aj2 (q:=q) (by omega);exact awt (fun k=>k ⟨by omega,by omega⟩) (by omega) (by omega) rfl)
  ·
   refine br J J J (fun hc39=>?_) (fun hc39=>?_)
   ·
    exact rzI rfl (by rw[lN.1 (show q.num=0 by omega),Rat.inv_zero];exact aDU)
   ·
    exact rzI rfl (by obtain⟨e1,e2⟩:=ajm (q:=q) (by omega);exact awt (fun k=>k ⟨by omega,by omega⟩) (by omega) (by omega) rfl)
theorem ak7{p q:Rat}{i j:Nat}[h:BQ p i][k:BQ q j](hi:i≤100000000:=by decide)(hj:j≤100000000:=by decide):PF GB prog 135 [eF p,eF q] (eF (p/q)):=by
 refine fn func135 J J ntmps135 J J (fun C=>?_)
 refine cl rfl (ay7 (q:=q) (by omega)) rfl<|cl rfl (ae8 (p:=p) (q:=q⁻¹) (by omega) (by omega)) rfl<|?_
 exact rz rfl (by rw[Rat.div_def];rfl)
theorem aER{G:Gh}{q r:DV}{t:List DV}{vs:List Value}(h: ∀y,Is G r y→Is G q y)(hv:IsLs G (r::t) vs):IsLs G (q::t) vs:=by
 obtain⟨y,m,rfl,h1,h2⟩:=aae.1 hv
 exact .cons (h _ h1) h2
theorem atr{G:Gh}{a q r:DV}{t:List DV}{vs:List Value}(h: ∀y,Is G r y→Is G q y)(hv:IsLs G (a::r::t) vs):IsLs G (a::q::t) vs:=by
 obtain⟨y,m,rfl,h1,h2⟩:=aae.1 hv
 exact .cons h1 (aER h h2)
theorem azY{q:Rat}{i:Nat}[h:BQ q i](hi:i≤100000000:=by decide):PF GB prog 121 [eF q, .ag [vI 1,vI 1, .v (.pointer none)]] (eF (q*mkRat 1 2)):=
 (ae8 (p:=q) (q:=mkRat 1 2) hi).ofI fun G vs hv=>atr (fun y hy=>awt (q:=mkRat 1 2) (fun k=>k ⟨by decide,by decide⟩) (by decide) (by decide) rfl G y hy) hv
theorem aup{q:Rat}{i:Nat}[h:BQ q i](hi:i≤100000000:=by decide):PF GB prog 99 [eF q] (eF (q*mkRat 1 2)):=by
 refine fn func99 J J ntmps99 J J (fun C=>?_)
 refine cl rfl (azY (q:=q) (by omega)) rfl<|?_
 exact rz J J
theorem ajr{p q:Rat}{i j:Nat}[h:BQ p i][k:BQ q j](hi:i≤100000000:=by decide)(hj:j≤100000000:=by decide):PF GB prog 148 [eF p,eF q] (vI (abg p q)):=by
 refine fn func148 J J ntmps148 J J (fun C=>?_)
 refine cs 8 J J J (fun hg8=>?_) (fun hg8=>?_)
 ·
  refine cs 13 J J J (fun hg13=>?_) (fun hg13=>?_)
  ·
   refine br J J J (fun hc19=>?_) (fun hc19=>?_)
   ·
    have hp:=bgF hg8
    have hq:=bgF hg13
    have p1:=ap6 hp
    have p2:=ar5 hp
    have p3:=adH hp
    have p4:=adN hp
    have p5:=p.den_nz
    have q1:=ap6 hq
    have q2:=ar5 hq
    have q3:=adH hq
    have q4:=adN hq
    have q5:=q.den_nz
    have hl:=atS (a:=p) (b:=q) (by omega)
    have hr:=atS (a:=q) (b:=p) (by omega)
    unfold abg
    refine br J J J (fun hc20=>?_) (fun hc20=>?_)
    ·
     exact rz rfl (by rw[if_pos (hl.2 (by omega))];rfl)
    ·
     refine br J J J (fun hc26=>?_) (fun hc26=>?_)
     ·
      exact rz rfl (by rw[if_neg (fun e=>by have:=hl.1 e;omega),if_pos (hr.2 (by omega))];rfl)
     ·
      exact rz rfl (by rw[if_neg (fun e=>by have:=hl.1 e;omega),if_neg (fun e=>by have:=hr.1 e;omega)];rfl)
   ·
    refine cl rfl (ahZ (p:=p) (q:=q) (by omega) (by omega)) rfl<|cl rfl (acY (q:=p-q) (by omega)) rfl<|?_
    exact rz rfl (by rw[air];rfl)
  ·
   refine cl rfl (ahZ (p:=p) (q:=q) (by omega) (by omega)) rfl<|cl rfl (acY (q:=p-q) (by omega)) rfl<|?_
   exact rz rfl (by rw[air];rfl)
 ·
  refine cl rfl (ahZ (p:=p) (q:=q) (by omega) (by omega)) rfl<|cl rfl (acY (q:=p-q) (by omega)) rfl<|?_
  exact rz rfl (by rw[air];rfl)
theorem aiC{p q:Rat}{i j:Nat}[h:BQ p i][k:BQ q j](hi:i≤100000000:=by decide)(hj:j≤100000000:=by decide):PF GB prog 224 [eF p,eF q] (vB (decide (p=q))):=by
 refine fn func224 J J ntmps224 J J (fun C=>?_)
 refine cl rfl (ajr (p:=p) (q:=q) hi hj) rfl<|?_
 exact rz rfl (by show DV.v (.bool (decide _))= .v (.bool _);congr 2;exact decide_eq_decide.2 (aeR p q))
theorem aCI{p q:Rat}{i j:Nat}[h:BQ p i][k:BQ q j](hi:i≤100000000:=by decide)(hj:j≤100000000:=by decide):PF GB prog 83 [eF p,eF q] (eF (if p<q then q else p)):=by
 refine fn func83 J J ntmps83 J J (fun C=>?_)
 refine cl rfl (ajr (p:=q) (q:=p) hj hi) rfl<|?_
 refine br J J J (fun hc8=>?_) (fun hc8=>?_)
 ·
  exact rz rfl (by rw[if_pos ((arg q p).1 hc8)];rfl)
 ·
  exact rz rfl (by rw[if_neg (fun e=>hc8 ((arg q p).2 e))];rfl)
theorem aDH{p q:Rat}{i j:Nat}[h:BQ p i][k:BQ q j](hi:i≤100000000:=by decide)(hj:j≤100000000:=by decide):PF GB prog 82 [eF p,eF q] (eF (if q<p then q else p)):=by
 refine fn func82 J J ntmps82 J J (fun C=>?_)
 refine cl rfl (ajr (p:=q) (q:=p) hj hi) rfl<|?_
 refine br J J J (fun hc8=>?_) (fun hc8=>?_)
 ·
  exact rz rfl (by rw[if_pos ((apS q p).1 hc8)];rfl)
 ·
  exact rz rfl (by rw[if_neg (fun e=>hc8 ((apS q p).2 e))];rfl)
theorem agY{p q:Rat}{i j:Nat}[h:BQ p i][k:BQ q j](hi:i≤100000000:=by decide)(hj:j≤100000000:=by decide):PF GB prog 223 [eF p,eF q] (eF (rgcd p q)):=by
 refine fn (fu:=⟨8⟩) func223 J J ntmps223 J J (fun C=>?_)
 refine mg (X:=Unit) (fun _=>[(2, .ov 2 0),(3, .ov 3 0),(4, .ov 4 0)]) (fun _=>[(2,some (.o 96 [.d (vI (fn_ p)), .d (vI (fd_ p)), .d (fp_ p)] true)),(3,some (.o 96 [.d (vI (fn_ q)), .d (vI (fd_ q)), .d (fp_ q)] true)),(4,some (.o 96 [.d (.v (.int .i64 0)), .d (.v (.int .i64 0)), .d (.v (.pointer none))] true))]) (fun _=>True) [2,3,4] [2,3,4] rfl ?_ (fun _=>rfl) (fun _ _=>?_)
 ·
  refine gx rfl<|?_
  refine cs 10 J J J (fun hg10=>?_) (fun hg10=>?_)
  ·
   refine cs 15 J J J (fun hg15=>?_) (fun hg15=>?_)
   ·
    have hp:=bgF hg10
    have hq:=bgF hg15
    have p1:=ap6 hp
    have p2:=ar5 hp
    have p3:=adH hp
    have p4:=adN hp
    have p5:=p.den_nz
    have q1:=ap6 hq
    have q2:=ar5 hq
    have q3:=adH hq
    have q4:=adN hq
    have q5:=q.den_nz
    refine cs 20 J J J (fun hg20=>?_) (fun hg20=>?_)
    ·
     refine br (fu1:=⟨4⟩) J J J (fun hc24=>?_) (fun hc24=>?_)
     ·
      have hg:=aDF p3 q3
      refine eqF 26 (.d (vI p.num)) rfl (by rw[p1]) ?_
      refine gx rfl<|cl (fu:=⟨2⟩) rfl (atU (m:=p.num) (by omega)) rfl<|?_
      refine eqF 29 (.d (vI q.num)) rfl (by rw[q1]) ?_
      refine gx rfl<|cl rfl (atU (m:=q.num) (by omega)) rfl<|cl (hv:=by simp only[aaj];exact⟨by omega,by kernel_rfl⟩) rfl (aDe (a:=p.num.natAbs) (b:=q.num.natAbs) (by omega) (by omega)) rfl<|?_
      exact rzI rfl (by rw[aDC (p:=p) (q:=q) (by omega) (by omega)];exact aHt (by rw[jZ];exact hg))
     ·
      exact at_ () trivial
    ·
     exact at_ () trivial
   ·
    exact at_ () trivial
  ·
   exact at_ () trivial
 ·
  refine cl rfl (aj0 (q:=p) (by omega)) rfl<|cl rfl (aj0 (q:=q) (by omega)) rfl<|cl rfl (arD (a:=p.den) (b:=q.den) (by omega) (by omega)) rfl<|?_
  refine cl rfl (aov (q:=p) (by omega)) rfl<|cl rfl (aj0 (q:=q) (by omega)) rfl<|cl rfl (arD (a:=p.num.natAbs) (b:=q.den) (by omega) (by omega)) rfl<|?_
  refine cl rfl (aov (q:=q) (by omega)) rfl<|cl rfl (aj0 (q:=p) (by omega)) rfl<|cl rfl (arD (a:=q.num.natAbs) (b:=p.den) (by omega) (by omega)) rfl<|?_
  refine cl rfl (aDk (a:=p.num.natAbs*q.den) (b:=q.num.natAbs*p.den) (i:=i+j) (j:=j+i) (by omega) (by omega)) rfl<|cl rfl (ad0 (n:=false) (a:=Nat.gcd (p.num.natAbs*q.den) (q.num.natAbs*p.den)) (d:=p.den*q.den) (i:=i+j+(j+i)) (j:=i+j) (by omega) (by omega)) rfl<|?_
  exact rz J J
end Go.Sx
end
section
namespace Go.Sx
open Go
def crossI(l m:LnQ):Int:=l.a*m.b-m.a*l.b
def meetX(l m:LnQ):Int:=l.b*m.c-m.b*l.c
def meetY(l m:LnQ):Int:=m.a*l.c-l.a*m.c
def abS(l m:LnQ):PtQ:=if crossI l m=0 then⟨0,0⟩ else⟨(meetX l m:Rat)/(crossI l m:Rat),(meetY l m:Rat)/(crossI l m:Rat)⟩
def abB(l:LnQ)(p:PtQ):Rat:=p.dot l.dir/l.dir.dot l.dir
theorem azN(l:LnQ):l.dir.dot l.dir=l.nor.dot l.nor:=by
 simp only[LnQ.dir,LnQ.nor,PtQ.dot];grind
theorem anc{l:LnQ}(h:l.Ne):0<l.dir.dot l.dir:=by rw[azN];exact afZ h
theorem aeF(l m:LnQ):((crossI l m:Int):Rat)=(l.a:Rat)*m.b-(m.a:Rat)*l.b:=by
 unfold crossI;rw[kJ,cW,cW]
theorem ak3(l m:LnQ):((meetX l m:Int):Rat)=(l.b:Rat)*m.c-(m.b:Rat)*l.c:=by
 unfold meetX;rw[kJ,cW,cW]
theorem akV(l m:LnQ):((meetY l m:Int):Rat)=(m.a:Rat)*l.c-(l.a:Rat)*m.c:=by
 unfold meetY;rw[kJ,cW,cW]
theorem afJ(l m:LnQ):l.cutK m= -((crossI l m:Int):Rat):=by
 rw[aeF];simp only[LnQ.cutK,LnQ.nor,LnQ.dir,PtQ.dot];grind
theorem apJ(l m:LnQ):m.dir.cross l.dir=l.cutK m:=by
 simp only[LnQ.cutK,LnQ.nor,LnQ.dir,PtQ.dot,PtQ.cross];grind
theorem aq2{l:LnQ}:(⟨-((l.c:Rat)/l.dir.dot l.dir)*(l.a:Rat), -((l.c:Rat)/l.dir.dot l.dir)*(l.b:Rat)⟩:PtQ)=l.base:=by
 unfold LnQ.base
 rw[azN]
 simp only[LnQ.nor,PtQ.scale,PtQ.mk.injEq]
 constructor<;>grind
theorem agv(l:LnQ)(t:Rat):act l.base l.dir t=l.at t:=by
 simp only[act,LnQ.at,PtQ.add,PtQ.scale,PtQ.mk.injEq]
 constructor<;>grind
theorem aeC{l m:LnQ}(hl:l.Ne)(h:crossI l m≠0):abB l (abS l m)= -(l.cutC m/l.cutK m):=by
 have hd:((crossI l m:Int):Rat)≠0:=fun e=>h (dQ.1 e)
 have hn:=anc hl
 obtain⟨q,q1,q2⟩:=an0 hl
 rw[afJ]
 unfold abB abS LnQ.cutC
 rw[if_neg h,q2,abH,ak3,akV]
 have hc:=aeF l m
 rw[azN] at hn⊢
 simp only[LnQ.dir,LnQ.nor,PtQ.dot] at hn q1⊢
 generalize ((crossI l m:Int):Rat)=d at*
 generalize (l.a:Rat)=a at*
 generalize (l.b:Rat)=b at*
 generalize (l.c:Rat)=c at*
 generalize (m.a:Rat)=x at*
 generalize (m.b:Rat)=y at*
 generalize (m.c:Rat)=z at*
 have hn':a*a+b*b≠0:=by grind
 have e:((b*z-y*c)/d*b+(x*c-a*z)/d* -a)=((b*z-y*c)*b-(x*c-a*z)*a)/d:=by grind
 rw[e]
 have k1:(b*z-y*c)*b-(x*c-a*z)*a=(a*a+b*b)*(x*(a*q)+y*(b*q)+z):=by grind
 rw[k1]
 grind
theorem arG{l m:LnQ}(hl:l.Ne)(h:crossI l m≠0):abB l (abS l m)*((crossI l m*(l.a*l.a+l.b*l.b):Int):Rat)=((meetX l m*l.b-meetY l m*l.a:Int):Rat):=by
 have hd:((crossI l m:Int):Rat)≠0:=fun e=>h (dQ.1 e)
 have hn:=anc hl
 unfold abB abS
 rw[if_neg h]
 simp only[cW,kJ,qR]
 simp only[LnQ.dir,PtQ.dot] at hn⊢
 generalize ((crossI l m:Int):Rat)=d at*
 generalize ((meetX l m:Int):Rat)=x at*
 generalize ((meetY l m:Int):Rat)=y at*
 generalize (l.a:Rat)=a at*
 generalize (l.b:Rat)=b at*
 have hn':b*b+ -a* -a≠0:=by grind
 grind
theorem ahI(l m:LnQ)(t:List LnQ)(v:IvQ):ach l (m::t) v=if m=l then ach l t v else if l.cutB v m then ach l t (l.cutV v m) else none:=rfl
def aih(v:IvQ)(t:Rat):IvQ:=if v.nl=true∨0<abg t v.lo then⟨t,v.hi,false,v.nh⟩ else v
def aii(v:IvQ)(t:Rat):IvQ:=if v.nh=true∨abg t v.hi<0 then⟨v.lo,t,v.nl,false⟩ else v
structure IvZ (v:IvQ):Prop where
 lo:v.nl=true→v.lo=0
 hi:v.nh=true→v.hi=0
theorem ai5(a b:Rat):0<abg a b↔b<a:=by
 unfold abg;split
 ·constructor
  ·intro h;exact absurd h (by decide)
  ·intro h;grind
 ·split
  ·exact⟨fun _=>by assumption,fun _=>by decide⟩
  ·constructor
   ·intro h;exact absurd h (by decide)
   ·intro h;exact absurd h (by assumption)
theorem afj(a b:Rat):abg a b<0↔a<b:=by
 unfold abg;split
 ·exact⟨fun _=>by assumption,fun _=>by decide⟩
 ·split
  ·constructor
   ·intro h;exact absurd h (by decide)
   ·intro h;grind
  ·constructor
   ·intro h;exact absurd h (by decide)
   ·intro h;exact absurd h (by assumption)
theorem akM{v:IvQ}(h:IvZ v)(t:Rat):aih v t=v.meet ⟨t,0,false,true⟩:=by
 obtain⟨lo,hi,nl,nh⟩:=v
 obtain⟨h1,h2⟩:=h
 unfold aih IvQ.meet
 simp only[ai5] at*
 cases nl<;>cases nh<;>simp at* <;>(try (split<;>split<;>simp_all<;>grind))<;>grind
theorem akw{v:IvQ}(h:IvZ v)(t:Rat):aii v t=v.meet ⟨0,t,true,false⟩:=by
 obtain⟨lo,hi,nl,nh⟩:=v
 obtain⟨h1,h2⟩:=h
 unfold aii IvQ.meet
 simp only[afj] at*
 cases nl<;>cases nh<;>simp at* <;>(try (split<;>split<;>simp_all<;>grind))<;>grind
theorem IvZ.all:IvZ IvQ.all:=⟨fun _=>rfl,fun _=>rfl⟩
theorem IvZ.lo'{v:IvQ}(h:IvZ v)(t:Rat):IvZ (aih v t):=by
 obtain⟨lo,hi,nl,nh⟩:=v
 unfold aih;split
 ·exact⟨fun h=>by simp at h,h.hi⟩
 ·exact h
theorem IvZ.hi'{v:IvQ}(h:IvZ v)(t:Rat):IvZ (aii v t):=by
 obtain⟨lo,hi,nl,nh⟩:=v
 unfold aii;split
 ·exact⟨h.lo,fun h=>by simp at h⟩
 ·exact h
theorem ahe{l m:LnQ}{v:IvQ}(h:crossI l m=0):l.cutV v m=v∧(l.cutB v m=true↔0<m.value l.base):=by
 have hk:l.cutK m=0:=by rw[afJ,h];rfl
 exact ahd v hk
theorem az0{l m:LnQ}{v:IvQ}(hl:l.Ne)(hz:IvZ v)(h:0<m.dir.cross l.dir):crossI l m≠0∧l.cutV v m=aih v (abB l (abS l m))∧l.cutB v m=!(aih v (abB l (abS l m))).empty:=by
 rw[apJ] at h
 have hc:crossI l m≠0:=fun e=>by rw[afJ,e] at h;exact absurd h (by decide)
 obtain⟨h1,h2⟩:=anO v h
 refine⟨hc,?_,?_⟩
 ·rw[akM hz,aeC hl hc,h1]
 ·rw[akM hz,aeC hl hc,←h1]
  rw[←agx] at h2
  cases hb:l.cutB v m<;>cases he:(l.cutV v m).empty<;>simp_all
theorem aAk{l m:LnQ}{v:IvQ}(hl:l.Ne)(hz:IvZ v)(h0:crossI l m≠0)(h: ¬0<m.dir.cross l.dir):l.cutV v m=aii v (abB l (abS l m))∧l.cutB v m=!(aii v (abB l (abS l m))).empty:=by
 rw[apJ] at h
 have hk:l.cutK m≠0:=fun e=>by
  rw[afJ] at e
  have:((crossI l m:Int):Rat)=0:=by grind
  exact h0 (dQ.1 this)
 obtain⟨h1,h2⟩:=amR (l:=l) (m:=m) v (by grind)
 refine⟨?_,?_⟩
 ·rw[akw hz,aeC hl h0,h1]
 ·rw[akw hz,aeC hl h0,←h1]
  rw[←agx] at h2
  cases hb:l.cutB v m<;>cases he:(l.cutV v m).empty<;>simp_all
end Go.Sx
end
section
namespace Go.Sx
open Go Go.Proofs Tryz
variable {GB:Gh}

def cT:Tr→List DV
 | .leaf b=>[.v (.bool true), .v (.bool b), .v (.bool false), .sl [], .v (.bool false), .sl [], .v (.bool false), .sl [], .v (.pointer none), .v (.pointer none)]
 | .node l x y=>[.v (.bool false), .v (.bool false), .v (.bool (decide (l.a<0))),dN l.a.natAbs, .v (.bool (decide (l.b<0))),dN l.b.natAbs, .v (.bool (decide (l.c<0))),dN l.c.natAbs, .pt (cT x), .pt (cT y)]
def eT(t:Tr):DV:= .pt (cT t)
def eN(n:NQ):DV:= .ag [.v (.bool (decide (n.l.a<0))),dN n.l.a.natAbs, .v (.bool (decide (n.l.b<0))),dN n.l.b.natAbs, .v (.bool (decide (n.l.c<0))),dN n.l.c.natAbs, .v (.int .i64 n.a), .v (.int .i64 n.b)]
def eA(t:Tr):DV:= .ag [.v (.int .i64 (t.num 0)), .sl ((t.wr 0).map eN)]
structure BL (l:LnQ) (k:Nat):Prop where
 a:l.a.natAbs<2^k
 b:l.b.natAbs<2^k
 c:l.c.natAbs<2^k
theorem aGX(ns:List NQ):adn 8 (ns.map eN):=fun d hd=>by
 obtain⟨n,_,rfl⟩:=bJ.1 hd;exact⟨rfl,rfl⟩
theorem Tr.all_wr{p:LnQ→Prop}: ∀{t:Tr} (n:Nat),t.all p→ ∀x∈t.wr n,p x.l
 | .leaf b,n,_,x,hx=>by cases hx
 | .node l u v,n,⟨h1,h2,h3⟩,x,hx=>by
  simp only[Tr.wr,jR,aU,bZ] at hx
  rcases hx with rfl|hx|hx
  ·exact h1
  ·exact u.all_wr _ h2 x hx
  ·exact v.all_wr _ h3 x hx
structure LS (l:LnQ):Prop where
 ok:l.ok
 a:l.a.natAbs≤4
 b:l.b.natAbs≤4
 c:l.c.natAbs≤40000
theorem aeT{xs:List LnQ}{i:Nat}(h:i<xs.length):(xs.map eL)[(i:Int).toNat]? =some (eL xs[i]):=by simp[h]
theorem ae4(xs:List LnQ):(xs.map eL).length=xs.length:=aK ..
theorem atg{α:Type}{xs:List α}{i:Nat}{p:α→Prop}(h: ∀x∈xs.take i,p x)(hi:i<xs.length)(hy:p xs[i]): ∀x∈xs.take (i+1),p x:=by
 intro x hx
 rw[fR hi] at hx
 simp only[bZ,aY] at hx
 rcases hx with hx|rfl
 ·exact h x hx
 ·exact hy
theorem LnQ.ext'{l m:LnQ}(h1:l.a=m.a)(h2:l.b=m.b)(h3:l.c=m.c):l=m:=by cases l;cases m;simp_all
instance:DecidableEq NQ:=fun x y=>decidable_of_iff (x.l=y.l∧x.a=y.a∧x.b=y.b) (by
 cases x;cases y;simp)
theorem acZ(ls:List LnQ):adn 6 (ls.map eL):=fun d hd=>by
 obtain⟨n,_,rfl⟩:=bJ.1 hd;exact⟨rfl,rfl⟩
theorem ak1{z:Int}:PF GB prog 257 [eI z] (eQ (z:Rat)):=by
 refine fn func257 J J ntmps257 J J (fun C=>?_)
 exact rz rfl (by rw[aq5];rfl)
theorem akU{l:LnQ}:PF GB prog 93 [eL l] (eL l.rev):=by
 refine fn func93 J J ntmps93 J J (fun C=>?_)
 refine cl rfl ajq rfl<|cl rfl ajq rfl<|cl rfl ajq rfl<|?_
 exact rz J J
class LB (l:LnQ):Prop where bl:BL l 96
instance LB.a (l:LnQ) [h:LB l]:BI l.a 96:=⟨h.bl.a⟩
instance LB.b (l:LnQ) [h:LB l]:BI l.b 96:=⟨h.bl.b⟩
instance LB.c (l:LnQ) [h:LB l]:BI l.c 96:=⟨h.bl.c⟩
class BPt (p:PtQ) (k:outParam Nat):Prop where
 x:BQ p.x k
 y:BQ p.y k
instance BPt.ix (p:PtQ) (k:Nat) [h:BPt p k]:BQ p.x k:=h.x
instance BPt.iy (p:PtQ) (k:Nat) [h:BPt p k]:BQ p.y k:=h.y
instance BPt.dir (l:LnQ) [LB l]:BPt l.dir 97:=⟨inferInstanceAs (BQ (l.b:Rat) 97),inferInstanceAs (BQ (-(l.a:Rat)) 97)⟩
instance BQ.dot (p q:PtQ) (i j:Nat) [BPt p i] [BPt q j]:BQ (p.dot q) (i+j+(i+j)+1):=inferInstanceAs (BQ (p.x*q.x+p.y*q.y) _)
instance BQ.cross (p q:PtQ) (i j:Nat) [BPt p i] [BPt q j]:BQ (p.cross q) (i+j+(i+j)+1):=inferInstanceAs (BQ (p.x*q.y-p.y*q.x) _)
instance BPt.mov (p q:PtQ) (c:Rat) (i j k:Nat) [BPt p i] [BPt q j] [BQ c k]:BPt (act p q c) (i+(k+j)+1):=⟨inferInstanceAs (BQ (p.x+c*q.x) _),inferInstanceAs (BQ (p.y+c*q.y) _)⟩
instance BQ.value (l:LnQ) (p:PtQ) (i:Nat) [LB l] [BPt p i]:BQ (l.value p) (96+1+i+(96+1+i)+1+(96+1)+1):=inferInstanceAs (BQ ((l.a:Rat)*p.x+(l.b:Rat)*p.y+(l.c:Rat)) _)
theorem aEY{l:LnQ}(h:l.Ne):l.dir.dot l.dir≠0:=by have:=anc h;grind
theorem aof{l:LnQ}:PF GB prog 206 [eL l] (eP l.dir):=by
 refine fn func206 J J ntmps206 J J (fun C=>?_)
 refine cl rfl ak1 rfl<|cl rfl ak1 rfl<|cl rfl aoX rfl<|?_
 exact rz J J
theorem aBp{p q:PtQ}{i j:Nat}[hp:BPt p i][hq:BPt q j](hi:i≤200000:=by decide)(hj:j≤200000:=by decide):PF GB prog 277 [eP p,eP q] (eQ (p.dot q)):=by
 refine fn func277 J J ntmps277 J J (fun C=>?_)
 refine cl rfl (abz (by omega) (by omega)) rfl<|cl rfl (abz (by omega) (by omega)) rfl<|cl rfl (ae7 (by omega) (by omega)) rfl<|?_
 exact rz J J
theorem aml{p q:PtQ}{i j:Nat}[hp:BPt p i][hq:BPt q j](hi:i≤200000:=by decide)(hj:j≤200000:=by decide):PF GB prog 155 [eP p,eP q] (eQ (p.cross q)):=by
 refine fn func155 J J ntmps155 J J (fun C=>?_)
 refine cl rfl (abz (by omega) (by omega)) rfl<|cl rfl (abz (by omega) (by omega)) rfl<|cl rfl (alh (by omega) (by omega)) rfl<|?_
 exact rz J J
theorem anX{p q:PtQ}{c:Rat}{i j k:Nat}[hp:BPt p i][hq:BPt q j][hc:BQ c k](hi:i≤19000000:=by decide)(hj:j≤9000000:=by decide)(hk:k≤9000000:=by decide):PF GB prog 22 [eP p,eQ c,eP q] (eP (act p q c)):=by
 refine fn func22 J J ntmps22 J J (fun C=>?_)
 refine cl rfl (abz (by omega) (by omega)) rfl<|cl rfl (ae7 (by omega) (by omega)) rfl<|cl rfl (abz (by omega) (by omega)) rfl<|cl rfl (ae7 (by omega) (by omega)) rfl<|?_
 exact rz J J
theorem alr{l:LnQ}{p:PtQ}{i:Nat}[hl:LB l][hp:BPt p i](hi:i≤400000:=by decide):PF GB prog 258 [eL l,eP p] (eQ (l.value p)):=by
 refine fn func258 J J ntmps258 J J (fun C=>?_)
 refine cl rfl (ak1 (z:=l.a)) rfl<|cl rfl (abz (by omega) (by omega)) rfl<|cl rfl (ak1 (z:=l.b)) rfl<|cl rfl (abz (by omega) (by omega)) rfl<|?_
 refine cl rfl (ae7 (by omega) (by omega)) rfl<|cl rfl (ak1 (z:=l.c)) rfl<|cl rfl (ae7 (by omega) (by omega)) rfl<|?_
 exact rz J J
theorem aqC{l:LnQ}{p:PtQ}{i:Nat}[hl:LB l][hp:BPt p i](hi:i≤400000:=by decide):PF GB prog 255 [eL l,eP p] (vI (l.value p).num.sign):=by
 refine fn func255 J J ntmps255 J J (fun C=>?_)
 refine cl rfl (alr hi) rfl<|cl rfl q_S rfl<|?_
 exact rz J J
theorem avE{l:LnQ}[hl:LB l](hn:l.Ne):PF GB prog 256 [eL l] (eP l.base):=by
 refine fn func256 J J ntmps256 J J (fun C=>?_)
 refine cl rfl aof rfl<|cl rfl (ak1 (z:=l.c)) rfl<|cl rfl aBp rfl<|cl rfl (ak0 (aEY hn)) rfl<|cl rfl aoX rfl<|cl rfl (ak1 (z:=l.a)) rfl<|?_
 refine cl rfl abz rfl<|cl rfl (ak1 (z:=l.b)) rfl<|cl rfl abz rfl<|?_
 exact rz rfl (by rw[←aq2];rfl)
instance BPt.base (l:LnQ) [LB l]:BPt l.base 900:=by
 rw[←aq2]
 constructor
 ·exact BQ.mono (inferInstance:BQ (-((l.c:Rat)/l.dir.dot l.dir)*(l.a:Rat)) _) (by decide)
 ·exact BQ.mono (inferInstance:BQ (-((l.c:Rat)/l.dir.dot l.dir)*(l.b:Rat)) _) (by decide)
theorem aHP{l:LnQ}{t:Rat}{k:Nat}[hl:LB l][ht:BQ t k](hn:l.Ne)(hk:k≤200000:=by decide):PF GB prog 208 [eL l,eQ t] (eP (l.at t)):=by
 refine fn func208 J J ntmps208 J J (fun C=>?_)
 refine cl rfl (avE hn) rfl<|cl rfl aof rfl<|cl rfl (anX (by decide) (by decide) (by omega)) rfl<|?_
 exact rz rfl (by rw[←agv];rfl)
theorem amn{l:LnQ}{p:PtQ}{k:Nat}[hl:LB l][hp:BPt p k](hn:l.Ne)(hk:k≤200000:=by decide):PF GB prog 235 [eL l,eP p] (eQ (abB l p)):=by
 refine fn func235 J J ntmps235 J J (fun C=>?_)
 refine cl rfl aof rfl<|cl rfl (aBp (by omega) (by decide)) rfl<|cl rfl (aBp (by omega) (by decide)) rfl<|cl rfl (ak0 (aEY hn) (by omega) (by decide)) rfl<|?_
 exact rz J J
instance BI.crossI (l m:LnQ) [LB l] [LB m]:BI (crossI l m) 385:=inferInstanceAs (BI (l.a*m.b-m.a*l.b) 385)
instance BI.meetX (l m:LnQ) [LB l] [LB m]:BI (meetX l m) 385:=inferInstanceAs (BI (l.b*m.c-m.b*l.c) 385)
instance BI.meetY (l m:LnQ) [LB l] [LB m]:BI (meetY l m) 385:=inferInstanceAs (BI (m.a*l.c-l.a*m.c) 385)
instance BPt.imeet (l m:LnQ) [LB l] [LB m]:BPt (abS l m) 772:=by
 unfold abS
 split
 ·exact⟨BQ.mono (k:=1) ⟨by decide,by decide⟩ (by decide),BQ.mono (k:=1) ⟨by decide,by decide⟩ (by decide)⟩
 ·exact⟨inferInstanceAs (BQ ((meetX l m:Rat)/(crossI l m:Rat)) 772),inferInstanceAs (BQ ((meetY l m:Rat)/(crossI l m:Rat)) 772)⟩
theorem akh(l m:LnQ):(((l.a:Rat)*(m.b:Rat)-(m.a:Rat)*(l.b:Rat)).num.sign=0)↔crossI l m=0:=by
 rw[abx,←aeF]
 exact dQ
theorem aqf{l m:LnQ}(h:crossI l m≠0):(l.a:Rat)*(m.b:Rat)-(m.a:Rat)*(l.b:Rat)≠0:=by
 rw[←aeF]
 exact fun e=>h (dQ.1 e)
theorem azs{l m:LnQ}[hl:LB l][hm:LB m]:PF GB prog 254 [eL l,eL m] (.tp [eP (abS l m),vB (decide (crossI l m≠0))]):=by
 refine fn func254 J J ntmps254 J J (fun C=>?_)
 refine cl rfl (ak1 (z:=l.a)) rfl<|cl rfl (ak1 (z:=m.b)) rfl<|cl rfl abz rfl<|cl rfl (ak1 (z:=m.a)) rfl<|cl rfl (ak1 (z:=l.b)) rfl<|?_
 refine cl rfl abz rfl<|cl rfl alh rfl<|cl rfl q_S rfl<|?_
 refine br J J J (fun hc26=>?_) (fun hc26=>?_)
 ·
  have hcr:=(akh l m).1 hc26
  exact rz rfl (by unfold abS;rw[if_pos hcr,decide_eq_false (fun e=>e hcr)];show DV.tp [.ag [_, .sl [], .sl [],_, .sl [], .sl []],_]= .tp [eP ⟨0,0⟩,_];unfold eP dD;simp only[show(0:Rat).num=0 from rfl,show(0:Rat).den=1 from rfl,kK,adt];rfl)
 ·
  have hcr:crossI l m≠0:=fun e=>hc26 ((akh l m).2 e)
  refine cl rfl (ak1 (z:=l.b)) rfl<|cl rfl (ak1 (z:=m.c)) rfl<|cl rfl abz rfl<|cl rfl (ak1 (z:=m.b)) rfl<|cl rfl (ak1 (z:=l.c)) rfl<|?_
  refine cl rfl abz rfl<|cl rfl alh rfl<|cl rfl (ak1 (z:=m.a)) rfl<|cl rfl (ak1 (z:=l.c)) rfl<|cl rfl abz rfl<|cl rfl (ak1 (z:=l.a)) rfl<|?_
  refine cl rfl (ak1 (z:=m.c)) rfl<|cl rfl abz rfl<|cl rfl alh rfl<|cl rfl (ak0 (aqf hcr)) rfl<|cl rfl (ak0 (aqf hcr)) rfl<|?_
  exact rz rfl (by unfold abS;rw[if_neg hcr,decide_eq_true hcr,ak3,akV,aeF];rfl)
def ai9(l m:LnQ):Int:=if(l.a-m.a).sign≠0 then(l.a-m.a).sign else if(l.b-m.b).sign≠0 then(l.b-m.b).sign else(l.c-m.c).sign
theorem ahn(l m:LnQ):ai9 l m=0↔l=m:=by
 unfold ai9
 constructor
 ·intro h
  split at h
  ·contradiction
  ·split at h
   ·contradiction
   ·rename_i h1 h2
    have a1:=iM.1 (Decidable.not_not.1 h1)
    have a2:=iM.1 (Decidable.not_not.1 h2)
    have a3:=iM.1 h
    exact LnQ.ext' (by omega) (by omega) (by omega)
 ·rintro rfl
  simp
theorem ap8{l m:LnQ}[hl:LB l][hm:LB m]:PF GB prog 179 [eL l,eL m] (vI (ai9 l m)):=by
 refine fn func179 J J ntmps179 J J (fun C=>?_)
 refine cl rfl (ahF (a:=l.a) (b:=m.a)) rfl<|?_
 refine br J J J (fun hc13=>?_) (fun hc13=>?_)
 ·
  exact rz rfl (by show vI _=_;unfold ai9;rw[if_pos hc13])
 ·
  refine cl rfl (ahF (a:=l.b) (b:=m.b)) rfl<|?_
  refine br J J J (fun hc21=>?_) (fun hc21=>?_)
  ·
   exact rz rfl (by show vI _=_;unfold ai9;rw[if_neg hc13,if_pos hc21])
  ·
   refine cl rfl (ahF (a:=l.c) (b:=m.c)) rfl<|?_
   exact rz rfl (by show vI _=_;unfold ai9;rw[if_neg hc13,if_neg hc21])
theorem ayN{v:PtQ}:PF GB prog 262 [eP v] (vI v.half):=by
 refine fn func262 J J ntmps262 J J (fun C=>?_)
 refine cl rfl (q_S (q:=v.x)) rfl<|cl rfl (q_S (q:=v.y)) rfl<|?_
 refine cs 13 J J J (fun hg13=>?_) (fun hg13=>?_)
 ·
  refine br J J J (fun hc16=>?_) (fun hc16=>?_)
  ·
   exact rz rfl (by show vI _=vI _;unfold PtQ.half;generalize v.x.num.sign=sx at*;generalize v.y.num.sign=sy at*;congr 1;(repeat' split)<;>omega)
  ·
   refine cs 19 J J J (fun hg19=>?_) (fun hg19=>?_)
   ·
    exact rz rfl (by show vI _=vI _;unfold PtQ.half;generalize v.x.num.sign=sx at*;generalize v.y.num.sign=sy at*;congr 1;(repeat' split)<;>omega)
   ·
    refine cs 22 J J J (fun hg22=>?_) (fun hg22=>?_)
    ·
     refine br J J J (fun hc26=>?_) (fun hc26=>?_)
     ·
      exact rz rfl (by show vI _=vI _;unfold PtQ.half;generalize v.x.num.sign=sx at*;generalize v.y.num.sign=sy at*;congr 1;(repeat' split)<;>omega)
     ·
      exact rz rfl (by show vI _=vI _;unfold PtQ.half;generalize v.x.num.sign=sx at*;generalize v.y.num.sign=sy at*;congr 1;(repeat' split)<;>omega)
    ·
     exact rz rfl (by show vI _=vI _;unfold PtQ.half;generalize v.x.num.sign=sx at*;generalize v.y.num.sign=sy at*;congr 1;(repeat' split)<;>omega)
 ·
  refine cs 19 J J J (fun hg19=>?_) (fun hg19=>?_)
  ·
   exact rz rfl (by show vI _=vI _;unfold PtQ.half;generalize v.x.num.sign=sx at*;generalize v.y.num.sign=sy at*;congr 1;(repeat' split)<;>omega)
  ·
   refine cs 22 J J J (fun hg22=>?_) (fun hg22=>?_)
   ·
    refine br J J J (fun hc26=>?_) (fun hc26=>?_)
    ·
     exact rz rfl (by show vI _=vI _;unfold PtQ.half;generalize v.x.num.sign=sx at*;generalize v.y.num.sign=sy at*;congr 1;(repeat' split)<;>omega)
    ·
     exact rz rfl (by show vI _=vI _;unfold PtQ.half;generalize v.x.num.sign=sx at*;generalize v.y.num.sign=sy at*;congr 1;(repeat' split)<;>omega)
   ·
    exact rz rfl (by show vI _=vI _;unfold PtQ.half;generalize v.x.num.sign=sx at*;generalize v.y.num.sign=sy at*;congr 1;(repeat' split)<;>omega)
theorem aEP(z:Int): -1≤z.sign∧z.sign≤1:=by
 rcases lQ z 0 with h|h|h
 ·rw[dT h];omega
 ·rw[h];decide
 ·rw[dS h];omega
theorem aCc{u v:PtQ}{i j:Nat}[hu:BPt u i][hv:BPt v j](hi:i≤200000:=by decide)(hj:j≤200000:=by decide):PF GB prog 210 [eP u,eP v] (vI (aay u v)):=by
 refine fn func210 J J ntmps210 J J (fun C=>?_)
 refine cl rfl (ayN (v:=u)) rfl<|cl rfl (ayN (v:=v)) rfl<|?_
 refine br J J J (fun hc13=>?_) (fun hc13=>?_)
 ·
  refine br J J J (fun hc16=>?_) (fun hc16=>?_)
  ·
   exact rz rfl (by show vI _=vI _;unfold aay;rw[if_pos hc16])
  ·
   exact rz rfl (by show vI _=vI _;unfold aay;rw[if_neg hc16,if_pos (by omega)])
 ·
  refine cl rfl (aml hi hj) rfl<|cl (hv:=by simp only[aaj];exact(by have:=aEP (u.cross v).num;omega)) rfl q_S rfl<|?_
  exact rz rfl (by show vI _=vI _;unfold aay;rw[if_neg (by omega),if_neg (by omega)])
instance BQ.i1:BQ (((1:Int):Rat)) 2:=⟨by decide,by decide⟩
def eV(v:IvQ):DV:= .ag [.v (.bool (decide (v.lo.num<0))),dN v.lo.num.natAbs,dD v.lo.den, .v (.bool (decide (v.hi.num<0))),dN v.hi.num.natAbs,dD v.hi.den, .v (.bool v.nl), .v (.bool v.nh)]
theorem aC5:eV IvQ.all= .ag [.v (.bool false), .sl [], .sl [], .v (.bool false), .sl [], .sl [], .v (.bool true), .v (.bool true)]:=by
 unfold eV IvQ.all dD
 simp only[show(0:Rat).num=0 from rfl,show(0:Rat).den=1 from rfl,kK,adt];rfl
theorem avz:eQ 0= .ag [.v (.bool false), .sl [], .sl []]:=by
 unfold eQ dD
 simp only[show(0:Rat).num=0 from rfl,show(0:Rat).den=1 from rfl,kK,adt];rfl
def abF(v:IvQ):Rat:=if v.nl=true∧v.nh=true then 0 else if v.nl=true then v.hi-1 else if v.nh=true then v.lo+1 else(v.lo+v.hi)/2
theorem azo:PF GB prog 253 [] (eV IvQ.all):=by
 refine fn func253 J J ntmps253 J J (fun C=>?_)
 exact rz rfl (by rw[aC5];rfl)
theorem aw4{v:IvQ}{i:Nat}[hl:BQ v.lo i][hh:BQ v.hi i](hi:i≤100000:=by decide):PF GB prog 209 [eV v] (eQ (abF v)):=by
 refine fn func209 J J ntmps209 J J (fun C=>?_)
 refine csb 6 J J J (fun hg6=>?_) (fun hg6=>?_)
 ·
  refine bb J J J (fun hc3=>?_) (fun hc3=>?_)
  ·
   exact rz rfl (by unfold abF;rw[if_pos ⟨hg6,hc3⟩,avz];rfl)
  ·
   refine bb J J J (fun hc11=>?_) (fun hc11=>?_)
   ·
    refine cl rfl (aoo (n:=1) (by decide) (by decide)) rfl<|cl rfl (alh (a:=v.hi) (b:=((1:Int):Rat)) (by omega) (by decide)) rfl<|?_
    exact rz rfl (by unfold abF;rw[if_neg (by simp[hc3]),if_pos hc11];rfl)
   ·
    refine bb J J J (fun hc18=>?_) (fun hc18=>?_)
    ·
     refine cl rfl (aoo (n:=1) (by decide) (by decide)) rfl<|cl rfl (ae7 (a:=v.lo) (b:=((1:Int):Rat)) (by omega) (by decide)) rfl<|?_
     exact rz rfl (by simp[hg6] at hc11)
    ·
     refine cl rfl (aCt (a:=v.lo) (b:=v.hi) (by omega) (by omega)) rfl<|?_
     exact rz rfl (by simp[hg6] at hc11)
 ·
  refine bb J J J (fun hc11=>?_) (fun hc11=>?_)
  ·
   refine cl rfl (aoo (n:=1) (by decide) (by decide)) rfl<|cl rfl (alh (a:=v.hi) (b:=((1:Int):Rat)) (by omega) (by decide)) rfl<|?_
   exact rz rfl (by simp[hg6] at hc11)
  ·
   refine bb J J J (fun hc18=>?_) (fun hc18=>?_)
   ·
    refine cl rfl (aoo (n:=1) (by decide) (by decide)) rfl<|cl rfl (ae7 (a:=v.lo) (b:=((1:Int):Rat)) (by omega) (by decide)) rfl<|?_
    exact rz rfl (by unfold abF;rw[if_neg (by simp[hg6]),if_neg (by simp[hg6]),if_pos hc18];rfl)
   ·
    refine cl rfl (aCt (a:=v.lo) (b:=v.hi) (by omega) (by omega)) rfl<|?_
    exact rz rfl (by unfold abF;rw[if_neg (by simp[hg6]),if_neg (by simp[hg6]),if_neg (by simp[hc18])];rfl)
theorem BQ.of_fracI{q:Rat}{n D:Int}{i:Nat}(hd:0<D.natAbs)(h:q*((D.natAbs:Nat):Rat)=(n:Rat))(hn:BI n i)(hD:BI D i):BQ q i:=BQ.of_frac hd h hn.h hD.h
theorem aqL{m:Int}{i j:Nat}(h:BI m i)(hij:i≤j):BI m j:=⟨dX h.h (bT (by decide) hij)⟩
theorem aim{l m:LnQ}[LB l][LB m](hn:l.Ne)(h:crossI l m≠0):BQ (abB l (abS l m)) 1200:=by
 have e:=arG hn h
 have hA:BI (crossI l m*(l.a*l.a+l.b*l.b)) _:=inferInstance
 have hB:BI (meetX l m*l.b-meetY l m*l.a) _:=inferInstance
 have hne:crossI l m*(l.a*l.a+l.b*l.b)≠0:=by
  intro q
  rcases sJ.1 q with q|q
  ·exact h q
  ·have h1:=anc hn
   simp only[LnQ.dir,PtQ.dot] at h1
   have h2:((l.a*l.a+l.b*l.b:Int):Rat)=((0:Int):Rat):=by rw[q]
   rw[qR,cW,cW] at h2
   have h3:((0:Int):Rat)=0:=rfl
   rw[h3] at h2
   grind
 have hA':=aqL (j:=1200) hA (by decide)
 have hB':=aqL (j:=1200) hB (by decide)
 generalize crossI l m*(l.a*l.a+l.b*l.b)=D at*
 generalize meetX l m*l.b-meetY l m*l.a=M at*
 by_cases hD:0<D
 ·refine BQ.of_fracI (n:=M) (D:=D) (by omega) ?_ hB' hA'
  rw[←e]
  congr 1
  have:((D.natAbs:Nat):Int)=D:=by omega
  rw[←this];rfl
 ·refine BQ.of_fracI (n:= -M) (D:=D) (by omega) ?_ (BI.neg M 1200 (h:=hB')) hA'
  rw[oN,←e]
  have:((D.natAbs:Nat):Rat)= -(D:Rat):=by
   have h1:((D.natAbs:Nat):Int)= -D:=by omega
   rw[←oN,←h1];rfl
  rw[this];grind
theorem ayr(k:Rat):k.num.sign≤0↔ ¬0<k:=by rw[←abW];omega
theorem awN{w:IvQ}(h1: ¬w.nl=true)(h2: ¬w.nh=true)(h3:0≤abg w.lo w.hi):w.empty=true:=by
 unfold IvQ.empty
 simp[h1,h2,h3]
theorem anz{w:IvQ}(h:w.nl=true):w.empty=false:=by unfold IvQ.empty;simp[h]
theorem aol{w:IvQ}(h:w.nh=true):w.empty=false:=by unfold IvQ.empty;simp[h]
theorem amH{w:IvQ}(h: ¬0≤abg w.lo w.hi):w.empty=false:=by unfold IvQ.empty;simp[h]
def acl(l:LnQ):List LnQ→IvQ→IvQ×Bool
 |[],v=>(v,true)
 |m::t,v=>if m=l then acl l t v else if l.cutB v m=true then acl l t (l.cutV v m) else(l.cutV v m,false)
theorem adL{l:LnQ}: ∀{c:List LnQ} {v:IvQ},(acl l c v).2=(ach l c v).isSome
 |[],v=>rfl
 |m::t,v=>by
  rw[acl,ahI]
  split
  ·exact adL
  ·split
   ·exact adL
   ·rfl
structure Stp (l:LnQ) (c:List LnQ) (k:Nat) (v:IvQ):Prop where
 le:k≤c.length
 p:ach l (c.drop k) v=ach l c IvQ.all
 e:acl l (c.drop k) v=acl l c IvQ.all
 z:IvZ v
 lo:BQ v.lo 1200
 hi:BQ v.hi 1200
theorem Stp.skip{l:LnQ}{c:List LnQ}{k:Nat}{v:IvQ}(h:Stp l c k v)(hk:k<c.length)(e:c[k]=l):Stp l c (k+1) v:=
 ⟨hk,by have:=h.p;rw[bQ hk,ahI,if_pos e] at this;exact this,by have:=h.e;rw[bQ hk,acl,if_pos e] at this;exact this,h.z,h.lo,h.hi⟩
theorem Stp.cut{l:LnQ}{c:List LnQ}{k:Nat}{v w:IvQ}(h:Stp l c k v)(hk:k<c.length)(e:c[k]≠l)(hb:l.cutB v c[k]=true)(hw:l.cutV v c[k]=w)(z:IvZ w)(lo:BQ w.lo 1200)(hi:BQ w.hi 1200):Stp l c (k+1) w:=
 ⟨hk,by have:=h.p;rw[bQ hk,ahI,if_neg e,if_pos hb,hw] at this;exact this,by have:=h.e;rw[bQ hk,acl,if_neg e,if_pos hb,hw] at this;exact this,z,lo,hi⟩
theorem Stp.no{l:LnQ}{c:List LnQ}{k:Nat}{v w:IvQ}(h:Stp l c k v)(hk:k<c.length)(e:c[k]≠l)(hb:l.cutB v c[k]=false)(hw:l.cutV v c[k]=w):acl l c IvQ.all=(w,false):=by
 rw[←h.e,bQ hk,acl,if_neg e,if_neg (by rw[hb];decide),hw]
theorem Stp.yes{l:LnQ}{c:List LnQ}{k:Nat}{v:IvQ}(h:Stp l c k v)(hk:c.length≤k):acl l c IvQ.all=(v,true):=by
 rw[←h.e,jT hk];rfl
theorem Stp.all{l:LnQ}{c:List LnQ}:Stp l c 0 IvQ.all:=⟨bX _,by rw[iX],by rw[iX],IvZ.all,BQ.mono (k:=1) ⟨by decide,by decide⟩ (by decide),BQ.mono (k:=1) ⟨by decide,by decide⟩ (by decide)⟩
theorem auC{v:IvQ}{t:Rat}(h:v.nl=true∨0<abg t v.lo):(⟨t,v.hi,false,v.nh⟩:IvQ)=aih v t:=by unfold aih;rw[if_pos h]
theorem aAR{v:IvQ}{t:Rat}(h: ¬v.nl=true)(h2: ¬0<abg t v.lo):v=aih v t:=by unfold aih;rw[if_neg (fun e=>e.elim h h2)]
theorem asr{v:IvQ}{t:Rat}(h:v.nh=true∨abg t v.hi<0):(⟨v.lo,t,v.nl,false⟩:IvQ)=aii v t:=by unfold aii;rw[if_pos h]
theorem aAs{v:IvQ}{t:Rat}(h: ¬v.nh=true)(h2: ¬abg t v.hi<0):v=aii v t:=by unfold aii;rw[if_neg (fun e=>e.elim h h2)]
def arQ(l m:LnQ)(v:IvQ):IvQ:=if 0<(m.dir.cross l.dir).num.sign then aih v (abB l (abS l m)) else aii v (abB l (abS l m))
theorem ai1{l m:LnQ}{v:IvQ}[LB l][LB m](hn:l.Ne)(hz:IvZ v)(hlo:BQ v.lo 1200)(hhi:BQ v.hi 1200)(h0:crossI l m≠0):l.cutV v m=arQ l m v∧l.cutB v m=!(arQ l m v).empty∧IvZ (arQ l m v)∧BQ (arQ l m v).lo 1200∧BQ (arQ l m v).hi 1200:=by
 have hb:=aim (l:=l) (m:=m) hn h0
 unfold arQ
 split
 ·rename_i h
  obtain⟨_,h1,h2⟩:=az0 hn hz ((abW _).1 h)
  refine⟨h1,h2,hz.lo' _,?_⟩
  unfold aih;split
  ·exact⟨hb,hhi⟩
  ·exact⟨hlo,hhi⟩
 ·rename_i h
  obtain⟨h1,h2⟩:=aAk hn hz h0 (fun e=>h ((abW _).2 e))
  refine⟨h1,h2,hz.hi' _,?_⟩
  unfold aii;split
  ·exact⟨hlo,hb⟩
  ·exact⟨hlo,hhi⟩
theorem ain{l:LnQ}[LB l](hn:l.Ne): ∀{c:List LnQ} {v:IvQ},(∀m∈c,LB m)→IvZ v→BQ v.lo 1200→BQ v.hi 1200→BQ (acl l c v).1.lo 1200∧BQ (acl l c v).1.hi 1200
 |[],v,_,_,h1,h2=>⟨h1,h2⟩
 |m::t,v,hc,hz,h1,h2=>by
  haveI:=hc m aZ
  have hw:IvZ (l.cutV v m)∧BQ (l.cutV v m).lo 1200∧BQ (l.cutV v m).hi 1200:=by
   by_cases h0:crossI l m=0
   ·rw[(ahe (v:=v) h0).1];exact⟨hz,h1,h2⟩
   ·obtain⟨u1,_,u3,u4,u5⟩:=ai1 (v:=v) hn hz h1 h2 h0
    rw[u1];exact⟨u3,u4,u5⟩
  have hc':=fun m hm=>hc m (aJ _ hm)
  rw[acl]
  split
  ·exact ain hn hc' hz h1 h2
  ·split
   ·exact ain hn hc' hw.1 hw.2.1 hw.2.2
   ·exact hw.2
theorem ayX{c:List LnQ}{i:Nat}(hc: ∀m∈c,LB m)(hok: ∀m∈c,m.ok)(hn:c.length≤1000)(hi:i<c.length):PF GB prog 205 [.sl (c.map eL),vI (i:Nat)] (.tp [eV (acl (c[i]'hi) c IvQ.all).1,vB (acl (c[i]'hi) c IvQ.all).2]):=by
 have hcl:=ae4 c
 obtain⟨l,hl⟩: ∃l,l=c[i]:=⟨_,rfl⟩
 rw[←hl]
 haveI hlb:LB l:=hl▸hc _ (cZ hi)
 have hlo:l.ok:=hl▸hok _ (cZ hi)
 refine fn func205 J J ntmps205 J J (fun C=>?_)
 refine ix (fu:=⟨1⟩) _ rfl (aeT hi) rfl<|?_
 refine eqF 16 (.d (eL l)) rfl (by rw[hl];rfl) ?_
 refine gx rfl<|cl (fu:=⟨9⟩) rfl azo rfl<|?_
 refine eqF 19 (.d (vI (c.length:Nat))) rfl (by rw[hcl];rfl) ?_
 refine gx rfl<|?_
 refine lp (X:=IvQ×Nat) (fun⟨v,k⟩=>[(20, .d (vI (k:Nat))),(19, .d (vI (c.length:Nat))),(18, .d (.sl (c.map eL))),(1, .d (vI (i:Nat))),(6, .ov 6 0),(7, .ov 7 0),(4, .ov 4 0)]) (fun⟨v,k⟩=>[(7,some (.o 223 [.d ((.v (.bool (decide (v.lo.num<0))))), .d (dN v.lo.num.natAbs), .d (dD v.lo.den), .d ((.v (.bool (decide (v.hi.num<0))))), .d (dN v.hi.num.natAbs), .d (dD v.hi.den), .d ((.v (.bool v.nl))), .d ((.v (.bool v.nh)))] true)),(6,some (.o 175 [.d ((.v (.bool (decide (l.a<0))))), .d (dN l.a.natAbs), .d ((.v (.bool (decide (l.b<0))))), .d (dN l.b.natAbs), .d ((.v (.bool (decide (l.c<0))))), .d (dN l.c.natAbs)] true)),(4,some (.o 223 [.ff, .nl, .nl, .ff, .nl, .nl, .ff, .ff] true))]) (fun⟨v,k⟩=>Stp l c k v) (fun⟨v,k⟩=>c.length-k) ⟨IvQ.all,0⟩ rfl Stp.all (fun _=>rfl) (fun⟨v,k⟩ hk=>?_)
 try dsimp only at hk⊢
 have hS:=hk
 refine br J J J (fun hc21=>?_) (fun hc21=>?_)
 ·
  have hk:k<c.length:=by omega
  obtain⟨m,hm⟩: ∃m,m=c[k]:=⟨_,rfl⟩
  haveI hmb:LB m:=hm▸hc _ (cZ hk)
  have hmo:m.ok:=hm▸hok _ (cZ hk)
  refine ix (fu:=⟨1⟩) _ rfl (aeT hk) rfl<|?_
  refine eqF 24 (.d (eL m)) rfl (by rw[hm];rfl) ?_
  refine gx rfl<|?_
  refine cs 28 J J J (fun hg28=>?_) (fun hg28=>?_)
  ·
   have hinv:Stp l c (k+1) v:=hS.skip hk (by rw[hl];congr 1;omega)
   exact at_ ⟨v,k+1⟩ (by dsimp only;exact⟨hinv,(by omega)⟩)
  ·
   refine cl rfl (ap8 (l:=l) (m:=m)) rfl<|?_
   refine br J J J (fun hc33=>?_) (fun hc33=>?_)
   ·
    have hinv:Stp l c (k+1) v:=hS.skip hk (by rw[←hm,(ahn l m).1 hc33])
    exact at_ ⟨v,k+1⟩ (by dsimp only;exact⟨hinv,(by omega)⟩)
   ·
    have hne:c[k]≠l:=fun e=>hc33 ((ahn l m).2 (by rw[hm,e]))
    refine cl (fu:=⟨13⟩) rfl (azs (l:=l) (m:=m)) rfl<|?_
    refine eqF 41 (.d (.v (.bool (decide (crossI l m=0))))) rfl (by simp) ?_
    refine gx rfl<|?_
    refine bd J J J (fun hc41=>?_) (fun hc41=>?_)
    ·
     refine cl rfl (avE hlo.ne) rfl<|cl rfl (aqC (l:=m) (p:=l.base)) rfl<|?_
     refine br J J J (fun hc46=>?_) (fun hc46=>?_)
     ·
      have hno:=hS.no (w:=v) hk hne (by have:=(ahe (v:=v) hc41).2;rw[←hm];cases hb:l.cutB v m with|false=>rfl|true=>exact absurd (this.1 hb) ((ayr _).1 hc46)) (by rw[←hm];exact(ahe (v:=v) hc41).1)
      exact rz rfl (by rw[hno];rfl)
     ·
      have hinv:Stp l c (k+1) v:=by have:=ahe (v:=v) hc41;exact hS.cut hk hne (by rw[←hm];exact this.2.2 (by have:=mt (ayr (m.value l.base)).2 hc46;exact Decidable.not_not.1 this)) (by rw[←hm];exact this.1) hS.z hS.lo hS.hi
      exact at_ ⟨v,k+1⟩ (by dsimp only;exact⟨hinv,(by omega)⟩)
    ·
     obtain⟨u1,u2,u3,u4,u5⟩:=ai1 (v:=v) hlo.ne hS.z hS.lo hS.hi hc41
     haveI htb:=aim hlo.ne hc41
     haveI hvl:=hS.lo
     haveI hvh:=hS.hi
     refine cl (fu:=⟨0⟩) rfl (amn (l:=l) (p:=abS l m) hlo.ne) rfl<|?_
     obtain⟨t,ht⟩: ∃t,t=abB l (abS l m):=⟨_,rfl⟩
     refine eqF 50 (.d (eQ t)) rfl (by rw[ht]) ?_
     rw[←ht] at htb
     refine gx (fu:=⟨5⟩) rfl<|?_
     refine mg (X:=IvQ) (fun w=>[(20, .d (vI (k:Nat))),(19, .d (vI (c.length:Nat))),(18, .d (.sl (c.map eL))),(1, .d (vI (i:Nat))),(6, .ov 6 0),(7, .ov 7 0),(4, .ov 4 0)]) (fun w=>[(7,some (.o 223 [.d ((.v (.bool (decide (w.lo.num<0))))), .d (dN w.lo.num.natAbs), .d (dD w.lo.den), .d ((.v (.bool (decide (w.hi.num<0))))), .d (dN w.hi.num.natAbs), .d (dD w.hi.den), .d ((.v (.bool w.nl))), .d ((.v (.bool w.nh)))] true)),(6,some (.o 175 [.d ((.v (.bool (decide (l.a<0))))), .d (dN l.a.natAbs), .d ((.v (.bool (decide (l.b<0))))), .d (dN l.b.natAbs), .d ((.v (.bool (decide (l.c<0))))), .d (dN l.c.natAbs)] true)),(4,some (.o 223 [.ff, .nl, .nl, .ff, .nl, .nl, .ff, .ff] true))]) (fun w=>w=arQ l m v) [20,19,18,1,6,7,4] [7,6,4] rfl ?_ (fun _=>rfl) (fun w hw=>?_)
     ·
      refine gx rfl<|cl rfl (aof (l:=m)) rfl<|cl rfl (aof (l:=l)) rfl<|cl rfl (aml (p:=m.dir) (q:=l.dir)) rfl<|cl rfl (q_S (q:=m.dir.cross l.dir)) rfl<|?_
      refine br J J J (fun hc57=>?_) (fun hc57=>?_)
      ·
       refine csb 60 J J J (fun hg60=>?_) (fun hg60=>?_)
       ·
        refine dpE 7 J J J ?_
        exact at_ ⟨t,v.hi,false,v.nh⟩ (by unfold arQ;rw[if_pos hc57,←ht];exact auC (.inl hg60))
       ·
        refine cl rfl (q_C (a:=t) (b:=v.lo)) rfl<|?_
        refine br J J J (fun hc66=>?_) (fun hc66=>?_)
        ·
         refine dpE 7 J J J ?_
         exact at_ ⟨t,v.hi,false,v.nh⟩ (by unfold arQ;rw[if_pos hc57,←ht];exact auC (.inr hc66))
        ·
         exact at_ v (by unfold arQ;rw[if_pos hc57,←ht];exact aAR (by simp[hg60]) hc66)
      ·
       refine csb 72 J J J (fun hg72=>?_) (fun hg72=>?_)
       ·
        refine dpE 7 J J J ?_
        exact at_ ⟨v.lo,t,v.nl,false⟩ (by unfold arQ;rw[if_neg hc57,←ht];exact asr (.inl hg72))
       ·
        refine cl rfl (q_C (a:=t) (b:=v.hi)) rfl<|?_
        refine br J J J (fun hc78=>?_) (fun hc78=>?_)
        ·
         refine dpE 7 J J J ?_
         exact at_ ⟨v.lo,t,v.nl,false⟩ (by unfold arQ;rw[if_neg hc57,←ht];exact asr (.inr hc78))
        ·
         exact at_ v (by unfold arQ;rw[if_neg hc57,←ht];exact aAs (by simp[hg72]) hc78)
     ·
      rw[←hw] at u1 u2 u3 u4 u5
      haveI:=u4
      haveI:=u5
      refine csb 85 J J J (fun hg85=>?_) (fun hg85=>?_)
      ·
       refine csb 90 J J J (fun hg90=>?_) (fun hg90=>?_)
       ·
        refine cl rfl (q_C (a:=w.lo) (b:=w.hi)) rfl<|?_
        refine br J J J (fun hc97=>?_) (fun hc97=>?_)
        ·
         have hno:=hS.no (w:=w) hk hne (by rw[←hm,u2,awN (by simpa using hg85) (by simpa using hg90) hc97];rfl) (by rw[←hm,u1])
         exact rz rfl (by rw[hno];rfl)
        ·
         have hinv:Stp l c (k+1) w:=hS.cut hk hne (by rw[←hm,u2,amH hc97];rfl) (by rw[←hm,u1]) u3 u4 u5
         exact at_ ⟨w,k+1⟩ (by dsimp only;exact⟨hinv,(by omega)⟩)
       ·
        have hinv:Stp l c (k+1) w:=hS.cut hk hne (by rw[←hm,u2,aol (by simpa using hg90)];rfl) (by rw[←hm,u1]) u3 u4 u5
        exact at_ ⟨w,k+1⟩ (by dsimp only;exact⟨hinv,(by omega)⟩)
      ·
       have hinv:Stp l c (k+1) w:=hS.cut hk hne (by rw[←hm,u2,anz (by simpa using hg85)];rfl) (by rw[←hm,u1]) u3 u4 u5
       exact at_ ⟨w,k+1⟩ (by dsimp only;exact⟨hinv,(by omega)⟩)
 ·
  exact rz rfl (by rw[hS.yes (by omega)];rfl)
def eLn(l:LnQ):DV:= .ag [vI (fn_ (l.a:Rat)),vI (fd_ (l.a:Rat)),fp_ (l.a:Rat),vI (fn_ (l.b:Rat)),vI (fd_ (l.b:Rat)),fp_ (l.b:Rat),vI (fn_ (l.c:Rat)),vI (fd_ (l.c:Rat)),fp_ (l.c:Rat)]
def eZ(p:PtQ):DV:= .ag [vI (fn_ p.x),vI (fd_ p.x),fp_ p.x,vI (fn_ p.y),vI (fd_ p.y),fp_ p.y]
def eW(v:IvQ):DV:= .ag [vI (fn_ v.lo),vI (fd_ v.lo),fp_ v.lo,vI (fn_ v.hi),vI (fd_ v.hi),fp_ v.hi, .v (.bool v.nl), .v (.bool v.nh)]
theorem ayc{G:Gh}{t:List DV}{vs:List Value}(h:IsLs G (vI 0::vI 0:: .v (.pointer none)::t) vs):IsLs G (vI (fn_ 0)::vI (fd_ 0)::fp_ 0::t) vs:=by
 obtain⟨y1,l1,rfl,k1,g1⟩:=aae.1 h
 obtain⟨y2,l2,rfl,k2,g2⟩:=aae.1 g1
 obtain⟨y3,l3,rfl,k3,g3⟩:=aae.1 g2
 have e:decide (Big 0)=false:=decide_eq_false fun h=>asZ h rfl
 exact .cons k1 (.cons k2 (.cons (aoT.2 (.inl ⟨e,aa4.1 k3⟩)) g3))
theorem asg{G:Gh}(a:List DV){t:List DV}{vs:List Value}(h:IsLs G (a++vI 0::vI 0:: .v (.pointer none)::t) vs):IsLs G (a++vI (fn_ 0)::vI (fd_ 0)::fp_ 0::t) vs:=by
 obtain⟨x,y,rfl,h1,h2⟩:=h.unapp
 exact h1.app (ayc h2)
theorem aFg(G:Gh)(y:Value)(k:Is G (.ag [vI 0,vI 0, .v (.pointer none),vI 0,vI 0, .v (.pointer none), .v (.bool true), .v (.bool true)]) y):Is G (eW IvQ.all) y:=by
 obtain⟨l,rfl,g⟩:=abX.1 k
 exact abX.2 ⟨l,rfl,ayc (asg [vI 0,vI 0, .v (.pointer none)] g)⟩
def orI:List Int→Int
 |[]=>0
 |a::t=>if a≠0 then a else orI t
theorem BPt.nor(l:LnQ)[LB l]:BPt l.nor 97:=⟨inferInstanceAs (BQ (l.a:Rat) 97),inferInstanceAs (BQ (l.b:Rat) 97)⟩
attribute [instance] BPt.nor
instance BPt.scale (p:PtQ) (c:Rat) (i k:Nat) [BPt p i] [BQ c k]:BPt (p.scale c) (i+k):=⟨inferInstanceAs (BQ (p.x*c) _),inferInstanceAs (BQ (p.y*c) _)⟩
instance BPt.add (p q:PtQ) (i j:Nat) [BPt p i] [BPt q j]:BPt (p.add q) (i+j+1):=⟨inferInstanceAs (BQ (p.x+q.x) _),inferInstanceAs (BQ (p.y+q.y) _)⟩
instance LB.revA (l:LnQ) [h:LB l]:LB l.rev:=⟨⟨by rw[show l.rev.a= -l.a from rfl,jX];exact h.bl.a,by rw[show l.rev.b= -l.b from rfl,jX];exact h.bl.b,by rw[show l.rev.c= -l.c from rfl,jX];exact h.bl.c⟩⟩
theorem aFL:PF GB prog 266 [] (eW IvQ.all):=by
 refine fn func266 J J ntmps266 J J (fun C=>?_)
 exact rzI rfl aFg
theorem akr{l:LnQ}:PF GB prog 194 [eLn l] (eZ l.nor):=by
 refine fn func194 J J ntmps194 J J (fun C=>?_)
 exact rz J J
theorem ajK{l:LnQ}[hl:LB l]:PF GB prog 143 [eLn l] (eZ l.dir):=by
 refine fn func143 J J ntmps143 J J (fun C=>?_)
 refine cl rfl (afw (q:=(l.a:Rat))) rfl<|?_
 exact rz J J
theorem apT{p q:PtQ}{i j:Nat}[hp:BPt p i][hq:BPt q j](hi:i≤40000000:=by decide)(hj:j≤40000000:=by decide):PF GB prog 195 [eZ p,eZ q] (eF (p.dot q)):=by
 refine fn func195 J J ntmps195 J J (fun C=>?_)
 refine cl rfl (ae8 (p:=p.x) (q:=q.x) (by omega) (by omega)) rfl<|cl rfl (ae8 (p:=p.y) (q:=q.y) (by omega) (by omega)) rfl<|cl rfl (agE (p:=p.x*q.x) (q:=p.y*q.y) (by omega) (by omega)) rfl<|?_
 exact rz J J
theorem aiG{p q:PtQ}{i j:Nat}[hp:BPt p i][hq:BPt q j](hi:i≤40000000:=by decide)(hj:j≤40000000:=by decide):PF GB prog 144 [eZ p,eZ q] (eF (p.cross q)):=by
 refine fn func144 J J ntmps144 J J (fun C=>?_)
 refine cl rfl (ae8 (p:=p.x) (q:=q.y) (by omega) (by omega)) rfl<|cl rfl (ae8 (p:=p.y) (q:=q.x) (by omega) (by omega)) rfl<|cl rfl (ahZ (p:=p.x*q.y) (q:=p.y*q.x) (by omega) (by omega)) rfl<|?_
 exact rz J J
theorem ag8{p:PtQ}{c:Rat}{i j:Nat}[hp:BPt p i][hc:BQ c j](hi:i≤40000000:=by decide)(hj:j≤40000000:=by decide):PF GB prog 74 [eZ p,eF c] (eZ (p.scale c)):=by
 refine fn func74 J J ntmps74 J J (fun C=>?_)
 refine cl rfl (ae8 (p:=p.x) (q:=c) (by omega) (by omega)) rfl<|cl rfl (ae8 (p:=p.y) (q:=c) (by omega) (by omega)) rfl<|?_
 exact rz J J
theorem anp{p q:PtQ}{i j:Nat}[hp:BPt p i][hq:BPt q j](hi:i≤40000000:=by decide)(hj:j≤40000000:=by decide):PF GB prog 73 [eZ p,eZ q] (eZ (p.add q)):=by
 refine fn func73 J J ntmps73 J J (fun C=>?_)
 refine cl rfl (agE (by omega) (by omega)) rfl<|cl rfl (agE (by omega) (by omega)) rfl<|?_
 exact rz J J
theorem avf{l:LnQ}[hl:LB l]:PF GB prog 270 [eLn l] (eZ l.base):=by
 refine fn func270 J J ntmps270 J J (fun C=>?_)
 refine cl rfl akr rfl<|cl rfl (afw (q:=(l.c:Rat))) rfl<|cl rfl (apT (p:=l.nor) (q:=l.nor)) rfl<|cl rfl (ak7 (p:= -(l.c:Rat)) (q:=l.nor.dot l.nor)) rfl<|?_
 refine cl rfl (ag8 (p:=l.nor)) rfl<|?_
 exact rz J J
theorem apL{l:LnQ}{p:PtQ}{i:Nat}[hl:LB l][hp:BPt p i](hi:i≤10000000:=by decide):PF GB prog 248 [eLn l,eZ p] (eF (l.value p)):=by
 refine fn func248 J J ntmps248 J J (fun C=>?_)
 refine cl rfl (akr (l:=l)) rfl<|cl rfl (apT (p:=l.nor) (q:=p) (by omega) (by omega)) rfl<|cl rfl (agE (p:=l.nor.dot p) (q:=(l.c:Rat)) (by omega) (by omega)) rfl<|?_
 exact rz J J
theorem ajW{l:LnQ}{p:PtQ}{i:Nat}[hl:LB l][hp:BPt p i](hi:i≤10000000:=by decide):PF GB prog 191 [eLn l,eZ p] (vI (l.value p).num.sign):=by
 refine fn func191 J J ntmps191 J J (fun C=>?_)
 refine cl rfl (apL (l:=l) (p:=p) hi) rfl<|cl rfl (acY (q:=l.value p) (by omega)) rfl<|?_
 exact rz J J
theorem aFE{l:LnQ}{t:Rat}{i:Nat}[hl:LB l][ht:BQ t i](hi:i≤10000000:=by decide):PF GB prog 267 [eLn l,eF t] (eZ (l.at t)):=by
 refine fn func267 J J ntmps267 J J (fun C=>?_)
 refine cl rfl (avf (l:=l)) rfl<|cl rfl (ajK (l:=l)) rfl<|cl rfl (ag8 (p:=l.dir) (c:=t) (by omega) (by omega)) rfl<|cl rfl (anp (p:=l.base) (q:=l.dir.scale t) (by omega) (by omega)) rfl<|?_
 exact rz J J
theorem aBW{v:IvQ}{i j:Nat}[h1:BQ v.lo i][h2:BQ v.hi j](hi:i≤40000000:=by decide)(hj:j≤40000000:=by decide):PF GB prog 296 [eW v] (vB v.empty):=by
 refine fn func296 J J ntmps296 J J (fun C=>?_)
 refine csb 6 J J J (fun hg6=>?_) (fun hg6=>?_)
 ·
  refine csb 11 J J J (fun hg11=>?_) (fun hg11=>?_)
  ·
   refine cl rfl (ajr (p:=v.lo) (q:=v.hi) (by omega) (by omega)) rfl<|?_
   exact rz rfl (by unfold IvQ.empty;simp_all [vB,aku])
  ·
   exact rz rfl (by unfold IvQ.empty;simp_all [vB,aku])
 ·
  exact rz rfl (by unfold IvQ.empty;simp_all [vB,aku])
instance IvQ.meet_lo (v w:IvQ) (i j:Nat) [h1:BQ v.lo i] [h3:BQ w.lo j]:BQ (v.meet w).lo (i+j):=by
 have a:=h1.mono (mU i j)
 have b:=h3.mono (Nat.le_add_left j i)
 unfold IvQ.meet;dsimp only;(repeat' split)<;>assumption
instance IvQ.meet_hi (v w:IvQ) (i j:Nat) [h1:BQ v.hi i] [h3:BQ w.hi j]:BQ (v.meet w).hi (i+j):=by
 have a:=h1.mono (mU i j)
 have b:=h3.mono (Nat.le_add_left j i)
 unfold IvQ.meet;dsimp only;(repeat' split)<;>assumption
theorem ayO{v w:IvQ}{i j:Nat}[h1:BQ v.lo i][h2:BQ v.hi i][h3:BQ w.lo j][h4:BQ w.hi j](hi:i≤10000000:=by decide)(hj:j≤10000000:=by decide):PF GB prog 271 [eW v,eW w] (.tp [eW (v.meet w),vB (!(v.meet w).empty)]):=by
 refine fn (fu:=⟨16⟩) func271 J J ntmps271 J J (fun C=>?_)
 refine mg (fu:=⟨1⟩) (X:=Unit) (fun _=>[(6, .ov 6 0)]) (fun _=>[(6,some (.o 199 [.d (vI (fn_ (v.meet w).lo)), .d (vI (fd_ (v.meet w).lo)), .d (fp_ (v.meet w).lo), .d (vI (fn_ v.hi)), .d (vI (fd_ v.hi)), .d (fp_ v.hi), .d (.v (.bool (v.nl&&w.nl))), .d (.v (.bool (v.nh)))] true))]) (fun _=>True) [6] [6] rfl ?_ (fun _=>rfl) (fun _ _=>?_)
 ·
  refine gx rfl<|?_
  refine bb (v1:=fun hc8=>by simp only[aaj];kernel_rfl) J J J (fun hc8=>?_) (fun hc8=>?_)
  ·
   have em:(v.meet w).lo=w.lo:=by unfold IvQ.meet;simp_all
   have eb:(v.nl&&w.nl)=w.nl:=by simp_all
   exact at_ () trivial (hO:=⟨by rw[em,eb]<;>rfl,by repeat (first|exact trivial|refine And.intro rfl ?_)⟩)
  ·
   refine bb J J J (fun hc17=>?_) (fun hc17=>?_)
   ·
    refine cl rfl (aCI (p:=v.lo) (q:=w.lo) (by omega) (by omega)) rfl<|?_
    have em:(v.meet w).lo=(if v.lo<w.lo then w.lo else v.lo):=by unfold IvQ.meet;simp_all
    have eb:(v.nl&&w.nl)=v.nl:=by simp_all
    exact at_ () trivial (hO:=⟨by rw[em,eb]<;>rfl,by repeat (first|exact trivial|refine And.intro rfl ?_)⟩)
   ·
    have em:(v.meet w).lo=v.lo:=by unfold IvQ.meet;simp_all
    have eb:(v.nl&&w.nl)=v.nl:=by simp_all
    exact at_ () trivial (hO:=⟨by rw[em,eb]<;>rfl,by repeat (first|exact trivial|refine And.intro rfl ?_)⟩)
 ·
  refine mg (X:=Unit) (fun _=>[(6, .ov 6 0)]) (fun _=>[(6,some (.o 199 [.d (vI (fn_ (v.meet w).lo)), .d (vI (fd_ (v.meet w).lo)), .d (fp_ (v.meet w).lo), .d (vI (fn_ (v.meet w).hi)), .d (vI (fd_ (v.meet w).hi)), .d (fp_ (v.meet w).hi), .d (.v (.bool (v.nl&&w.nl))), .d (.v (.bool (v.nh&&w.nh)))] true))]) (fun _=>True) [6] [6] rfl ?_ (fun _=>rfl) (fun _ _=>?_)
  ·
   refine gx rfl<|?_
   refine bb (v1:=fun hc27=>by simp only[aaj];kernel_rfl) J J J (fun hc27=>?_) (fun hc27=>?_)
   ·
    have em:(v.meet w).hi=w.hi:=by unfold IvQ.meet;simp_all
    have eb:(v.nh&&w.nh)=w.nh:=by simp_all
    exact at_ () trivial (hO:=⟨by rw[em,eb]<;>rfl,by repeat (first|exact trivial|refine And.intro rfl ?_)⟩)
   ·
    refine bb J J J (fun hc36=>?_) (fun hc36=>?_)
    ·
     refine cl rfl (aDH (p:=v.hi) (q:=w.hi) (by omega) (by omega)) rfl<|?_
     have em:(v.meet w).hi=(if w.hi<v.hi then w.hi else v.hi):=by unfold IvQ.meet;simp_all
     have eb:(v.nh&&w.nh)=v.nh:=by simp_all
     exact at_ () trivial (hO:=⟨by rw[em,eb]<;>rfl,by repeat (first|exact trivial|refine And.intro rfl ?_)⟩)
    ·
     have em:(v.meet w).hi=v.hi:=by unfold IvQ.meet;simp_all
     have eb:(v.nh&&w.nh)=v.nh:=by simp_all
     exact at_ () trivial (hO:=⟨by rw[em,eb]<;>rfl,by repeat (first|exact trivial|refine And.intro rfl ?_)⟩)
  ·
   refine cl rfl (aBW (v:=v.meet w) (i:=i+j) (j:=i+j) (by omega) (by omega)) rfl<|?_
   exact rz J J
theorem BQ.z1:BQ (0:Rat) 1:=⟨by decide,by decide⟩
theorem aww{v:IvQ}{t:Rat}{i j:Nat}[h1:BQ v.lo i][h2:BQ v.hi i][h3:BQ t j](hi:i≤10000000:=by decide)(hj:j≤9999999:=by decide):PF GB prog 271 [eW v, .ag [vI (fn_ t),vI (fd_ t),fp_ t,vI 0,vI 0, .v (.pointer none), .v (.bool false), .v (.bool true)]] (.tp [eW (v.meet ⟨t,0,false,true⟩),vB (!(v.meet ⟨t,0,false,true⟩).empty)]):=
 (ayO (v:=v) (w:=⟨t,0,false,true⟩) (j:=j+1) (h3:=h3.mono (by omega)) (h4:=BQ.z1.mono (by omega)) hi (by omega)).ofI fun G vs hv=>atr (fun y hy=>by
  obtain⟨l,rfl,g⟩:=abX.1 hy
  exact abX.2 ⟨l,rfl,asg [_,_,_] g⟩) hv
theorem avY{v:IvQ}{t:Rat}{i j:Nat}[h1:BQ v.lo i][h2:BQ v.hi i][h3:BQ t j](hi:i≤10000000:=by decide)(hj:j≤9999999:=by decide):PF GB prog 271 [eW v, .ag [vI 0,vI 0, .v (.pointer none),vI (fn_ t),vI (fd_ t),fp_ t, .v (.bool true), .v (.bool false)]] (.tp [eW (v.meet ⟨0,t,true,false⟩),vB (!(v.meet ⟨0,t,true,false⟩).empty)]):=
 (ayO (v:=v) (w:=⟨0,t,true,false⟩) (j:=j+1) (h4:=h3.mono (by omega)) (h3:=BQ.z1.mono (by omega)) hi (by omega)).ofI fun G vs hv=>atr (fun y hy=>by
  obtain⟨l,rfl,g⟩:=abX.1 hy
  exact abX.2 ⟨l,rfl,ayc g⟩) hv
instance BQ.cutK (l m:LnQ) [LB l] [LB m]:BQ (l.cutK m) 400:=BQ.mono (inferInstance:BQ (m.nor.dot l.dir) _) (by decide)
instance BQ.cutC (l m:LnQ) [LB l] [LB m]:BQ (l.cutC m) 2500:=BQ.mono (inferInstance:BQ (m.value l.base) _) (by decide)
theorem aDJ{l m:LnQ}{v:IvQ}{i:Nat}[hl:LB l][hm:LB m][h1:BQ v.lo i][h2:BQ v.hi i](hi:i≤10000000:=by decide):PF GB prog 227 [eLn l,eW v,eLn m] (.tp [eW (l.cutV v m),vB (l.cutB v m)]):=by
 refine fn func227 J J ntmps227 J J (fun C=>?_)
 refine cl rfl (akr (l:=m)) rfl<|cl rfl (ajK (l:=l)) rfl<|cl rfl (apT (p:=m.nor) (q:=l.dir)) rfl<|cl rfl (avf (l:=l)) rfl<|?_
 refine cl rfl (apL (l:=m) (p:=l.base)) rfl<|cl rfl (acY (q:=l.cutK m)) rfl<|?_
 refine br J J J (fun hc21=>?_) (fun hc21=>?_)
 ·
  refine cl rfl (acY (q:=l.cutC m)) rfl<|?_
  exact rz rfl (by unfold LnQ.cutV LnQ.cutB;rw[if_pos hc21,if_pos hc21];rfl)
 ·
  refine br J J J (fun hc27=>?_) (fun hc27=>?_)
  ·
   refine cl rfl (ak7 (p:=l.cutC m) (q:=l.cutK m)) rfl<|cl rfl (afw (q:=l.cutC m/l.cutK m)) rfl<|cl rfl (aww (v:=v) (t:= -(l.cutC m/l.cutK m)) hi) rfl<|?_
   exact rz rfl (by unfold LnQ.cutB LnQ.cutV;rw[if_neg hc21,if_neg hc21,if_pos hc27];rfl)
  ·
   refine cl rfl (ak7 (p:=l.cutC m) (q:=l.cutK m)) rfl<|cl rfl (afw (q:=l.cutC m/l.cutK m)) rfl<|cl rfl (avY (v:=v) (t:= -(l.cutC m/l.cutK m)) hi) rfl<|?_
   exact rz rfl (by unfold LnQ.cutB LnQ.cutV;rw[if_neg hc21,if_neg hc21,if_neg hc27];rfl)
theorem axD{v:IvQ}{i:Nat}[h1:BQ v.lo i][h2:BQ v.hi i](hi:i≤10000000:=by decide):PF GB prog 268 [eW v] (eF v.sample):=by
 refine fn func268 J J ntmps268 J J (fun C=>?_)
 refine csb 6 J J J (fun hg6=>?_) (fun hg6=>?_)
 ·
  refine bb J J J (fun hc3=>?_) (fun hc3=>?_)
  ·
   exact rzI rfl (by unfold IvQ.sample;rw[hg6,hc3];exact aDU)
  ·
   refine bb J J J (fun hc11=>?_) (fun hc11=>?_)
   ·
    refine cl rfl (aik (m:=1) (by decide)) rfl<|cl rfl (ahZ (p:=v.hi) (q:=((1:Int):Rat)) (by omega) (by decide)) rfl<|?_
    exact rz rfl (by unfold IvQ.sample;simp_all [aku]<;>rfl)
   ·
    refine bb J J J (fun hc18=>?_) (fun hc18=>?_)
    ·
     refine cl rfl (aik (m:=1) (by decide)) rfl<|cl rfl (agE (p:=v.lo) (q:=((1:Int):Rat)) (by omega) (by decide)) rfl<|?_
     exact rz rfl (by unfold IvQ.sample;simp_all [aku]<;>rfl)
    ·
     refine cl rfl (agE (p:=v.lo) (q:=v.hi) (by omega) (by omega)) rfl<|cl rfl (aup (q:=v.lo+v.hi) (by omega)) rfl<|?_
     exact rz rfl (by unfold IvQ.sample;simp_all [aku]<;>rfl)
 ·
  refine bb J J J (fun hc11=>?_) (fun hc11=>?_)
  ·
   refine cl rfl (aik (m:=1) (by decide)) rfl<|cl rfl (ahZ (p:=v.hi) (q:=((1:Int):Rat)) (by omega) (by decide)) rfl<|?_
   exact rz rfl (by unfold IvQ.sample;simp_all [aku]<;>rfl)
  ·
   refine bb J J J (fun hc18=>?_) (fun hc18=>?_)
   ·
    refine cl rfl (aik (m:=1) (by decide)) rfl<|cl rfl (agE (p:=v.lo) (q:=((1:Int):Rat)) (by omega) (by decide)) rfl<|?_
    exact rz rfl (by unfold IvQ.sample;simp_all [aku]<;>rfl)
   ·
    refine cl rfl (agE (p:=v.lo) (q:=v.hi) (by omega) (by omega)) rfl<|cl rfl (aup (q:=v.lo+v.hi) (by omega)) rfl<|?_
    exact rz rfl (by unfold IvQ.sample;simp_all [aku]<;>rfl)
instance BQ.i1':BQ (1:Rat) 2:=⟨by decide,by decide⟩
instance BQ.i2':BQ (2:Rat) 2:=⟨by decide,by decide⟩
theorem anh{v:IvQ}{i:Nat}[BQ v.lo i][BQ v.hi i]:BQ (abF v) (i+i+5):=by
 unfold abF
 split
 ·exact BQ.mono (k:=1) ⟨by decide,by decide⟩ (by omega)
 ·split
  ·exact BQ.mono (inferInstance:BQ (v.hi-1) _) (by omega)
  ·split
   ·exact BQ.mono (inferInstance:BQ (v.lo+1) _) (by omega)
   ·exact BQ.mono (inferInstance:BQ ((v.lo+v.hi)/2) _) (by omega)
instance BPt.at (l:LnQ) (t:Rat) (k:Nat) [LB l] [BQ t k]:BPt (l.at t) (900+(k+97)+1):=by
 rw[←agv];infer_instance
theorem avs{q:Rat}(h: ¬q.num.sign=0):q≠0:=fun e=>h ((abx q).2 e)
def aem(d:PtQ):PtQ:=⟨-d.y,d.x⟩
instance BPt.turn (d:PtQ) (k:Nat) [BPt d k]:BPt (aem d) k:=⟨inferInstanceAs (BQ (-d.y) k),inferInstanceAs (BQ d.x k)⟩
def alR(p v:PtQ)(m:LnQ):Rat:= -(m.value p/(m.value (act p v ((1:Int):Rat))-m.value p))
def acg(p v:PtQ)(m:LnQ)(s:Rat):Rat:=if(m.value (act p v ((1:Int):Rat))-m.value p).num.sign=0 then s else if(m.value p).num.sign=0 then s else if 0<(alR p v m).num.sign then(if abg (alR p v m/2) s<0 then alR p v m/2 else s) else s
def agc(p v:PtQ):List LnQ→Rat→Rat
 |[],s=>s
 |m::t,s=>agc p v t (acg p v m s)
def arK(c:List LnQ)(p v:PtQ):PtQ:=act p v (agc p v c ((1:Int):Rat))
theorem aeH{c:List LnQ}{p v:PtQ}{k:Nat}{s s' r:Rat}{m:LnQ}(h:agc p v (c.drop k) s=r)(hk:k<c.length)(hm:m=c[k])(e:acg p v m s=s'):agc p v (c.drop (k+1)) s'=r:=by
 rw[bQ hk] at h
 rw[←h,agc,←hm,e]
theorem aEF{c:List LnQ}{p v:PtQ}(hc: ∀m∈c,LB m)(hn:c.length≤1000)(hp:BPt p 4500)(hv:BPt v 97):PF GB prog 207 [.sl (c.map eL),eP p,eP v] (eP (arK c p v)):=by
 have hcl:=ae4 c
 refine fn func207 J J ntmps207 J J (fun C=>?_)
 refine cl (fu:=⟨9⟩) rfl (aoo (n:=1) (by decide) (by decide)) rfl<|?_
 refine eqF 14 (.d (vI (c.length:Nat))) rfl (by rw[hcl];rfl) ?_
 refine gx rfl<|?_
 refine lp (X:=Rat×Nat) (fun⟨s,k⟩=>[(15, .d (vI (k:Nat))),(14, .d (vI (c.length:Nat))),(13, .d (.sl (c.map eL))),(4, .ov 4 0),(5, .ov 5 0),(7, .ov 7 0),(6, .ov 6 0)]) (fun⟨s,k⟩=>[(7,some (.o 48 [.d ((.v (.bool (decide (s.num<0))))), .d (dN s.num.natAbs), .d (dD s.den)] true)),(6,some (.o 62 [.ff, .nl, .nl, .ff, .nl, .nl] true)),(5,some (.o 62 [.d ((.v (.bool (decide (v.x.num<0))))), .d (dN v.x.num.natAbs), .d (dD v.x.den), .d ((.v (.bool (decide (v.y.num<0))))), .d (dN v.y.num.natAbs), .d (dD v.y.den)] true)),(4,some (.o 62 [.d ((.v (.bool (decide (p.x.num<0))))), .d (dN p.x.num.natAbs), .d (dD p.x.den), .d ((.v (.bool (decide (p.y.num<0))))), .d (dN p.y.num.natAbs), .d (dD p.y.den)] true))]) (fun⟨s,k⟩=>k≤c.length∧BQ s 60000∧agc p v (c.drop k) s=agc p v c ((1:Int):Rat)) (fun⟨s,k⟩=>c.length-k) ⟨((1:Int):Rat),0⟩ rfl ⟨bX _,BQ.i1.mono (by decide),rfl⟩ (fun _=>rfl) (fun⟨s,k⟩ hk=>?_)
 try dsimp only at hk⊢
 obtain⟨hle,hsb,hns⟩:=hk
 refine br J J J (fun hc16=>?_) (fun hc16=>?_)
 ·
  have hk:k<c.length:=by omega
  obtain⟨m,hm⟩: ∃m,m=c[k]:=⟨_,rfl⟩
  haveI hmb:LB m:=hm▸hc _ (cZ hk)
  have hinv:=hsb
  refine ix (fu:=⟨1⟩) _ rfl (aeT hk) rfl<|?_
  refine eqF 18 (.d (eL m)) rfl (by rw[hm];rfl) ?_
  refine gx rfl<|cl rfl (aoo (n:=1) (by decide) (by decide)) rfl<|cl rfl (anX (p:=p) (q:=v) (c:=((1:Int):Rat))) rfl<|cl rfl (alr (l:=m) (p:=act p v ((1:Int):Rat))) rfl<|?_
  refine cl rfl (alr (l:=m) (p:=p)) rfl<|cl rfl (alh (a:=m.value (act p v ((1:Int):Rat))) (b:=m.value p)) rfl<|cl rfl (q_S (q:=m.value (act p v ((1:Int):Rat))-m.value p)) rfl<|?_
  refine cs 32 J J J (fun hg32=>?_) (fun hg32=>?_)
  ·
   exact at_ ⟨s,k+1⟩ (by dsimp only;exact⟨⟨by omega,hinv,(aeH hns hk hm (by unfold acg;rw[if_pos hg32]))⟩,(by omega)⟩)
  ·
   refine cl rfl (aqC (l:=m) (p:=p)) rfl<|?_
   refine br J J J (fun hc37=>?_) (fun hc37=>?_)
   ·
    exact at_ ⟨s,k+1⟩ (by dsimp only;exact⟨⟨by omega,hinv,(aeH hns hk hm (by unfold acg;rw[if_neg hg32,if_pos hc37]))⟩,(by omega)⟩)
   ·
    refine cl rfl (alr (l:=m) (p:=p)) rfl<|cl rfl (ak0 (a:=m.value p) (b:=m.value (act p v ((1:Int):Rat))-m.value p) (avs hg32)) rfl<|?_
    refine cl rfl (aoX (q:=m.value p/(m.value (act p v ((1:Int):Rat))-m.value p))) rfl<|cl (fu:=⟨0⟩) rfl (q_S (q:= -(m.value p/(m.value (act p v ((1:Int):Rat))-m.value p)))) rfl<|?_
    refine csS (v2:=fun hg46=>by simp only[aaj];exact⟨by kernel_rfl,by omega⟩) J J J J (fun hg46=>?_) (fun hg46=>?_)
    ·
     refine cl rfl (asY (a:= -(m.value p/(m.value (act p v ((1:Int):Rat))-m.value p)))) rfl<|cl rfl (q_C (a:= -(m.value p/(m.value (act p v ((1:Int):Rat))-m.value p))/2) (b:=s)) rfl<|?_
     refine br J J J (fun hc53=>?_) (fun hc53=>?_)
     ·
      obtain⟨t,ht⟩: ∃t,t= -(m.value p/(m.value (act p v ((1:Int):Rat))-m.value p)):=⟨_,rfl⟩
      haveI htb:BQ t 45000:=ht▸BQ.mono inferInstance (by decide)
      have hinv:BQ (t/2) 60000:=BQ.mono inferInstance (by decide)
      rw[←ht]
      refine cl rfl (asY (a:=t)) rfl<|?_
      exact at_ ⟨t/2,k+1⟩ (by dsimp only;exact⟨⟨by omega,hinv,(aeH hns hk hm (by unfold acg;rw[if_neg hg32,if_neg hc37,show alR p v m=t from ht.symm,if_pos (by rw[ht];exact hg46),if_pos (by rw[ht];exact hc53)]))⟩,(by omega)⟩)
     ·
      exact at_ ⟨s,k+1⟩ (by dsimp only;exact⟨⟨by omega,hinv,(aeH hns hk hm (by unfold acg;rw[if_neg hg32,if_neg hc37,if_pos (show 0<(alR p v m).num.sign from hg46),if_neg (show¬abg (alR p v m/2) s<0 from hc53)]))⟩,(by omega)⟩)
    ·
     exact at_ ⟨s,k+1⟩ (by dsimp only;exact⟨⟨by omega,hinv,(aeH hns hk hm (by unfold acg;rw[if_neg hg32,if_neg hc37,if_neg (show¬0<(alR p v m).num.sign from hg46)]))⟩,(by omega)⟩)
 ·
  refine cl rfl (anX (p:=p) (q:=v) (c:=s)) rfl<|?_
  exact rz rfl (by unfold arK;rw[←hns,jT (by omega)];rfl)
def acb(c:List LnQ):List LnQ→PtQ
 |[]=>⟨0,0⟩
 |m::t=>if(acl m c IvQ.all).2=true then arK c (m.at (abF (acl m c IvQ.all).1)) (aem m.dir) else acb c t
theorem arU{c:List LnQ}{k:Nat}{m:LnQ}(h:acb c (c.drop k)=acb c c)(hk:k<c.length)(hm:m=c[k])(e:(acl m c IvQ.all).2=true):acb c c=arK c (m.at (abF (acl m c IvQ.all).1)) (aem m.dir):=by
 rw[←h,bQ hk,acb,←hm,if_pos e]
theorem asT{c:List LnQ}{k:Nat}{m:LnQ}(h:acb c (c.drop k)=acb c c)(hk:k<c.length)(hm:m=c[k])(e: ¬(acl m c IvQ.all).2=true):acb c (c.drop (k+1))=acb c c:=by
 rw[←h,bQ hk,acb,←hm,if_neg e]
theorem au7{c:List LnQ}{m:LnQ}(h:m∈c)(h2:(ach m c IvQ.all).isSome=true):acf c=true:=by
 unfold acf;rw[gM,jS];exact .inr ⟨m,h,h2⟩
theorem asn{c:List LnQ}(h:c=[]):acf c=true:=by subst h;rfl
theorem aw9{c:List LnQ}(h:c≠[])(h2: ∀m∈c,(ach m c IvQ.all).isSome=false):acf c=false:=by
 rw[←mS];unfold acf;rw[gM,jS,List.isEmpty_iff]
 rintro (e|⟨m,h3,h4⟩)
 ·exact h e
 ·rw[h2 m h3] at h4;exact absurd h4 (by decide)
theorem avB:eP ⟨0,0⟩= .ag [.v (.bool false), .sl [], .sl [], .v (.bool false), .sl [], .sl []]:=by
 unfold eP dD
 simp only[show(0:Rat).num=0 from rfl,show(0:Rat).den=1 from rfl,kK,adt];rfl
theorem aoW{c:List LnQ}(hc: ∀m∈c,LB m)(hok: ∀m∈c,m.ok)(hn:c.length≤1000):PF GB prog 150 [.sl (c.map eL)] (.tp [eP (acb c c),vB (acf c)]):=by
 have hcl:=ae4 c
 refine fn func150 J J ntmps150 J J (fun C=>?_)
 refine br (fu2:=⟨7⟩) J J J (fun hc11=>?_) (fun hc11=>?_)
 ·
  exact rz rfl (by rw[bS (l:=c) (by omega),asn rfl];show _=DV.tp [eP ⟨0,0⟩,_];rw[avB];rfl)
 ·
  refine eqF 14 (.d (vI (c.length:Nat))) rfl (by rw[hcl];rfl) ?_
  refine gx rfl<|?_
  refine lp (X:=Nat) (fun k=>[(15, .d (vI (k:Nat))),(14, .d (vI (c.length:Nat))),(13, .d (.sl (c.map eL))),(0, .d (.sl (c.map eL))),(2, .ov 2 0)]) (fun k=>[(2,some (.o 62 [.ff, .nl, .nl, .ff, .nl, .nl] true))]) (fun k=>k≤c.length∧(∀m∈c.take k,(ach m c IvQ.all).isSome=false)∧acb c (c.drop k)=acb c c) (fun k=>c.length-k) 0 rfl ⟨bX _,fun m hm=>absurd hm (by simp),rfl⟩ (fun _=>rfl) (fun k hk=>?_)
  obtain⟨hle,hno,hip⟩:=hk
  refine br J J J (fun hc16=>?_) (fun hc16=>?_)
  ·
   have hk:k<c.length:=by omega
   obtain⟨m,hm⟩: ∃m,m=c[k]:=⟨_,rfl⟩
   haveI hmb:LB m:=hm▸hc _ (cZ hk)
   have hmo:m.ok:=hm▸hok _ (cZ hk)
   refine ix (fu:=⟨1⟩) _ rfl (aeT hk) rfl<|?_
   refine eqF 19 (.d (eL m)) rfl (by rw[hm];rfl) ?_
   refine gx rfl<|cl (fu:=⟨0⟩) rfl (ayX hc hok hn hk) rfl<|?_
   refine eqF 23 (.d (.tp [eV (acl m c IvQ.all).1,vB (acl m c IvQ.all).2])) rfl (by rw[hm]) ?_
   refine gx rfl<|?_
   refine bb J J J (fun hc26=>?_) (fun hc26=>?_)
   ·
    have hbd:=ain (v:=IvQ.all) hmo.ne hc IvZ.all (BQ.mono (k:=1) ⟨by decide,by decide⟩ (by decide)) (BQ.mono (k:=1) ⟨by decide,by decide⟩ (by decide))
    obtain⟨s,hs⟩: ∃s,s=(acl m c IvQ.all).1:=⟨_,rfl⟩
    rw[←hs] at hbd
    haveI:=hbd.1
    haveI:=hbd.2
    haveI hsb:=anh (v:=s) (i:=1200)
    have hpt:BPt (m.at (abF s)) 4500:=by have:=BPt.at m (abF s) (1200+1200+5);exact⟨this.x.mono (by decide),this.y.mono (by decide)⟩
    have hin:acf c=true:=au7 (hm▸cZ hk) (by rw[←adL];exact hc26)
    have hpn:=arU hip hk hm hc26
    rw[←hs] at hpn⊢
    refine cl rfl (aof (l:=m)) rfl<|cl rfl (aw4 (v:=s)) rfl<|cl rfl (aHP (l:=m) (t:=abF s) hmo.ne) rfl<|cl rfl (aoX (q:=m.dir.y)) rfl<|?_
    refine cl rfl (aEF (p:=m.at (abF s)) (v:=aem m.dir) hc hn (hpt) inferInstance) rfl<|?_
    exact rz rfl (by rw[hin,hpn];rfl)
   ·
    exact at_ (k+1) ⟨⟨by omega,atg hno hk (by rw[←hm,←adL];exact hc26),asT hip hk hm (by rw[hc26];decide)⟩,(by omega)⟩
  ·
   exact rz rfl (by rw[aw9 (fun e=>hc11 (by rw[e];rfl)) (fun m hm=>hno m (by rw[aR (by omega)];exact hm)),←hip,jT (by omega)];show _=DV.tp [eP ⟨0,0⟩,_];rw[avB];rfl)
end Go.Sx
end
