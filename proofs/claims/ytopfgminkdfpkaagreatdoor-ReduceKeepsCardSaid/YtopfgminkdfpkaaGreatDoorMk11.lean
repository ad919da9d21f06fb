/- Part 11 of a proof. -/
import Derived.Test.YtopfgminkdfpkaaGreatDoorMk10
set_option linter.unusedSimpArgs false
set_option maxHeartbeats 4000000
set_option maxRecDepth 100000
set_option linter.unusedVariables false
section
namespace Go.Sx
open Go Go.Proofs Tryz
variable {GB:Gh}
theorem avy{h l y:Nat}(hh:h<y)(hl:l<4294967296)(hy:y<4294967296):PF GB prog 243 [.v (.int .u32 (h:Int)), .v (.int .u32 (l:Int)), .v (.int .u32 (y:Int))] (.tp [dU ((h*4294967296+l)/y),dU ((h*4294967296+l)%y)]):=by
 refine fn (fu:=⟨11⟩) func243 J J ntmps243 J J (fun C=>?_)
 refine kT 10 rfl (by omega) ?_
 refine gx (fu:=⟨4⟩) rfl<|?_
 refine kF 14 rfl (by omega) ?_
 refine gx (fu:=⟨11⟩) (hv:=by simp only[aag];exact⟨by omega,(by decide)⟩) rfl<|?_
 refine eqF 19 (.d (.v (.int .u64 (h*2^32:Nat)))) rfl (by show FX.d (.v (.int _ _))= .d (.v (.int _ _));rw[adl _ 32 (by decide) (by show _*4294967296<_;omega) rfl]) ?_
 refine gx (fu:=⟨3⟩) rfl<|?_
 refine eqF 22 (.d (.v (.int .u64 (l+h*2^32:Nat)))) rfl (congrArg (fun z:Nat=>FX.d (.v (.int .u64 (z:Int)))) (by rw[BitVec.or_comm];exact anh 64 l h 32 hl (by show _+_*4294967296<18446744073709551616;omega))) ?_
 obtain⟨t,ht⟩: ∃t,t=h*4294967296+l:=⟨_,rfl⟩
 have hq:t/y<4294967296:=by rw[iR (by omega)];have:=dW 4294967296 (show h+1≤y from hh);omega
 have hr:t%y<y:=cS _ (by omega)
 refine eqF 22 (.d (.v (.int .u64 (t:Nat)))) rfl (by show FX.d (.v (.int _ _))= .d (.v (.int _ _));congr 3;rw[ht];omega) ?_
 refine gx (hv:=by simp only[aag];exact⟨⟨⟨⟨by omega,⟨(by omega),(by omega),(by omega)⟩⟩,by omega⟩,⟨(by omega),(by omega)⟩⟩,by kernel_rfl⟩) rfl<|?_
 exact rz rfl (by show DV.tp [.v (.int _ _), .v (.int _ _)]= .tp [.v (.int _ _), .v (.int _ _)];rw[←ht,←nJ,←lU];generalize t/y=q at*;generalize t%y=r at*;congr 4<;>(first|omega|(congr 3;omega)))
theorem avd{A r i b:Nat}(d:Nat)(hb:0<b):(A*4294967296+d)/b=A/b*4294967296+(A%b*4294967296+d)/b∧(A*4294967296+d)%b=(A%b*4294967296+d)%b:=by
 have h:=oQ A b
 have e:A*4294967296+d=(A%b*4294967296+d)+b*(A/b*4294967296):=by
  rw[←bJ,Nat.add_right_comm,←bN,iZ (A%b),h]
 rw[e,jL _ _ hb,kN]
 exact⟨iZ _ _,rfl⟩
theorem amu{ds:List Nat}{i:Nat}(h:i<ds.length):dv (ds.drop i)=dv (ds.drop (i+1))*4294967296+ds.getD i 0:=by
 rw[bT h,aK,aJ h]
 simp only[dv,jW];omega
theorem af5{W:List Nat}{i q:Nat}(h:i<W.length):dv ((W.set i q).drop i)=dv (W.drop (i+1))*4294967296+q:=by
 rw[amu (by rw[aY];exact h),nT (by omega),ag2 h]
theorem aok{a b k:Nat}{W:List Nat}(hb:0<b)(hk:k<(dg a).length)(hl:W.length=(dg a).length)(h:dv (W.drop (k+1))=dv ((dg a).drop (k+1))/b):
  dv ((W.set k ((dv ((dg a).drop (k+1))%b*4294967296+(dg a).getD k 0)/b)).drop k)=dv ((dg a).drop k)/b∧dv ((dg a).drop k)%b=(dv ((dg a).drop (k+1))%b*4294967296+(dg a).getD k 0)%b:=by
 have:=avd (A:=dv ((dg a).drop (k+1))) (r:=0) (i:=0) ((dg a).getD k 0) hb
 rw[af5 (by omega),h,amu hk,this.1,this.2]
 exact⟨rfl,rfl⟩
theorem aeq{a b:Nat}:afE a b<0↔a<b:=by unfold afE;split<;>(try split)<;>omega
theorem afu{a b:Nat}:0<afE a b↔b<a:=by unfold afE;split<;>(try split)<;>omega
theorem awD{x:Nat}(hx:x<4294967296):PF GB prog 272 [dU x] (vI (32-(bl x:Int))):=by
 intro G vs hg hv
 obtain⟨v,m,rfl,h1,h2⟩:=aab.1 hv
 rw[aaz] at h2;subst h2
 rw[aaM.1 h1]
 exact(agB hx).mono fun v G' _ h=>aaM.2 h
theorem ajo{a k:Nat}(h:4294967296^k≤a):k<(dg a).length:=by
 have h1:=acv a
 rcases fN k (dg a).length with q|q
 ·exact q
 ·have:4294967296^(dg a).length≤4294967296^k:=aL (by decide) q
  omega
theorem asX{v L:Nat}(hL:L=(dg v).length)(h1:1≤L):(dg v).getD (L-1) 0=v/4294967296^(L-1)∧0<v/4294967296^(L-1):=by
 have h:=apf (aev v) (L-1)
 rw[ac7 (by omega:(dg v).length≤L-1+1),aaQ,nQ,dQ] at h
 have h2:=acv v
 rw[←hL] at h2
 rw[iQ (show v<4294967296^(L-1+2) from cJ h2 (aL (by decide) (by omega))),nQ,dQ] at h
 have h3:=aeC (aaD v).2.2 (by intro e;rw[e] at hL;simp at hL;omega)
 rw[aaQ,←hL] at h3
 exact⟨h.symm,Nat.div_pos h3 (dX (by decide))⟩
theorem alh{R n:Nat}(h1:1≤n)(h:R<4294967296^(n+1)):R/4294967296^(n-1)=(dg R).getD (n-1) 0+(dg R).getD n 0*4294967296:=by
 have e:=apf (aev R) (n-1)
 rw[aaQ,show n-1+1=n by omega,iQ (show R<4294967296^(n-1+2) by rwa [show n-1+2=n+1 by omega]),nQ,dQ,bX] at e
 exact e
theorem arO{R v j L:Nat}(hL:L=(dg v).length)(h1:1≤L)(hR:R<v*4294967296^(j+1)):R/(v*4294967296^j)≤min (R/4294967296^(L+j-1)/(v/4294967296^(L-1))) 4294967295:=by
 have ht:=(asX hL h1).2
 have hp:0<4294967296^j:=dX (by decide)
 have hv0:0<v:=by
  rcases dZ v with q|q
  ·subst q;simp at ht
  ·exact q
 have hvp:0<v*4294967296^j:=gR hv0 hp
 refine Nat.le_min.2 ⟨?_,?_⟩
 ·rw[pV ht,pV (dX (by decide))]
  have h3:v/4294967296^(L-1)*4294967296^(L-1)≤v:=Nat.div_mul_le_self _ _
  have h4:R/(v*4294967296^j)*(v*4294967296^j)≤R:=Nat.div_mul_le_self _ _
  rw[show L+j-1=L-1+j by omega,dR]
  calc R/(v*4294967296^j)*(v/4294967296^(L-1))*(4294967296^(L-1)*4294967296^j)
    =R/(v*4294967296^j)*((v/4294967296^(L-1)*4294967296^(L-1))*4294967296^j):=by simp only[bJ]
   _≤R/(v*4294967296^j)*(v*4294967296^j):=dW _ (aM _ h3)
   _≤R:=h4
 ·have:R/(v*4294967296^j)<4294967296:=by
   rw[iR hvp]
   rw[dS] at hR
   rwa [bX,bJ]
  omega
theorem aee{R V g:Nat}(hV:0<V)(h:R<V*g):R/V<g:=by
 rw[iR hV,bX];exact h
theorem aqF{R V g:Nat}(hV:0<V)(h1:R/V≤g)(h2:V*g≤R):g=R/V:=by
 have:g≤R/V:=by rw[pV hV,bX];exact h2
 omega
theorem alW{R0 R v j g:Nat}{W:List Nat}(hj:j<W.length)(h:R0=R+dv (W.drop (j+1))*4294967296^(j+1)*v)(hv:0<v*4294967296^j)(hg:g=R/(v*4294967296^j)):
  R0=(R-v*4294967296^j*g)+dv ((W.set j g).drop j)*4294967296^j*v∧R-v*4294967296^j*g<v*4294967296^j:=by
 have h1:=oQ R (v*4294967296^j)
 have h2:=cS R hv
 rw[←hg] at h1
 refine⟨?_,by omega⟩
 rw[af5 hj,bN,bN,h,dS]
 have e:g*4294967296^j*v=v*4294967296^j*g:=by simp only[bJ,jJ,bX]
 have e2:dv (W.drop (j+1))*(4294967296^j*4294967296)*v=dv (W.drop (j+1))*4294967296*4294967296^j*v:=by simp only[bJ,jJ,bX]
 rw[e,e2]
 omega
theorem aqN{a b s R:Nat}{D:Nat}(hR:R<b*2^s)(h:a*2^s=R+D*(b*2^s)):D=a/b∧R/2^s=a%b:=by
 have hp:0<2^s:=dX (by decide)
 have hb:0<b:=by
  rcases dZ b with q|q
  ·subst q;simp at hR
  ·exact q
 have h1:a=R/2^s+D*b:=by
  have:=congrArg (· /2^s) h
  rw[Nat.mul_div_cancel _ hp,←bJ,Nat.add_mul_div_right _ _ hp] at this
  exact this
 have h2:R/2^s<b:=by rw[iR hp];exact hR
 have h3:R/2^s+b*D=a:=by rw[bX b];exact h1.symm
 have:=(Nat.div_mod_unique hb).2 ⟨h3,h2⟩
 exact⟨this.1.symm,this.2.symm⟩
theorem ann{a b s:Nat}(hl:(dg b).length≤(dg a).length)(h2:1≤(dg b).length):a*2^s<b*2^s*4294967296^((dg a).length-(dg b).length+1):=by
 have h1:=acv a
 have h3:=aeC (aaD b).2.2 (by intro e;rw[e] at h2;simp at h2)
 rw[aaQ] at h3
 have h4:4294967296^(dg a).length≤b*4294967296^((dg a).length-(dg b).length+1):=by
  rw[show(dg a).length=((dg b).length-1)+((dg a).length-(dg b).length+1) by omega,dR]
  rw[show(dg b).length-1+((dg a).length-(dg b).length+1)-(dg b).length+1=(dg a).length-(dg b).length+1 by omega]
  exact aM _ h3
 rw[oJ]
 exact jZ (cJ h1 h4) (dX (by decide))
theorem atk(x j:Nat):x*2^(32*j)=x*4294967296^j:=by rw[mL]
theorem auQ{R L j:Nat}(h:R<4294967296^(L+j+1))(h1:1≤L):R/4294967296^(L+j-1)<18446744073709551616:=by
 rw[iR (dX (by decide)),show(18446744073709551616:Nat)=4294967296^2 from rfl,←dR]
 rwa [show 2+(L+j-1)=L+j+1 by omega]
theorem arR{R v j L:Nat}(hL:L=(dg v).length)(hR:R<v*4294967296^(j+1)):R<4294967296^(L+j+1):=by
 have h:=acv v
 rw[←hL] at h
 rw[iW,dR]
 exact cJ hR (aM _ (mZ h))
theorem aw7{a b ia ib:Nat}[ha:BN a ia][hb:BN b ib](hi:ia≤500000000)(hj:ib≤500000000)(h2:1≤(dg b).length)(hl:(dg b).length≤(dg a).length):PF GB prog 244 [dN a,dN b] (.tp [dN (a/b),dN (a%b)]):=by
 have hla:=aax (dg a)
 have hlb:=aax (dg b)
 have hba:=aa3 ha.h
 have hba':(dg a).length≤20000000:=by omega
 refine fn func244 J J ntmps244 J J (fun C=>?_)
 refine ix _ rfl (aay (k:=(dg b).length-1) (by omega) (by omega)) rfl<|cl (fu:=⟨0⟩) rfl (awD (acA b ((dg b).length-1))) rfl<|?_
 obtain⟨s,hs⟩: ∃s:Nat,s=32-bl ((dg b).getD ((dg b).length-1) 0):=⟨_,rfl⟩
 have hs32:s≤32:=by omega
 refine eqF 22 (.d (vI (s:Nat))) rfl (by show FX.d (.v (.int _ _))= .d (.v (.int _ _));congr 3;have:=afZ.2 (show(dg b).getD ((dg b).length-1) 0<2^32 from acA b _);omega) ?_
 refine gx rfl<|cl rfl (amN (a:=b) (k:=s) (ia:=ib) (by omega) (by omega)) rfl<|cl (fu:=⟨0⟩) rfl (amN (a:=a) (k:=s) (ia:=ia) (by omega) (by omega)) rfl<|?_
 obtain⟨v,hv⟩: ∃v,v=b*2^s:=⟨_,rfl⟩
 obtain⟨R0,hR0⟩: ∃R0,R0=a*2^s:=⟨_,rfl⟩
 refine eqF 25 (.d (dN v)) rfl (by rw[hv]) ?_
 refine eqF 28 (.d (dN R0)) rfl (by rw[hR0]) ?_
 obtain⟨L,hL⟩: ∃L,L=(dg v).length:=⟨_,rfl⟩
 have hlv:((dg v).map dU).length=L:=by rw[aax,hL]
 have hps:2^s≤2^32:=aL (by decide) hs32
 have hpp:0<2^s:=dX (by decide)
 have hst:=ann (a:=a) (b:=b) (s:=s) hl h2
 rw[←hv,←hR0] at hst
 have hvb:v<2^(ib+32):=by rw[hv,dR];exact kL hb.h hps (by decide)
 have hRb:R0<2^(ia+32):=by rw[hR0,dR];exact kL ha.h hps (by decide)
 have hbp:0<b:=iJ (fun q=>by subst q;rw[afQ] at h2;simp at h2)
 have hvp:0<v:=hv▸gR hbp hpp
 have hLp:1≤L:=by rw[hL];exact ajo (k:=0) (by rw[oM];exact hvp)
 have htop:=asX hL hLp
 haveI hvB:BN v (ib+32):=⟨hvb⟩
 have hLb:=aa3 hvb
 have hLb':L≤20000000:=by omega
 have htl:=acA v (L-1)
 refine gx (fu:=⟨9⟩) rfl<|?_
 refine eqF 31 (.d (vI (L:Nat))) rfl (by rw[hlv];rfl) ?_
 refine gx rfl<|ix (fu:=⟨2⟩) _ rfl (aay (k:=L-1) (by omega) (by omega)) rfl<|?_
 refine eqF 35 (.d (.v (.int .u64 (v/4294967296^(L-1):Nat)))) rfl (by rw[htop.1]) ?_
 rw[htop.1] at htl
 refine gx (fu:=⟨11⟩) rfl<|?_
 obtain⟨m,hm⟩: ∃m,m=(dg a).length-(dg b).length+1:=⟨_,rfl⟩
 rw[←hm] at hst
 have hrl:(List.replicate ((m:Nat):Int).toNat (DV.v (.int .u32 0))).length=m:=by rw[aV,aT]
 refine eqF 41 (.d (vI (m:Nat))) rfl (by show FX.d (.v (.int _ _))= .d (.v (.int _ _));congr 3;omega) ?_
 refine gx rfl<|mk ((List.replicate m 0).map dU) J J (by rw[←adN];rfl) rfl<|?_
 refine lp (X:=List Nat×Nat×Nat) (fun⟨W,R,k⟩=>[(6, .d (vI (s:Nat))),(7, .d (dN v)),(8, .d (dN R)),(9, .d (.v (.int .u64 (v/4294967296^(L-1):Nat)))),(10, .rw 42),(11, .d (vI ((k:Nat)-1)))]) (fun⟨W,R,k⟩=>[(42,some (.b 262 1 (W.map dU) true))]) (fun⟨W,R,k⟩=>W.length=m∧DOk W∧k≤m∧R0=R+dv (W.drop k)*4294967296^k*v∧R<v*4294967296^k∧R≤R0) (fun⟨W,R,k⟩=>k) ⟨List.replicate m 0,R0,m⟩ rfl ⟨by simp, .replicate _,bQ _,by simp[dv],hst,bQ _⟩ (fun _=>rfl) (fun⟨W,R,k⟩ hk=>?_)
 dsimp only at hk⊢
 obtain⟨h1,h2',h3,h4,h5,h6⟩:=hk
 have hlw:=aax W
 refine br (fu1:=⟨10⟩) J J J (fun hc47=>?_) (fun hc47=>?_)
 ·
  obtain⟨j,rfl⟩: ∃j,k=j+1:=⟨k-1,by omega⟩
  have hvj:0<v*4294967296^j:=gR hvp (dX (by decide))
  have hge:=arO hL hLp h5
  have hlen:=arR hL h5
  have hlr:((dg R).map dU).length=(dg R).length:=aax _
  haveI hRB:BN R (ia+32):=⟨by omega⟩
  have hq32:R/(v*4294967296^j)<4294967296:=by omega
  have hz1:=Int.natCast_nonneg (R/4294967296^(L+j-1))
  have hz2:=Int.natCast_nonneg (R/4294967296^(L+j-1)/(v/4294967296^(L-1)))
  refine eqF 11 (.d (vI (j:Nat))) rfl (by show FX.d (.v (.int _ _))= .d (.v (.int _ _));congr 3;omega) ?_
  refine mg (fu:=⟨6⟩) (hv:=fun _ _=>by simp only[aag];exact⟨(by omega),(by have:=auQ hlen hLp;omega),(by omega)⟩) (X:=Unit) (fun _=>[(6, .d (vI (s:Nat))),(7, .d (dN v)),(8, .d (dN R)),(9, .d (.v (.int .u64 (v/4294967296^(L-1):Nat)))),(10, .rw 42),(11, .d (vI (j:Nat))),(12, .d (.v (.int .u64 (R/4294967296^(L+j-1):Nat))))]) (fun _=>[(42,some (.b 262 1 (W.map dU) true))]) (fun _=>True) [6,7,8,9,10,11,12] [42] rfl ?_ (fun _=>rfl) (fun _ hm=>?_)
  ·
   refine gx (fu:=⟨4⟩) rfl<|?_
   refine eqF 51 (.d (vI (L:Nat))) rfl (by rw[hlv];rfl) ?_
   refine gx (fu:=⟨2⟩) rfl<|?_
   refine eqF 53 (.d (vI (L+j:Nat))) rfl (by show FX.d (.v (.int _ _))= .d (.v (.int _ _));congr 3) ?_
   refine gx (fu:=⟨8⟩) rfl<|?_
   refine eqF 56 (.d (vI ((dg R).length:Nat))) rfl (by rw[hlr];rfl) ?_
   refine gx rfl<|?_
   refine br (fu2:=⟨6⟩) J J J (fun hc57=>?_) (fun hc57=>?_)
   ·
    have hd0:=acA R (L+j-1)
    have hd1:=acA R (L+j)
    refine ix (hv:=by simp only[aag];exact⟨⟨by omega,(by decide)⟩,by omega⟩) _ rfl (aay (k:=L+j) (by omega) (by omega)) rfl<|ix (fu:=⟨3⟩) _ rfl (aay (k:=L+j-1) (by omega) (by omega)) rfl<|?_
    refine eqF 70 (.d (.v (.int .u64 ((dg R).getD (L+j-1) 0+(dg R).getD (L+j) 0*4294967296:Nat)))) rfl (congrArg (fun z:Nat=>FX.d (.v (.int .u64 (z:Int)))) (by rw[adl _ 32 (by decide) (by show _*4294967296<_;omega) rfl,BitVec.or_comm];exact anh 64 ((dg R).getD (L+j-1) 0) ((dg R).getD (L+j) 0) 32 hd0 (by show _+_*4294967296<18446744073709551616;omega))) ?_
    refine gx rfl<|?_
    refine eqF 12 (.d (.v (.int .u64 (R/4294967296^(L+j-1):Nat)))) rfl (by rw[alh (by omega) hlen]) ?_
    exact at_ () trivial
   ·
    refine eqF 74 (.d (vI ((dg R).length:Nat))) rfl (by rw[hlr];rfl) ?_
    refine gx rfl<|?_
    refine br J J J (fun hc75=>?_) (fun hc75=>?_)
    ·
     have hd0:=acA R (L+j-1)
     refine ix _ rfl (aay (k:=L+j-1) (by omega) (by omega)) rfl<|?_
     refine eqF 12 (.d (.v (.int .u64 (R/4294967296^(L+j-1):Nat)))) rfl (by rw[alh (by omega) hlen,ac7 (by omega:(dg R).length≤L+j),iS,dQ]) ?_
     exact at_ () trivial
    ·
     refine eqF 12 (.d (.v (.int .u64 (R/4294967296^(L+j-1):Nat)))) rfl (by rw[alh (by omega) hlen,ac7 (by omega:(dg R).length≤L+j),ac7 (by omega:(dg R).length≤L+j-1)];rfl) ?_
     exact at_ () trivial
  ·
   obtain⟨g0,hg0'⟩: ∃g0,g0=min (R/4294967296^(L+j-1)/(v/4294967296^(L-1))) 4294967295:=⟨_,rfl⟩
   rw[←hg0'] at hge
   have hg0:=hge
   have hg1:g0≤4294967295:=by omega
   refine eqF 85 (.d (.v (.int .u64 (g0:Nat)))) rfl (by show FX.d (.v (.int _ _))= .d (.v (.int _ _));congr 3;rw[←nJ];split<;>omega) ?_
   refine gx rfl<|cl rfl (aft (u:=g0) (by omega)) rfl<|cl (fu:=⟨2⟩) rfl (abX (ia:=ib+32) (ib:=32) (hb:=⟨by show _<4294967296;omega⟩) (by omega) (by decide)) rfl<|?_
   refine eqF 91 (.d (vI (32*j:Nat))) rfl (by show FX.d (.v (.int _ _))= .d (.v (.int _ _));congr 3) ?_
   refine gx rfl<|cl (fu:=⟨0⟩) rfl (amN (k:=32*j) (ia:=ib+64) (ha:=⟨by rw[show ib+64=ib+32+32 by omega,dR];exact lT hvb (by show _<4294967296;omega)⟩) (by omega) (by omega)) rfl<|?_
   refine eqF 92 (.d (dN (v*4294967296^j*g0))) rfl (by rw[atk,oJ]) ?_
   refine gx rfl<|?_
   refine lp (X:=Nat) (fun g=>[(6, .d (vI (s:Nat))),(7, .d (dN v)),(8, .d (dN R)),(9, .d (.v (.int .u64 (v/4294967296^(L-1):Nat)))),(10, .rw 42),(11, .d (vI (j:Nat))),(14, .d (.v (.int .u64 (g:Nat)))),(15, .d (dN (v*4294967296^j*g)))]) (fun g=>[(42,some (.b 262 1 (W.map dU) true))]) (fun g=>R/(v*4294967296^j)≤g∧g≤4294967295) (fun g=>g) g0 rfl ⟨hg0,by omega⟩ (fun _=>rfl) (fun g hk=>?_)
   obtain⟨g1,g2⟩:=hk
   have hlw:=aax W
   refine cl rfl (aof (a:=v*4294967296^j*g) (b:=R) (by have:=afr (a:=v*4294967296^j*g) (k:=L+j+1) (by have h1:=acv v;rw[←hL] at h1;rw[dS,dR];exact lT (jZ h1 (dX (by decide))) (by omega));omega) (by have:=afr hlen;omega)) rfl<|?_
   refine br (fu1:=⟨7⟩) (v1:=fun hc96=>by simp only[aag];exact(by have h:=aee hvj (afu.1 hc96);have h1:1≤g:=eX (cX _) h;omega)) (fu2:=⟨11⟩) J J J (fun hc96=>?_) (fun hc96=>?_)
   ·
    have hgd:=aee hvj (afu.1 hc96)
    have hg1p:1≤g:=eX (cX _) hgd
    refine eqF 98 (.d (.v (.int .u64 ((g-1:Nat):Int)))) rfl (by show FX.d (.v (.int _ _))= .d (.v (.int _ _));congr 3;omega) ?_
    refine gx rfl<|cl rfl (aft (u:=g-1) (by omega)) rfl<|cl (fu:=⟨2⟩) rfl (abX (ia:=ib+32) (ib:=32) (hb:=⟨by show _<4294967296;omega⟩) (by omega) (by decide)) rfl<|?_
    refine eqF 104 (.d (vI (32*j:Nat))) rfl (by show FX.d (.v (.int _ _))= .d (.v (.int _ _));congr 3) ?_
    refine gx rfl<|cl (fu:=⟨0⟩) rfl (amN (k:=32*j) (ia:=ib+64) (ha:=⟨by rw[show ib+64=ib+32+32 by omega,dR];exact lT hvb (by show _<4294967296;omega)⟩) (by omega) (by omega)) rfl<|?_
    refine eqF 105 (.d (dN (v*4294967296^j*(g-1)))) rfl (by rw[atk,oJ]) ?_
    refine gx rfl<|?_
    exact at_ (g-1) ⟨⟨by have h:=aee hvj (afu.1 hc96);omega,by omega⟩,(by have:=aee hvj (afu.1 hc96);omega)⟩
   ·
    have hgq:=aqF hvj g1 (pT fun q=>hc96 (afu.2 q))
    refine eqF 109 (.d (dU g)) rfl (by show FX.d (.v (.int _ _))= .d (.v (.int _ _));congr 3;omega) ?_
    refine gx rfl<|sb _ ((W.set j (R/(v*4294967296^j))).map dU) rfl (aay (k:=j) (by omega) (by omega)) rfl (by(rw[←hgq,aT,←ac2])<;>rfl) rfl<|?_
    refine cl (fu:=⟨0⟩) rfl (aoW (a:=R) (b:=v*4294967296^j*g) (ia:=ia+32) (by rw[hgq];exact Nat.mul_div_le _ _) (by omega)) rfl<|?_
    refine eqF 113 (.d (dN (R-v*4294967296^j*(R/(v*4294967296^j))))) rfl (by rw[hgq]) ?_
    refine gx rfl<|?_
    exact at_ ⟨W.set j (R/(v*4294967296^j)),R-v*4294967296^j*(R/(v*4294967296^j)),j⟩ (by dsimp only;exact⟨⟨by simpa using h1,h2'.set _ (by omega),by omega,(alW (by omega) h4 hvj rfl).1,(alW (by omega) h4 hvj rfl).2,by omega⟩,(by omega)⟩)
 ·
  obtain rfl:k=0:=by omega
  rw[oM,fS] at h5
  rw[oM,fS,iX,hR0,hv] at h4
  rw[hv] at h5
  have hend:=aqN h5 h4
  haveI hRB:BN R (ia+32):=⟨by omega⟩
  refine fz 42 J J<|cl rfl (afn (ds:=W) (by omega)) rfl<|cl rfl (avA (a:=R) (k:=s) (ia:=ia+32) (by omega) (by omega)) rfl<|?_
  exact rz rfl (by show DV.tp [dLi _,dN _]= .tp [dN _,dN _];rw[adP h2' hend.1,hend.2])
theorem ale{a b:Nat}(h:b≤a):(dg b).length≤(dg a).length:=afr (eX h (acv a))
theorem aei{a b ia ib:Nat}[ha:BN a ia][hb:BN b ib](hb0:0<b)(hi:ia≤500000000:=by decide)(hj:ib≤500000000:=by decide):PF GB prog 195 [dN a,dN b] (.tp [dN (a/b),dN (a%b)]):=by
 have hla:=aax (dg a)
 have hlb:=aax (dg b)
 have hba:=aa3 ha.h
 have hbb:=aa3 hb.h
 have hba':(dg a).length≤20000000:=by omega
 have hbb':(dg b).length≤20000000:=by omega
 have hlb1:1≤(dg b).length:=ajo (k:=0) (by rw[oM];exact hb0)
 refine fn (fu:=⟨7⟩) func195 J J ntmps195 J J (fun C=>?_)
 refine mg (X:=Unit) (fun _=>[(0, .d (dN a)),(1, .d (dN b))]) (fun _=>[]) (fun _=>True) [0,1] [] rfl ?_ (fun _=>rfl) (fun _ hm=>?_)
 ·
  refine gx rfl<|cl rfl (alL (a:=a) (ia:=ia) (by omega)) rfl<|?_
  refine bd (fu1:=⟨0⟩) J J J (fun hc18=>?_) (fun hc18=>?_)
  ·
   refine eqF 6 (.d (.v (.int .u64 (a:Nat)))) rfl (by rw[if_pos hc18]) ?_
   refine gx rfl<|cl rfl (alL (a:=b) (ia:=ib) (by omega)) rfl<|?_
   refine bd (fu1:=⟨0⟩) J J J (fun hc24=>?_) (fun hc24=>?_)
   ·
    refine eqF 8 (.d (.v (.int .u64 (b:Nat)))) rfl (by rw[if_pos hc24]) ?_
    have hdl:=iL a b
    have hml:=Nat.mod_le a b
    refine gx (hv:=by simp only[aag];exact⟨(by omega),(by omega),(by omega)⟩) rfl<|cl (hv:=by simp only[aag];exact⟨(by omega),(by omega)⟩) rfl (aft (u:=a/b) (by omega)) rfl<|cl rfl (aft (u:=a%b) (by omega)) rfl<|?_
    exact rz J J
   ·
    exact at_ () trivial
  ·
   exact at_ () trivial
 ·
  refine cl rfl (aof (by omega) (by omega)) rfl<|?_
  refine br J J J (fun hc36=>?_) (fun hc36=>?_)
  ·
   have hab:=aeq.1 hc36
   refine ro0 J J<|ap _ J J (ak6 _) rfl<|?_
   refine fzE 39 rfl ?_
   exact rz rfl (by show DV.tp [_, .sl ([]++_)]= .tp [_,_];rw[iQ hab,dY hab,air];rfl)
  ·
   have hab:b≤a:=pT fun q=>hc36 (aeq.2 q)
   have hlab:(dg b).length≤(dg a).length:=ale hab
   refine br (fu1:=⟨4⟩) J J J (fun hc42=>?_) (fun hc42=>?_)
   ·
    have hb1:b<4294967296:=by have:=acv b;rw[show(dg b).length=1 by omega] at this;omega
    have hbd:(dg b).getD 0 0=b:=ab5 (by omega)
    refine eqF 44 (.d (vI ((dg a).length:Nat))) rfl (by rw[hla];rfl) ?_
    refine gx rfl<|mk (fu:=⟨13⟩) ((List.replicate (dg a).length 0).map dU) J J (by rw[←adN];rfl) rfl<|?_
    refine eqF 47 (.d (vI ((dg a).length:Nat))) rfl (by rw[hla];rfl) ?_
    refine gx rfl<|?_
    refine lp (X:=List Nat×Nat) (fun⟨W,k⟩=>[(0, .d (dN a)),(1, .d (dN b)),(10, .rw 45),(11, .d (dU (dv ((dg a).drop k)%b))),(12, .d (vI ((k:Nat)-1)))]) (fun⟨W,k⟩=>[(45,some (.b 262 1 (W.map dU) true))]) (fun⟨W,k⟩=>W.length=(dg a).length∧DOk W∧k≤(dg a).length∧dv (W.drop k)=dv ((dg a).drop k)/b) (fun⟨W,k⟩=>k) ⟨List.replicate (dg a).length 0,(dg a).length⟩ rfl ⟨by simp, .replicate _,bQ _,by simp[dv]⟩ (fun _=>rfl) (fun⟨W,k⟩ hk=>?_) (hF:=(by refine⟨rfl,rfl,rfl,leI rfl (by simp[dv,dU]),leI rfl (by simp[vI]),?_⟩;repeat (first|exact trivial|refine And.intro rfl ?_)))
    try dsimp only at hk⊢
    obtain⟨h1,h2,h3,h4⟩:=hk
    have hlw:=aax W
    refine br (fu1:=⟨0⟩) J J J (fun hc50=>?_) (fun hc50=>?_)
    ·
     obtain⟨k,rfl⟩: ∃j,k=j+1:=⟨k-1,by omega⟩
     have hsi:=aok hb0 (by omega) h1 h4
     have hrm:=cS (dv ((dg a).drop (k+1))) hb0
     have hdk:=acA a k
     have hqd:(dv ((dg a).drop (k+1))%b*4294967296+(dg a).getD k 0)/b<4294967296:=by rw[iR hb0];have:=dW 4294967296 (show dv ((dg a).drop (k+1))%b+1≤b from hrm);omega
     refine eqF 12 (.d (vI (k:Nat))) rfl (by show FX.d (.v (.int _ _))= .d (.v (.int _ _));congr 3;omega) ?_
     refine gx rfl<|ix _ rfl (aay (k:=k) (by omega) (by omega)) rfl<|ix _ rfl (aay (k:=0) rfl (by omega)) rfl<|cl rfl (avy (h:=dv ((dg a).drop (k+1))%b) (l:=(dg a).getD k 0) (y:=(dg b).getD 0 0) (by omega) hdk (by omega)) rfl<|?_
     refine sb (hv:=by simp only[aag];exact⟨by kernel_rfl,by omega⟩) _ ((W.set k ((dv ((dg a).drop (k+1))%b*4294967296+(dg a).getD k 0)/b)).map dU) rfl (aay (k:=k) (by omega) (by omega)) rfl (by(rw[hbd,aT,←ac2])<;>rfl) rfl<|?_
     exact at_ ⟨W.set k ((dv ((dg a).drop (k+1))%b*4294967296+(dg a).getD k 0)/b),k⟩ (by dsimp only;exact⟨⟨by simpa using h1,h2.set _ hqd,by omega,hsi.1⟩,(by omega)⟩) (by refine⟨rfl,rfl,rfl,leI rfl (by rw[hsi.2,hbd]),leI rfl (by first|(simp[vI];done)|(simp[vI];omega)),?_⟩;repeat (first|exact trivial|refine And.intro rfl ?_))
    ·
     refine fz 45 J J<|cl rfl (afn (ds:=W) (by omega)) rfl<|rf J J<|cl rfl (afn (ds:=[dv ((dg a).drop k)%b]) (by simp)) rfl<|?_
     exact rz rfl (by show DV.tp [dLi _,dLi _]= .tp [_,_];obtain rfl:k=0:=(by omega);rw[iX,iX,aaQ] at h4;rw[iX,aaQ];rw[adP h2 h4,adP (.cons (by have:=cS a hb0;omega) .nil) (n:=a%b) (by simp[dv])])
   ·
    refine cl rfl (aw7 (by omega) (by omega) hlb1 hlab) rfl<|?_
    exact rz J J
theorem amn(x y:Nat):Nat.gcd y (x%y)=Nat.gcd x y:=by rw[gX x y,qU y x,gX]
theorem aiU{a b ia ib:Nat}[ha:BN a ia][hb:BN b ib](hi:ia≤240000000:=by decide)(hj:ib≤240000000:=by decide):PF GB prog 194 [dN a,dN b] (dN (Nat.gcd a b)):=by
 refine fn (fu:=⟨6⟩) func194 J J ntmps194 J J (fun C=>?_)
 refine mg (X:=Unit) (fun _=>[(0, .d (dN a)),(1, .d (dN b))]) (fun _=>[]) (fun _=>True) [0,1] [] rfl ?_ (fun _=>rfl) (fun _ hm=>?_)
 ·
  refine gx rfl<|cl rfl (alL (a:=a) (ia:=ia) (by omega)) rfl<|?_
  refine bd (fu1:=⟨0⟩) J J J (fun hc16=>?_) (fun hc16=>?_)
  ·
   refine eqF 5 (.d (.v (.int .u64 (a:Nat)))) rfl (by rw[if_pos hc16]) ?_
   refine gx rfl<|cl rfl (alL (a:=b) (ia:=ib) (by omega)) rfl<|?_
   refine bd (fu1:=⟨0⟩) J J J (fun hc22=>?_) (fun hc22=>?_)
   ·
    refine eqF 7 (.d (.v (.int .u64 (b:Nat)))) rfl (by rw[if_pos hc22]) ?_
    refine gx rfl<|?_
    refine lp (X:=Nat×Nat) (fun⟨x,y⟩=>[(5, .d (.v (.int .u64 (x:Nat)))),(7, .d (.v (.int .u64 (y:Nat))))]) (fun⟨x,y⟩=>[]) (fun⟨x,y⟩=>x<18446744073709551616∧y<18446744073709551616∧Nat.gcd x y=Nat.gcd a b) (fun⟨x,y⟩=>y) ⟨a,b⟩ rfl ⟨hc16,hc22,rfl⟩ (fun _=>rfl) (fun⟨x,y⟩ hk=>?_)
    try dsimp only at hk⊢
    obtain⟨h1,h2,h3⟩:=hk
    refine br (v1:=fun hc24=>by simp only[aag];exact⟨⟨(by omega),(by omega)⟩,by kernel_rfl⟩) J J J (fun hc24=>?_) (fun hc24=>?_)
    ·
     exact at_ ⟨y,x%y⟩ (by dsimp only;exact⟨⟨h2,by have:=cS x (show 0<y by omega);omega,by rw[amn,h3]⟩,(by exact cS _ (by omega))⟩)
    ·
     refine cl rfl (aft (u:=x) h1) rfl<|?_
     exact rz rfl (by show dN x=_;rw[←h3,show y=0 by omega,kR])
   ·
    exact at_ () trivial
  ·
   exact at_ () trivial
 ·
  refine lp (fu:=⟨5⟩) (X:=Nat×Nat) (fun⟨x,y⟩=>[(0, .d (dN x)),(1, .d (dN y))]) (fun⟨x,y⟩=>[]) (fun⟨x,y⟩=>x<2^(ia+ib)∧y<2^(ia+ib)∧Nat.gcd x y=Nat.gcd a b) (fun⟨x,y⟩=>y) ⟨a,b⟩ rfl ⟨(ha.mono (by omega)).h,(hb.mono (by omega)).h,rfl⟩ (fun _=>rfl) (fun⟨x,y⟩ hk=>?_)
  try dsimp only at hk⊢
  obtain⟨h1,h2,h3⟩:=hk
  have hly:=aax (dg y)
  haveI hx':BN x (ia+ib):=⟨h1⟩
  haveI hy':BN y (ia+ib):=⟨h2⟩
  refine eqF 32 (.d (vI ((dg y).length:Nat))) rfl (by rw[hly];rfl) ?_
  refine gx rfl<|?_
  refine br J J J (fun hc33=>?_) (fun hc33=>?_)
  ·
   have hy0:0<y:=iJ fun q=>by subst q;rw[afQ] at hc33;simp at hc33
   refine cl rfl (aei (a:=x) (b:=y) (ia:=ia+ib) (ib:=ia+ib) hy0 (by omega) (by omega)) rfl<|?_
   exact at_ ⟨y,x%y⟩ (by dsimp only;exact⟨⟨h2,by have:=cS x hy0;omega,by rw[amn,h3]⟩,(by exact cS _ hy0)⟩)
  ·
   have hy0:y=0:=ack.1 (by omega)
   have hlx:=aa3 h1
   have hmx:=aax (dg x)
   refine ro0 J J<|ap _ J J (ak6 _) rfl<|?_
   refine fzE 44 rfl ?_
   exact rz rfl (by show DV.sl ([]++_)=_;rw[←h3,hy0,kR];rfl)
theorem axg(neg:Bool)(m:Nat):eI (zv neg m)= .ag [.v (.bool (neg&&decide (0<m))),dN m]:=by unfold eI;rw[aez,ajj]
theorem axR(z:Int):zv (!decide (z<0)) z.natAbs= -z:=by
 unfold zv
 by_cases h:z<0<;>simp[h]<;>omega
theorem avz(a b:Int):zv (!(decide (a<0)==decide (b<0))) (a.natAbs*b.natAbs)=a*b:=by
 have h:=atJ (decide (a<0)) (decide (b<0)) a.natAbs b.natAbs
 rw[acB,acB] at h
 exact h
theorem acw{neg:Bool}{m:Nat}:PF GB prog 157 [.v (.bool neg),dN m] (eI (zv neg m)):=by
 have hl:=aax (dg m)
 have hz:= @ack m
 refine fn func157 J J ntmps157 J J (fun C=>?_)
 refine csb 6 J J J (fun hg6=>?_) (fun hg6=>?_)
 ·
  exact rz rfl (by rw[axg,hg6];show DV.ag [.v (.bool _),_]= .ag [.v (.bool _),_];congr 4;rw[Bool.true_and];exact decide_eq_decide.2 (by omega))
 ·
  exact rz rfl (by rw[axg,hg6];rfl)
structure IvV where
 lo:RV
 hi:RV
 nl:Bool
 nh:Bool
def IvV.v(z:IvV):Value:= .agg ⟨[.int .i64 z.lo.n, .int .i64 z.lo.d, .pointer z.lo.p, .int .i64 z.hi.n, .int .i64 z.hi.d, .pointer z.hi.p, .bool z.nl, .bool z.nh]⟩
section
variable {P:Program} {C:Ctx} {n:Nat} {fr:Fr} {own own' own1:List Own} {G:Gh} {Φ:Act→World→Prop}
variable {dst:Option Nat} {t t' ty':TypeId} {pos:String} {af:Array Edge} {gd:Option (Nat×Bool)} {x y:Operand} {e s by_:Nat}
end
structure aBy (k:Nat) (G:Gh) (z:IvV) (v:IvQ):Prop where
 lo:IsR k G z.lo v.lo
 hi:IsR k G z.hi v.hi
 nl:z.nl=v.nl
 nh:z.nh=v.nh
def orQ:List Int→Int
 |[]=>0
 |x::t=>if x≠0 then x else orQ t
def aCD(l m:LnQ):Int:=orQ [adE l.a m.a,adE l.b m.b,adE l.c m.c]
structure FrV where
 l:LV
 v:IvV
def FrV.val(z:FrV):Value:= .agg ⟨[.int .i64 z.l.a.n, .int .i64 z.l.a.d, .pointer z.l.a.p, .int .i64 z.l.b.n, .int .i64 z.l.b.d, .pointer z.l.b.p, .int .i64 z.l.c.n, .int .i64 z.l.c.d, .pointer z.l.c.p, .int .i64 z.v.lo.n, .int .i64 z.v.lo.d, .pointer z.v.lo.p, .int .i64 z.v.hi.n, .int .i64 z.v.hi.d, .pointer z.v.hi.p, .bool z.v.nl, .bool z.v.nh]⟩
structure aBJ (k:Nat) (G:Gh) (z:FrV) (f:FrQ):Prop where
 l:IsL k G z.l f.l
 v:aBy (25*k+6) G z.v f.v
inductive afz {α β:Type} (R:α→β→Prop):List α→List β→Prop
 |nil:afz R [] []
 |cons {a b us bs} (h:R a b) (t:afz R us bs):afz R (a::us) (b::bs)
theorem afz.len{α β:Type}{R:α→β→Prop}{us:List α}{bs:List β}(h:afz R us bs):us.length=bs.length:=by
 induction h with
 |nil=>rfl
 |cons _ _ ih=>simp[ih]
theorem afz.imp{α β:Type}{R S:α→β→Prop}{us:List α}{bs:List β}(h:afz R us bs)(k: ∀a b,R a b→S a b):afz S us bs:=by
 induction h with
 |nil=>exact .nil
 |cons h _ ih=>exact .cons (k _ _ h) ih
theorem afz.get{α β:Type}{R:α→β→Prop}{us:List α}{bs:List β}(h:afz R us bs){i:Nat}{b:β}(hi:bs[i]? =some b): ∃a,us[i]? =some a∧R a b:=by
 induction h generalizing i with
 |nil=>simp at hi
 | @cons a b' us bs h t ih=>
  cases i with
  |zero=>simp at hi;subst hi;exact⟨a,rfl,h⟩
  |succ i=>simpa using ih (i:=i) (by simpa using hi)
theorem afz.app{α β:Type}{R:α→β→Prop}{us us':List α}{bs bs':List β}(h:afz R us bs)(k:afz R us' bs'):afz R (us++us') (bs++bs'):=by
 induction h with
 |nil=>exact k
 |cons h _ ih=>exact .cons h ih
structure IsC (k:Nat) (G:Gh) (x:SV) (c:aat):Prop where
 ex: ∃fs:List FrV,adW G 17 x (fs.map FrV.val)∧afz (aBJ k G) fs c

section
variable {P:Program} {C:Ctx} {n:Nat} {fr:Fr} {own own':List Own} {G:Gh} {Φ:Act→World→Prop}
variable {dst:Option Nat} {t t' ty':TypeId} {pos:String} {af:Array Edge} {gd:Option (Nat×Bool)} {x y:Operand} {e s by_:Nat}
theorem ar7{o1 o2:Own}{rest:List Own}(h:o1.b≠o2.b→St C n fr (o1::o2::rest) G Φ):St C n fr (o1::o2::rest) G Φ:=
 fun a w rl=>h ((bU.1 rl.h.nd).1 _ aQ) a w rl
theorem ac6[hT:ab7 P t e s by_]{k:IntKind}{b off len cap:Nat}{l:Int}(hx:opv fr x=some (.slice (some ⟨b,off,none⟩) len cap))(hy:opv fr y=some (.int k l))(h0:0≤l)(h1:l≤len)(h2:l<cap):
  Yd P C fr own G ⟨dst, .slice t x (some y) none none,ty',pos,af,gd⟩ (.slice (some ⟨b,off+l.toNat*s,none⟩) (len-l.toNat) (cap-l.toNat)):=by
 have h:=adR (P:=P) (C:=C) (own:=own) (G:=G) (t:=t) (dst:=dst) (ty':=ty') (pos:=pos) (af:=af) (gd:=gd) (by_:=by_) hx hy h0 h1
 unfold akJ at h
 rw[if_neg (by omega)] at h
 simpa[ace] using h
end

section
variable {P:Program} {C:Ctx} {n:Nat} {fr:Fr} {own own':List Own} {G:Gh} {Φ:Act→World→Prop}
variable {dst:Option Nat} {t t' ty':TypeId} {pos:String} {af:Array Edge} {gd:Option (Nat×Bool)} {x y:Operand} {e s by_:Nat}
end

def IsT(k:Nat)(G:Gh):Tr→Option Addr→Prop
 | .leaf b,p=> ∃n,p=some ⟨n,0,none⟩∧G n=some [.int .i64 0, .int .i64 0, .pointer none, .int .i64 0, .int .i64 0, .pointer none, .int .i64 0, .int .i64 0, .pointer none, .pointer none, .pointer none, .bool b]
 | .node l x y,p=> ∃(n:Nat) (z:LV) (q r:Option Addr),p=some ⟨n,0,none⟩∧G n=some [.int .i64 z.a.n, .int .i64 z.a.d, .pointer z.a.p, .int .i64 z.b.n, .int .i64 z.b.d, .pointer z.b.p, .int .i64 z.c.n, .int .i64 z.c.d, .pointer z.c.p, .pointer q, .pointer r, .bool false]∧IsL k G z l∧IsT k G x q∧IsT k G y r
structure ND where
 a:IV
 b:IV
 c:IV
 l:Int
 r:Int
def ND.val(z:ND):Value:= .agg ⟨[.bool z.a.neg, .slice z.a.a.a z.a.a.n z.a.a.c, .bool z.b.neg, .slice z.b.a.a z.b.a.n z.b.a.c, .bool z.c.neg, .slice z.c.a.a z.c.a.n z.c.a.c, .int .i64 z.l, .int .i64 z.r]⟩
structure aqt (k:Nat) (G:Gh) (z:ND) (n:NQ):Prop where
 a:IsI k G z.a n.l.a
 b:IsI k G z.b n.l.b
 c:IsI k G z.c n.l.c
 l:z.l=n.a
 r:z.r=n.b
theorem aqt.up{k:Nat}{A G:Gh}{z:ND}{n:NQ}(h:aqt k A z n)[GL A G]:aqt k G z n:=⟨h.a.up,h.b.up,h.c.up,h.l,h.r⟩
structure aA4 (k:Nat) (G:Gh) (x:SV) (ns:List NQ):Prop where
 ex: ∃zs:List ND,adW G 8 x (zs.map ND.val)∧afz (aqt k G) zs ns
def aBq(n i:Nat):List Value:=(List.range n).map fun j=> .bool (decide (j<i))

theorem ND.len8(zs:List ND): ∀v∈zs.map ND.val,(aad v).length=8:=fun v hv=>by
 obtain⟨f,_,rfl⟩:=bM.1 hv;rfl
theorem ND.flat(zs:List ND): ∀v∈zs.map ND.val,∀c∈aad v,Sx.flat c=true:=fun v hv c hc=>by
 obtain⟨f,_,rfl⟩:=bM.1 hv
 simp only[ND.val,aad,aS,List.not_mem_nil,or_false] at hc
 rcases hc with rfl|rfl|rfl|rfl|rfl|rfl|rfl|rfl<;>rfl
theorem afz.set{α β:Type}{R:α→β→Prop}{us:List α}{bs:List β}(h:afz R us bs){a:α}{b:β}(hr:R a b)(i:Nat):afz R (us.set i a) (bs.set i b):=by
 induction h generalizing i with
 |nil=>simp;exact .nil
 |cons h t ih=>
  cases i with
  |zero=>exact .cons hr t
  |succ i=>exact .cons h (ih i)
theorem ajB(zs:List ND)(rest:List Value)(i j:Nat)(x:Value)(z:ND)(hi:i<zs.length)(hj:j<8)(hz:aad z.val=(aad (zs[i]).val).set j x):
  (aaf (zs.map ND.val)++rest).set (i*8+j) x=aaf ((zs.set i z).map ND.val)++rest:=by
 have hi':i<(zs.map ND.val).length:=by simpa using hi
 rw[als hj _ i hi' (ND.len8 zs),List.getElem_map,←hz,oS,List.set_eq_take_append_cons_drop,if_pos hi',aa2]
 have e:aaf (z.val::(zs.map ND.val).drop (i+1))=aad z.val++aaf ((zs.map ND.val).drop (i+1)):=by simp[aaf]
 rw[e]
 simp[cY]
def adp(ob wb:Nat):Value:= .func (.func 140) #[] #[.pointer (some ⟨ob,0,none⟩), .pointer (some ⟨wb,0,none⟩)]
structure PtV where
 x:SV
 p:Option Addr
def PtV.val(z:PtV):Value:= .agg ⟨[.slice z.x.a z.x.n z.x.c, .pointer z.p]⟩
structure aBt (k:Nat) (G:Gh) (z:PtV) (b:Bool×aat):Prop where
 c:IsC k G z.x b.2
 t:IsT k G (.leaf b.1) z.p
structure aCd (k:Nat) (G:Gh) (w:SV) (ps:List (Bool×aat)):Prop where
 ex: ∃zs:List PtV,adW G 2 w (zs.map PtV.val)∧afz (aBt k G) zs ps
structure LI where
 a:IV
 b:IV
 c:IV
def LI.val(z:LI):Value:= .agg ⟨[.bool z.a.neg, .slice z.a.a.a z.a.a.n z.a.a.c, .bool z.b.neg, .slice z.b.a.a z.b.a.n z.b.a.c, .bool z.c.neg, .slice z.c.a.a z.c.a.n z.c.a.c]⟩
structure aBI (k:Nat) (G:Gh) (z:LI) (l:LnQ):Prop where
 a:IsI k G z.a l.a
 b:IsI k G z.b l.b
 c:IsI k G z.c l.c
structure aBv (k:Nat) (G:Gh) (x:SV) (ls:List LnQ):Prop where
 ex: ∃zs:List LI,adW G 6 x (zs.map LI.val)∧afz (aBI k G) zs ls
structure aBU (k:Nat) (G:Gh) (x:SV) (ls:List LnQ):Prop where
 ex: ∃zs:List LV,adW G 9 x (zs.map LV.v)∧afz (IsL k G) zs ls
theorem akw{a b:Int}(h:a=b):eI a=eI b:=by rw[h]
theorem alI(z:Int):eQ (z:Rat)= .ag [.v (.bool (decide (z<0))),dN z.natAbs, .sl []]:=by unfold eQ;rw[qJ,oZ];rfl
theorem aek{a:Rat}(h:a.den=1):((a.num:Int):Rat)=a:=Rat.ext (qJ _) (by rw[oZ,h])
theorem ar9{a b:Rat}(ha:a.den=1)(hb:b.den=1):a+b=((a.num+b.num:Int):Rat):=by
 rw[qX,aek ha,aek hb]
theorem ao4{a b:Rat}(ha:a.den=1)(hb:b.den=1):a*b=((a.num*b.num:Int):Rat):=by
 rw[eM,aek ha,aek hb]
theorem aif(n:Nat)(h:0<n):(if n=1 then [] else(dg n).map dU).length=0↔n=1:=by
 by_cases q:n=1
 ·simp[q]
 ·rw[if_neg q,aX,ack];omega
theorem axF{n:Nat}(h:n≠1):dD n=dN n:=by unfold dD;rw[if_neg h];rfl
theorem ai0{g:Nat}:(afE g 1=0)↔g=1:=by
 unfold afE
 constructor
 ·intro h;split at h
  ·exact absurd h (by decide)
  ·split at h
   ·assumption
   ·exact absurd h (by decide)
 ·rintro rfl;rfl
theorem as2{x:Int}{d:Nat}(hd:0<d):zv (decide (x<0)) (x.natAbs/Nat.gcd x.natAbs d)=(mkRat x d).num:=by
 rw[Rat.num_mkRat,if_neg (by omega),gX]
 have hg:0<Nat.gcd d x.natAbs:=lL _ hd
 obtain⟨c,hc⟩:Nat.gcd d x.natAbs∣x.natAbs:=oN _ _
 generalize Nat.gcd d x.natAbs=g at*
 rw[hc,Nat.mul_div_cancel_left _ hg]
 unfold zv
 by_cases q:x<0
 ·rw[if_pos (by simpa using q),show x=(g:Int)*(-(c:Int)) by rw[Int.mul_neg,←gK];omega,Int.mul_ediv_cancel_left _ (by omega)]
 ·rw[if_neg (by simpa using q),show x=(g:Int)*(c:Int) by rw[←gK];omega,Int.mul_ediv_cancel_left _ (by omega)]
theorem atE{x:Int}{d:Nat}(hd:0<d):d/Nat.gcd x.natAbs d=(mkRat x d).den:=by
 rw[Rat.den_mkRat,if_neg (by omega),gX]
theorem axm{x:Int}{d:Nat}(hd:0<d)(h:Nat.gcd x.natAbs d=1):(mkRat x d).num=x∧(mkRat x d).den=d:=by
 rw[←as2 hd,←atE hd,h,qT,qT]
 exact⟨acB x,rfl⟩
instance BI.zv (neg:Bool) (m i:Nat) [h:BN m i]:BI (zv neg m) i:=⟨by rw[aez];exact h.h⟩
section
variable {GB:Gh} {C:Ctx} {n:Nat} {Q0:Exit→Act→World→Prop} {fr fr':FrX} {own own':OwX} {cf cf':Cf} {vc:List Prop}
def aAZ(fr:FrX)(cf:Cf):Option Int:=match opC fr cf with
 |some ⟨_, .convert t t' x,_,_,_,_⟩=>match aa9 tt t,aa9 tt t' with
  |some ⟨.int .i64,_,_,_⟩,some ⟨.int .u64,_,_,_⟩=>match evX (lkC fr cf) x with
   |some (.d (.v (.int .i64 p)))=>some p
   |_=>none
  |_,_=>none
 |_=>none
theorem cvw[fu:Fu]{p:Int}(q:Int)(h:aAZ fr cf=some p)(e:p%18446744073709551616=q)(hgo:goA tt n fu.n fr own cf (.d (.v (.int .u64 q))) [] []=⟨vc,fr',own',cf'⟩)(k:CfS prog GB C n Q0 fr' own' cf')
  (hv:aag vc:=by first|exact trivial|(simp only[aag];omega)):CfS prog GB C n Q0 fr own cf:=by
 unfold aAZ at h
 split at h<;>try (cases h;done)
 rename_i hh
 split at h<;>try (cases h;done)
 rename_i hT hT'
 split at h<;>cases h
 rename_i hx
 have:=ahL (abt _ _ hT) rfl
 have:=ahL (abt _ _ hT') rfl
 refine us hh (.x1 hx fun ρ G ov a w y _ r h1 h2=>?_) hgo hv k
 rw[aas] at h2;subst h2
 refine⟨_,aas.2 rfl,?_⟩
 rw[←e,←abC]
 exact aiO h1
def aAm(fr:FrX)(cf:Cf):Option Int:=match opC fr cf with
 |some ⟨_, .unOp .neg _ x,_,_,_,_⟩=>match evX (lkC fr cf) x with
  |some (.d (.v (.int .u64 p)))=>some p
  |_=>none
 |_=>none
theorem ngw[fu:Fu]{p:Int}(q:Int)(h:aAm fr cf=some p)(e:(0-p)%18446744073709551616=q)(hgo:goA tt n fu.n fr own cf (.d (.v (.int .u64 q))) [] []=⟨vc,fr',own',cf'⟩)(k:CfS prog GB C n Q0 fr' own' cf')
  (hv:aag vc:=by first|exact trivial|(simp only[aag];omega)):CfS prog GB C n Q0 fr own cf:=by
 unfold aAm at h
 split at h<;>try (cases h;done)
 rename_i hh
 split at h<;>cases h
 rename_i hx
 refine us hh (.x1 hx fun ρ G ov a w y _ r h1 h2=>?_) hgo hv k
 rw[aas] at h2;subst h2
 refine⟨_,aas.2 rfl,?_⟩
 rw[←e,←abC]
 exact ao8 h1
end
theorem axY{n:Int}(h0: -4611686018427387904≤n)(h1:n≤4611686018427387904):PF GB prog 174 [.v (.int .i64 n)] (eI n):=by
 refine fn func174 J J ntmps174 J J (fun C=>?_)
 refine br (fu1:=⟨3⟩) (fu2:=⟨6⟩) J J J (fun hc4=>?_) (fun hc4=>?_)
 ·
  refine cvw (fu:=⟨0⟩) (18446744073709551616+n) rfl (by omega) rfl<|ngw (n.natAbs:Nat) rfl (by omega) rfl<|cl rfl (aft (u:=n.natAbs) (by omega)) rfl<|?_
  refine cl rfl acw rfl<|?_
  exact rz rfl (akw (by unfold zv;rw[if_pos rfl];omega))
 ·
  refine eqF 11 (.d (.v (.int .u64 (n.natAbs:Nat)))) rfl (by show FX.d (.v (.int _ _))= .d (.v (.int _ _));congr 3;omega) ?_
  refine gx rfl<|cl rfl (aft (u:=n.natAbs) (by omega)) rfl<|cl rfl acw rfl<|?_
  exact rz rfl (akw (by unfold zv;rw[if_neg (by decide)];omega))
theorem alO{z:Int}:PF GB prog 80 [eI z] (vI z.sign):=by
 have hl:=aax (dg z.natAbs)
 have hz:= @ack z.natAbs
 refine fn func80 J J ntmps80 J J (fun C=>?_)
 refine br J J J (fun hc6=>?_) (fun hc6=>?_)
 ·
  exact rz rfl (by show DV.v (.int _ 0)=DV.v (.int _ _);rw[show z=0 by omega];rfl)
 ·
  refine bd J J J (fun hc8=>?_) (fun hc8=>?_)
  ·
   exact rz rfl (by show DV.v (.int _ (-1))=DV.v (.int _ _);rw[dJ (by omega)])
  ·
   exact rz rfl (by show DV.v (.int _ 1)=DV.v (.int _ _);rw[dV (by omega)])
theorem agT{z:Int}:PF GB prog 162 [eI z] (eI (-z)):=by
 refine fn func162 J J ntmps162 J J (fun C=>?_)
 refine cl rfl acw rfl<|?_
 exact rz rfl (akw (axR z))
theorem aru{a b:Int}(h:decide (a<0)=decide (b<0)):zv (decide (a<0)) (a.natAbs+b.natAbs)=a+b:=by
 unfold zv
 have h':a<0↔b<0:=by simpa using h
 by_cases q:a<0
 ·have:=h'.1 q
  simp[q];omega
 ·have: ¬b<0:=fun w=>q (h'.2 w)
  simp[q];omega
theorem aut{a b:Int}(h: ¬decide (a<0)=decide (b<0))(k:a.natAbs<b.natAbs):zv (decide (b<0)) (b.natAbs-a.natAbs)=a+b:=by
 unfold zv
 have h': ¬(a<0↔b<0):=by simpa using h
 by_cases q:b<0
 ·have: ¬a<0:=fun w=>h' ⟨fun _=>q,fun _=>w⟩
  simp[q];omega
 ·have:a<0:=Int.not_le.1 fun w=>h' ⟨fun e=>by omega,fun e=>absurd e q⟩
  simp[q];omega
theorem auf{a b:Int}(h: ¬decide (a<0)=decide (b<0))(k:b.natAbs≤a.natAbs):zv (decide (a<0)) (a.natAbs-b.natAbs)=a+b:=by
 unfold zv
 have h': ¬(a<0↔b<0):=by simpa using h
 by_cases q:a<0
 ·have: ¬b<0:=fun w=>h' ⟨fun _=>w,fun _=>q⟩
  simp[q];omega
 ·have:b<0:=Int.not_le.1 fun w=>h' ⟨fun e=>absurd e q,fun e=>by omega⟩
  simp[q];omega
theorem aqX{a b:Int}{i j:Nat}[ha:BI a i][hb:BI b j](hi:i≤400000000:=by decide)(hj:j≤400000000:=by decide):PF GB prog 164 [eI a,eI b] (eI (a+b)):=by
 have hba:=aa3 ha.h
 have hbb:=aa3 hb.h
 refine fn (fu:=⟨15⟩) func164 J J ntmps164 J J (fun C=>?_)
 refine eqF 9 (.d (.v (.bool (decide (decide (a<0)=decide (b<0)))))) rfl (by congr 2) ?_
 refine gx rfl<|?_
 refine bd J J J (fun hc9=>?_) (fun hc9=>?_)
 ·
  refine cl rfl (az1 (by omega) (by omega)) rfl<|cl rfl acw rfl<|?_
  exact rz rfl (akw (aru hc9))
 ·
  refine cl rfl (aof (by omega) (by omega)) rfl<|?_
  refine br J J J (fun hc23=>?_) (fun hc23=>?_)
  ·
   refine cl rfl (aoW (by have:=aeq.1 hc23;omega) (by omega)) rfl<|cl rfl acw rfl<|?_
   exact rz rfl (akw (aut hc9 (aeq.1 hc23)))
  ·
   refine cl rfl (aoW (pT fun q=>hc23 (aeq.2 q)) (by omega)) rfl<|cl rfl acw rfl<|?_
   exact rz rfl (akw (auf hc9 (pT fun q=>hc23 (aeq.2 q))))
theorem ajK{a b:Int}{i j:Nat}[ha:BI a i][hb:BI b j](hi:i≤400000000:=by decide)(hj:j≤400000000:=by decide):PF GB prog 163 [eI a,eI b] (eI (a*b)):=by
 refine fn func163 J J ntmps163 J J (fun C=>?_)
 refine cl rfl (abX (by omega) (by omega)) rfl<|cl rfl acw rfl<|?_
 exact rz rfl (akw (avz a b))
theorem afM{a b:Int}{i j:Nat}[ha:BI a i][hb:BI b j](hi:i≤400000000:=by decide)(hj:j≤400000000:=by decide):PF GB prog 165 [eI a,eI b] (vI (a-b).sign):=by
 refine fn func165 J J ntmps165 J J (fun C=>?_)
 refine cl rfl agT rfl<|cl rfl (aqX (by omega) (by omega)) rfl<|cl rfl alO rfl<|?_
 exact rz rfl (by rw[Int.sub_eq_add_neg];rfl)
theorem adZ{q:Rat}:PF GB prog 145 [eQ q] (dN q.den):=by
 refine fn func145 J J ntmps145 J J (fun C=>?_)
 refine br J J J (fun hc6=>?_) (fun hc6=>?_)
 ·
  refine cl rfl avD rfl<|?_
  exact rz rfl (by rw[(aif q.den (abp q)).1 (by omega)];rfl)
 ·
  exact rz rfl (by exact axF (fun e=>hc6 (by exact congrArg Int.ofNat ((aif q.den (abp q)).2 e))))
theorem af4{n k:Nat}[h:BN n k](hk:k≤500000000):(dg n).length≤100000000:=by have:=aa3 h.h;omega
theorem ahM{x:Int}{d i j:Nat}[hx:BI x i][hd:BN d j](hd0:0<d)(hi:i≤200000000:=by decide)(hj:j≤200000000:=by decide):PF GB prog 135 [eI x,dN d] (eQ (mkRat x d)):=by
 obtain⟨q,hq⟩: ∃q,q=mkRat x d:=⟨_,rfl⟩
 obtain⟨g,hg⟩: ∃g,g=Nat.gcd x.natAbs d:=⟨_,rfl⟩
 have hg0:0<g:=hg▸lW _ hd0
 haveI hgB:BN g (i+j):=hg▸inferInstance
 have hg1:(dg g).length≤100000000:=af4 (k:=i+j) (by omega)
 have ho1:(dg 1).length≤100000000:=by rw[akd];decide
 haveI hqB:BQ q (i+j):=hq▸adF hd0 (cJ hx.h (aL (by decide) (by omega))) (cJ hd.h (aL (by decide) (by omega)))
 refine fn func135 J J ntmps135 J J (fun C=>?_)
 refine cl (fu:=⟨0⟩) rfl (aiU (by omega) (by omega)) rfl<|?_
 refine eqF 11 (.d (dN g)) rfl (by rw[hg]) ?_
 refine gx (fu:=⟨4⟩) rfl<|?_
 refine mg (fu:=⟨1⟩) (X:=Unit) (fun _=>[(1, .d (dN q.den)),(2, .ov 2 0),(4, .ov 4 0)]) (fun _=>[(4,some (.o 56 [.ff, .nl, .nl] true)),(2,some (.o 54 [.d (.v (.bool (decide (q.num<0)))), .d (dN q.num.natAbs)] true))]) (fun _=>True) [1,2,4] [4,2] rfl ?_ (fun _=>rfl) (fun _ hm=>?_)
 ·
  refine gx rfl<|cl rfl avD rfl<|cl rfl (aof hg1 ho1) rfl<|?_
  refine br J J J (fun hc15=>?_) (fun hc15=>?_)
  ·
   refine cl rfl (aei hg0 (by omega) (by omega)) rfl<|cl (fu:=⟨0⟩) rfl acw rfl<|?_
   refine eqF 26 (.d (eI q.num)) rfl (by show FX.d (eI (zv _ _))=_;rw[hg,as2 hd0,hq]) ?_
   refine gx rfl<|cl (fu:=⟨2⟩) rfl (aei hg0 (by omega) (by omega)) rfl<|?_
   refine eqF 31 (.d (dN q.den)) rfl (by rw[hg,atE hd0,hq]) ?_
   refine gx rfl<|?_
   exact at_ () trivial
  ·
   have hm:=axm (x:=x) hd0 (by rw[←hg];exact ai0.1 (Decidable.not_not.1 hc15))
   rw[←hq] at hm
   refine eqF 1 (.d (dN q.den)) rfl (by rw[hm.2]) ?_
   exact at_ () trivial (hO:=⟨rfl,by rw[hm.1];rfl,trivial⟩)
 ·
  refine mg (X:=Unit) (fun _=>[(1, .d (dD q.den)),(2, .ov 2 0),(4, .ov 4 0)]) (fun _=>[(4,some (.o 56 [.ff, .nl, .nl] true)),(2,some (.o 54 [.d (.v (.bool (decide (q.num<0)))), .d (dN q.num.natAbs)] true))]) (fun _=>True) [1,2,4] [4,2] rfl ?_ (fun _=>rfl) (fun _ hm=>?_)
  ·
   refine gx rfl<|cl rfl avD rfl<|cl rfl (aof (af4 (k:=i+j) (by omega)) ho1) rfl<|?_
   refine br J J J (fun hc36=>?_) (fun hc36=>?_)
   ·
    refine nlD 1 rfl ?_
    refine eqF 1 (.d (dD q.den)) rfl (by rw[ai0.1 hc36];rfl) ?_
    exact at_ () trivial
   ·
    refine eqF 1 (.d (dD q.den)) rfl (by rw[axF (fun e=>hc36 (ai0.2 e))]) ?_
    exact at_ () trivial
  ·
   exact rz rfl (by rw[←hq];rfl)
theorem agF(a:Rat):mkRat a.num a.den=a:=by simp[Rat.mkRat_self]
theorem aou{a b:Rat}(h:b≠0):a/b=mkRat (a.num*zv (decide (b.num<0)) b.den) (a.den*b.num.natAbs):=by
 rw[lS]
 have ha:(a.num:Rat)/(a.den:Rat)=a:=by rw[←lS,agF]
 have hb:(b.num:Rat)/(b.den:Rat)=b:=by rw[←lS,agF]
 have h1:(a.den:Rat)≠0:=by have:=a.den_nz;exact_mod_cast this
 have h2:(b.den:Rat)≠0:=by have:=b.den_nz;exact_mod_cast this
 have h3:(b.num:Rat)≠0:=by
  intro e
  rw[e] at hb
  apply h;rw[←hb];grind
 rw[eM,Rat.natCast_mul]
 by_cases q:b.num<0
 ·have e1:((zv (decide (b.num<0)) b.den:Int):Rat)= -(b.den:Rat):=by
   unfold zv;rw[if_pos (by simpa using q),mW];rfl
  have e2:((b.num.natAbs:Nat):Rat)= -(b.num:Rat):=by
   have:((b.num.natAbs:Nat):Int)= -b.num:=by omega
   rw[←mW,←this];rfl
  rw[e1,e2]
  generalize (a.num:Rat)=an at*
  generalize (a.den:Rat)=ad at*
  generalize (b.num:Rat)=bn at*
  generalize (b.den:Rat)=bd at*
  subst ha hb
  grind
 ·have e1:((zv (decide (b.num<0)) b.den:Int):Rat)=(b.den:Rat):=by
   unfold zv;rw[if_neg (by simpa using q)];rfl
  have e2:((b.num.natAbs:Nat):Rat)=(b.num:Rat):=by
   have:((b.num.natAbs:Nat):Int)=b.num:=by omega
   rw[←this];rfl
  rw[e1,e2]
  generalize (a.num:Rat)=an at*
  generalize (a.den:Rat)=ad at*
  generalize (b.num:Rat)=bn at*
  generalize (b.den:Rat)=bd at*
  subst ha hb
  grind
theorem amW{q:Rat}{n:Int}{d:Nat}(hd:0<d)(h:q*(d:Rat)=(n:Rat)):q.num.natAbs≤n.natAbs∧q.den≤d:=by
 have e:q=mkRat n d:=by
  rw[lS]
  have:(d:Rat)≠0:=by exact_mod_cast (by omega:d≠0)
  rw[←h];grind
 rw[e,Rat.num_mkRat,Rat.den_mkRat,if_neg (by omega),if_neg (by omega)]
 exact⟨lQ n (d.gcd n.natAbs:Nat),iL ..⟩
theorem BQ.of_frac{q:Rat}{n:Int}{d i:Nat}(hd:0<d)(h:q*(d:Rat)=(n:Rat))(hn:n.natAbs<2^i)(hdi:d<2^i):BQ q i:=by
 have:=amW hd h
 exact⟨by omega,by omega⟩
theorem ahO{b:Rat}(h:b≠0):0<b.num.natAbs:=by
 have:b.num≠0:=fun e=>h (kQ.1 e)
 omega
instance BQ.over (a b:Rat) (i j:Nat) [ha:BQ a i] [hb:BQ b j]:BQ (a/b) (i+j):=by
 by_cases h:b=0
 ·subst h
  rw[Rat.div_def,Rat.inv_zero,Rat.mul_zero]
  have h2:=ha.hd
  have h3:0<a.den:=abp a
  have h4:2^i*1≤2^i*2^j:=dW _ (dX (by decide))
  rw[←dR] at h4
  exact⟨by show 0<_;omega,by show 1<_;omega⟩
 ·rw[aou h]
  have hb0:=ahO h
  refine adF (gR (abp a) hb0) ?_ (aba ha.hd hb.hn)
  rw[gU,aez]
  exact aba ha.hn hb.hd
theorem axV{n:Int}(h0: -4611686018427387904≤n)(h1:n≤4611686018427387904):PF GB prog 101 [.v (.int .i64 n)] (eQ (n:Rat)):=by
 refine fn func101 J J ntmps101 J J (fun C=>?_)
 refine cl rfl (axY (by omega) (by omega)) rfl<|?_
 exact rz rfl (by rw[alI];rfl)
theorem q_S{q:Rat}:PF GB prog 131 [eQ q] (vI q.num.sign):=by
 refine fn func131 J J ntmps131 J J (fun C=>?_)
 refine cl rfl alO rfl<|?_
 exact rz J J
theorem aoV{q:Rat}:PF GB prog 84 [eQ q] (eQ (-q)):=by
 refine fn func84 J J ntmps84 J J (fun C=>?_)
 refine cl rfl agT rfl<|?_
 exact rz rfl (by unfold eQ;rw[kK,mN];rfl)
theorem abH{a b:Rat}{i j:Nat}[ha:BQ a i][hb:BQ b j](hi:i≤20000000:=by decide)(hj:j≤20000000:=by decide):PF GB prog 87 [eQ a,eQ b] (eQ (a*b)):=by
 have had:=abp a
 have hbd:=abp b
 have hdp:=gR had hbd
 have e1:=aif a.den had
 have e2:=aif b.den hbd
 refine fn func87 J J ntmps87 J J (fun C=>?_)
 refine cs 9 J J J (fun hg9=>?_) (fun hg9=>?_)
 ·
  refine br J J J (fun hc14=>?_) (fun hc14=>?_)
  ·
   refine cl rfl (ajK (a:=a.num) (b:=b.num) (by omega) (by omega)) rfl<|?_
   exact rz rfl (by rw[ao4 (e1.1 (by omega)) (e2.1 (by omega)),alI];rfl)
  ·
   refine cl rfl (ajK (a:=a.num) (b:=b.num) (by omega) (by omega)) rfl<|cl rfl adZ rfl<|cl rfl adZ rfl<|cl rfl (abX (by omega) (by omega)) rfl<|?_
   refine cl rfl (ahM hdp (by omega) (by omega)) rfl<|?_
   exact rz rfl (by rw[adn];rfl)
 ·
  refine cl rfl (ajK (a:=a.num) (b:=b.num) (by omega) (by omega)) rfl<|cl rfl adZ rfl<|cl rfl adZ rfl<|cl rfl (abX (by omega) (by omega)) rfl<|?_
  refine cl rfl (ahM hdp (by omega) (by omega)) rfl<|?_
  exact rz rfl (by rw[adn];rfl)
theorem ake{a b:Rat}{i j:Nat}[ha:BQ a i][hb:BQ b j](hi:i≤20000000:=by decide)(hj:j≤20000000:=by decide):PF GB prog 86 [eQ a,eQ b] (eQ (a+b)):=by
 have had:=abp a
 have hbd:=abp b
 have hdp:=gR had hbd
 have e1:=aif a.den had
 have e2:=aif b.den hbd
 refine fn func86 J J ntmps86 J J (fun C=>?_)
 refine cs 9 J J J (fun hg9=>?_) (fun hg9=>?_)
 ·
  refine br J J J (fun hc14=>?_) (fun hc14=>?_)
  ·
   refine cl rfl (aqX (by omega) (by omega)) rfl<|?_
   exact rz rfl (by rw[ar9 (e1.1 (by omega)) (e2.1 (by omega)),alI];rfl)
  ·
   refine cl rfl adZ rfl<|cl rfl acw rfl<|cl rfl (ajK (a:=a.num) (b:=zv false b.den) (by omega) (by omega)) rfl<|cl rfl adZ rfl<|cl rfl acw rfl<|?_
   refine cl rfl (ajK (a:=b.num) (b:=zv false a.den) (by omega) (by omega)) rfl<|cl rfl (aqX (by omega) (by omega)) rfl<|cl rfl adZ rfl<|?_
   refine cl rfl adZ rfl<|cl rfl (abX (by omega) (by omega)) rfl<|cl rfl (ahM hdp (by omega) (by omega)) rfl<|?_
   exact rz rfl (by rw[adt];rfl)
 ·
  refine cl rfl adZ rfl<|cl rfl acw rfl<|cl rfl (ajK (a:=a.num) (b:=zv false b.den) (by omega) (by omega)) rfl<|cl rfl adZ rfl<|?_
  refine cl rfl acw rfl<|cl rfl (ajK (a:=b.num) (b:=zv false a.den) (by omega) (by omega)) rfl<|cl rfl (aqX (by omega) (by omega)) rfl<|?_
  refine cl rfl adZ rfl<|cl rfl adZ rfl<|cl rfl (abX (by omega) (by omega)) rfl<|cl rfl (ahM hdp (by omega) (by omega)) rfl<|?_
  exact rz rfl (by rw[adt];rfl)
theorem asx{a b:Rat}{i j:Nat}[ha:BQ a i][hb:BQ b j](hi:i≤20000000:=by decide)(hj:j≤20000000:=by decide):PF GB prog 146 [eQ a,eQ b] (eQ (a-b)):=by
 refine fn func146 J J ntmps146 J J (fun C=>?_)
 refine cl rfl (aoV (q:=b)) rfl<|cl rfl (ake (a:=a) (b:= -b) hi hj) rfl<|?_
 exact rz rfl (by rw[Rat.sub_eq_add_neg];rfl)
theorem aqj{a b:Rat}{i j:Nat}[ha:BQ a i][hb:BQ b j](hb0:b≠0)(hi:i≤20000000:=by decide)(hj:j≤20000000:=by decide):PF GB prog 85 [eQ a,eQ b] (eQ (a/b)):=by
 have hbp:=ahO hb0
 have hdp:=gR (abp a) hbp
 refine fn func85 J J ntmps85 J J (fun C=>?_)
 refine cl rfl adZ rfl<|cl rfl acw rfl<|cl rfl (ajK (a:=a.num) (b:=zv (decide (b.num<0)) b.den) (by omega) (by omega)) rfl<|cl rfl adZ rfl<|?_
 refine cl rfl (abX (a:=a.den) (b:=b.num.natAbs) (by omega) (by omega)) rfl<|cl rfl (ahM (x:=a.num*zv (decide (b.num<0)) b.den) (d:=a.den*b.num.natAbs) hdp (by omega) (by omega)) rfl<|?_
 exact rz rfl (by rw[aou hb0];rfl)
theorem q_C{a b:Rat}{i j:Nat}[ha:BQ a i][hb:BQ b j](hi:i≤20000000:=by decide)(hj:j≤20000000:=by decide):PF GB prog 161 [eQ a,eQ b] (vI (adE a b)):=by
 refine fn func161 J J ntmps161 J J (fun C=>?_)
 refine cl rfl (asx hi hj) rfl<|cl rfl q_S rfl<|?_
 exact rz rfl (by show vI _=vI _;rw[agj])
instance BI.two:BI 2 2:=⟨by decide⟩
theorem awI{m:Int}{g:Nat}(hg:(g:Int)∣m)(hb:m.natAbs<4611686018427387904):IntKind.i64.wrap (m.tdiv g)=m/g:=by
 rw[Int.tdiv_eq_ediv_of_dvd hg]
 have:=lQ m g
 exact aqq (by omega)
def tm(a b:Int):Int:=if(a*b).natAbs<4611686018427387904 then a*b else 0
theorem aul(a b:Int):(tm a b).natAbs<4611686018427387904:=by unfold tm;split<;>omega
theorem aoc{a b:Int}(h:(a*b).natAbs<4611686018427387904):tm a b=a*b:=if_pos h
theorem awk{a b:Int}(h: ¬(a*b).natAbs<4611686018427387904):DV.tp [vI 0, .v (.bool false)]= .tp [vI (tm a b),vB (decide ((a*b).natAbs<4611686018427387904))]:=by unfold tm;rw[if_neg h,decide_eq_false h];rfl
theorem atB{a b:Int}{x:Int}(h:(a*b).natAbs<4611686018427387904)(e:x=a*b):DV.tp [vI x, .v (.bool true)]= .tp [vI (tm a b),vB (decide ((a*b).natAbs<4611686018427387904))]:=by unfold tm;rw[if_pos h,decide_eq_true h,e];rfl
theorem as8(n:Nat):eI (n:Int)= .ag [.v (.bool false),dN n]:=by unfold eI;rw[decide_eq_false (by omega),iK]
theorem awH{p q:Rat}(hp:p.den=1)(hq:q.den=1):rgcd p q=((Nat.gcd p.num.natAbs q.num.natAbs:Nat):Int):=by
 conv=>lhs;rw[aiN hp,aiN hq]
 exact afg _ _
theorem auz(q:Rat):mkRat (zv (decide (q.num<0)) q.den) q.num.natAbs=q⁻¹:=by
 rw[Rat.inv_def]
 by_cases h:q.num<0
 ·rw[decide_eq_true h];exact aiQ h
 ·rw[decide_eq_false h,←Rat.divInt_ofNat,lJ (by omega)];rfl
instance BQ.inv (q:Rat) (i:Nat) [h:BQ q i]:BQ q⁻¹ i:=by
 have h1:=h.hn
 have h2:=h.hd
 have h3:=q.den_nz
 rcases jN q.num 0 with k|k|k
 ·obtain⟨e1,e2⟩:=agU k;exact⟨by omega,by omega⟩
 ·have e:q=0:=kQ.1 k
  have e0:(0:Rat)⁻¹=0:=Rat.inv_zero
  rw[e] at h1 h2⊢;rw[e0];exact⟨h1,h2⟩
 ·obtain⟨e1,e2⟩:=agZ k;exact⟨by omega,by omega⟩
instance BQ.half:BQ (mkRat 1 2) 2:=⟨by decide,by decide⟩
theorem avU{x y:Nat}(hx:x<18446744073709551616)(hy:y<18446744073709551616):PF GB prog 265 [.v (.int .u64 (x:Nat)), .v (.int .u64 (y:Nat))] (.tp [.v (.int .u64 ((x*y/18446744073709551616:Nat):Int)), .v (.int .u64 ((x*y%18446744073709551616:Nat):Int))]):=fun G vs _ hv=>by
 obtain⟨v,m,rfl,h1,h2⟩:=aab.1 hv
 obtain⟨u,m',rfl,h3,h4⟩:=aab.1 h2
 cases aaz.1 h4
 rw[aaM.1 h1,aaM.1 h3]
 exact(akD hx hy).mono fun v G' _ h=>by subst h;exact acQ.2 ⟨_,rfl, .cons (aaM.2 rfl) (.cons (aaM.2 rfl) .nil)⟩
theorem axZ{a b:Nat}(ha:a<18446744073709551616)(hb:b<18446744073709551616):PF GB prog 267 [.v (.int .u64 (a:Nat)), .v (.int .u64 (b:Nat))] (.v (.int .u64 (Nat.gcd a b:Nat))):=by
 refine fn func267 J J ntmps267 J J (fun C=>?_)
 refine lp (X:=Nat×Nat) (fun⟨u,v⟩=>[(1, .d (.v (.int .u64 (v:Nat)))),(0, .d (.v (.int .u64 (u:Nat))))]) (fun⟨u,v⟩=>[]) (fun⟨u,v⟩=>u<18446744073709551616∧v<18446744073709551616∧Nat.gcd u v=Nat.gcd a b) (fun⟨u,v⟩=>v) (a,b) rfl ⟨ha,hb,rfl⟩ (fun _=>rfl) (fun⟨u,v⟩ hk=>?_)
 dsimp only at hk⊢
 obtain⟨h1,h2,h3⟩:=hk
 refine br (v1:=fun hc6=>by simp only[aag];exact⟨by omega,by kernel_rfl⟩) J J J (fun hc6=>?_) (fun hc6=>?_)
 ·
  have hm:=cS u (show 0<v by omega)
  exact at_ (v,u%v) (by dsimp only;exact⟨⟨h2,by omega,by rw[←h3,gX u v,qU v u,gX]⟩,hm⟩)
 ·
  exact rz rfl (by rw[←h3,show v=0 by omega,kR];rfl)
theorem ahz{m:Int}(h:m.natAbs<9223372036854775808):PF GB prog 113 [vI m] (eF (m:Rat)):=by
 refine fn func113 J J ntmps113 J J (fun C=>?_)
 refine cs 5 J J J (fun hg5=>?_) (fun hg5=>?_)
 ·
  refine cl rfl (agK (m:=m) (by omega) (by omega)) rfl<|rf (fu:=⟨0⟩) J J<|?_
  refine eqF 11 (.d (dN 1)) rfl (by unfold dN;rw[akd];rfl) ?_
  refine gx rfl<|cl rfl (adc (n:=decide (m<0)) (a:=m.natAbs) (i:=63) (h:=⟨h⟩) (d:=1)) rfl<|?_
  exact rz rfl (by rw[acB,show mkRat m 1=(m:Rat) from pR ..];rfl)
 ·
  refine br J J J (fun hc8=>?_) (fun hc8=>?_)
  ·
   refine cl rfl (agK (m:=m) (by omega) (by omega)) rfl<|rf (fu:=⟨0⟩) J J<|?_
   refine eqF 11 (.d (dN 1)) rfl (by unfold dN;rw[akd];rfl) ?_
   refine gx rfl<|cl rfl (adc (n:=decide (m<0)) (a:=m.natAbs) (i:=63) (h:=⟨h⟩) (d:=1)) rfl<|?_
   exact rz rfl (by rw[acB,show mkRat m 1=(m:Rat) from pR ..];rfl)
  ·
   exact rzI rfl (aAP (by omega))
theorem ahc{a b:Int}(ha:a.natAbs<4611686018427387904)(hb:b.natAbs<4611686018427387904):PF GB prog 226 [vI a,vI b] (.tp [vI (tm a b),vB (decide ((a*b).natAbs<4611686018427387904))]):=by
 have hab:=gU a b
 refine fn func226 J J ntmps226 J J (fun C=>?_)
 refine cl rfl (aqr (m:=a) (by omega)) rfl<|cl rfl (aqr (m:=b) (by omega)) rfl<|cl rfl (avU (x:=a.natAbs) (y:=b.natAbs) (by omega) (by omega)) rfl<|?_
 refine cs 18 J J J (fun hg18=>?_) (fun hg18=>?_)
 ·
  exact rz rfl (awk (by omega))
 ·
  refine br J J J (fun hc21=>?_) (fun hc21=>?_)
  ·
   exact rz rfl (awk (by omega))
  ·
   refine bb J J J (fun hc26=>?_) (fun hc26=>?_)
   ·
    have hs:=aj2 a b
    rw[if_neg (by simpa using hc26)] at hs
    exact rz rfl (atB (by omega) (by rw[hs,←hab];omega))
   ·
    have hs:=aj2 a b
    rw[if_pos (by simpa using hc26)] at hs
    exact rz rfl (atB (by omega) (by rw[hs,←hab];omega))
theorem amJ{m:Int}{d:Nat}(h:m.natAbs<4611686018427387904)(h0:0<d)(hd:d<4611686018427387904):PF GB prog 227 [vI m,vI (d:Nat)] (eF (mkRat m d)):=by
 have hg:Nat.gcd m.natAbs d≤d:=Nat.gcd_le_right _ h0
 have hg0:0<Nat.gcd m.natAbs d:=lW _ h0
 obtain⟨e1,e2⟩:=apw (m:=m) h0
 have e3:=lQ m (Nat.gcd m.natAbs d:Nat)
 have e4:=iL d (Nat.gcd m.natAbs d)
 have e5:=Nat.div_pos hg hg0
 refine fn func227 J J ntmps227 J J (fun C=>?_)
 refine cl rfl (aqr (m:=m) (by omega)) rfl<|cl rfl (axZ (a:=m.natAbs) (b:=d) (by omega) (by omega)) rfl<|?_
 refine br (fu1:=⟨4⟩) J J J (fun hc13=>?_) (fun hc13=>?_)
 ·
  refine eqF 16 (.d (vI (m/(Nat.gcd m.natAbs d:Nat)))) rfl (by rw[awI (Int.dvd_natAbs.1 (oV.2 (pU _ _))) h];rfl) ?_
  refine gx (fu:=⟨3⟩) rfl<|?_
  refine eqF 19 (.d (vI ((d/Nat.gcd m.natAbs d:Nat)))) rfl (by rw[awI (oV.2 (oN _ _)) (by rw[iK];exact hd)];rfl) ?_
  refine gx (hv:=by simp only[aag];exact⟨by kernel_rfl,by omega⟩) rfl<|?_
  exact rzI rfl (aqO (fun k=>k ⟨by rw[e1];omega,by rw[e2];omega⟩) e1 (by rw[e2]) rfl)
 ·
  exact rzI rfl (by have h1:Nat.gcd m.natAbs d=1:=(by omega);rw[h1,qT] at e2;rw[h1,Int.natCast_one,Int.ediv_one] at e1;exact aqO (fun k=>k ⟨by rw[e1];omega,by rw[e2];omega⟩) e1 (by rw[e2]) rfl)
theorem af7{p q:Rat}{i j:Nat}[h:BQ p i][k:BQ q j](hi:i≤100000000:=by decide)(hj:j≤100000000:=by decide):PF GB prog 184 [eF p,eF q] (eF (p*q)):=by
 refine fn (fu:=⟨8⟩) func184 J J ntmps184 J J (fun C=>?_)
 refine mg (X:=Unit) (fun _=>[(2, .ov 2 0),(3, .ov 3 0),(4, .ov 4 0)]) (fun _=>[(2,some (.o 102 [.d (vI (fn_ p)), .d (vI (fd_ p)), .d (fp_ p)] true)),(3,some (.o 102 [.d (vI (fn_ q)), .d (vI (fd_ q)), .d (fp_ q)] true)),(4,some (.o 102 [.d (.v (.int .i64 0)), .d (.v (.int .i64 0)), .d (.v (.pointer none))] true))]) (fun _=>True) [2,3,4] [2,3,4] rfl ?_ (fun _=>rfl) (fun _ _=>?_)
 ·
  refine gx rfl<|?_
  refine cs 12 J J J (fun hg12=>?_) (fun hg12=>?_)
  ·
   refine br (fu1:=⟨4⟩) J J J (fun hc16=>?_) (fun hc16=>?_)
   ·
    have hp:=bgF hg12
    have hq:=bgF hc16
    have p1:=al2 hp
    have p2:=anq hp
    have p3:=acS hp
    have p4:=acV hp
    have p5:=p.den_nz
    have q1:=al2 hq
    have q2:=anq hq
    have q3:=acS hq
    have q4:=acV hq
    have q5:=q.den_nz
    refine eqF 19 (.d (vI p.num)) rfl (by rw[p1]) ?_
    refine gx (fu:=⟨2⟩) rfl<|?_
    refine eqF 21 (.d (vI q.num)) rfl (by rw[q1]) ?_
    refine gx rfl<|cl (fu:=⟨12⟩) rfl (ahc (a:=p.num) (b:=q.num) (by omega) (by omega)) rfl<|?_
    refine eqF 28 (.d (vI (p.den:Nat))) rfl (by congr 3;omega) ?_
    refine gx (fu:=⟨3⟩) rfl<|?_
    refine eqF 31 (.d (vI (q.den:Nat))) rfl (by congr 3;omega) ?_
    refine gx rfl<|cl rfl (ahc (a:=(p.den:Nat)) (b:=(q.den:Nat)) (by omega) (by omega)) rfl<|?_
    refine csd 36 J J J (fun hg36=>?_) (fun hg36=>?_)
    ·
     refine bd (fu1:=⟨3⟩) J J J (fun hc38=>?_) (fun hc38=>?_)
     ·
      have hd1:p.den*q.den<4611686018427387904:=by omega
      refine eqF 39 (.d (vI (p.num*q.num))) rfl (by rw[aoc hg36]) ?_
      refine gx (fu:=⟨1⟩) rfl<|?_
      refine eqF 40 (.d (vI ((p.den*q.den:Nat)))) rfl (by rw[aoc hc38];rfl) ?_
      refine gx rfl<|cl rfl (amJ (m:=p.num*q.num) (d:=p.den*q.den) hg36 (gR (by omega) (by omega)) hd1) rfl<|?_
      exact rz rfl (by rw[←adn];rfl)
     ·
      exact at_ () trivial
    ·
     exact at_ () trivial
   ·
    exact at_ () trivial
  ·
   exact at_ () trivial
 ·
  refine cl rfl (aiE (q:=p) (by omega)) rfl<|cl rfl (aiE (q:=q) (by omega)) rfl<|cl rfl (aow (a:=p.num) (b:=q.num) (by omega) (by omega)) rfl<|?_
  refine cl rfl (ahv (q:=p) (by omega)) rfl<|cl rfl (ahv (q:=q) (by omega)) rfl<|cl rfl (anm (a:=p.den) (b:=q.den) (by omega) (by omega)) rfl<|?_
  refine cl rfl (adc (n:=decide (p.num*q.num<0)) (a:=(p.num*q.num).natAbs) (d:=p.den*q.den) (i:=i+j) (j:=i+j) (by omega) (by omega)) rfl<|?_
  exact rz rfl (by rw[acB,←adn];rfl)
theorem afm{p q:Rat}{i j:Nat}[h:BQ p i][k:BQ q j](hi:i≤100000000:=by decide)(hj:j≤100000000:=by decide):PF GB prog 181 [eF p,eF q] (eF (p+q)):=by
 refine fn (fu:=⟨8⟩) func181 J J ntmps181 J J (fun C=>?_)
 refine mg (X:=Unit) (fun _=>[(2, .ov 2 0),(3, .ov 3 0),(4, .ov 4 0)]) (fun _=>[(2,some (.o 102 [.d (vI (fn_ p)), .d (vI (fd_ p)), .d (fp_ p)] true)),(3,some (.o 102 [.d (vI (fn_ q)), .d (vI (fd_ q)), .d (fp_ q)] true)),(4,some (.o 102 [.d (.v (.int .i64 0)), .d (.v (.int .i64 0)), .d (.v (.pointer none))] true))]) (fun _=>True) [2,3,4] [2,3,4] rfl ?_ (fun _=>rfl) (fun _ _=>?_)
 ·
  refine gx rfl<|?_
  refine cs 16 J J J (fun hg16=>?_) (fun hg16=>?_)
  ·
   refine br (fu1:=⟨1⟩) J J J (fun hc20=>?_) (fun hc20=>?_)
   ·
    have hp:=bgF hg16
    have hq:=bgF hc20
    have p1:=al2 hp
    have p2:=anq hp
    have p3:=acS hp
    have p4:=acV hp
    have p5:=p.den_nz
    have q1:=al2 hq
    have q2:=anq hq
    have q3:=acS hq
    have q4:=acV hq
    have q5:=q.den_nz
    refine mg (fu:=⟨4⟩) (X:=Unit) (fun _=>[(2, .ov 2 0),(3, .ov 3 0),(4, .ov 4 0)]) (fun _=>[(2,some (.o 102 [.d (vI (fn_ p)), .d (vI (fd_ p)), .d (fp_ p)] true)),(3,some (.o 102 [.d (vI (fn_ q)), .d (vI (fd_ q)), .d (fp_ q)] true)),(4,some (.o 102 [.d (.v (.int .i64 0)), .d (.v (.int .i64 0)), .d (.v (.pointer none))] true))]) (fun _=>True) [2,3,4] [2,3,4] rfl ?_ (fun _=>rfl) (fun _ _=>?_)
    ·
     refine gx rfl<|?_
     refine cs 24 J J J (fun hg24=>?_) (fun hg24=>?_)
     ·
      refine br (fu1:=⟨4⟩) J J J (fun hc28=>?_) (fun hc28=>?_)
      ·
       refine eqF 30 (.d (vI p.num)) rfl (by rw[p1]) ?_
       refine gx (fu:=⟨2⟩) rfl<|?_
       refine eqF 32 (.d (vI q.num)) rfl (by rw[q1]) ?_
       refine gx rfl<|cl rfl (ahz (m:=p.num+q.num) (by omega)) rfl<|?_
       exact rz rfl (by rw[aiN (q:=p) (by omega),aiN (q:=q) (by omega),←qX];rfl)
      ·
       exact at_ () trivial
     ·
      exact at_ () trivial
    ·
     refine eqF 37 (.d (vI p.num)) rfl (by rw[p1]) ?_
     refine gx (fu:=⟨3⟩) rfl<|?_
     refine eqF 40 (.d (vI (q.den:Nat))) rfl (by congr 3;omega) ?_
     refine gx rfl<|cl (fu:=⟨11⟩) rfl (ahc (a:=p.num) (b:=(q.den:Nat)) (by omega) (by omega)) rfl<|?_
     refine eqF 46 (.d (vI q.num)) rfl (by rw[q1]) ?_
     refine gx (fu:=⟨3⟩) rfl<|?_
     refine eqF 49 (.d (vI (p.den:Nat))) rfl (by congr 3;omega) ?_
     refine gx rfl<|cl (fu:=⟨12⟩) rfl (ahc (a:=q.num) (b:=(p.den:Nat)) (by omega) (by omega)) rfl<|?_
     refine eqF 56 (.d (vI (p.den:Nat))) rfl (by congr 3;omega) ?_
     refine gx (fu:=⟨3⟩) rfl<|?_
     refine eqF 59 (.d (vI (q.den:Nat))) rfl (by congr 3;omega) ?_
     refine gx rfl<|cl (fu:=⟨3⟩) rfl (ahc (a:=(p.den:Nat)) (b:=(q.den:Nat)) (by omega) (by omega)) rfl<|?_
     have t1:=aul p.num (q.den:Nat)
     have t2:=aul q.num (p.den:Nat)
     have t3:=aul (p.den:Nat) (q.den:Nat)
     refine gx rfl<|?_
     refine csd 67 J J J (fun hg67=>?_) (fun hg67=>?_)
     ·
      refine csd 70 J J J (fun hg70=>?_) (fun hg70=>?_)
      ·
       refine csd 73 J J J (fun hg73=>?_) (fun hg73=>?_)
       ·
        refine cs 77 J J J (fun hg77=>?_) (fun hg77=>?_)
        ·
         refine br (fu1:=⟨3⟩) J J J (fun hc80=>?_) (fun hc80=>?_)
         ·
          have u1:=aoc hg67
          have u2:=aoc hg70
          have u3:=aoc hg73
          have hd1:p.den*q.den<4611686018427387904:=by omega
          refine eqF 81 (.d (vI (p.num*(q.den:Nat)+q.num*(p.den:Nat)))) rfl (by rw[u1,u2];rfl) ?_
          refine gx (fu:=⟨1⟩) rfl<|?_
          refine eqF 82 (.d (vI ((p.den*q.den:Nat)))) rfl (by rw[u3];rfl) ?_
          refine gx rfl<|cl rfl (amJ (m:=p.num*(q.den:Nat)+q.num*(p.den:Nat)) (d:=p.den*q.den) (by omega) (gR (by omega) (by omega)) hd1) rfl<|?_
          exact rz rfl (by rw[←adt];rfl)
         ·
          exact at_ () trivial
        ·
         exact at_ () trivial
       ·
        exact at_ () trivial
      ·
       exact at_ () trivial
     ·
      exact at_ () trivial
   ·
    exact at_ () trivial
  ·
   exact at_ () trivial
 ·
  refine cl rfl (aiE (q:=p) (by omega)) rfl<|cl (fu:=⟨1⟩) rfl (ahv (q:=q) (by omega)) rfl<|?_
  refine eqF 88 (.d (eI (q.den:Nat))) rfl (by rw[as8]) ?_
  refine gx rfl<|cl rfl (aow (a:=p.num) (b:=(q.den:Nat)) (by omega) (by omega)) rfl<|cl rfl (aiE (q:=q) (by omega)) rfl<|cl (fu:=⟨1⟩) rfl (ahv (q:=p) (by omega)) rfl<|?_
  refine eqF 94 (.d (eI (p.den:Nat))) rfl (by rw[as8]) ?_
  refine gx rfl<|cl rfl (aow (a:=q.num) (b:=(p.den:Nat)) (by omega) (by omega)) rfl<|cl rfl (awQ (a:=p.num*(q.den:Nat)) (b:=q.num*(p.den:Nat)) (i:=i+j) (j:=j+i) (by omega) (by omega)) rfl<|?_
  refine cl rfl (ahv (q:=p) (by omega)) rfl<|cl rfl (ahv (q:=q) (by omega)) rfl<|cl rfl (anm (a:=p.den) (b:=q.den) (by omega) (by omega)) rfl<|?_
  refine cl rfl (adc (n:=decide (p.num*(q.den:Nat)+q.num*(p.den:Nat)<0)) (a:=(p.num*(q.den:Nat)+q.num*(p.den:Nat)).natAbs) (d:=p.den*q.den) (i:=i+j+(j+i)+1) (j:=i+j) (by omega) (by omega)) rfl<|?_
  exact rz rfl (by rw[acB,←adt];rfl)
theorem ahV{p q:Rat}{i j:Nat}[h:BQ p i][k:BQ q j](hi:i≤100000000:=by decide)(hj:j≤100000000:=by decide):PF GB prog 180 [eF p,eF q] (eF (p-q)):=by
 refine fn func180 J J ntmps180 J J (fun C=>?_)
 refine cl rfl (ad3 (q:=q) (by omega)) rfl<|cl rfl (afm (p:=p) (q:= -q) (by omega) (by omega)) rfl<|?_
 exact rz rfl (by rw[←Rat.sub_eq_add_neg];rfl)
theorem atG{q:Rat}{i:Nat}[h:BQ q i](hi:i≤400000000:=by decide):PF GB prog 187 [eF q] (eF q⁻¹):=by
 refine fn func187 J J ntmps187 J J (fun C=>?_)
 refine br (v1:=fun hc3=>by simp only[aag];exact⟨⟨hc3,hc3⟩,hc3⟩) J J J (fun hc3=>?_) (fun hc3=>?_)
 ·
  refine cl rfl (adc (n:=decide (q.num<0)) (a:=q.den) (d:=q.num.natAbs) (by omega) (by omega)) rfl<|?_
  exact rz rfl (by rw[auz];rfl)
 ·
  have q1:=al2 (anb hc3)
  have q2:=anq (anb hc3)
  have q3:=acS (anb hc3)
  have q4:=acV (anb hc3)
  have q5:=q.den_nz
  refine br J J J (fun hc26=>?_) (fun hc26=>?_)
  ·
   exact rzI rfl (by obtain⟨e1,e2⟩:=agU (q:=q) (by omega);exact aqO (fun k=>k ⟨by omega,by omega⟩) (by omega) (by omega) rfl)
  ·
   refine br J J J (fun hc39=>?_) (fun hc39=>?_)
   ·
    exact rzI rfl (by rw[kQ.1 (show q.num=0 by omega),Rat.inv_zero];exact ax6)
   ·
    exact rzI rfl (by obtain⟨e1,e2⟩:=agZ (q:=q) (by omega);exact aqO (fun k=>k ⟨by omega,by omega⟩) (by omega) (by omega) rfl)
theorem ap3{p q:Rat}{i j:Nat}[h:BQ p i][k:BQ q j](hi:i≤100000000:=by decide)(hj:j≤100000000:=by decide):PF GB prog 118 [eF p,eF q] (eF (p/q)):=by
 refine fn func118 J J ntmps118 J J (fun C=>?_)
 refine cl rfl (atG (q:=q) (by omega)) rfl<|cl rfl (af7 (p:=p) (q:=q⁻¹) (by omega) (by omega)) rfl<|?_
 exact rz rfl (by rw[Rat.div_def];rfl)
theorem ayf{G:Gh}{q r:DV}{t:List DV}{vs:List Value}(h: ∀y,Is G r y→Is G q y)(hv:IsLs G (r::t) vs):IsLs G (q::t) vs:=by
 obtain⟨y,m,rfl,h1,h2⟩:=aab.1 hv
 exact .cons (h _ h1) h2
theorem aov{G:Gh}{a q r:DV}{t:List DV}{vs:List Value}(h: ∀y,Is G r y→Is G q y)(hv:IsLs G (a::r::t) vs):IsLs G (a::q::t) vs:=by
 obtain⟨y,m,rfl,h1,h2⟩:=aab.1 hv
 exact .cons h1 (ayf h h2)
theorem avO{q:Rat}{i:Nat}[h:BQ q i](hi:i≤100000000:=by decide):PF GB prog 184 [eF q, .ag [vI 1,vI 1, .v (.pointer none)]] (eF (q*mkRat 1 2)):=
 (af7 (p:=q) (q:=mkRat 1 2) hi).ofI fun G vs hv=>aov (fun y hy=>aqO (q:=mkRat 1 2) (fun k=>k ⟨by decide,by decide⟩) (by decide) (by decide) rfl G y hy) hv
theorem anD{q:Rat}{i:Nat}[h:BQ q i](hi:i≤100000000:=by decide):PF GB prog 122 [eF q] (eF (q*mkRat 1 2)):=by
 refine fn func122 J J ntmps122 J J (fun C=>?_)
 refine cl rfl (avO (q:=q) (by omega)) rfl<|?_
 exact rz J J
theorem ahl{p q:Rat}{i j:Nat}[h:BQ p i][k:BQ q j](hi:i≤100000000:=by decide)(hj:j≤100000000:=by decide):PF GB prog 186 [eF p,eF q] (vI (adE p q)):=by
 refine fn func186 J J ntmps186 J J (fun C=>?_)
 refine cs 8 J J J (fun hg8=>?_) (fun hg8=>?_)
 ·
  refine cs 13 J J J (fun hg13=>?_) (fun hg13=>?_)
  ·
   refine br J J J (fun hc19=>?_) (fun hc19=>?_)
   ·
    have hp:=bgF hg8
    have hq:=bgF hg13
    have p1:=al2 hp
    have p2:=anq hp
    have p3:=acS hp
    have p4:=acV hp
    have p5:=p.den_nz
    have q1:=al2 hq
    have q2:=anq hq
    have q3:=acS hq
    have q4:=acV hq
    have q5:=q.den_nz
    have hl:=anO (a:=p) (b:=q) (by omega)
    have hr:=anO (a:=q) (b:=p) (by omega)
    unfold adE
    refine br J J J (fun hc20=>?_) (fun hc20=>?_)
    ·
     exact rz rfl (by rw[if_pos (hl.2 (by omega))];rfl)
    ·
     refine br J J J (fun hc26=>?_) (fun hc26=>?_)
     ·
      exact rz rfl (by rw[if_neg (fun e=>by have:=hl.1 e;omega),if_pos (hr.2 (by omega))];rfl)
     ·
      exact rz rfl (by rw[if_neg (fun e=>by have:=hl.1 e;omega),if_neg (fun e=>by have:=hr.1 e;omega)];rfl)
   ·
    refine cl rfl (ahV (p:=p) (q:=q) (by omega) (by omega)) rfl<|cl rfl (acm (q:=p-q) (by omega)) rfl<|?_
    exact rz rfl (by rw[agj];rfl)
  ·
   refine cl rfl (ahV (p:=p) (q:=q) (by omega) (by omega)) rfl<|cl rfl (acm (q:=p-q) (by omega)) rfl<|?_
   exact rz rfl (by rw[agj];rfl)
 ·
  refine cl rfl (ahV (p:=p) (q:=q) (by omega) (by omega)) rfl<|cl rfl (acm (q:=p-q) (by omega)) rfl<|?_
  exact rz rfl (by rw[agj];rfl)
theorem agp{p q:Rat}{i j:Nat}[h:BQ p i][k:BQ q j](hi:i≤100000000:=by decide)(hj:j≤100000000:=by decide):PF GB prog 253 [eF p,eF q] (vB (decide (p=q))):=by
 refine fn func253 J J ntmps253 J J (fun C=>?_)
 refine cl rfl (ahl (p:=p) (q:=q) hi hj) rfl<|?_
 exact rz rfl (by show DV.v (.bool (decide _))= .v (.bool _);congr 2;exact decide_eq_decide.2 (aeP p q))
theorem ayw{p q:Rat}{i j:Nat}[h:BQ p i][k:BQ q j](hi:i≤100000000:=by decide)(hj:j≤100000000:=by decide):PF GB prog 317 [eF p,eF q] (eF (if p<q then q else p)):=by
 refine fn func317 J J ntmps317 J J (fun C=>?_)
 refine cl rfl (ahl (p:=q) (q:=p) hj hi) rfl<|?_
 refine br J J J (fun hc8=>?_) (fun hc8=>?_)
 ·
  exact rz rfl (by rw[if_pos ((al5 q p).1 hc8)];rfl)
 ·
  exact rz rfl (by rw[if_neg (fun e=>hc8 ((al5 q p).2 e))];rfl)
theorem awP{p q:Rat}{i j:Nat}[h:BQ p i][k:BQ q j](hi:i≤100000000:=by decide)(hj:j≤100000000:=by decide):PF GB prog 116 [eF p,eF q] (eF (if q<p then q else p)):=by
 refine fn func116 J J ntmps116 J J (fun C=>?_)
 refine cl rfl (ahl (p:=q) (q:=p) hj hi) rfl<|?_
 refine br J J J (fun hc8=>?_) (fun hc8=>?_)
 ·
  exact rz rfl (by rw[if_pos ((alE q p).1 hc8)];rfl)
 ·
  exact rz rfl (by rw[if_neg (fun e=>hc8 ((alE q p).2 e))];rfl)
theorem afv{p q:Rat}{i j:Nat}[h:BQ p i][k:BQ q j](hi:i≤100000000:=by decide)(hj:j≤100000000:=by decide):PF GB prog 252 [eF p,eF q] (eF (rgcd p q)):=by
 refine fn (fu:=⟨8⟩) func252 J J ntmps252 J J (fun C=>?_)
 refine mg (X:=Unit) (fun _=>[(2, .ov 2 0),(3, .ov 3 0),(4, .ov 4 0)]) (fun _=>[(2,some (.o 102 [.d (vI (fn_ p)), .d (vI (fd_ p)), .d (fp_ p)] true)),(3,some (.o 102 [.d (vI (fn_ q)), .d (vI (fd_ q)), .d (fp_ q)] true)),(4,some (.o 102 [.d (.v (.int .i64 0)), .d (.v (.int .i64 0)), .d (.v (.pointer none))] true))]) (fun _=>True) [2,3,4] [2,3,4] rfl ?_ (fun _=>rfl) (fun _ _=>?_)
 ·
  refine gx rfl<|?_
  refine cs 10 J J J (fun hg10=>?_) (fun hg10=>?_)
  ·
   refine cs 15 J J J (fun hg15=>?_) (fun hg15=>?_)
   ·
    have hp:=bgF hg10
    have hq:=bgF hg15
    have p1:=al2 hp
    have p2:=anq hp
    have p3:=acS hp
    have p4:=acV hp
    have p5:=p.den_nz
    have q1:=al2 hq
    have q2:=anq hq
    have q3:=acS hq
    have q4:=acV hq
    have q5:=q.den_nz
    refine cs 20 J J J (fun hg20=>?_) (fun hg20=>?_)
    ·
     refine br (fu1:=⟨4⟩) J J J (fun hc24=>?_) (fun hc24=>?_)
     ·
      have hg:=axl p3 q3
      refine eqF 26 (.d (vI p.num)) rfl (by rw[p1]) ?_
      refine gx rfl<|cl (fu:=⟨2⟩) rfl (aqr (m:=p.num) (by omega)) rfl<|?_
      refine eqF 29 (.d (vI q.num)) rfl (by rw[q1]) ?_
      refine gx rfl<|cl rfl (aqr (m:=q.num) (by omega)) rfl<|cl (hv:=by simp only[aag];exact⟨by omega,by kernel_rfl⟩) rfl (axZ (a:=p.num.natAbs) (b:=q.num.natAbs) (by omega) (by omega)) rfl<|?_
      exact rzI rfl (by rw[awH (p:=p) (q:=q) (by omega) (by omega)];exact aAP (by rw[iK];exact hg))
     ·
      exact at_ () trivial
    ·
     exact at_ () trivial
   ·
    exact at_ () trivial
  ·
   exact at_ () trivial
 ·
  refine cl rfl (ahv (q:=p) (by omega)) rfl<|cl rfl (ahv (q:=q) (by omega)) rfl<|cl rfl (anm (a:=p.den) (b:=q.den) (by omega) (by omega)) rfl<|?_
  refine cl rfl (aiE (q:=p) (by omega)) rfl<|cl rfl (ahv (q:=q) (by omega)) rfl<|cl rfl (anm (a:=p.num.natAbs) (b:=q.den) (by omega) (by omega)) rfl<|?_
  refine cl rfl (aiE (q:=q) (by omega)) rfl<|cl rfl (ahv (q:=p) (by omega)) rfl<|cl rfl (anm (a:=q.num.natAbs) (b:=p.den) (by omega) (by omega)) rfl<|?_
  refine cl rfl (ax2 (a:=p.num.natAbs*q.den) (b:=q.num.natAbs*p.den) (i:=i+j) (j:=j+i) (by omega) (by omega)) rfl<|cl rfl (adc (n:=false) (a:=Nat.gcd (p.num.natAbs*q.den) (q.num.natAbs*p.den)) (d:=p.den*q.den) (i:=i+j+(j+i)) (j:=i+j) (by omega) (by omega)) rfl<|?_
  exact rz J J

def cT:Tr→List DV
 | .leaf b=>[.v (.bool true), .v (.bool b), .v (.bool false), .sl [], .v (.bool false), .sl [], .v (.bool false), .sl [], .v (.pointer none), .v (.pointer none)]
 | .node l x y=>[.v (.bool false), .v (.bool false), .v (.bool (decide (l.a<0))),dN l.a.natAbs, .v (.bool (decide (l.b<0))),dN l.b.natAbs, .v (.bool (decide (l.c<0))),dN l.c.natAbs, .pt (cT x), .pt (cT y)]
def eT(t:Tr):DV:= .pt (cT t)
def eN(n:NQ):DV:= .ag [.v (.bool (decide (n.l.a<0))),dN n.l.a.natAbs, .v (.bool (decide (n.l.b<0))),dN n.l.b.natAbs, .v (.bool (decide (n.l.c<0))),dN n.l.c.natAbs, .v (.int .i64 n.a), .v (.int .i64 n.b)]
def eA(t:Tr):DV:= .ag [.v (.int .i64 (t.num 0)), .sl ((t.wr 0).map eN)]
theorem ahN{G:Gh}{k:Nat}{z:IV}{m:Int}(h:IsI k G z m):Is G (.v (.bool (decide (m<0)))) (.bool z.neg)∧Is G (dN m.natAbs) (.slice z.a.a z.a.n z.a.c):=
 ⟨aaM.2 (by rw[h.neg]),(at2 h.abs.lt).2 ⟨_,rfl,h.abs⟩⟩
theorem aoS{G:Gh}{k:Nat}{m:Int}{u v:Value}(hm:m.natAbs<2^k)(h1:Is G (.v (.bool (decide (m<0)))) u)(h2:Is G (dN m.natAbs) v): ∃z:IV,u= .bool z.neg∧v= .slice z.a.a z.a.n z.a.c∧IsI k G z m:=by
 obtain⟨x,rfl,hx⟩:=(at2 hm).1 h2
 exact⟨⟨decide (m<0),x⟩,aaM.1 h1,rfl,rfl,hx⟩
structure BL (l:LnQ) (k:Nat):Prop where
 a:l.a.natAbs<2^k
 b:l.b.natAbs<2^k
 c:l.c.natAbs<2^k
theorem ayb{G:Gh}{k:Nat}{l:LnQ}{v:Value}(hl:BL l k)(h:Is G (eL l) v): ∃a b c:IV,v= .agg ⟨[.bool a.neg, .slice a.a.a a.a.n a.a.c, .bool b.neg, .slice b.a.a b.a.n b.a.c, .bool c.neg, .slice c.a.a c.a.n c.a.c]⟩∧IsI k G a l.a∧IsI k G b l.b∧IsI k G c l.c:=by
 obtain⟨m,rfl,g⟩:=abl.1 h
 clear h
 obtain⟨v1,m,rfl,h1,h⟩:=aab.1 g
 obtain⟨v2,m,rfl,h2,h⟩:=aab.1 h
 obtain⟨v3,m,rfl,h3,h⟩:=aab.1 h
 obtain⟨v4,m,rfl,h4,h⟩:=aab.1 h
 obtain⟨v5,m,rfl,h5,h⟩:=aab.1 h
 obtain⟨v6,m,rfl,h6,h⟩:=aab.1 h
 rw[aaz] at h;subst h
 obtain⟨a,rfl,rfl,ha⟩:=aoS hl.a h1 h2
 obtain⟨b,rfl,rfl,hb⟩:=aoS hl.b h3 h4
 obtain⟨c,rfl,rfl,hc⟩:=aoS hl.c h5 h6
 exact⟨a,b,c,rfl,ha,hb,hc⟩
theorem avi{G:Gh}{k:Nat}{n:NQ}{z:ND}(h:aqt k G z n):Is G (eN n) z.val:=by
 refine abl.2 ⟨_,rfl, .cons (ahN h.a).1 (.cons (ahN h.a).2 (.cons (ahN h.b).1 (.cons (ahN h.b).2 (.cons (ahN h.c).1 (.cons (ahN h.c).2 (.cons (aaM.2 ?_) (.cons (aaM.2 ?_) .nil)))))))⟩
 ·rw[h.l]
 ·rw[h.r]
theorem anZ{G:Gh}{k:Nat}: ∀{ns:List NQ} {zs:List ND},afz (aqt k G) zs ns→IsLs G (ns.map eN) (zs.map ND.val)
 |_,_, .nil=> .nil
 |_,_, .cons h t=> .cons (avi h) (anZ t)
theorem azH(ns:List NQ):aef 8 (ns.map eN):=fun d hd=>by
 obtain⟨n,_,rfl⟩:=bM.1 hd;exact⟨rfl,rfl⟩
theorem aw1{G:Gh}{k:Nat}{t:Tr}{x:SV}(h:aA4 k G x (t.wr 0)):Is G (eA t) (.agg ⟨[.int .i64 (t.num 0), .slice x.a x.n x.c]⟩):=by
 obtain⟨zs,h1,h2⟩:=h
 exact abl.2 ⟨_,rfl, .cons (aaM.2 rfl) (.cons (acz.2 ⟨8,x,_,rfl,h1,anZ h2⟩) .nil)⟩
theorem Tr.all_wr{p:LnQ→Prop}: ∀{t:Tr} (n:Nat),t.all p→ ∀x∈t.wr n,p x.l
 | .leaf b,n,_,x,hx=>by cases hx
 | .node l u v,n,⟨h1,h2,h3⟩,x,hx=>by
  simp only[Tr.wr,jU,aS,bS] at hx
  rcases hx with rfl|hx|hx
  ·exact h1
  ·exact u.all_wr _ h2 x hx
  ·exact v.all_wr _ h3 x hx
end Go.Sx
end
